/- The statement FixedSaturates: for every input the law returns true, and every argument reads afterwards as before. No condition. -/
import Derived.Test.YthhegchfmobkaaaRows
import Derived.Test.YthhegchfmobkaaaLaBase
import Derived.WalkKit
import Derived.ProofKit
import Derived.OpenShut
import Derived.ShutString
import Derived.ChangeOld
import Derived.Below
namespace Go.Proofs.Ythhegchfmobkaaa
set_option linter.unusedSimpArgs false
set_option linter.unusedVariables false
open Go.RowKit
set_option maxRecDepth 100000 in
set_option maxHeartbeats 4000000 in
theorem walk_FixedSaturates (a : Int) (b : Int) (l : Int) (u : Int) (w : World) (ha : (Lit.int .i64 a).wf = true) (hb : (Lit.int .i64 b).wf = true) (hl : (Lit.int .i64 l).wf = true) (hu : (Lit.int .i64 u).wf = true) :
    Calls Try.prog 10 #[.int .i64 a, .int .i64 b, .agg #[.int .i64 l, .int .i64 u]] w fun e w' => e = .returned (.bool true) ∧ Below w.heap.size w w' := by
  have ai : I64 a := wf_i64_bd ha
  have bi : I64 b := wf_i64_bd hb
  have li : I64 l := wf_i64_bd hl
  have ui : I64 u := wf_i64_bd hu
  clear ha
  clear hb
  clear hl
  clear hu
  go_enter Try.func10, Try.ntmps10
  go_wp2_with fail
  refine (awake_any _).mono ?_; rintro e w' ⟨rfl, n, rfl⟩
  go_wp2_with fail
  have hbel := below_drewN ((Below.refl w.heap.size w).alloc (Nat.le_refl _) (.cells #[.int .i64 l, .int .i64 u] 31)) n
  have hc0 : ((w.alloc (.cells #[.int .i64 l, .int .i64 u] 31)).drewN n).cell? ⟨w.heap.size, 0, none⟩ = some (.int .i64 l) := by simp [World.cell?_alloc_new]
  have hc1 : ((w.alloc (.cells #[.int .i64 l, .int .i64 u] 31)).drewN n).cell? ⟨w.heap.size, 1, none⟩ = some (.int .i64 u) := by simp [World.cell?_alloc_new]
  generalize (w.alloc (.cells #[.int .i64 l, .int .i64 u] 31)).drewN n = wx at *
  go_quiet ((first
    | (go_at_call 27; exact Calls.quiet_of_same (flip (xAdd a b ai bi _)))
    | (go_at_call 29; exact Calls.quiet_of_same (flip (rAdd a b ai bi _)))
    | (go_at_call 28; exact Calls.quiet_of_same (flip (xSub a b ai bi _)))
    | (go_at_call 30; exact Calls.quiet_of_same (flip (rSub a b ai bi _)))
    | (go_at_call 31; exact Calls.quiet_of_same (flip (xMul a b ai bi _)))
    | (go_at_call 32; exact Calls.quiet_of_same (flip (rMul a b ai bi _)))
    | (go_at_call 33; exact Calls.quiet_of_same (flip (xAbs a ai _)))
    | (go_at_call 34; exact Calls.quiet_of_same (flip (rAbs a ai _)))
    | (go_at_call 35; exact Calls.quiet_of_same (flip (xClamp a l u _)))
    | (go_at_call 36; exact Calls.quiet_of_same (flip (rClamp a l u _)))))
  go_wp2_with fail
  go_ret
  exact ⟨rfl, below_drewN hbel _⟩
end Go.Proofs.Ythhegchfmobkaaa
namespace Go.Proofs.Ythhegchfmobkaaa.fixedSaturates
open Go.ChangeShapes Go.WideShapes Go.ChangeAt Go.RowKit
open Go.ChangeMaps (open_string shut_string)
set_option linter.unusedVariables false
set_option linter.unusedSimpArgs false

theorem own : ownKnob Try.prog.godebug = none := by kernel_rfl
theorem laidOut : laidOutB Try.prog = true := by kernel_rfl

set_option maxRecDepth 100000 in
theorem lifted (os : Os) (started : os.Started) (H : Type) (enc : TypeId × Value → H) :
    ReturnsInHanded {} Try.checked os 10 .any (Rows.fixedSaturatesSpec.pre6 enc Try.prog Try.f10 Rows.fixedSaturatesRow.domain false) (Rows.fixedSaturatesSpec.post enc Try.prog Try.f10 false true false false) := by
  refine returnsInHanded_of_change (C := Try.checked) own started (by kernel_rfl) Try.func10
    (ChangeSpec.witness6 (enc := enc) (C := Try.checked) false ⟨#[], #[.int .i64 0, .int .i64 0, .agg #[.int .i64 0, .int .i64 0]], []⟩ 8 (by kernel_rfl) (by kernel_rfl) (by kernel_rfl) (by kernel_rfl)) ?_
  intro W base args ds gs before hval0 hW hcnd _
  have hval : ∀ (j : Nat) t v, Try.f10.params[j]? = some t → args[j]? = some v → Value.okWide Try.prog W .any base t v := hval0
  have hW' := hW
  obtain ⟨p, q, hA0, hV, rfl, hfz, hnd⟩ := hW
  have hA : DataW.TrodAll enc Try.prog W 0 (fun _ => true) true Try.f10.params.toList args.toList ds p := hA0
  rw [Try.params10] at hA hval
  obtain ⟨v0, vs0, d0, ds0, p0, q0, hargs, rfl, rfl, h0, r0⟩ := trodAll_cons hA
  obtain ⟨v1, vs1, d1, ds1, p1, q1, rfl, rfl, rfl, h1, r1⟩ := trodAll_cons r0
  obtain ⟨v2, vs2, d2, ds2, p2, q2, rfl, rfl, rfl, h2, r2⟩ := trodAll_cons r1
  obtain ⟨rfl, rfl, rfl⟩ := trodAll_nil r2
  obtain rfl : args = #[v0, v1, v2] := by cases args; simp_all
  obtain ⟨rfl, rfl⟩ := trodVars_none hV
  have k0 := h0
  have lt0 : ∀ x ∈ p0, x.block < W.heap.size := by obtain ⟨m, hm⟩ := k0; exact DataW.trod_lt m _ _ _ hm
  have k1 := h1
  have lt1 : ∀ x ∈ p1, x.block < W.heap.size := by obtain ⟨m, hm⟩ := k1; exact DataW.trod_lt m _ _ _ hm
  have k2 := h2
  have lt2 : ∀ x ∈ p2, x.block < W.heap.size := by obtain ⟨m, hm⟩ := k2; exact DataW.trod_lt m _ _ _ hm
  obtain ⟨a0, rfl, rfl, rfl, w0⟩ := open_int Try.underlying2 (hval 0 2 v0 rfl rfl) h0
  obtain ⟨a1, rfl, rfl, rfl, w1⟩ := open_int Try.underlying2 (hval 1 2 v1 rfl rfl) h1
  obtain ⟨a2, b2, rfl, w2, u2⟩ := open_arr2 Try.underlying31 Try.underlying2 (by kernel_rfl) (by kernel_rfl) (hval 2 31 v2 rfl rfl) h2
  clear hA0 hval0
  refine (Ythhegchfmobkaaa.walk_FixedSaturates a0 a1 a2 b2 W w0 w1 w2 u2).mono fun e W' ⟨he, bel⟩ => ?_
  subst he
  exact ⟨_, rfl, _, _, _, [], _, [], hW', trodAll_mk1 (shut_bool Try.underlying4 _), (trodAll_cons_mk (Below.trod laidOut (by kernel_rfl) (of_decide_eq_true (by kernel_rfl)) k0 bel lt0) (trodAll_cons_mk (Below.trod laidOut (by kernel_rfl) (of_decide_eq_true (by kernel_rfl)) k1 bel lt1) (trodAll_cons_mk (Below.trod laidOut (by kernel_rfl) (of_decide_eq_true (by kernel_rfl)) k2 bel lt2) trodAll_mk0))), rfl, bel.frame _, fun h => by cases h⟩

theorem over : Rows.fixedSaturatesRow.holds Try.pinned (OpenSpec.ofChange Rows.fixedSaturatesSpec) :=
  OpenClaim.holds_of_wide 10 Try.f10 rfl rfl rfl rfl rfl rfl rfl ⟨rfl, rfl, rfl, rfl, rfl⟩ rfl rfl rfl rfl rfl (by kernel_rfl) Try.func10 (by kernel_rfl)
    (of_decide_eq_true (by kernel_rfl)) (by unfold Func.isWrapper; first | (rw [if_pos (by decide +kernel)]; kernel_rfl) | (rw [if_neg (by decide +kernel)]; exact ⟨rfl, rfl⟩))
    (fun os started H enc _ => lifted os started H enc)

/-- the statement -/
theorem proved : Rows.FixedSaturatesSaid := over
end Go.Proofs.Ythhegchfmobkaaa.fixedSaturates
