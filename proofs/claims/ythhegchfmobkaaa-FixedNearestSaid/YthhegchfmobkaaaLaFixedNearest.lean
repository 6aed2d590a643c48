/- The statement FixedNearest: for every input the law returns true, and every argument reads afterwards as before. No condition. -/
import Derived.Test.YthhegchfmobkaaaRows
import Derived.Test.YthhegchfmobkaaaLaBase
import Derived.WalkKit
import Derived.ProofKit
import Derived.OpenShut
import Derived.ShutString
import Derived.ChangeOld
import Derived.Below
namespace Go.Proofs.Ythhegchfmobkaaa
set_option linter.unusedSimpArgs false
set_option linter.unusedVariables false
open Go.RowKit
theorem tdiv4_bd (a : Int) (h : I64 a) : -2305843009213693952 ≤ a.tdiv 4 ∧ a.tdiv 4 ≤ 2305843009213693952 := by
  obtain ⟨h0, h1⟩ := h
  rcases Int.lt_or_le a 0 with p | p
  · have e : (-a).tdiv 4 = -(a.tdiv 4) := Int.neg_tdiv _ _
    rw [Int.tdiv_eq_ediv_of_nonneg (by omega)] at e
    omega
  · rw [Int.tdiv_eq_ediv_of_nonneg p]; omega
set_option maxRecDepth 100000 in
set_option maxHeartbeats 2000000 in
theorem walk_FixedNearest (a : Int) (b : Int) (w : World) (ha : (Lit.int .i64 a).wf = true) (hb : (Lit.int .i64 b).wf = true) :
    Calls Try.prog 6 #[.int .i64 a, .int .i64 b] w fun e w' => e = .returned (.bool true) ∧ Below w.heap.size w w' := by
  have ai : I64 a := wf_i64_bd ha
  have bi : I64 b := wf_i64_bd hb
  clear ha
  clear hb
  have ba := tdiv4_bd a ai
  have bb := tdiv4_bd b bi
  obtain ⟨A, hA⟩ : ∃ A, a.tdiv 4 = A := ⟨_, rfl⟩
  obtain ⟨B, hB⟩ : ∃ B, b.tdiv 4 = B := ⟨_, rfl⟩
  rw [hA] at ba
  rw [hB] at bb
  obtain ⟨ba0, ba1⟩ := ba
  obtain ⟨bb0, bb1⟩ := bb
  have Ai : I64 A := ⟨by omega, by omega⟩
  have Bi : I64 B := ⟨by omega, by omega⟩
  obtain ⟨a0, a1⟩ := ai
  obtain ⟨b0, b1⟩ := bi
  by_cases hb : B = 0
  · subst hb
    have H0 := Lib.hid (fun w => cval (xRound A 0 Ai zero_I64 w) (Fx.scV_zero 2 A 1) (Fx.scE_zero 2 A 1))
    have H1 := Lib.hid (fun w => cval (xFloor (2 * A) 0 ⟨by omega, by omega⟩ zero_I64 w) (Fx.scV_zero 0 (2 * A) 1) (Fx.scE_zero 0 (2 * A) 1))
    have H2 := Lib.hid (fun w => cval (xCeil A 0 Ai zero_I64 w) (Fx.scV_zero 1 A 1) (Fx.scE_zero 1 A 1))
    have H3 := Lib.hid (fun w => cval (xFloor (-A) 0 ⟨by omega, by omega⟩ zero_I64 w) (Fx.scV_zero 0 (-A) 1) (Fx.scE_zero 0 (-A) 1))
    go_enter Try.func6, Try.ntmps6
    go_wp2_with fail
    refine (awake_any _).mono ?_; rintro e w' ⟨rfl, n, rfl⟩
    go_wp2_with fail
    refine (H0.out _).mono ?_; rintro e w' ⟨rfl, n, rfl⟩
    go_wp2_with fail
    refine (H1.out _).mono ?_; rintro e w' ⟨rfl, n, rfl⟩
    go_wp2_with fail
    refine (H2.out _).mono ?_; rintro e w' ⟨rfl, n, rfl⟩
    go_wp2_with fail
    refine (H3.out _).mono ?_; rintro e w' ⟨rfl, n, rfl⟩
    go_wp2_with fail
    go_ret
    exact ⟨rfl, below_drewN (Below.refl _ _) _⟩
  · have n1 := Fx.small_v 2 A B hb (by omega) (by omega)
    have n2 := Fx.small_v 0 (2 * A + B) (2 * B) (by omega) (by omega) (by omega)
    have n3 := Fx.small_v 1 A B hb (by omega) (by omega)
    have n4 := Fx.small_v 0 (-A) B hb (by omega) (by omega)
    have bd := Fx.rqz_bd 0 (n := -A) (c := B) (M := 2305843009213693952) hb (by omega) (by omega) (by omega)
    have e1 := Fx.near_down A B hb
    have e2 := Fx.up_down A B hb
    obtain ⟨V, hV⟩ : ∃ V, Fx.rqz 2 A B = V := ⟨_, rfl⟩
    obtain ⟨U, hU⟩ : ∃ U, Fx.rqz 0 (-A) B = U := ⟨_, rfl⟩
    have H0 := Lib.hid (fun w => cval (xRound A B Ai Bi w) (n1.1.trans hV) n1.2)
    have H1 := Lib.hid (fun w => cval (xFloor (2 * A + B) (2 * B) ⟨by omega, by omega⟩ ⟨by omega, by omega⟩ w) (n2.1.trans (e1.symm.trans hV)) n2.2)
    have H2 := Lib.hid (fun w => cval (xCeil A B Ai Bi w) (n3.1.trans (e2.trans (congrArg (- ·) hU))) n3.2)
    have H3 := Lib.hid (fun w => cval (xFloor (-A) B ⟨by omega, by omega⟩ Bi w) (n4.1.trans hU) n4.2)
    have hb0 : (B == 0) = false := beq_eq_false_iff_ne.2 hb
    rw [hU] at bd
    obtain ⟨bd0, bd1⟩ := bd
    clear hb n1 n2 n3 n4 e1 e2 hV hU
    go_enter Try.func6, Try.ntmps6
    go_wp2_with fail
    refine (awake_any _).mono ?_; rintro e w' ⟨rfl, n, rfl⟩
    go_wp2_with fail
    refine (H0.out _).mono ?_; rintro e w' ⟨rfl, n, rfl⟩
    go_wp2_with fail
    refine (H1.out _).mono ?_; rintro e w' ⟨rfl, n, rfl⟩
    go_wp2_with fail
    refine (H2.out _).mono ?_; rintro e w' ⟨rfl, n, rfl⟩
    go_wp2_with fail
    refine (H3.out _).mono ?_; rintro e w' ⟨rfl, n, rfl⟩
    go_wp2_with fail
    go_ret
    exact ⟨rfl, below_drewN (Below.refl _ _) _⟩
end Go.Proofs.Ythhegchfmobkaaa
namespace Go.Proofs.Ythhegchfmobkaaa.fixedNearest
open Go.ChangeShapes Go.WideShapes Go.ChangeAt Go.RowKit
open Go.ChangeMaps (open_string shut_string)
set_option linter.unusedVariables false
set_option linter.unusedSimpArgs false

theorem own : ownKnob Try.prog.godebug = none := by kernel_rfl
theorem laidOut : laidOutB Try.prog = true := by kernel_rfl

set_option maxRecDepth 100000 in
theorem lifted (os : Os) (started : os.Started) (H : Type) (enc : TypeId × Value → H) :
    ReturnsInHanded {} Try.checked os 6 .any (Rows.fixedNearestSpec.pre6 enc Try.prog Try.f6 Rows.fixedNearestRow.domain false) (Rows.fixedNearestSpec.post enc Try.prog Try.f6 false true false false) := by
  refine returnsInHanded_of_change (C := Try.checked) own started (by kernel_rfl) Try.func6
    (ChangeSpec.witness6 (enc := enc) (C := Try.checked) false ⟨#[], #[.int .i64 0, .int .i64 0], []⟩ 8 (by kernel_rfl) (by kernel_rfl) (by kernel_rfl) (by kernel_rfl)) ?_
  intro W base args ds gs before hval0 hW hcnd _
  have hval : ∀ (j : Nat) t v, Try.f6.params[j]? = some t → args[j]? = some v → Value.okWide Try.prog W .any base t v := hval0
  have hW' := hW
  obtain ⟨p, q, hA0, hV, rfl, hfz, hnd⟩ := hW
  have hA : DataW.TrodAll enc Try.prog W 0 (fun _ => true) true Try.f6.params.toList args.toList ds p := hA0
  rw [Try.params6] at hA hval
  obtain ⟨v0, vs0, d0, ds0, p0, q0, hargs, rfl, rfl, h0, r0⟩ := trodAll_cons hA
  obtain ⟨v1, vs1, d1, ds1, p1, q1, rfl, rfl, rfl, h1, r1⟩ := trodAll_cons r0
  obtain ⟨rfl, rfl, rfl⟩ := trodAll_nil r1
  obtain rfl : args = #[v0, v1] := by cases args; simp_all
  obtain ⟨rfl, rfl⟩ := trodVars_none hV
  have k0 := h0
  have lt0 : ∀ x ∈ p0, x.block < W.heap.size := by obtain ⟨m, hm⟩ := k0; exact DataW.trod_lt m _ _ _ hm
  have k1 := h1
  have lt1 : ∀ x ∈ p1, x.block < W.heap.size := by obtain ⟨m, hm⟩ := k1; exact DataW.trod_lt m _ _ _ hm
  obtain ⟨a0, rfl, rfl, rfl, w0⟩ := open_int Try.underlying2 (hval 0 2 v0 rfl rfl) h0
  obtain ⟨a1, rfl, rfl, rfl, w1⟩ := open_int Try.underlying2 (hval 1 2 v1 rfl rfl) h1
  clear hA0 hval0
  refine (Ythhegchfmobkaaa.walk_FixedNearest a0 a1 W w0 w1).mono fun e W' ⟨he, bel⟩ => ?_
  subst he
  exact ⟨_, rfl, _, _, _, [], _, [], hW', trodAll_mk1 (shut_bool Try.underlying4 _), (trodAll_cons_mk (Below.trod laidOut (by kernel_rfl) (of_decide_eq_true (by kernel_rfl)) k0 bel lt0) (trodAll_cons_mk (Below.trod laidOut (by kernel_rfl) (of_decide_eq_true (by kernel_rfl)) k1 bel lt1) trodAll_mk0)), rfl, bel.frame _, fun h => by cases h⟩

theorem over : Rows.fixedNearestRow.holds Try.pinned (OpenSpec.ofChange Rows.fixedNearestSpec) :=
  OpenClaim.holds_of_wide 6 Try.f6 rfl rfl rfl rfl rfl rfl rfl ⟨rfl, rfl, rfl, rfl, rfl⟩ rfl rfl rfl rfl rfl (by kernel_rfl) Try.func6 (by kernel_rfl)
    (of_decide_eq_true (by kernel_rfl)) (by unfold Func.isWrapper; first | (rw [if_pos (by decide +kernel)]; kernel_rfl) | (rw [if_neg (by decide +kernel)]; exact ⟨rfl, rfl⟩))
    (fun os started H enc _ => lifted os started H enc)

/-- the statement -/
theorem proved : Rows.FixedNearestSaid := over
end Go.Proofs.Ythhegchfmobkaaa.fixedNearest
