/- The statement VerticalSmooth: for every input the law returns true, and every argument reads afterwards as before. No condition. -/
import Derived.Test.YtgclfkgnkohgdaaRows
import Derived.Test.YtgclfkgnkohgdaaLaBase51
import Derived.Test.YtgclfkgnkohgdaaVtPlain2
import Derived.WalkKit
import Derived.ProofKit
import Derived.OpenShut
import Derived.ShutString
import Derived.ChangeOld
import Derived.Below
namespace Go.Proofs.Ytgclfkgnkohgdaa
set_option linter.unusedSimpArgs false
set_option linter.unusedVariables false
open Go.RowKit
theorem ret_tt_VerticalSmooth {b : Bool} (h : b = true) : Ending.returned (.bool b) = .returned (.bool true) := by rw [h]
set_option maxRecDepth 100000 in
set_option maxHeartbeats 2000000 in
theorem walk_VerticalSmooth (l x : Int) (w : World) (hl : (Lit.int .i64 l).wf = true) (hx : (Lit.int .i64 x).wf = true) :
    Calls Try.prog 6 #[.int .i64 l, .int .i64 x] w fun e w' => e = .returned (.bool true) ∧ Below w.heap.size w w' := by
  have il : I64 l := wf_i64_bd hl
  have Il := Lib.hid il
  obtain ⟨l0, l1⟩ := il
  have ix : I64 x := wf_i64_bd hx
  have Ix := Lib.hid ix
  obtain ⟨x0, x1⟩ := ix
  clear hl hx
  by_cases hok : Vt.okRate l ∧ Vt.okRate x
  · obtain ⟨E1, E2⟩ := Vt.lm_ok hok.1 hok.2
    have HE := Lib.hid (And.intro E1 E2)
    have hc := Vt.clmp_eq x (l - 40) (l + 40) (by omega)
    obtain ⟨⟨p0, p1⟩, q0, q1⟩ := hok
    obtain ⟨V, hV⟩ : ∃ V, Vt.clmp x (l - 40) (l + 40) = V := ⟨_, rfl⟩
    rw [hV] at hc HE
    have HC := Lib.hid hc
    have v0 : -20000 ≤ V := by omega
    have v1 : V ≤ 20000 := by omega
    clear E1 E2 hV hc
    by_cases hlt : x < l
    · have hs : x - l < 0 := by omega
      go_enter Try.func6, Try.ntmps6
      go_wp2_with fail
      refine (awake_any _).mono ?_; rintro e w1 ⟨rfl, b0⟩
      have B0 := Lib.hid b0
      clear b0
      go_wp2_with fail
      refine (xLimit l x _).mono ?_; rintro e w2 ⟨rfl, rfl⟩
      rw [HE.out.1, HE.out.2]
      go_wp2_with fail
      all_goals
        go_ret
        refine ⟨ret_tt_VerticalSmooth ?_, B0.out⟩
        have hc := HC.out
        (first | rfl | (exfalso; omega) | (simp only [Bool.and_eq_true, Bool.or_eq_true, Bool.not_eq_true', decide_eq_true_eq, decide_eq_false_iff_not, beq_iff_eq, bne_iff_ne, ne_eq, ← Bool.decide_and, ← Bool.decide_or, ← decide_not, decide_eq_decide]; omega))
    · have hs : ¬ x - l < 0 := by omega
      go_enter Try.func6, Try.ntmps6
      go_wp2_with fail
      refine (awake_any _).mono ?_; rintro e w1 ⟨rfl, b0⟩
      have B0 := Lib.hid b0
      clear b0
      go_wp2_with fail
      refine (xLimit l x _).mono ?_; rintro e w2 ⟨rfl, rfl⟩
      rw [HE.out.1, HE.out.2]
      go_wp2_with fail
      all_goals
        go_ret
        refine ⟨ret_tt_VerticalSmooth ?_, B0.out⟩
        have hc := HC.out
        (first | rfl | (exfalso; omega) | (simp only [Bool.and_eq_true, Bool.or_eq_true, Bool.not_eq_true', decide_eq_true_eq, decide_eq_false_iff_not, beq_iff_eq, bne_iff_ne, ne_eq, ← Bool.decide_and, ← Bool.decide_or, ← decide_not, decide_eq_decide]; omega))
  · have HE := Lib.hid (show Vt.lmV l x = 0 ∧ Vt.lmE l x = 2 by unfold Vt.lmV Vt.lmE; rw [if_neg (show ¬ Vt.okLm l x from hok), if_neg (show ¬ Vt.okLm l x from hok)]; exact ⟨rfl, rfl⟩)
    clear hok
    go_enter Try.func6, Try.ntmps6
    go_wp2_with fail
    refine (awake_any _).mono ?_; rintro e w1 ⟨rfl, b0⟩
    have B0 := Lib.hid b0
    clear b0
    go_wp2_with fail
    refine (xLimit l x _).mono ?_; rintro e w2 ⟨rfl, rfl⟩
    rw [HE.out.1, HE.out.2]
    go_wp2_with fail
    go_ret
    exact ⟨ret_tt_VerticalSmooth (by simp), B0.out⟩
end Go.Proofs.Ytgclfkgnkohgdaa
namespace Go.Proofs.Ytgclfkgnkohgdaa.verticalSmooth
open Go.ChangeShapes Go.WideShapes Go.ChangeAt Go.RowKit
open Go.ChangeMaps (open_string shut_string)
set_option linter.unusedVariables false
set_option linter.unusedSimpArgs false

theorem own : ownKnob Try.prog.godebug = none := by kernel_rfl
theorem laidOut : laidOutB Try.prog = true := by kernel_rfl

set_option maxRecDepth 100000 in
theorem lifted (os : Os) (started : os.Started) (H : Type) (enc : TypeId × Value → H) :
    ReturnsInHanded {} Try.checked os 6 .any (Rows.verticalSmoothSpec.pre6 enc Try.prog Try.f6 Rows.verticalSmoothRow.domain false) (Rows.verticalSmoothSpec.post enc Try.prog Try.f6 false true false false) := by
  refine returnsInHanded_of_change (C := Try.checked) own started (by kernel_rfl) Try.func6
    (ChangeSpec.witness6 (enc := enc) (C := Try.checked) false ⟨#[], #[.int .i64 0, .int .i64 0], []⟩ 8 (by kernel_rfl) (by kernel_rfl) (by kernel_rfl) (by kernel_rfl)) ?_
  intro W base args ds gs before hval0 hW hcnd _
  have hval : ∀ (j : Nat) t v, Try.f6.params[j]? = some t → args[j]? = some v → Value.okWide Try.prog W .any base t v := hval0
  have hW' := hW
  obtain ⟨p, q, hA0, hV, rfl, hfz, hnd⟩ := hW
  have hA : DataW.TrodAll enc Try.prog W 0 (fun _ => true) true Try.f6.params.toList args.toList ds p := hA0
  rw [Try.params6] at hA hval
  obtain ⟨v0, vs0, d0, ds0, p0, q0, hargs, rfl, rfl, h0, r0⟩ := trodAll_cons hA
  obtain ⟨v1, vs1, d1, ds1, p1, q1, rfl, rfl, rfl, h1, r1⟩ := trodAll_cons r0
  obtain ⟨rfl, rfl, rfl⟩ := trodAll_nil r1
  obtain rfl : args = #[v0, v1] := by cases args; simp_all
  obtain ⟨rfl, rfl⟩ := trodVars_none hV
  have k0 := h0
  have lt0 : ∀ x ∈ p0, x.block < W.heap.size := by obtain ⟨m, hm⟩ := k0; exact DataW.trod_lt m _ _ _ hm
  have k1 := h1
  have lt1 : ∀ x ∈ p1, x.block < W.heap.size := by obtain ⟨m, hm⟩ := k1; exact DataW.trod_lt m _ _ _ hm
  obtain ⟨a0, rfl, rfl, rfl, w0⟩ := open_int Try.underlying2 (hval 0 2 v0 rfl rfl) h0
  obtain ⟨a1, rfl, rfl, rfl, w1⟩ := open_int Try.underlying2 (hval 1 2 v1 rfl rfl) h1
  clear hA0 hval0
  refine (Ytgclfkgnkohgdaa.walk_VerticalSmooth a0 a1 W w0 w1).mono fun e W' ⟨he, bel⟩ => ?_
  subst he
  exact ⟨_, rfl, _, _, _, [], _, [], hW', trodAll_mk1 (shut_bool Try.underlying4 _), (trodAll_cons_mk (Below.trod laidOut (by kernel_rfl) (of_decide_eq_true (by kernel_rfl)) k0 bel lt0) (trodAll_cons_mk (Below.trod laidOut (by kernel_rfl) (of_decide_eq_true (by kernel_rfl)) k1 bel lt1) trodAll_mk0)), rfl, bel.frame _, fun h => by cases h⟩

theorem over : Rows.verticalSmoothRow.holds Try.pinned (OpenSpec.ofChange Rows.verticalSmoothSpec) :=
  OpenClaim.holds_of_wide 6 Try.f6 rfl rfl rfl rfl rfl rfl rfl ⟨rfl, rfl, rfl, rfl, rfl⟩ rfl rfl rfl rfl rfl (by kernel_rfl) Try.func6 (by kernel_rfl)
    (of_decide_eq_true (by kernel_rfl)) (by unfold Func.isWrapper; first | (rw [if_pos (by decide +kernel)]; kernel_rfl) | (rw [if_neg (by decide +kernel)]; exact ⟨rfl, rfl⟩))
    (fun os started H enc _ => lifted os started H enc)

/-- the statement -/
theorem proved : Rows.VerticalSmoothSaid := over
end Go.Proofs.Ytgclfkgnkohgdaa.verticalSmooth
