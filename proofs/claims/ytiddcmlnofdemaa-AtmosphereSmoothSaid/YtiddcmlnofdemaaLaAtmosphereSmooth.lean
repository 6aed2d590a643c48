/- The statement AtmosphereSmooth: for every input the law returns true, and every argument reads afterwards as before. No condition. -/
import Derived.Test.YtiddcmlnofdemaaRows
import Derived.Test.YtiddcmlnofdemaaLaBase29
import Derived.WalkKit
import Derived.ProofKit
import Derived.OpenShut
import Derived.ShutString
import Derived.ChangeOld
import Derived.Below
namespace Go.Proofs.Ytiddcmlnofdemaa
set_option linter.unusedSimpArgs false
set_option linter.unusedVariables false
open Go.RowKit
set_option maxRecDepth 100000 in
set_option maxHeartbeats 2000000 in
theorem walk_AtmosphereSmooth (a : Int) (w : World) (ha : (Lit.int .i64 a).wf = true) :
    Calls Try.prog 8 #[.int .i64 a] w fun e w' => e = .returned (.bool true) ∧ Below w.heap.size w w' := by
  have ai : I64 a := wf_i64_bd ha
  clear ha
  by_cases h1 : a < -200000
  · have iN : ¬ inAlt a := fun h => by unfold inAlt at h; omega
    have H0 := Lib.hid (fun w => cvalB (pressure_any a w) (show presV a = 0 by unfold presV; rw [if_neg iN]) (show presE a = 2 by unfold presE; rw [if_neg iN]))
    have hb : (a == 6000000) = false := beq_eq_false_iff_ne.2 (by omega)
    clear iN
    go_enter Try.func8, Try.ntmps8
    go_wp2_with fail
    refine (awake_any _).mono ?_; rintro e w1 ⟨rfl, b0⟩
    have B0 := Lib.hid b0
    clear b0
    go_wp2_with fail
    refine (H0.out _).mono ?_; rintro e w2 ⟨rfl, b1⟩
    have B1 := Lib.hid b1
    clear b1
    go_wp2_with fail
    go_ret
    exact ⟨rfl, (bel_trans B0.out B1.out)⟩
  · by_cases h2 : 6000000 < a
    · have iN : ¬ inAlt a := fun h => by unfold inAlt at h; omega
      have H0 := Lib.hid (fun w => cvalB (pressure_any a w) (show presV a = 0 by unfold presV; rw [if_neg iN]) (show presE a = 2 by unfold presE; rw [if_neg iN]))
      have hb : (a == 6000000) = false := beq_eq_false_iff_ne.2 (by omega)
      have n1 : 6000000 ≤ a := by omega
      clear iN
      go_enter Try.func8, Try.ntmps8
      go_wp2_with fail
      refine (awake_any _).mono ?_; rintro e w1 ⟨rfl, b0⟩
      have B0 := Lib.hid b0
      clear b0
      go_wp2_with fail
      refine (H0.out _).mono ?_; rintro e w2 ⟨rfl, b1⟩
      have B1 := Lib.hid b1
      clear b1
      go_wp2_with fail
      go_ret
      exact ⟨rfl, (bel_trans B0.out B1.out)⟩
    · by_cases h3 : a = 6000000
      · subst h3
        have H0 := Lib.hid (fun w => cvalB (pressure_any 6000000 w) (show presV 6000000 = 70800 by decide) (show presE 6000000 = 0 by decide))
        go_enter Try.func8, Try.ntmps8
        go_wp2_with fail
        refine (awake_any _).mono ?_; rintro e w1 ⟨rfl, b0⟩
        have B0 := Lib.hid b0
        clear b0
        go_wp2_with fail
        refine (H0.out _).mono ?_; rintro e w2 ⟨rfl, b1⟩
        have B1 := Lib.hid b1
        clear b1
        go_wp2_with fail
        go_ret
        exact ⟨rfl, (bel_trans B0.out B1.out)⟩
      · have iA : inAlt a := ⟨by omega, by omega⟩
        have iB : inAlt (a + 1) := ⟨by omega, by omega⟩
        have s1 := At.stepP a (by omega) (by omega)
        have s2 := At.stepR a (by omega) (by omega)
        have q1 := At.bdP a (by omega) (by omega)
        have q2 := At.bdP (a + 1) (by omega) (by omega)
        have q3 := At.bdR a (by omega) (by omega)
        have q4 := At.bdR (a + 1) (by omega) (by omega)
        have n1 : ¬ 6000000 ≤ a := by omega
        have H0 := Lib.hid (fun w => cvalB (pressure_any a w) (show presV a = At.vP a by unfold presV; rw [if_pos iA]) (show presE a = 0 by unfold presE; rw [if_pos iA]))
        have H1 := Lib.hid (fun w => cvalB (pressure_any (a + 1) w) (show presV (a + 1) = At.vP (a + 1) by unfold presV; rw [if_pos iB]) (show presE (a + 1) = 0 by unfold presE; rw [if_pos iB]))
        have H2 := Lib.hid (fun w => cvalB (aRatio a 0 w) (show rtV a 0 = At.vR a by unfold rtV; rw [if_pos (tE_0 iA (by decide)), At.ratV_zero]) (tE_0 iA (by decide)))
        have H3 := Lib.hid (fun w => cvalB (aRatio (a + 1) 0 w) (show rtV (a + 1) 0 = At.vR (a + 1) by unfold rtV; rw [if_pos (tE_0 iB (by decide)), At.ratV_zero]) (tE_0 iB (by decide)))
        generalize At.vP (a + 1) = y1 at *
        generalize At.vP a = y0 at *
        generalize At.vR (a + 1) = r1 at *
        generalize At.vR a = r0 at *
        obtain ⟨s1, s1'⟩ := s1
        obtain ⟨s2, s2'⟩ := s2
        obtain ⟨q1, q1'⟩ := q1
        obtain ⟨q2, q2'⟩ := q2
        obtain ⟨q3, q3'⟩ := q3
        obtain ⟨q4, q4'⟩ := q4
        have d1 : y0 - y1 ≤ 1 := by omega
        have d2 : r1 - r0 ≤ 1 := by omega
        clear iA iB h3
        go_enter Try.func8, Try.ntmps8
        go_wp2_with fail
        refine (awake_any _).mono ?_; rintro e w1 ⟨rfl, b0⟩
        have B0 := Lib.hid b0
        clear b0
        go_wp2_with fail
        refine (H0.out _).mono ?_; rintro e w2 ⟨rfl, b1⟩
        have B1 := Lib.hid b1
        clear b1
        go_wp2_with fail
        refine (H1.out _).mono ?_; rintro e w3 ⟨rfl, b2⟩
        have B2 := Lib.hid b2
        clear b2
        go_wp2_with fail
        refine (H2.out _).mono ?_; rintro e w4 ⟨rfl, b3⟩
        have B3 := Lib.hid b3
        clear b3
        go_wp2_with fail
        refine (H3.out _).mono ?_; rintro e w5 ⟨rfl, b4⟩
        have B4 := Lib.hid b4
        clear b4
        go_wp2_with fail
        go_ret
        exact ⟨rfl, (bel_trans (bel_trans (bel_trans (bel_trans B0.out B1.out) B2.out) B3.out) B4.out)⟩
end Go.Proofs.Ytiddcmlnofdemaa
namespace Go.Proofs.Ytiddcmlnofdemaa.atmosphereSmooth
open Go.ChangeShapes Go.WideShapes Go.ChangeAt Go.RowKit
open Go.ChangeMaps (open_string shut_string)
set_option linter.unusedVariables false
set_option linter.unusedSimpArgs false

theorem own : ownKnob Try.prog.godebug = none := by kernel_rfl
theorem laidOut : laidOutB Try.prog = true := by kernel_rfl

set_option maxRecDepth 100000 in
theorem lifted (os : Os) (started : os.Started) (H : Type) (enc : TypeId × Value → H) :
    ReturnsInHanded {} Try.checked os 8 .any (Rows.atmosphereSmoothSpec.pre6 enc Try.prog Try.f8 Rows.atmosphereSmoothRow.domain false) (Rows.atmosphereSmoothSpec.post enc Try.prog Try.f8 false true false false) := by
  refine returnsInHanded_of_change (C := Try.checked) own started (by kernel_rfl) Try.func8
    (ChangeSpec.witness6 (enc := enc) (C := Try.checked) false ⟨#[], #[.int .i64 0], []⟩ 8 (by kernel_rfl) (by kernel_rfl) (by kernel_rfl) (by kernel_rfl)) ?_
  intro W base args ds gs before hval0 hW hcnd _
  have hval : ∀ (j : Nat) t v, Try.f8.params[j]? = some t → args[j]? = some v → Value.okWide Try.prog W .any base t v := hval0
  have hW' := hW
  obtain ⟨p, q, hA0, hV, rfl, hfz, hnd⟩ := hW
  have hA : DataW.TrodAll enc Try.prog W 0 (fun _ => true) true Try.f8.params.toList args.toList ds p := hA0
  rw [Try.params8] at hA hval
  obtain ⟨v0, vs0, d0, ds0, p0, q0, hargs, rfl, rfl, h0, r0⟩ := trodAll_cons hA
  obtain ⟨rfl, rfl, rfl⟩ := trodAll_nil r0
  obtain rfl : args = #[v0] := by cases args; simp_all
  obtain ⟨rfl, rfl⟩ := trodVars_none hV
  have k0 := h0
  have lt0 : ∀ x ∈ p0, x.block < W.heap.size := by obtain ⟨m, hm⟩ := k0; exact DataW.trod_lt m _ _ _ hm
  obtain ⟨a0, rfl, rfl, rfl, w0⟩ := open_int Try.underlying2 (hval 0 2 v0 rfl rfl) h0
  clear hA0 hval0
  refine (Ytiddcmlnofdemaa.walk_AtmosphereSmooth a0 W w0).mono fun e W' ⟨he, bel⟩ => ?_
  subst he
  exact ⟨_, rfl, _, _, _, [], _, [], hW', trodAll_mk1 (shut_bool Try.underlying4 _), (trodAll_cons_mk (Below.trod laidOut (by kernel_rfl) (of_decide_eq_true (by kernel_rfl)) k0 bel lt0) trodAll_mk0), rfl, bel.frame _, fun h => by cases h⟩

theorem over : Rows.atmosphereSmoothRow.holds Try.pinned (OpenSpec.ofChange Rows.atmosphereSmoothSpec) :=
  OpenClaim.holds_of_wide 8 Try.f8 rfl rfl rfl rfl rfl rfl rfl ⟨rfl, rfl, rfl, rfl, rfl⟩ rfl rfl rfl rfl rfl (by kernel_rfl) Try.func8 (by kernel_rfl)
    (of_decide_eq_true (by kernel_rfl)) (by unfold Func.isWrapper; first | (rw [if_pos (by decide +kernel)]; kernel_rfl) | (rw [if_neg (by decide +kernel)]; exact ⟨rfl, rfl⟩))
    (fun os started H enc _ => lifted os started H enc)

/-- the statement -/
theorem proved : Rows.AtmosphereSmoothSaid := over
end Go.Proofs.Ytiddcmlnofdemaa.atmosphereSmooth
