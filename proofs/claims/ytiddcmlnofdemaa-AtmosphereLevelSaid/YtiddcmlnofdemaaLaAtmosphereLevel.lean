/- The statement AtmosphereLevel: for every input the law returns true, and every argument reads afterwards as before. No condition. -/
import Derived.Test.YtiddcmlnofdemaaRows
import Derived.Test.YtiddcmlnofdemaaLaBase29
import Derived.WalkKit
import Derived.ProofKit
import Derived.OpenShut
import Derived.ShutString
import Derived.ChangeOld
import Derived.Below
namespace Go.Proofs.Ytiddcmlnofdemaa
set_option linter.unusedSimpArgs false
set_option linter.unusedVariables false
open Go.RowKit
set_option maxRecDepth 100000 in
set_option maxHeartbeats 2000000 in
theorem walk_AtmosphereLevel (p : Int) (w : World) (hp : (Lit.int .i64 p).wf = true) :
    Calls Try.prog 5 #[.int .i64 p] w fun e w' => e = .returned (.bool true) ∧ Below w.heap.size w w' := by
  have pi : I64 p := wf_i64_bd hp
  clear hp
  by_cases h : p < 70800
  · have H0 := Lib.hid (fun w => level_low p pi h w)
    go_enter Try.func5, Try.ntmps5
    go_wp2_with fail
    refine (awake_any _).mono ?_; rintro e w1 ⟨rfl, b0⟩
    have B0 := Lib.hid b0
    clear b0
    go_wp2_with fail
    refine (H0.out _).mono ?_; rintro e w2 ⟨rfl, b1⟩
    have B1 := Lib.hid b1
    clear b1
    go_wp2_with fail
    go_ret
    exact ⟨rfl, (bel_trans B0.out B1.out)⟩
  · obtain ⟨L, hL⟩ : ∃ L, At.LevP p L := lev_exists p (by omega)
    have H0 := Lib.hid (fun w => level_at p L pi h hL w)
    obtain ⟨l1, l2, l3, l4⟩ := hL
    have iL : inAlt L := ⟨l1, l2⟩
    have H1 := Lib.hid (fun w => cvalB (pressure_any L w) (show presV L = At.vP L by unfold presV; rw [if_pos iL]) (show presE L = 0 by unfold presE; rw [if_pos iL]))
    clear iL
    have n1 : ¬ L < -200000 := by omega
    have n2 : ¬ 6000000 < L := by omega
    by_cases hm : L = -200000
    · have hb : (L == -200000) = true := beq_iff_eq.2 hm
      have HM := Lib.hid hm
      clear hm l4
      generalize At.vP L = q at *
      have n3 : ¬ p < q := by omega
      go_enter Try.func5, Try.ntmps5
      go_wp2_with fail
      refine (awake_any _).mono ?_; rintro e w1 ⟨rfl, b0⟩
      have B0 := Lib.hid b0
      clear b0
      go_wp2_with fail
      refine (H0.out _).mono ?_; rintro e w2 ⟨rfl, b1⟩
      have B1 := Lib.hid b1
      clear b1
      go_wp2_with fail
      refine (H1.out _).mono ?_; rintro e w3 ⟨rfl, b2⟩
      have B2 := Lib.hid b2
      clear b2
      go_wp2_with fail
      go_ret
      exact ⟨rfl, (bel_trans (bel_trans B0.out B1.out) B2.out)⟩
    · have hb : (L == -200000) = false := beq_eq_false_iff_ne.2 hm
      have hg : p < At.vP (L - 1) := by rcases l4 with h4 | h4; exact absurd h4 hm; exact h4
      have iM : inAlt (L - 1) := ⟨by omega, by omega⟩
      have H2 := Lib.hid (fun w => cvalB (pressure_any (L - 1) w) (show presV (L - 1) = At.vP (L - 1) by unfold presV; rw [if_pos iM]) (show presE (L - 1) = 0 by unfold presE; rw [if_pos iM]))
      clear iM l4 hm
      generalize At.vP (L - 1) = r at *
      generalize At.vP L = q at *
      have n3 : ¬ p < q := by omega
      go_enter Try.func5, Try.ntmps5
      go_wp2_with fail
      refine (awake_any _).mono ?_; rintro e w1 ⟨rfl, b0⟩
      have B0 := Lib.hid b0
      clear b0
      go_wp2_with fail
      refine (H0.out _).mono ?_; rintro e w2 ⟨rfl, b1⟩
      have B1 := Lib.hid b1
      clear b1
      go_wp2_with fail
      refine (H1.out _).mono ?_; rintro e w3 ⟨rfl, b2⟩
      have B2 := Lib.hid b2
      clear b2
      go_wp2_with fail
      refine (H2.out _).mono ?_; rintro e w4 ⟨rfl, b3⟩
      have B3 := Lib.hid b3
      clear b3
      go_wp2_with fail
      go_ret
      exact ⟨rfl, (bel_trans (bel_trans (bel_trans B0.out B1.out) B2.out) B3.out)⟩
end Go.Proofs.Ytiddcmlnofdemaa
namespace Go.Proofs.Ytiddcmlnofdemaa.atmosphereLevel
open Go.ChangeShapes Go.WideShapes Go.ChangeAt Go.RowKit
open Go.ChangeMaps (open_string shut_string)
set_option linter.unusedVariables false
set_option linter.unusedSimpArgs false

theorem own : ownKnob Try.prog.godebug = none := by kernel_rfl
theorem laidOut : laidOutB Try.prog = true := by kernel_rfl

set_option maxRecDepth 100000 in
theorem lifted (os : Os) (started : os.Started) (H : Type) (enc : TypeId × Value → H) :
    ReturnsInHanded {} Try.checked os 5 .any (Rows.atmosphereLevelSpec.pre6 enc Try.prog Try.f5 Rows.atmosphereLevelRow.domain false) (Rows.atmosphereLevelSpec.post enc Try.prog Try.f5 false true false false) := by
  refine returnsInHanded_of_change (C := Try.checked) own started (by kernel_rfl) Try.func5
    (ChangeSpec.witness6 (enc := enc) (C := Try.checked) false ⟨#[], #[.int .i64 0], []⟩ 8 (by kernel_rfl) (by kernel_rfl) (by kernel_rfl) (by kernel_rfl)) ?_
  intro W base args ds gs before hval0 hW hcnd _
  have hval : ∀ (j : Nat) t v, Try.f5.params[j]? = some t → args[j]? = some v → Value.okWide Try.prog W .any base t v := hval0
  have hW' := hW
  obtain ⟨p, q, hA0, hV, rfl, hfz, hnd⟩ := hW
  have hA : DataW.TrodAll enc Try.prog W 0 (fun _ => true) true Try.f5.params.toList args.toList ds p := hA0
  rw [Try.params5] at hA hval
  obtain ⟨v0, vs0, d0, ds0, p0, q0, hargs, rfl, rfl, h0, r0⟩ := trodAll_cons hA
  obtain ⟨rfl, rfl, rfl⟩ := trodAll_nil r0
  obtain rfl : args = #[v0] := by cases args; simp_all
  obtain ⟨rfl, rfl⟩ := trodVars_none hV
  have k0 := h0
  have lt0 : ∀ x ∈ p0, x.block < W.heap.size := by obtain ⟨m, hm⟩ := k0; exact DataW.trod_lt m _ _ _ hm
  obtain ⟨a0, rfl, rfl, rfl, w0⟩ := open_int Try.underlying2 (hval 0 2 v0 rfl rfl) h0
  clear hA0 hval0
  refine (Ytiddcmlnofdemaa.walk_AtmosphereLevel a0 W w0).mono fun e W' ⟨he, bel⟩ => ?_
  subst he
  exact ⟨_, rfl, _, _, _, [], _, [], hW', trodAll_mk1 (shut_bool Try.underlying4 _), (trodAll_cons_mk (Below.trod laidOut (by kernel_rfl) (of_decide_eq_true (by kernel_rfl)) k0 bel lt0) trodAll_mk0), rfl, bel.frame _, fun h => by cases h⟩

theorem over : Rows.atmosphereLevelRow.holds Try.pinned (OpenSpec.ofChange Rows.atmosphereLevelSpec) :=
  OpenClaim.holds_of_wide 5 Try.f5 rfl rfl rfl rfl rfl rfl rfl ⟨rfl, rfl, rfl, rfl, rfl⟩ rfl rfl rfl rfl rfl (by kernel_rfl) Try.func5 (by kernel_rfl)
    (of_decide_eq_true (by kernel_rfl)) (by unfold Func.isWrapper; first | (rw [if_pos (by decide +kernel)]; kernel_rfl) | (rw [if_neg (by decide +kernel)]; exact ⟨rfl, rfl⟩))
    (fun os started H enc _ => lifted os started H enc)

/-- the statement -/
theorem proved : Rows.AtmosphereLevelSaid := over
end Go.Proofs.Ytiddcmlnofdemaa.atmosphereLevel
