/- The statement AtmosphereValues: for every input the law returns true, and every argument reads afterwards as before. No condition. -/
import Derived.Test.YtiddcmlnofdemaaRows
import Derived.Test.YtiddcmlnofdemaaLaBase29
import Derived.WalkKit
import Derived.ProofKit
import Derived.OpenShut
import Derived.ShutString
import Derived.ChangeOld
import Derived.Below
namespace Go.Proofs.Ytiddcmlnofdemaa
set_option linter.unusedSimpArgs false
set_option linter.unusedVariables false
open Go.RowKit
set_option maxRecDepth 100000 in
set_option maxHeartbeats 2000000 in
theorem walk_AtmosphereValues (a : Int) (d : Int) (w : World) (ha : (Lit.int .i64 a).wf = true) (hd : (Lit.int .i64 d).wf = true) :
    Calls Try.prog 4 #[.int .i64 a, .int .i64 d] w fun e w' => e = .returned (.bool true) ∧ Below w.heap.size w w' := by
  have ai : I64 a := wf_i64_bd ha
  have di : I64 d := wf_i64_bd hd
  clear ha
  clear hd
  go_enter Try.func4, Try.ntmps4
  go_wp2_with fail
  refine (awake_any _).mono ?_; rintro e w1 ⟨rfl, b0⟩
  have B0 := Lib.hid b0
  clear b0
  go_wp2_with fail
  refine (aTemperature a d _).mono ?_; rintro e w2 ⟨rfl, b1⟩
  have B1 := Lib.hid b1
  clear b1
  go_wp2_with fail
  refine (rTemperature a d _).mono ?_; rintro e w3 ⟨rfl, b2⟩
  have B2 := Lib.hid b2
  clear b2
  go_wp2_with fail
  refine (aSound a d _).mono ?_; rintro e w4 ⟨rfl, b3⟩
  have B3 := Lib.hid b3
  clear b3
  go_wp2_with fail
  refine (rSound a d _).mono ?_; rintro e w5 ⟨rfl, b4⟩
  have B4 := Lib.hid b4
  clear b4
  go_wp2_with fail
  refine (aRatio a d _).mono ?_; rintro e w6 ⟨rfl, b5⟩
  have B5 := Lib.hid b5
  clear b5
  go_wp2_with fail
  refine (rRatio a d _).mono ?_; rintro e w7 ⟨rfl, b6⟩
  have B6 := Lib.hid b6
  clear b6
  go_wp2_with fail
  go_ret
  exact ⟨rfl, (bel_trans (bel_trans (bel_trans (bel_trans (bel_trans (bel_trans B0.out B1.out) B2.out) B3.out) B4.out) B5.out) B6.out)⟩
end Go.Proofs.Ytiddcmlnofdemaa
namespace Go.Proofs.Ytiddcmlnofdemaa.atmosphereValues
open Go.ChangeShapes Go.WideShapes Go.ChangeAt Go.RowKit
open Go.ChangeMaps (open_string shut_string)
set_option linter.unusedVariables false
set_option linter.unusedSimpArgs false

theorem own : ownKnob Try.prog.godebug = none := by kernel_rfl
theorem laidOut : laidOutB Try.prog = true := by kernel_rfl

set_option maxRecDepth 100000 in
theorem lifted (os : Os) (started : os.Started) (H : Type) (enc : TypeId × Value → H) :
    ReturnsInHanded {} Try.checked os 4 .any (Rows.atmosphereValuesSpec.pre6 enc Try.prog Try.f4 Rows.atmosphereValuesRow.domain false) (Rows.atmosphereValuesSpec.post enc Try.prog Try.f4 false true false false) := by
  refine returnsInHanded_of_change (C := Try.checked) own started (by kernel_rfl) Try.func4
    (ChangeSpec.witness6 (enc := enc) (C := Try.checked) false ⟨#[], #[.int .i64 0, .int .i64 0], []⟩ 8 (by kernel_rfl) (by kernel_rfl) (by kernel_rfl) (by kernel_rfl)) ?_
  intro W base args ds gs before hval0 hW hcnd _
  have hval : ∀ (j : Nat) t v, Try.f4.params[j]? = some t → args[j]? = some v → Value.okWide Try.prog W .any base t v := hval0
  have hW' := hW
  obtain ⟨p, q, hA0, hV, rfl, hfz, hnd⟩ := hW
  have hA : DataW.TrodAll enc Try.prog W 0 (fun _ => true) true Try.f4.params.toList args.toList ds p := hA0
  rw [Try.params4] at hA hval
  obtain ⟨v0, vs0, d0, ds0, p0, q0, hargs, rfl, rfl, h0, r0⟩ := trodAll_cons hA
  obtain ⟨v1, vs1, d1, ds1, p1, q1, rfl, rfl, rfl, h1, r1⟩ := trodAll_cons r0
  obtain ⟨rfl, rfl, rfl⟩ := trodAll_nil r1
  obtain rfl : args = #[v0, v1] := by cases args; simp_all
  obtain ⟨rfl, rfl⟩ := trodVars_none hV
  have k0 := h0
  have lt0 : ∀ x ∈ p0, x.block < W.heap.size := by obtain ⟨m, hm⟩ := k0; exact DataW.trod_lt m _ _ _ hm
  have k1 := h1
  have lt1 : ∀ x ∈ p1, x.block < W.heap.size := by obtain ⟨m, hm⟩ := k1; exact DataW.trod_lt m _ _ _ hm
  obtain ⟨a0, rfl, rfl, rfl, w0⟩ := open_int Try.underlying2 (hval 0 2 v0 rfl rfl) h0
  obtain ⟨a1, rfl, rfl, rfl, w1⟩ := open_int Try.underlying2 (hval 1 2 v1 rfl rfl) h1
  clear hA0 hval0
  refine (Ytiddcmlnofdemaa.walk_AtmosphereValues a0 a1 W w0 w1).mono fun e W' ⟨he, bel⟩ => ?_
  subst he
  exact ⟨_, rfl, _, _, _, [], _, [], hW', trodAll_mk1 (shut_bool Try.underlying4 _), (trodAll_cons_mk (Below.trod laidOut (by kernel_rfl) (of_decide_eq_true (by kernel_rfl)) k0 bel lt0) (trodAll_cons_mk (Below.trod laidOut (by kernel_rfl) (of_decide_eq_true (by kernel_rfl)) k1 bel lt1) trodAll_mk0)), rfl, bel.frame _, fun h => by cases h⟩

theorem over : Rows.atmosphereValuesRow.holds Try.pinned (OpenSpec.ofChange Rows.atmosphereValuesSpec) :=
  OpenClaim.holds_of_wide 4 Try.f4 rfl rfl rfl rfl rfl rfl rfl ⟨rfl, rfl, rfl, rfl, rfl⟩ rfl rfl rfl rfl rfl (by kernel_rfl) Try.func4 (by kernel_rfl)
    (of_decide_eq_true (by kernel_rfl)) (by unfold Func.isWrapper; first | (rw [if_pos (by decide +kernel)]; kernel_rfl) | (rw [if_neg (by decide +kernel)]; exact ⟨rfl, rfl⟩))
    (fun os started H enc _ => lifted os started H enc)

/-- the statement -/
theorem proved : Rows.AtmosphereValuesSaid := over
end Go.Proofs.Ytiddcmlnofdemaa.atmosphereValues
