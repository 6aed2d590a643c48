/- The statement SpeedplanSteps: for every input the law returns true, and every argument reads afterwards as before. No condition. -/
import Derived.Test.YtgplpapphmaafaaRows
import Derived.Test.YtgplpapphmaafaaLaBase35
import Derived.SizedLaws
import Derived.WalkKit
import Derived.ProofKit
import Derived.OpenShut
import Derived.ShutString
import Derived.ChangeOld
import Derived.Below
namespace Go.Proofs.Ytgplpapphmaafaa
set_option linter.unusedSimpArgs false
set_option linter.unusedVariables false
open Go.RowKit Sp
theorem ret_tt_SpeedplanSteps {b : Bool} (h : b = true) : Ending.returned (.bool b) = .returned (.bool true) := by rw [h]
set_option maxRecDepth 100000 in
set_option maxHeartbeats 4000000 in
theorem walk_SpeedplanSteps (A : Option Addr) (n cn : Nat) (d : List Int) (B : Option Addr) (m cm : Nat) (g : List Int) (a c : Int) (w : World) (hd : Ints w A n d) (hfd : ∀ x ∈ d, (Lit.int .i64 x).wf = true) (hn : n ≤ maxLen) (h8n : n * 8 ≤ reachBytes) (hg : Ints w B m g) (hfg : ∀ x ∈ g, (Lit.int .i64 x).wf = true) (hm : m ≤ maxLen) (h8m : m * 8 ≤ reachBytes) (haf : (Lit.int .i64 a).wf = true) (hcf : (Lit.int .i64 c).wf = true) :
    Calls Try.prog 3 #[.slice A n cn, .slice B m cm, .agg #[.int .i64 a, .int .i64 c]] w fun e w' => e = .returned (.bool true) ∧ Below w.heap.size w w' := by
  have HD := Lib.hid hd
  have HG := Lib.hid hg
  have HNM := Lib.hid (And.intro hn hm)
  clear hd hg hfd hfg hn hm h8n h8m haf hcf
  go_enter Try.func3, Try.ntmps3
  go_wp2_with fail
  refine (awake_any _).mono ?_; rintro e w1 ⟨rfl, hB⟩
  have k0 : w1.cell? ⟨w.heap.size, 0, none⟩ = some (.int .i64 a) := (hB.cell (p := ⟨w.heap.size, 0, none⟩) (by simp)).trans (one_box w _ _ 0)
  have k1 : w1.cell? ⟨w.heap.size, 1, none⟩ = some (.int .i64 c) := (hB.cell (p := ⟨w.heap.size, 1, none⟩) (by simp)).trans (one_box w _ _ 1)
  have hlt0 : w.heap.size < w1.heap.size := by have := hB.size; simp at this; omega
  have HB1 := Lib.hid (bel_alloc hB)
  clear hB
  go_wp2_with fail
  refine (xSpSteps A n cn d a c w1 (HD.out.below HB1.out) HNM.out.1).mono ?_; rintro e w2 ⟨A1, c1, rfl, hI, hC, hB⟩
  have HB2 := Lib.hid (bel_trans HB1.out hB)
  replace k0 : w2.cell? ⟨w.heap.size, 0, none⟩ = some (.int .i64 a) := (hB.cell (p := ⟨w.heap.size, 0, none⟩) hlt0).trans k0
  replace k1 : w2.cell? ⟨w.heap.size, 1, none⟩ = some (.int .i64 c) := (hB.cell (p := ⟨w.heap.size, 1, none⟩) hlt0).trans k1
  replace hlt0 : w.heap.size < w2.heap.size := Nat.lt_of_lt_of_le hlt0 hB.size
  have P1 := Lib.hid hI
  clear hB hI
  clear hC
  obtain ⟨E, hE⟩ : ∃ E, stE d a c = E := ⟨_, rfl⟩
  obtain ⟨nn, hnn⟩ : ∃ nn, okN (stE d a c) n = nn := ⟨_, rfl⟩
  obtain ⟨ll, hll⟩ : ∃ ll, okL (stE d a c) (stL d a c) = ll := ⟨_, rfl⟩
  have hnn2 : nn ≤ n := by rw [← hnn]; exact okN_le (Nat.le_refl _)
  rw [hnn, hE]
  rw [hnn, hll] at P1
  have HEE := Lib.hid (And.intro hE (And.intro hnn hll))
  clear hE hnn hll
  go_wp2_with fail
  refine (rSpSteps A n cn d a c w2 (HD.out.below HB2.out) HNM.out.1).mono ?_; rintro e w3 ⟨A2, c2, rfl, hI, hC, hB⟩
  have HB3 := Lib.hid (bel_trans HB2.out hB)
  replace P1 := Lib.hid (P1.out.below hB)
  replace k0 : w3.cell? ⟨w.heap.size, 0, none⟩ = some (.int .i64 a) := (hB.cell (p := ⟨w.heap.size, 0, none⟩) hlt0).trans k0
  replace k1 : w3.cell? ⟨w.heap.size, 1, none⟩ = some (.int .i64 c) := (hB.cell (p := ⟨w.heap.size, 1, none⟩) hlt0).trans k1
  replace hlt0 : w.heap.size < w3.heap.size := Nat.lt_of_lt_of_le hlt0 hB.size
  have P2 := Lib.hid hI
  clear hB hI
  clear hC
  rw [HEE.out.2.1, HEE.out.1]
  rw [HEE.out.2.1, HEE.out.2.2] at P2
  go_wp2_with fail
  refine (xSpTicks A B n cn m cm d g w3 (HD.out.below HB3.out) (HG.out.below HB3.out) HNM.out.1 HNM.out.2).mono ?_; rintro e w4 ⟨A3, c3, rfl, hI, hB⟩
  have HB4 := Lib.hid (bel_trans HB3.out hB)
  replace P1 := Lib.hid (P1.out.below hB)
  replace P2 := Lib.hid (P2.out.below hB)
  replace k0 : w4.cell? ⟨w.heap.size, 0, none⟩ = some (.int .i64 a) := (hB.cell (p := ⟨w.heap.size, 0, none⟩) hlt0).trans k0
  replace k1 : w4.cell? ⟨w.heap.size, 1, none⟩ = some (.int .i64 c) := (hB.cell (p := ⟨w.heap.size, 1, none⟩) hlt0).trans k1
  replace hlt0 : w.heap.size < w4.heap.size := Nat.lt_of_lt_of_le hlt0 hB.size
  have I3 := Lib.hid hI
  clear hB hI
  obtain ⟨E2, hE2⟩ : ∃ E2, tkE d g = E2 := ⟨_, rfl⟩
  obtain ⟨nn3, hnn3⟩ : ∃ nn3, okN (tkE d g) n = nn3 := ⟨_, rfl⟩
  obtain ⟨l3, hl3⟩ : ∃ l3, okL (tkE d g) (tkL d g) = l3 := ⟨_, rfl⟩
  have hnn4 : nn3 ≤ n := by rw [← hnn3]; exact okN_le (Nat.le_refl _)
  rw [hnn3, hE2]
  rw [hnn3, hl3] at I3
  have HEF := Lib.hid (And.intro hE2 (And.intro hnn3 hl3))
  clear hE2 hnn3 hl3
  go_wp2_with fail
  refine (rSpTicks A B n cn m cm d g w4 (HD.out.below HB4.out) (HG.out.below HB4.out) HNM.out.1 HNM.out.2).mono ?_; rintro e w5 ⟨A4, c4, rfl, hI, hB⟩
  have HB5 := Lib.hid (bel_trans HB4.out hB)
  replace P1 := Lib.hid (P1.out.below hB)
  replace P2 := Lib.hid (P2.out.below hB)
  replace I3 := Lib.hid (I3.out.below hB)
  replace k0 : w5.cell? ⟨w.heap.size, 0, none⟩ = some (.int .i64 a) := (hB.cell (p := ⟨w.heap.size, 0, none⟩) hlt0).trans k0
  replace k1 : w5.cell? ⟨w.heap.size, 1, none⟩ = some (.int .i64 c) := (hB.cell (p := ⟨w.heap.size, 1, none⟩) hlt0).trans k1
  replace hlt0 : w.heap.size < w5.heap.size := Nat.lt_of_lt_of_le hlt0 hB.size
  have I4 := Lib.hid hI
  clear hB hI
  rw [HEF.out.2.1, HEF.out.1]
  rw [HEF.out.2.1, HEF.out.2.2] at I4
  go_wp2_with fail
  refine (steps_yes A1 A2 nn c1 c2 ll _ P1.out P2.out (by have := HNM.out.1; omega)).mono ?_; rintro e w' ⟨rfl, q6, rfl⟩
  have HB6 := Lib.hid (below_drewN HB5.out q6)
  replace P1 := Lib.hid (P1.out.below (below_drewN (Below.refl _ w5) q6))
  replace P2 := Lib.hid (P2.out.below (below_drewN (Below.refl _ w5) q6))
  replace I3 := Lib.hid (I3.out.below (below_drewN (Below.refl _ w5) q6))
  replace I4 := Lib.hid (I4.out.below (below_drewN (Below.refl _ w5) q6))
  generalize w5.drewN q6 = w6 at *
  go_wp2_with fail
  have hnn5 : nn3 ≤ maxLen := by have := HNM.out.1; omega
  refine (same_yes A3 A4 nn3 c3 c4 l3 _ I3.out I4.out hnn5).mono ?_; rintro e w' ⟨rfl, q7, rfl⟩
  have HB7 := Lib.hid (below_drewN HB6.out q7)
  replace P1 := Lib.hid (P1.out.below (below_drewN (Below.refl _ w6) q7))
  replace P2 := Lib.hid (P2.out.below (below_drewN (Below.refl _ w6) q7))
  replace I3 := Lib.hid (I3.out.below (below_drewN (Below.refl _ w6) q7))
  replace I4 := Lib.hid (I4.out.below (below_drewN (Below.refl _ w6) q7))
  generalize w6.drewN q7 = w7 at *
  go_wp2_with fail
  go_ret
  exact ⟨ret_tt_SpeedplanSteps (by simp), HB7.out⟩
end Go.Proofs.Ytgplpapphmaafaa
namespace Go.Proofs.Ytgplpapphmaafaa.speedplanSteps
open Go.ChangeShapes Go.WideShapes Go.ChangeAt Go.RowKit
open Go.ChangeMaps (open_string shut_string)
set_option linter.unusedVariables false
set_option linter.unusedSimpArgs false

theorem own : ownKnob Try.prog.godebug = none := by kernel_rfl
theorem laidOut : laidOutB Try.prog = true := by kernel_rfl

set_option maxRecDepth 100000 in
theorem lifted (os : Os) (started : os.Started) (H : Type) (enc : TypeId × Value → H) :
    ReturnsInHanded {} Try.checked os 3 .any (Rows.speedplanStepsSpec.pre6 enc Try.prog Try.f3 Rows.speedplanStepsRow.domain false) (Rows.speedplanStepsSpec.post enc Try.prog Try.f3 false true false false) := by
  refine returnsInHanded_of_change_sized (C := Try.checked) own started (by kernel_rfl) Try.func3
    (ChangeSpec.witness6 (enc := enc) (C := Try.checked) false ⟨#[], #[.slice none 0 0, .slice none 0 0, .agg #[.int .i64 0, .int .i64 0]], []⟩ 8 (by kernel_rfl) (by kernel_rfl) (by kernel_rfl) (by kernel_rfl)) ?_
  intro W base args ds gs before hval0 hW hcnd hsz0 _
  have hval : ∀ (j : Nat) t v, Try.f3.params[j]? = some t → args[j]? = some v → Value.okWide Try.prog W .any base t v := hval0
  have hW' := hW
  obtain ⟨p, q, hA0, hV, rfl, hfz, hnd⟩ := hW
  have hA : DataW.TrodAll enc Try.prog W 0 (fun _ => true) true Try.f3.params.toList args.toList ds p := hA0
  have hsz : (DataW.weightsEach Try.prog (Try.f3.params.toList ++ Rows.speedplanStepsSpec.plain.varTypes Try.prog) (ds ++ gs)).all (· ≤ reachBytes) = true := hsz0
  rw [Try.params3] at hA hval hsz
  obtain ⟨v0, vs0, d0, ds0, p0, q0, hargs, rfl, rfl, h0, r0⟩ := trodAll_cons hA
  obtain ⟨v1, vs1, d1, ds1, p1, q1, rfl, rfl, rfl, h1, r1⟩ := trodAll_cons r0
  obtain ⟨v2, vs2, d2, ds2, p2, q2, rfl, rfl, rfl, h2, r2⟩ := trodAll_cons r1
  obtain ⟨rfl, rfl, rfl⟩ := trodAll_nil r2
  obtain rfl : args = #[v0, v1, v2] := by cases args; simp_all
  obtain ⟨rfl, rfl⟩ := trodVars_none hV
  have k0 := h0
  have lt0 : ∀ x ∈ p0, x.block < W.heap.size := by obtain ⟨m, hm⟩ := k0; exact DataW.trod_lt m _ _ _ hm
  have k1 := h1
  have lt1 : ∀ x ∈ p1, x.block < W.heap.size := by obtain ⟨m, hm⟩ := k1; exact DataW.trod_lt m _ _ _ hm
  have k2 := h2
  have lt2 : ∀ x ∈ p2, x.block < W.heap.size := by obtain ⟨m, hm⟩ := k2; exact DataW.trod_lt m _ _ _ hm
  obtain ⟨A0, n0, c0, z0, rfl, m0, qc0, w0, u0, o0⟩ := open_ints_Trod Try.underlying22 Try.underlying2 (by kernel_rfl) (hval 0 22 v0 rfl rfl) h0
  have o0' := o0 (weights_arg hsz (j := 0) rfl rfl)
  rw [show Try.prog.bytesOf 2 = 8 by kernel_rfl] at o0'
  obtain ⟨A1, n1, c1, z1, rfl, m1, qc1, w1, u1, o1⟩ := open_ints_Trod Try.underlying22 Try.underlying2 (by kernel_rfl) (hval 1 22 v1 rfl rfl) h1
  have o1' := o1 (weights_arg hsz (j := 1) rfl rfl)
  rw [show Try.prog.bytesOf 2 = 8 by kernel_rfl] at o1'
  obtain ⟨a2, b2, rfl, w2, u2⟩ := open_arr2 Try.underlying23 Try.underlying2 (by kernel_rfl) (by kernel_rfl) (hval 2 23 v2 rfl rfl) h2
  clear hA0 hval0
  refine (Ytgplpapphmaafaa.walk_SpeedplanSteps A0 n0 c0 z0 A1 n1 c1 z1 a2 b2 W w0 u0 m0 o0' w1 u1 m1 o1' w2 u2).mono fun e W' ⟨he, bel⟩ => ?_
  subst he
  exact ⟨_, rfl, _, _, _, [], _, [], hW', trodAll_mk1 (shut_bool Try.underlying4 _), (trodAll_cons_mk (Below.trod laidOut (by kernel_rfl) (of_decide_eq_true (by kernel_rfl)) k0 bel lt0) (trodAll_cons_mk (Below.trod laidOut (by kernel_rfl) (of_decide_eq_true (by kernel_rfl)) k1 bel lt1) (trodAll_cons_mk (Below.trod laidOut (by kernel_rfl) (of_decide_eq_true (by kernel_rfl)) k2 bel lt2) trodAll_mk0))), rfl, bel.frame _, fun h => by cases h⟩

theorem over : Rows.speedplanStepsRow.holds Try.pinned (OpenSpec.ofChange Rows.speedplanStepsSpec) :=
  OpenClaim.holds_of_wide 3 Try.f3 rfl rfl rfl rfl rfl rfl rfl ⟨rfl, rfl, rfl, rfl, rfl⟩ rfl rfl rfl rfl rfl (by kernel_rfl) Try.func3 (by kernel_rfl)
    (of_decide_eq_true (by kernel_rfl)) (by unfold Func.isWrapper; first | (rw [if_pos (by decide +kernel)]; kernel_rfl) | (rw [if_neg (by decide +kernel)]; exact ⟨rfl, rfl⟩))
    (fun os started H enc _ => lifted os started H enc)

/-- the statement -/
theorem proved : Rows.SpeedplanStepsSaid := over
end Go.Proofs.Ytgplpapphmaafaa.speedplanSteps
