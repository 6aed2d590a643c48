/- The statement ProfileBetween: for every input the law returns true, and every argument reads afterwards as before. No condition. -/
import Derived.Test.YtgmpaffoajmmmaaRows
import Derived.Test.YtgmpaffoajmmmaaLaSpot
import Derived.SizedLaws
import Derived.WalkKit
import Derived.ProofKit
import Derived.OpenShut
import Derived.ShutString
import Derived.ChangeOld
import Derived.Below
namespace Go.Proofs.Ytgmpaffoajmmmaa
set_option linter.unusedSimpArgs false
set_option linter.unusedVariables false
open Go.RowKit
theorem ret_tt_ProfileBetween {b : Bool} (h : b = true) : Ending.returned (.bool b) = .returned (.bool true) := by rw [h]
set_option maxRecDepth 100000 in
set_option maxHeartbeats 4000000 in
theorem walk_ProfileBetween (A : Option Addr) (n cn : Nat) (v : List Int) (D : Option Addr) (m cm : Nat) (d : List Int) (s lv : Int) (w : World) (hv : Ints w A n v) (hvf : ∀ x ∈ v, (Lit.int .i64 x).wf = true) (hn : n ≤ maxLen) (hn8 : n * 8 ≤ reachBytes) (hd : Ints w D m d) (hdf : ∀ x ∈ d, (Lit.int .i64 x).wf = true) (hm : m ≤ maxLen) (hm8 : m * 8 ≤ reachBytes) (hsf : (Lit.int .i64 s).wf = true) (hlf : (Lit.int .i64 lv).wf = true) :
    Calls Try.prog 5 #[.slice A n cn, .slice D m cm, .agg #[.int .i64 s, .int .i64 lv]] w fun e w' => e = .returned (.bool true) ∧ Below w.heap.size w w' := by
  have HV := Lib.hid hv
  have HD := Lib.hid hd
  have HNM := Lib.hid (And.intro hn hm)
  have IS : Hid (I64 s) := Lib.hid (wf_i64_bd hsf)
  clear hv hd hvf hdf hn8 hm8 hn hm hsf hlf
  go_enter Try.func5, Try.ntmps5
  go_wp2_with fail
  refine (awake_any _).mono ?_; rintro e w1 ⟨rfl, hB⟩
  have k0 : w1.cell? ⟨w.heap.size, 0, none⟩ = some (.int .i64 s) := (hB.cell (p := ⟨w.heap.size, 0, none⟩) (by simp)).trans (one_box w _ _ 0)
  have k1 : w1.cell? ⟨w.heap.size, 1, none⟩ = some (.int .i64 lv) := (hB.cell (p := ⟨w.heap.size, 1, none⟩) (by simp)).trans (one_box w _ _ 1)
  have hlt0 : w.heap.size < w1.heap.size := by have := hB.size; simp at this; omega
  have HB1 := Lib.hid (bel_alloc hB)
  clear hB
  go_wp2_with fail
  refine (bw_b (between_any A D n cn m cm v d s w1 (HV.out.below HB1.out) (HD.out.below HB1.out) HNM.out.1 HNM.out.2 IS.out)).mono ?_; rintro e w2 ⟨rfl, hB⟩
  have HB2 := Lib.hid (bel_trans HB1.out hB)
  replace k0 : w2.cell? ⟨w.heap.size, 0, none⟩ = some (.int .i64 s) := (hB.cell (p := ⟨w.heap.size, 0, none⟩) hlt0).trans k0
  replace k1 : w2.cell? ⟨w.heap.size, 1, none⟩ = some (.int .i64 lv) := (hB.cell (p := ⟨w.heap.size, 1, none⟩) hlt0).trans k1
  replace hlt0 : w.heap.size < w2.heap.size := Nat.lt_of_lt_of_le hlt0 hB.size
  clear hB
  go_wp2_with fail
  refine (rbetween_any A D n cn m cm v d s w2 (HV.out.below HB2.out) (HD.out.below HB2.out) HNM.out.1 HNM.out.2 IS.out).mono ?_; rintro e w3 ⟨rfl, hB⟩
  have HB3 := Lib.hid (bel_trans HB2.out hB)
  replace k0 : w3.cell? ⟨w.heap.size, 0, none⟩ = some (.int .i64 s) := (hB.cell (p := ⟨w.heap.size, 0, none⟩) hlt0).trans k0
  replace k1 : w3.cell? ⟨w.heap.size, 1, none⟩ = some (.int .i64 lv) := (hB.cell (p := ⟨w.heap.size, 1, none⟩) hlt0).trans k1
  replace hlt0 : w.heap.size < w3.heap.size := Nat.lt_of_lt_of_le hlt0 hB.size
  clear hB
  generalize Pf.bwV v d s = V1 at *
  generalize Pf.bwE v d s = E1 at *
  go_wp2_with fail
  refine (wh_det (xWhere A D n cn m cm v d lv w3 (HV.out.below HB3.out) (HD.out.below HB3.out) HNM.out.1 HNM.out.2)).mono ?_; rintro e w4 ⟨rfl, hB⟩
  have HB4 := Lib.hid (bel_trans HB3.out hB)
  replace k0 : w4.cell? ⟨w.heap.size, 0, none⟩ = some (.int .i64 s) := (hB.cell (p := ⟨w.heap.size, 0, none⟩) hlt0).trans k0
  replace k1 : w4.cell? ⟨w.heap.size, 1, none⟩ = some (.int .i64 lv) := (hB.cell (p := ⟨w.heap.size, 1, none⟩) hlt0).trans k1
  replace hlt0 : w.heap.size < w4.heap.size := Nat.lt_of_lt_of_le hlt0 hB.size
  clear hB
  go_wp2_with fail
  refine (wh_det (rWhere A D n cn m cm v d lv w4 (HV.out.below HB4.out) (HD.out.below HB4.out) HNM.out.1 HNM.out.2)).mono ?_; rintro e w5 ⟨rfl, hB⟩
  have HB5 := Lib.hid (bel_trans HB4.out hB)
  replace k0 : w5.cell? ⟨w.heap.size, 0, none⟩ = some (.int .i64 s) := (hB.cell (p := ⟨w.heap.size, 0, none⟩) hlt0).trans k0
  replace k1 : w5.cell? ⟨w.heap.size, 1, none⟩ = some (.int .i64 lv) := (hB.cell (p := ⟨w.heap.size, 1, none⟩) hlt0).trans k1
  replace hlt0 : w.heap.size < w5.heap.size := Nat.lt_of_lt_of_le hlt0 hB.size
  clear hB
  generalize whV v d lv = V2 at *
  generalize whE v d lv = E2 at *
  go_wp2_with fail
  go_ret
  exact ⟨ret_tt_ProfileBetween (by simp), HB5.out⟩
end Go.Proofs.Ytgmpaffoajmmmaa
namespace Go.Proofs.Ytgmpaffoajmmmaa.profileBetween
open Go.ChangeShapes Go.WideShapes Go.ChangeAt Go.RowKit
open Go.ChangeMaps (open_string shut_string)
set_option linter.unusedVariables false
set_option linter.unusedSimpArgs false

theorem own : ownKnob Try.prog.godebug = none := by kernel_rfl
theorem laidOut : laidOutB Try.prog = true := by kernel_rfl

set_option maxRecDepth 100000 in
theorem lifted (os : Os) (started : os.Started) (H : Type) (enc : TypeId × Value → H) :
    ReturnsInHanded {} Try.checked os 5 .any (Rows.profileBetweenSpec.pre6 enc Try.prog Try.f5 Rows.profileBetweenRow.domain false) (Rows.profileBetweenSpec.post enc Try.prog Try.f5 false true false false) := by
  refine returnsInHanded_of_change_sized (C := Try.checked) own started (by kernel_rfl) Try.func5
    (ChangeSpec.witness6 (enc := enc) (C := Try.checked) false ⟨#[], #[.slice none 0 0, .slice none 0 0, .agg #[.int .i64 0, .int .i64 0]], []⟩ 8 (by kernel_rfl) (by kernel_rfl) (by kernel_rfl) (by kernel_rfl)) ?_
  intro W base args ds gs before hval0 hW hcnd hsz0 _
  have hval : ∀ (j : Nat) t v, Try.f5.params[j]? = some t → args[j]? = some v → Value.okWide Try.prog W .any base t v := hval0
  have hW' := hW
  obtain ⟨p, q, hA0, hV, rfl, hfz, hnd⟩ := hW
  have hA : DataW.TrodAll enc Try.prog W 0 (fun _ => true) true Try.f5.params.toList args.toList ds p := hA0
  have hsz : (DataW.weightsEach Try.prog (Try.f5.params.toList ++ Rows.profileBetweenSpec.plain.varTypes Try.prog) (ds ++ gs)).all (· ≤ reachBytes) = true := hsz0
  rw [Try.params5] at hA hval hsz
  obtain ⟨v0, vs0, d0, ds0, p0, q0, hargs, rfl, rfl, h0, r0⟩ := trodAll_cons hA
  obtain ⟨v1, vs1, d1, ds1, p1, q1, rfl, rfl, rfl, h1, r1⟩ := trodAll_cons r0
  obtain ⟨v2, vs2, d2, ds2, p2, q2, rfl, rfl, rfl, h2, r2⟩ := trodAll_cons r1
  obtain ⟨rfl, rfl, rfl⟩ := trodAll_nil r2
  obtain rfl : args = #[v0, v1, v2] := by cases args; simp_all
  obtain ⟨rfl, rfl⟩ := trodVars_none hV
  have k0 := h0
  have lt0 : ∀ x ∈ p0, x.block < W.heap.size := by obtain ⟨m, hm⟩ := k0; exact DataW.trod_lt m _ _ _ hm
  have k1 := h1
  have lt1 : ∀ x ∈ p1, x.block < W.heap.size := by obtain ⟨m, hm⟩ := k1; exact DataW.trod_lt m _ _ _ hm
  have k2 := h2
  have lt2 : ∀ x ∈ p2, x.block < W.heap.size := by obtain ⟨m, hm⟩ := k2; exact DataW.trod_lt m _ _ _ hm
  obtain ⟨A0, n0, c0, z0, rfl, m0, qc0, w0, u0, o0⟩ := open_ints_Trod Try.underlying25 Try.underlying2 (by kernel_rfl) (hval 0 25 v0 rfl rfl) h0
  have o0' := o0 (weights_arg hsz (j := 0) rfl rfl)
  rw [show Try.prog.bytesOf 2 = 8 by kernel_rfl] at o0'
  obtain ⟨A1, n1, c1, z1, rfl, m1, qc1, w1, u1, o1⟩ := open_ints_Trod Try.underlying25 Try.underlying2 (by kernel_rfl) (hval 1 25 v1 rfl rfl) h1
  have o1' := o1 (weights_arg hsz (j := 1) rfl rfl)
  rw [show Try.prog.bytesOf 2 = 8 by kernel_rfl] at o1'
  obtain ⟨cs2, fu2, rfl, hh2⟩ := open_agg_list Try.underlying36 (hval 2 36 v2 rfl rfl) h2
  obtain ⟨e2_0, e2_1, rfl, g2_0, g2_1⟩ := el_spot _ _ _ hh2
  clear hA0 hval0
  refine (Ytgmpaffoajmmmaa.walk_ProfileBetween A0 n0 c0 z0 A1 n1 c1 z1 e2_0 e2_1 W w0 u0 m0 o0' w1 u1 m1 o1' g2_0 g2_1).mono fun e W' ⟨he, bel⟩ => ?_
  subst he
  exact ⟨_, rfl, _, _, _, [], _, [], hW', trodAll_mk1 (shut_bool Try.underlying4 _), (trodAll_cons_mk (Below.trod laidOut (by kernel_rfl) (of_decide_eq_true (by kernel_rfl)) k0 bel lt0) (trodAll_cons_mk (Below.trod laidOut (by kernel_rfl) (of_decide_eq_true (by kernel_rfl)) k1 bel lt1) (trodAll_cons_mk (Below.trod laidOut (by kernel_rfl) (of_decide_eq_true (by kernel_rfl)) k2 bel lt2) trodAll_mk0))), rfl, bel.frame _, fun h => by cases h⟩

theorem over : Rows.profileBetweenRow.holds Try.pinned (OpenSpec.ofChange Rows.profileBetweenSpec) :=
  OpenClaim.holds_of_wide 5 Try.f5 rfl rfl rfl rfl rfl rfl rfl ⟨rfl, rfl, rfl, rfl, rfl⟩ rfl rfl rfl rfl rfl (by kernel_rfl) Try.func5 (by kernel_rfl)
    (of_decide_eq_true (by kernel_rfl)) (by unfold Func.isWrapper; first | (rw [if_pos (by decide +kernel)]; kernel_rfl) | (rw [if_neg (by decide +kernel)]; exact ⟨rfl, rfl⟩))
    (fun os started H enc _ => lifted os started H enc)

/-- the statement -/
theorem proved : Rows.ProfileBetweenSaid := over
end Go.Proofs.Ytgmpaffoajmmmaa.profileBetween
