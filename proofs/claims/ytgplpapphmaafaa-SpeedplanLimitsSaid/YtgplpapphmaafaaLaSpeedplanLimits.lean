/- The statement SpeedplanLimits: for every input the law returns true, and every argument reads afterwards as before. No condition. -/
import Derived.Test.YtgplpapphmaafaaRows
import Derived.Test.YtgplpapphmaafaaLaBase35
import Derived.Test.YtgplpapphmaafaaSpL
import Derived.SizedLaws
import Derived.WalkKit
import Derived.ProofKit
import Derived.OpenShut
import Derived.ShutString
import Derived.ChangeOld
import Derived.Below
namespace Go.Proofs.Ytgplpapphmaafaa
set_option linter.unusedSimpArgs false
set_option linter.unusedVariables false
open Go.RowKit
theorem el_cap {H : Type} {enc : TypeId × Value → H} {w : World} {base : Nat} {spare : Nat → Bool} {held : Bool} (n : Nat) (cs : List Value) (y : DataW H × List MemPlace) (h : DataW.trod enc Try.prog w base spare held n 46 cs = some y) : ∃ a b, cs = [.int .i64 a, .int .i64 b] ∧ (Lit.int .i64 a).wf = true ∧ (Lit.int .i64 b).wf = true :=
  el_two Try.underlying46 Try.underlying2 rfl rfl rfl rfl (by kernel_rfl) (by kernel_rfl) h
open Sp
theorem ret_tt_SpeedplanLimits {b : Bool} (h : b = true) : Ending.returned (.bool b) = .returned (.bool true) := by rw [h]
set_option maxRecDepth 100000 in
set_option maxHeartbeats 4000000 in
theorem walk_SpeedplanLimits (A : Option Addr) (n cn : Nat) (zs : Cs.Wins) (B : Option Addr) (m cm : Nat) (al : List Int) (a s : Int) (w : World) (hw : Pairs w A n zs) (hzf : ∀ x ∈ zs, WinWf x) (hn : n ≤ maxLen) (hn8 : n * 16 ≤ reachBytes) (hcA : CapOk A n cn) (hal : Ints w B m al) (hfal : ∀ x ∈ al, (Lit.int .i64 x).wf = true) (hm : m ≤ maxLen) (h8m : m * 8 ≤ reachBytes) (haf : (Lit.int .i64 a).wf = true) (hsf : (Lit.int .i64 s).wf = true) :
    Calls Try.prog 9 #[.slice A n cn, .slice B m cm, .agg #[.int .i64 a, .int .i64 s]] w fun e w' => e = .returned (.bool true) ∧ Below w.heap.size w w' := by
  have HW := Lib.hid hw
  have HL := Lib.hid hal
  have HNM := Lib.hid (And.intro hn hm)
  have HCA := Lib.hid hcA
  clear hw hal hcA hzf hfal hn8 h8m hn hm haf hsf
  go_enter Try.func9, Try.ntmps9
  go_wp2_with fail
  refine (awake_any _).mono ?_; rintro e w1 ⟨rfl, hB⟩
  have k0 : w1.cell? ⟨w.heap.size, 0, none⟩ = some (.int .i64 a) := (hB.cell (p := ⟨w.heap.size, 0, none⟩) (by simp)).trans (one_box w _ _ 0)
  have k1 : w1.cell? ⟨w.heap.size, 1, none⟩ = some (.int .i64 s) := (hB.cell (p := ⟨w.heap.size, 1, none⟩) (by simp)).trans (one_box w _ _ 1)
  have hlt0 : w.heap.size < w1.heap.size := by have := hB.size; simp at this; omega
  have HB1 := Lib.hid (bel_alloc hB)
  clear hB
  go_wp2_with fail
  refine (xSpLimit A B n cn m cm zs al a s w1 (HW.out.below HB1.out) (HL.out.below HB1.out) HNM.out.1 HNM.out.2 HCA.out).mono ?_; rintro e w2 ⟨A1, c1, rfl, hI, hC, hB⟩
  have HB2 := Lib.hid (bel_trans HB1.out hB)
  replace k0 : w2.cell? ⟨w.heap.size, 0, none⟩ = some (.int .i64 a) := (hB.cell (p := ⟨w.heap.size, 0, none⟩) hlt0).trans k0
  replace k1 : w2.cell? ⟨w.heap.size, 1, none⟩ = some (.int .i64 s) := (hB.cell (p := ⟨w.heap.size, 1, none⟩) hlt0).trans k1
  replace hlt0 : w.heap.size < w2.heap.size := Nat.lt_of_lt_of_le hlt0 hB.size
  have P1 := Lib.hid hI
  clear hB hI
  clear hC
  obtain ⟨E, hE⟩ : ∃ E, liE zs al s = E := ⟨_, rfl⟩
  obtain ⟨nn, hnn⟩ : ∃ nn, okN (liE zs al s) n = nn := ⟨_, rfl⟩
  obtain ⟨ll, hll⟩ : ∃ ll, okL (liE zs al s) (liL zs al a s) = ll := ⟨_, rfl⟩
  have hnn2 : nn ≤ maxLen := by rw [← hnn]; exact okN_le HNM.out.1
  rw [hnn, hE]
  rw [hnn, hll] at P1
  have HEE := Lib.hid (And.intro hE (And.intro hnn hll))
  clear hE hnn hll
  go_wp2_with fail
  refine (rSpLimit A B n cn m cm zs al a s w2 (HW.out.below HB2.out) (HL.out.below HB2.out) HNM.out.1 HNM.out.2).mono ?_; rintro e w3 ⟨A2, c2, rfl, hI, hC, hB⟩
  have HB3 := Lib.hid (bel_trans HB2.out hB)
  replace P1 := Lib.hid (P1.out.below hB)
  replace k0 : w3.cell? ⟨w.heap.size, 0, none⟩ = some (.int .i64 a) := (hB.cell (p := ⟨w.heap.size, 0, none⟩) hlt0).trans k0
  replace k1 : w3.cell? ⟨w.heap.size, 1, none⟩ = some (.int .i64 s) := (hB.cell (p := ⟨w.heap.size, 1, none⟩) hlt0).trans k1
  replace hlt0 : w.heap.size < w3.heap.size := Nat.lt_of_lt_of_le hlt0 hB.size
  have P2 := Lib.hid hI
  clear hB hI
  clear hC
  rw [HEE.out.2.1, HEE.out.1]
  rw [HEE.out.2.1, HEE.out.2.2] at P2
  have hne1 : (E != E) = false := by simp
  have hne2 : ((nn : Int) != (nn : Int)) = false := by simp
  unfold maxLen at hnn2
  go_wp2_with fail
  go_loopw [46] (fun t wr => SmRel nn w3 t wr) (fun t _ => nn - (intOf t).toNat)
  case atStart => exact ⟨0, 0, by omega, rfl, rfl⟩
  case round =>
    obtain ⟨j, q, hj, rfl, hw⟩ := hrel
    have HWW := Lib.hid hw
    clear hw
    by_cases hlt : j < nn
    · obtain ⟨x, hx⟩ := get_ex P1.out.len hlt
      obtain ⟨ba, oa, rfl, hba, ca, da⟩ := P1.out.cell hx
      obtain ⟨bb, ob, rfl, hbb, cb, db⟩ := P2.out.cell hx
      have ca2 : wr.cell? ⟨ba, oa + j * 2, none⟩ = some (.int .i64 x.1) := by rw [HWW.out]; exact ca
      have cb2 : wr.cell? ⟨bb, ob + j * 2, none⟩ = some (.int .i64 x.1) := by rw [HWW.out]; exact cb
      have da2 : wr.cell? ⟨ba, oa + j * 2 + 1, none⟩ = some (.int .i64 x.2) := by rw [HWW.out]; exact da
      have db2 : wr.cell? ⟨bb, ob + j * 2 + 1, none⟩ = some (.int .i64 x.2) := by rw [HWW.out]; exact db
      have e0 : (0 : Int) ≤ (j : Int) := by omega
      have e1 : (j : Int) < (nn : Int) := by omega
      clear hx ca cb da db
      go_wp2_with fail
      go_quiet (fail)
      go_wp2_with fail
      go_roundw
      case rel => exact ⟨j + 1, q + nq, by omega, by go_num, by rw [HWW.out, World.drewN_drewN]⟩
      case measure => simp only [intOf]; omega
    · go_wp2_with fail
      go_ret
      exact ⟨ret_tt_SpeedplanLimits (by simp), by rw [HWW.out]; exact below_drewN HB3.out q⟩
end Go.Proofs.Ytgplpapphmaafaa
namespace Go.Proofs.Ytgplpapphmaafaa.speedplanLimits
open Go.ChangeShapes Go.WideShapes Go.ChangeAt Go.RowKit
open Go.ChangeMaps (open_string shut_string)
set_option linter.unusedVariables false
set_option linter.unusedSimpArgs false

theorem own : ownKnob Try.prog.godebug = none := by kernel_rfl
theorem laidOut : laidOutB Try.prog = true := by kernel_rfl

set_option maxRecDepth 100000 in
theorem lifted (os : Os) (started : os.Started) (H : Type) (enc : TypeId × Value → H) :
    ReturnsInHanded {} Try.checked os 9 .any (Rows.speedplanLimitsSpec.pre6 enc Try.prog Try.f9 Rows.speedplanLimitsRow.domain false) (Rows.speedplanLimitsSpec.post enc Try.prog Try.f9 false true false false) := by
  refine returnsInHanded_of_change_sized (C := Try.checked) own started (by kernel_rfl) Try.func9
    (ChangeSpec.witness6 (enc := enc) (C := Try.checked) false ⟨#[], #[.slice none 0 0, .slice none 0 0, .agg #[.int .i64 0, .int .i64 0]], []⟩ 8 (by kernel_rfl) (by kernel_rfl) (by kernel_rfl) (by kernel_rfl)) ?_
  intro W base args ds gs before hval0 hW hcnd hsz0 _
  have hval : ∀ (j : Nat) t v, Try.f9.params[j]? = some t → args[j]? = some v → Value.okWide Try.prog W .any base t v := hval0
  have hW' := hW
  obtain ⟨p, q, hA0, hV, rfl, hfz, hnd⟩ := hW
  have hA : DataW.TrodAll enc Try.prog W 0 (fun _ => true) true Try.f9.params.toList args.toList ds p := hA0
  have hsz : (DataW.weightsEach Try.prog (Try.f9.params.toList ++ Rows.speedplanLimitsSpec.plain.varTypes Try.prog) (ds ++ gs)).all (· ≤ reachBytes) = true := hsz0
  rw [Try.params9] at hA hval hsz
  obtain ⟨v0, vs0, d0, ds0, p0, q0, hargs, rfl, rfl, h0, r0⟩ := trodAll_cons hA
  obtain ⟨v1, vs1, d1, ds1, p1, q1, rfl, rfl, rfl, h1, r1⟩ := trodAll_cons r0
  obtain ⟨v2, vs2, d2, ds2, p2, q2, rfl, rfl, rfl, h2, r2⟩ := trodAll_cons r1
  obtain ⟨rfl, rfl, rfl⟩ := trodAll_nil r2
  obtain rfl : args = #[v0, v1, v2] := by cases args; simp_all
  obtain ⟨rfl, rfl⟩ := trodVars_none hV
  have k0 := h0
  have lt0 : ∀ x ∈ p0, x.block < W.heap.size := by obtain ⟨m, hm⟩ := k0; exact DataW.trod_lt m _ _ _ hm
  have k1 := h1
  have lt1 : ∀ x ∈ p1, x.block < W.heap.size := by obtain ⟨m, hm⟩ := k1; exact DataW.trod_lt m _ _ _ hm
  have k2 := h2
  have lt2 : ∀ x ∈ p2, x.block < W.heap.size := by obtain ⟨m, hm⟩ := k2; exact DataW.trod_lt m _ _ _ hm
  obtain ⟨A0, n0, c0, z0, rfl, m0, qc0, w0, u0, o0⟩ := open_recs_Trod win 2 (by decide) (fun _ => rfl) WinWf Try.underlying34 (by kernel_rfl) el_win (hval 0 34 v0 rfl rfl) h0
  have o0' := o0 (weights_arg hsz (j := 0) rfl rfl)
  rw [show Try.prog.bytesOf 42 = 16 by kernel_rfl] at o0'
  obtain ⟨A1, n1, c1, z1, rfl, m1, qc1, w1, u1, o1⟩ := open_ints_Trod Try.underlying22 Try.underlying2 (by kernel_rfl) (hval 1 22 v1 rfl rfl) h1
  have o1' := o1 (weights_arg hsz (j := 1) rfl rfl)
  rw [show Try.prog.bytesOf 2 = 8 by kernel_rfl] at o1'
  obtain ⟨cs2, fu2, rfl, hh2⟩ := open_agg_list Try.underlying46 (hval 2 46 v2 rfl rfl) h2
  obtain ⟨e2_0, e2_1, rfl, g2_0, g2_1⟩ := el_cap _ _ _ hh2
  clear hA0 hval0
  refine (Ytgplpapphmaafaa.walk_SpeedplanLimits A0 n0 c0 z0 A1 n1 c1 z1 e2_0 e2_1 W w0 u0 m0 o0' qc0 w1 u1 m1 o1' g2_0 g2_1).mono fun e W' ⟨he, bel⟩ => ?_
  subst he
  exact ⟨_, rfl, _, _, _, [], _, [], hW', trodAll_mk1 (shut_bool Try.underlying4 _), (trodAll_cons_mk (Below.trod laidOut (by kernel_rfl) (of_decide_eq_true (by kernel_rfl)) k0 bel lt0) (trodAll_cons_mk (Below.trod laidOut (by kernel_rfl) (of_decide_eq_true (by kernel_rfl)) k1 bel lt1) (trodAll_cons_mk (Below.trod laidOut (by kernel_rfl) (of_decide_eq_true (by kernel_rfl)) k2 bel lt2) trodAll_mk0))), rfl, bel.frame _, fun h => by cases h⟩

theorem over : Rows.speedplanLimitsRow.holds Try.pinned (OpenSpec.ofChange Rows.speedplanLimitsSpec) :=
  OpenClaim.holds_of_wide 9 Try.f9 rfl rfl rfl rfl rfl rfl rfl ⟨rfl, rfl, rfl, rfl, rfl⟩ rfl rfl rfl rfl rfl (by kernel_rfl) Try.func9 (by kernel_rfl)
    (of_decide_eq_true (by kernel_rfl)) (by unfold Func.isWrapper; first | (rw [if_pos (by decide +kernel)]; kernel_rfl) | (rw [if_neg (by decide +kernel)]; exact ⟨rfl, rfl⟩))
    (fun os started H enc _ => lifted os started H enc)

/-- the statement -/
theorem proved : Rows.SpeedplanLimitsSaid := over
end Go.Proofs.Ytgplpapphmaafaa.speedplanLimits
