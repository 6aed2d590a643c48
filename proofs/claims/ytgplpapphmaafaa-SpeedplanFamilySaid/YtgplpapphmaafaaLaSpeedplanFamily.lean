/- The statement SpeedplanFamily: for every input the law returns true, and every argument reads afterwards as before. No condition. -/
import Derived.Test.YtgplpapphmaafaaRows
import Derived.Test.YtgplpapphmaafaaLaBase35
import Derived.SizedLaws
import Derived.WalkKit
import Derived.ProofKit
import Derived.OpenShut
import Derived.ShutString
import Derived.ChangeOld
import Derived.Below
namespace Go.Proofs.Ytgplpapphmaafaa
set_option linter.unusedSimpArgs false
set_option linter.unusedVariables false
open Go.RowKit Sp
theorem ret_tt_SpeedplanFamily {b : Bool} (h : b = true) : Ending.returned (.bool b) = .returned (.bool true) := by rw [h]
set_option maxRecDepth 100000 in
set_option maxHeartbeats 4000000 in
theorem walk_SpeedplanFamily (A : Option Addr) (n cn : Nat) (zs : Cs.Wins) (S : Option Addr) (m cm : Nat) (ys : Cs.Wins) (k0 : Int) (w : World) (hw : Pairs w A n zs) (hzf : ∀ x ∈ zs, WinWf x) (hn : n ≤ maxLen) (hn8 : n * 16 ≤ reachBytes) (hcA : CapOk A n cn) (hs : Pairs w S m ys) (hyf : ∀ x ∈ ys, WinWf x) (hm : m ≤ maxLen) (hm8 : m * 16 ≤ reachBytes) (hcS : CapOk S m cm) (hkf : (Lit.int .i64 k0).wf = true) :
    Calls Try.prog 5 #[.slice A n cn, .slice S m cm, .int .i64 k0] w fun e w' => e = .returned (.bool true) ∧ Below w.heap.size w w' := by
  have HW := Lib.hid hw
  have HS := Lib.hid hs
  have HNM := Lib.hid (And.intro hn hm)
  have HCS := Lib.hid hcS
  clear hw hs hcA hcS hzf hyf hn8 hm8 hn hm hkf
  go_enter Try.func5, Try.ntmps5
  go_wp2_with fail
  refine (awake_any _).mono ?_; rintro e w1 ⟨rfl, hB⟩
  have HB1 := Lib.hid (bel_trans (Below.refl _ w) hB)
  clear hB
  go_wp2_with fail
  refine (xSpFamily A S n cn m cm zs ys k0 w1 (HW.out.below HB1.out) (HS.out.below HB1.out) HNM.out.1 HNM.out.2 HCS.out.le HCS.out.mx).mono ?_; rintro e w2 ⟨A1, c1, rfl, hI, hB⟩
  have HB2 := Lib.hid (bel_trans HB1.out hB)
  have I1 := Lib.hid hI
  clear hB hI
  obtain ⟨E, hE⟩ : ∃ E, faE zs ys k0 = E := ⟨_, rfl⟩
  obtain ⟨nn, hnn⟩ : ∃ nn, okN (faE zs ys k0) n = nn := ⟨_, rfl⟩
  obtain ⟨ll, hll⟩ : ∃ ll, okL (faE zs ys k0) (faL zs ys k0) = ll := ⟨_, rfl⟩
  have hnn2 : nn ≤ maxLen := by rw [← hnn]; exact okN_le HNM.out.1
  rw [hnn, hE]
  rw [hnn, hll] at I1
  have HEE := Lib.hid (And.intro hE (And.intro hnn hll))
  clear hE hnn hll
  go_wp2_with fail
  refine (rSpFamily A S n cn m cm zs ys k0 w2 (HW.out.below HB2.out) (HS.out.below HB2.out) HNM.out.1 HNM.out.2 HCS.out.le HCS.out.mx).mono ?_; rintro e w3 ⟨A2, c2, rfl, hI, hB⟩
  have HB3 := Lib.hid (bel_trans HB2.out hB)
  replace I1 := Lib.hid (I1.out.below hB)
  have I2 := Lib.hid hI
  clear hB hI
  rw [HEE.out.2.1, HEE.out.1]
  rw [HEE.out.2.1, HEE.out.2.2] at I2
  go_wp2_with fail
  refine (xSpSpan A S n cn m cm zs ys w3 (HW.out.below HB3.out) (HS.out.below HB3.out) HNM.out.1 HNM.out.2 HCS.out.le HCS.out.mx).mono ?_; rintro e w4 ⟨rfl, hB⟩
  have HB4 := Lib.hid (bel_trans HB3.out hB)
  replace I1 := Lib.hid (I1.out.below hB)
  replace I2 := Lib.hid (I2.out.below hB)
  clear hB
  go_wp2_with fail
  refine (rSpSpan A S n cn m cm zs ys w4 (HW.out.below HB4.out) (HS.out.below HB4.out) HNM.out.1 HNM.out.2 HCS.out.le HCS.out.mx).mono ?_; rintro e w5 ⟨rfl, hB⟩
  have HB5 := Lib.hid (bel_trans HB4.out hB)
  replace I1 := Lib.hid (I1.out.below hB)
  replace I2 := Lib.hid (I2.out.below hB)
  clear hB
  generalize okI (spE zs ys) (spV zs ys) = V1 at *
  generalize spE zs ys = E1 at *
  go_wp2_with fail
  refine (same_yes A1 A2 nn c1 c2 ll _ I1.out I2.out hnn2).mono ?_; rintro e w' ⟨rfl, q6, rfl⟩
  have HB6 := Lib.hid (below_drewN HB5.out q6)
  replace I1 := Lib.hid (I1.out.below (below_drewN (Below.refl _ w5) q6))
  replace I2 := Lib.hid (I2.out.below (below_drewN (Below.refl _ w5) q6))
  generalize w5.drewN q6 = w6 at *
  go_wp2_with fail
  go_ret
  exact ⟨ret_tt_SpeedplanFamily (by simp), HB6.out⟩
end Go.Proofs.Ytgplpapphmaafaa
namespace Go.Proofs.Ytgplpapphmaafaa.speedplanFamily
open Go.ChangeShapes Go.WideShapes Go.ChangeAt Go.RowKit
open Go.ChangeMaps (open_string shut_string)
set_option linter.unusedVariables false
set_option linter.unusedSimpArgs false

theorem own : ownKnob Try.prog.godebug = none := by kernel_rfl
theorem laidOut : laidOutB Try.prog = true := by kernel_rfl

set_option maxRecDepth 100000 in
theorem lifted (os : Os) (started : os.Started) (H : Type) (enc : TypeId × Value → H) :
    ReturnsInHanded {} Try.checked os 5 .any (Rows.speedplanFamilySpec.pre6 enc Try.prog Try.f5 Rows.speedplanFamilyRow.domain false) (Rows.speedplanFamilySpec.post enc Try.prog Try.f5 false true false false) := by
  refine returnsInHanded_of_change_sized (C := Try.checked) own started (by kernel_rfl) Try.func5
    (ChangeSpec.witness6 (enc := enc) (C := Try.checked) false ⟨#[], #[.slice none 0 0, .slice none 0 0, .int .i64 0], []⟩ 8 (by kernel_rfl) (by kernel_rfl) (by kernel_rfl) (by kernel_rfl)) ?_
  intro W base args ds gs before hval0 hW hcnd hsz0 _
  have hval : ∀ (j : Nat) t v, Try.f5.params[j]? = some t → args[j]? = some v → Value.okWide Try.prog W .any base t v := hval0
  have hW' := hW
  obtain ⟨p, q, hA0, hV, rfl, hfz, hnd⟩ := hW
  have hA : DataW.TrodAll enc Try.prog W 0 (fun _ => true) true Try.f5.params.toList args.toList ds p := hA0
  have hsz : (DataW.weightsEach Try.prog (Try.f5.params.toList ++ Rows.speedplanFamilySpec.plain.varTypes Try.prog) (ds ++ gs)).all (· ≤ reachBytes) = true := hsz0
  rw [Try.params5] at hA hval hsz
  obtain ⟨v0, vs0, d0, ds0, p0, q0, hargs, rfl, rfl, h0, r0⟩ := trodAll_cons hA
  obtain ⟨v1, vs1, d1, ds1, p1, q1, rfl, rfl, rfl, h1, r1⟩ := trodAll_cons r0
  obtain ⟨v2, vs2, d2, ds2, p2, q2, rfl, rfl, rfl, h2, r2⟩ := trodAll_cons r1
  obtain ⟨rfl, rfl, rfl⟩ := trodAll_nil r2
  obtain rfl : args = #[v0, v1, v2] := by cases args; simp_all
  obtain ⟨rfl, rfl⟩ := trodVars_none hV
  have k0 := h0
  have lt0 : ∀ x ∈ p0, x.block < W.heap.size := by obtain ⟨m, hm⟩ := k0; exact DataW.trod_lt m _ _ _ hm
  have k1 := h1
  have lt1 : ∀ x ∈ p1, x.block < W.heap.size := by obtain ⟨m, hm⟩ := k1; exact DataW.trod_lt m _ _ _ hm
  have k2 := h2
  have lt2 : ∀ x ∈ p2, x.block < W.heap.size := by obtain ⟨m, hm⟩ := k2; exact DataW.trod_lt m _ _ _ hm
  obtain ⟨A0, n0, c0, z0, rfl, m0, qc0, w0, u0, o0⟩ := open_recs_Trod win 2 (by decide) (fun _ => rfl) WinWf Try.underlying34 (by kernel_rfl) el_win (hval 0 34 v0 rfl rfl) h0
  have o0' := o0 (weights_arg hsz (j := 0) rfl rfl)
  rw [show Try.prog.bytesOf 42 = 16 by kernel_rfl] at o0'
  obtain ⟨A1, n1, c1, z1, rfl, m1, qc1, w1, u1, o1⟩ := open_recs_Trod win 2 (by decide) (fun _ => rfl) WinWf Try.underlying25 (by kernel_rfl) el_step (hval 1 25 v1 rfl rfl) h1
  have o1' := o1 (weights_arg hsz (j := 1) rfl rfl)
  rw [show Try.prog.bytesOf 52 = 16 by kernel_rfl] at o1'
  obtain ⟨a2, rfl, rfl, rfl, w2⟩ := open_int Try.underlying2 (hval 2 2 v2 rfl rfl) h2
  clear hA0 hval0
  refine (Ytgplpapphmaafaa.walk_SpeedplanFamily A0 n0 c0 z0 A1 n1 c1 z1 a2 W w0 u0 m0 o0' qc0 w1 u1 m1 o1' qc1 w2).mono fun e W' ⟨he, bel⟩ => ?_
  subst he
  exact ⟨_, rfl, _, _, _, [], _, [], hW', trodAll_mk1 (shut_bool Try.underlying4 _), (trodAll_cons_mk (Below.trod laidOut (by kernel_rfl) (of_decide_eq_true (by kernel_rfl)) k0 bel lt0) (trodAll_cons_mk (Below.trod laidOut (by kernel_rfl) (of_decide_eq_true (by kernel_rfl)) k1 bel lt1) (trodAll_cons_mk (Below.trod laidOut (by kernel_rfl) (of_decide_eq_true (by kernel_rfl)) k2 bel lt2) trodAll_mk0))), rfl, bel.frame _, fun h => by cases h⟩

theorem over : Rows.speedplanFamilyRow.holds Try.pinned (OpenSpec.ofChange Rows.speedplanFamilySpec) :=
  OpenClaim.holds_of_wide 5 Try.f5 rfl rfl rfl rfl rfl rfl rfl ⟨rfl, rfl, rfl, rfl, rfl⟩ rfl rfl rfl rfl rfl (by kernel_rfl) Try.func5 (by kernel_rfl)
    (of_decide_eq_true (by kernel_rfl)) (by unfold Func.isWrapper; first | (rw [if_pos (by decide +kernel)]; kernel_rfl) | (rw [if_neg (by decide +kernel)]; exact ⟨rfl, rfl⟩))
    (fun os started H enc _ => lifted os started H enc)

/-- the statement -/
theorem proved : Rows.SpeedplanFamilySaid := over
end Go.Proofs.Ytgplpapphmaafaa.speedplanFamily
