/- The statement ProfileCruise: for every input the law returns true, and every argument reads afterwards as before. No condition. -/
import Derived.Test.YtgmpaffoajmmmaaRows
import Derived.Test.YtgmpaffoajmmmaaLaLevel
import Derived.SizedLaws
import Derived.WalkKit
import Derived.ProofKit
import Derived.OpenShut
import Derived.ShutString
import Derived.ChangeOld
import Derived.Below
namespace Go.Proofs.Ytgmpaffoajmmmaa
set_option linter.unusedSimpArgs false
set_option linter.unusedVariables false
open Go.RowKit
theorem ret_tt_ProfileCruise {b : Bool} (h : b = true) : Ending.returned (.bool b) = .returned (.bool true) := by rw [h]
set_option maxRecDepth 100000 in
set_option maxHeartbeats 4000000 in
theorem walk_ProfileCruise (A : Option Addr) (n cn : Nat) (zs : Cs.Wins) (S : Option Addr) (m cm : Nat) (ys : Cs.Wins) (V : Option Addr) (nv cv : Nat) (vs : List Int) (lv : Int) (w : World) (hw : Pairs w A n zs) (hzf : ∀ x ∈ zs, WinWf x) (hn : n ≤ maxLen) (hn8 : n * 16 ≤ reachBytes) (hcA : CapOk A n cn) (hs : Pairs w S m ys) (hyf : ∀ x ∈ ys, WinWf x) (hm : m ≤ maxLen) (hm8 : m * 16 ≤ reachBytes) (hcS : CapOk S m cm) (hv1 : nv ≤ maxLen) (hv : Ints w V nv vs) (hvf : ∀ x ∈ vs, (Lit.int .i64 x).wf = true) (hlf : (Lit.int .i64 lv).wf = true) :
    Calls Try.prog 10 #[.slice A n cn, .slice S m cm, .agg #[.slice V nv cv, .int .i64 lv]] w fun e w' => e = .returned (.bool true) ∧ Below w.heap.size w w' := by
  have HW := Lib.hid hw
  have HS := Lib.hid hs
  have HV := Lib.hid hv
  have HNM := Lib.hid (And.intro hn (And.intro hm hv1))
  have HCA := Lib.hid hcA
  have HCS := Lib.hid hcS
  have HLV := Lib.hid hv.len
  have HLW := Lib.hid hw.len
  unfold reachBytes at hn8 hm8
  unfold maxLen at hn hm hv1
  have ilv := wf_i64_bd hlf
  obtain ⟨lv0, lv1⟩ := ilv
  have n43 : n ≤ 8796093022208 := by omega
  clear hw hs hv hcA hcS hzf hyf hlf hvf hn8 hm8
  by_cases he : crE zs ys lv = 0
  · have HE := Lib.hid he
    obtain ⟨CV, hCV⟩ : ∃ CV, crV zs ys lv = CV := ⟨_, rfl⟩
    have HCV := Lib.hid hCV
    have HME := Lib.hid (show Meet zs ys CV by rw [← hCV]; exact (crV_best he).1)
    obtain ⟨FI, hFI⟩ : ∃ FI, (scn (crV zs ys lv) lv zs.length).1 = FI := ⟨_, rfl⟩
    obtain ⟨LA, hLA⟩ : ∃ LA, (scn (crV zs ys lv) lv zs.length).2 = LA := ⟨_, rfl⟩
    have HFL := Lib.hid (And.intro hFI hLA)
    have HON := Lib.hid (show okN (crE zs ys lv) n = n ∧ okI (crE zs ys lv) (scn (crV zs ys lv) lv n).1 = FI ∧ okI (crE zs ys lv) (scn (crV zs ys lv) lv n).2 = LA by unfold okN okI; rw [if_pos he, if_pos he, if_pos he, ← HLW.out]; exact ⟨rfl, hFI, hLA⟩)
    have HOL := Lib.hid (show okL (crE zs ys lv) (crV zs ys lv) = CV by unfold okL; rw [if_pos he]; exact hCV)
    clear he hCV hFI hLA
    go_enter Try.func10, Try.ntmps10
    go_wp2_with fail
    refine (awake_any _).mono ?_; rintro e w1 ⟨rfl, hB⟩
    have k0 : w1.cell? ⟨w.heap.size, 0, none⟩ = some (.slice V nv cv) := (hB.cell (p := ⟨w.heap.size, 0, none⟩) (by simp)).trans (one_box w _ _ 0)
    have k1 : w1.cell? ⟨w.heap.size, 1, none⟩ = some (.int .i64 lv) := (hB.cell (p := ⟨w.heap.size, 1, none⟩) (by simp)).trans (one_box w _ _ 1)
    have hlt0 : w.heap.size < w1.heap.size := by have := hB.size; simp at this; omega
    have HB1 := Lib.hid (bel_alloc hB)
    clear hB
    go_wp2_with fail
    refine (cr_any (xCruise A S n cn m cm zs ys lv w1 (HW.out.below HB1.out) (HS.out.below HB1.out) n43 HNM.out.2.1 HCS.out.le HCS.out.mx HCA.out.nil)).mono ?_; rintro e w2 ⟨A1, c1, rfl, hI, hB⟩
    have I1 := Lib.hid hI
    have HB2 := Lib.hid (bel_trans HB1.out hB)
    replace k0 : w2.cell? ⟨w.heap.size, 0, none⟩ = some (.slice V nv cv) := (hB.cell (p := ⟨w.heap.size, 0, none⟩) hlt0).trans k0
    replace k1 : w2.cell? ⟨w.heap.size, 1, none⟩ = some (.int .i64 lv) := (hB.cell (p := ⟨w.heap.size, 1, none⟩) hlt0).trans k1
    replace hlt0 : w.heap.size < w2.heap.size := Nat.lt_of_lt_of_le hlt0 hB.size
    clear hB hI
    rw [HON.out.1, HON.out.2.1, HON.out.2.2, HE.out]
    rw [HON.out.1, HOL.out] at I1
    go_wp2_with fail
    refine (mt_any (xMeets A S V n cn m cm nv cv zs ys vs w2 (HW.out.below HB2.out) (HS.out.below HB2.out) (HV.out.below HB2.out) HNM.out.1 HNM.out.2.1 HNM.out.2.2)).mono ?_; rintro e w3 ⟨rfl, hB⟩
    have HB3 := Lib.hid (bel_trans HB2.out hB)
    replace I1 := Lib.hid (I1.out.below hB)
    replace k0 : w3.cell? ⟨w.heap.size, 0, none⟩ = some (.slice V nv cv) := (hB.cell (p := ⟨w.heap.size, 0, none⟩) hlt0).trans k0
    replace k1 : w3.cell? ⟨w.heap.size, 1, none⟩ = some (.int .i64 lv) := (hB.cell (p := ⟨w.heap.size, 1, none⟩) hlt0).trans k1
    replace hlt0 : w.heap.size < w3.heap.size := Nat.lt_of_lt_of_le hlt0 hB.size
    clear hB
    generalize hM : meetB zs ys vs = M at *
    have HM := Lib.hid hM
    clear hM
    go_wp2_with fail
    go_loop [11, 36] (fun b t => McRel M vs lv nv b t) (fun _ t => nv - (intOf t).toNat)
    case atStart => exact ⟨0, by omega, rfl, rfl⟩
    case round =>
      obtain ⟨k, hk, rfl, rfl⟩ := hrel
      by_cases hlt : k < nv
      · obtain ⟨x, hx⟩ := get_ex HLV.out hlt
        obtain ⟨bv, ov, rfl, hbv, cx0⟩ := HV.out.cell hx
        have cx := (HB3.out.cell (p := ⟨bv, ov + k, none⟩) hbv).trans cx0
        have HX := Lib.hid (getD_of hx)
        clear hx cx0
        have HST := Lib.hid (show mB M vs lv (k + 1) = (mB M vs lv k && decide (x ≤ lv)) by show (mB M vs lv k && decide (vs.getD k 0 ≤ lv)) = _; rw [HX.out])
        generalize mB M vs lv k = Bk at *
        cases Bk with
        | true =>
          go_wp2_with fail
          go_round
          case rel => exact ⟨k + 1, by omega, by go_num, by rw [HST.out]; simp⟩
          case measure => simp only [intOf]; omega
        | false =>
          go_wp2_with fail
          go_round
          case rel => exact ⟨k + 1, by omega, by go_num, by rw [HST.out]; simp⟩
          case measure => simp only [intOf]; omega
      · have HK := Lib.hid (show k = nv by omega)
        have HMB := Lib.hid (show mB M vs lv k = true ↔ Meet zs ys vs ∧ ∀ x ∈ vs, x ≤ lv by rw [HK.out, ← HLV.out, mB_all, ← HM.out, meetB_yes])
        generalize mB M vs lv k = MB at *
        cases MB with
        | false =>
          go_wp2_with fail
          refine (mt_is HME.out (xMeets A S A1 n cn m cm n c1 zs ys CV w3 (HW.out.below HB3.out) (HS.out.below HB3.out) I1.out HNM.out.1 HNM.out.2.1 HNM.out.1)).mono ?_; rintro e w4 ⟨rfl, hB⟩
          have HB4 := Lib.hid (bel_trans HB3.out hB)
          clear hB
          go_wp2_with fail
          go_ret
          exact ⟨ret_tt_ProfileCruise (by simp), HB4.out⟩
        | true =>
          have HMV := Lib.hid (HMB.out.1 rfl)
          have HNV := Lib.hid (show nv = n by have := HMV.out.1.2.1; have := HLV.out; have := HLW.out; omega)
          go_wp2_with fail
          refine (mt_is HME.out (xMeets A S A1 n cn m cm n c1 zs ys CV w3 (HW.out.below HB3.out) (HS.out.below HB3.out) I1.out HNM.out.1 HNM.out.2.1 HNM.out.1)).mono ?_; rintro e w4 ⟨rfl, hB⟩
          have HB4 := Lib.hid (bel_trans HB3.out hB)
          replace I1 := Lib.hid (I1.out.below hB)
          replace k0 : w4.cell? ⟨w.heap.size, 0, none⟩ = some (.slice V nv cv) := (hB.cell (p := ⟨w.heap.size, 0, none⟩) hlt0).trans k0
          replace k1 : w4.cell? ⟨w.heap.size, 1, none⟩ = some (.int .i64 lv) := (hB.cell (p := ⟨w.heap.size, 1, none⟩) hlt0).trans k1
          replace hlt0 : w.heap.size < w4.heap.size := Nat.lt_of_lt_of_le hlt0 hB.size
          clear hB
          go_wp2_with fail
          go_loop [89] (fun t => CnRel nv t) (fun t => nv - (intOf t).toNat)
          case atStart => exact ⟨0, by omega, rfl⟩
          case round =>
            obtain ⟨q, hq, rfl⟩ := hrel
            by_cases hlt : q < nv
            · have hqn : q < n := by have := HNV.out; omega
              obtain ⟨x, hx⟩ := get_ex HLV.out hlt
              obtain ⟨y, hy⟩ := get_ex (l := CV) I1.out.len hqn
              obtain ⟨bv, ov, rfl, hbv, cx0⟩ := HV.out.cell hx
              obtain ⟨b1, o1, rfl, hb1, cy⟩ := I1.out.cell hy
              have cx := (HB4.out.cell (p := ⟨bv, ov + q, none⟩) hbv).trans cx0
              have hzq : q < zs.length := by have := HLW.out; omega
              have hxy := (crV_best HE.out).2.2 vs HMV.out.1 HMV.out.2 q hzq
              rw [HCV.out, getD_of hx, getD_of hy] at hxy
              have hat := fun (h : x = lv) => cr_at HE.out HMV.out.1 HMV.out.2 hzq (show vs.getD q 0 = lv by rw [getD_of hx]; exact h)
              rw [HFL.out.1, HFL.out.2] at hat
              have hnxy : ¬ y < x := by omega
              by_cases hxl : x = lv
              · obtain ⟨f0, f1, f2⟩ := hat hxl
                have hxe : (x == lv) = true := beq_iff_eq.2 hxl
                have f3 : ¬ FI < 0 := by omega
                have f4 : ¬ (q : Int) < FI := by omega
                have f5 : ¬ LA < (q : Int) := by omega
                clear hxl hat hx hy cx0
                go_wp2_with fail
                go_round
                case rel => exact ⟨q + 1, by omega, by go_num⟩
                case measure => simp only [intOf]; omega
              · have hxe : (x == lv) = false := beq_eq_false_iff_ne.2 hxl
                clear hxl hat hx hy cx0
                go_wp2_with fail
                go_round
                case rel => exact ⟨q + 1, by omega, by go_num⟩
                case measure => simp only [intOf]; omega
            · go_wp2_with fail
              go_ret
              exact ⟨ret_tt_ProfileCruise (by simp), HB4.out⟩
  · have HERR := Lib.hid (show Meet zs ys vs → (∀ x ∈ vs, x ≤ lv) → ¬ Pf.inB lv from fun h1 h2 h3 => he (cr_err h1 h2 h3))
    have hne : (crE zs ys lv != 0) = true := by rw [bne_iff_ne]; exact he
    have HON := Lib.hid (show okN (crE zs ys lv) n = 0 ∧ okI (crE zs ys lv) (scn (crV zs ys lv) lv n).1 = 0 ∧ okI (crE zs ys lv) (scn (crV zs ys lv) lv n).2 = 0 by unfold okN okI; rw [if_neg he, if_neg he, if_neg he]; exact ⟨rfl, rfl, rfl⟩)
    clear he
    go_enter Try.func10, Try.ntmps10
    go_wp2_with fail
    refine (awake_any _).mono ?_; rintro e w1 ⟨rfl, hB⟩
    have k0 : w1.cell? ⟨w.heap.size, 0, none⟩ = some (.slice V nv cv) := (hB.cell (p := ⟨w.heap.size, 0, none⟩) (by simp)).trans (one_box w _ _ 0)
    have k1 : w1.cell? ⟨w.heap.size, 1, none⟩ = some (.int .i64 lv) := (hB.cell (p := ⟨w.heap.size, 1, none⟩) (by simp)).trans (one_box w _ _ 1)
    have hlt0 : w.heap.size < w1.heap.size := by have := hB.size; simp at this; omega
    have HB1 := Lib.hid (bel_alloc hB)
    clear hB
    go_wp2_with fail
    refine (cr_any (xCruise A S n cn m cm zs ys lv w1 (HW.out.below HB1.out) (HS.out.below HB1.out) n43 HNM.out.2.1 HCS.out.le HCS.out.mx HCA.out.nil)).mono ?_; rintro e w2 ⟨A1, c1, rfl, hI, hB⟩
    have I1 := Lib.hid hI
    have HB2 := Lib.hid (bel_trans HB1.out hB)
    replace k0 : w2.cell? ⟨w.heap.size, 0, none⟩ = some (.slice V nv cv) := (hB.cell (p := ⟨w.heap.size, 0, none⟩) hlt0).trans k0
    replace k1 : w2.cell? ⟨w.heap.size, 1, none⟩ = some (.int .i64 lv) := (hB.cell (p := ⟨w.heap.size, 1, none⟩) hlt0).trans k1
    replace hlt0 : w.heap.size < w2.heap.size := Nat.lt_of_lt_of_le hlt0 hB.size
    clear hB hI
    rw [HON.out.1, HON.out.2.1, HON.out.2.2]
    rw [HON.out.1] at I1
    generalize crE zs ys lv = E at *
    go_wp2_with fail
    refine (mt_any (xMeets A S V n cn m cm nv cv zs ys vs w2 (HW.out.below HB2.out) (HS.out.below HB2.out) (HV.out.below HB2.out) HNM.out.1 HNM.out.2.1 HNM.out.2.2)).mono ?_; rintro e w3 ⟨rfl, hB⟩
    have HB3 := Lib.hid (bel_trans HB2.out hB)
    replace I1 := Lib.hid (I1.out.below hB)
    replace k0 : w3.cell? ⟨w.heap.size, 0, none⟩ = some (.slice V nv cv) := (hB.cell (p := ⟨w.heap.size, 0, none⟩) hlt0).trans k0
    replace k1 : w3.cell? ⟨w.heap.size, 1, none⟩ = some (.int .i64 lv) := (hB.cell (p := ⟨w.heap.size, 1, none⟩) hlt0).trans k1
    replace hlt0 : w.heap.size < w3.heap.size := Nat.lt_of_lt_of_le hlt0 hB.size
    clear hB
    generalize hM : meetB zs ys vs = M at *
    have HM := Lib.hid hM
    clear hM
    go_wp2_with fail
    go_loop [11, 36] (fun b t => McRel M vs lv nv b t) (fun _ t => nv - (intOf t).toNat)
    case atStart => exact ⟨0, by omega, rfl, rfl⟩
    case round =>
      obtain ⟨k, hk, rfl, rfl⟩ := hrel
      by_cases hlt : k < nv
      · obtain ⟨x, hx⟩ := get_ex HLV.out hlt
        obtain ⟨bv, ov, rfl, hbv, cx0⟩ := HV.out.cell hx
        have cx := (HB3.out.cell (p := ⟨bv, ov + k, none⟩) hbv).trans cx0
        have HX := Lib.hid (getD_of hx)
        clear hx cx0
        have HST := Lib.hid (show mB M vs lv (k + 1) = (mB M vs lv k && decide (x ≤ lv)) by show (mB M vs lv k && decide (vs.getD k 0 ≤ lv)) = _; rw [HX.out])
        generalize mB M vs lv k = Bk at *
        cases Bk with
        | true =>
          go_wp2_with fail
          go_round
          case rel => exact ⟨k + 1, by omega, by go_num, by rw [HST.out]; simp⟩
          case measure => simp only [intOf]; omega
        | false =>
          go_wp2_with fail
          go_round
          case rel => exact ⟨k + 1, by omega, by go_num, by rw [HST.out]; simp⟩
          case measure => simp only [intOf]; omega
      · have HK := Lib.hid (show k = nv by omega)
        have HMB := Lib.hid (show mB M vs lv k = true ↔ Meet zs ys vs ∧ ∀ x ∈ vs, x ≤ lv by rw [HK.out, ← HLV.out, mB_all, ← HM.out, meetB_yes])
        generalize mB M vs lv k = MB at *
        cases MB with
        | false =>
          go_wp2_with fail
          go_ret
          exact ⟨ret_tt_ProfileCruise (by simp), HB3.out⟩
        | true =>
          have HMV := Lib.hid (HMB.out.1 rfl)
          by_cases hn0 : n = 0
          · have hne0 : ((n : Int) == 0) = true := beq_iff_eq.2 (by omega)
            clear hn0
            go_wp2_with fail
            go_ret
            exact ⟨ret_tt_ProfileCruise (by simp), HB3.out⟩
          · have hne0 : ((n : Int) == 0) = false := beq_eq_false_iff_ne.2 (by omega)
            have hout : lv < -1099511627776 ∨ 1099511627776 < lv := by
              by_cases h : Pf.inB lv
              · exact absurd h (HERR.out HMV.out.1 HMV.out.2)
              · unfold Pf.inB at h; omega
            clear hn0
            rcases hout with h | h
            · go_wp2_with fail
              go_ret
              exact ⟨ret_tt_ProfileCruise (by simp), HB3.out⟩
            · have h2 : ¬ lv < -1099511627776 := by omega
              go_wp2_with fail
              go_ret
              exact ⟨ret_tt_ProfileCruise (by simp), HB3.out⟩
end Go.Proofs.Ytgmpaffoajmmmaa
namespace Go.Proofs.Ytgmpaffoajmmmaa.profileCruise
open Go.ChangeShapes Go.WideShapes Go.ChangeAt Go.RowKit
open Go.ChangeMaps (open_string shut_string)
set_option linter.unusedVariables false
set_option linter.unusedSimpArgs false

theorem own : ownKnob Try.prog.godebug = none := by kernel_rfl
theorem laidOut : laidOutB Try.prog = true := by kernel_rfl

set_option maxRecDepth 100000 in
theorem lifted (os : Os) (started : os.Started) (H : Type) (enc : TypeId × Value → H) :
    ReturnsInHanded {} Try.checked os 10 .any (Rows.profileCruiseSpec.pre6 enc Try.prog Try.f10 Rows.profileCruiseRow.domain false) (Rows.profileCruiseSpec.post enc Try.prog Try.f10 false true false false) := by
  refine returnsInHanded_of_change_sized (C := Try.checked) own started (by kernel_rfl) Try.func10
    (ChangeSpec.witness6 (enc := enc) (C := Try.checked) false ⟨#[], #[.slice none 0 0, .slice none 0 0, .agg #[.slice none 0 0, .int .i64 0]], []⟩ 8 (by kernel_rfl) (by kernel_rfl) (by kernel_rfl) (by kernel_rfl)) ?_
  intro W base args ds gs before hval0 hW hcnd hsz0 _
  have hval : ∀ (j : Nat) t v, Try.f10.params[j]? = some t → args[j]? = some v → Value.okWide Try.prog W .any base t v := hval0
  have hW' := hW
  obtain ⟨p, q, hA0, hV, rfl, hfz, hnd⟩ := hW
  have hA : DataW.TrodAll enc Try.prog W 0 (fun _ => true) true Try.f10.params.toList args.toList ds p := hA0
  have hsz : (DataW.weightsEach Try.prog (Try.f10.params.toList ++ Rows.profileCruiseSpec.plain.varTypes Try.prog) (ds ++ gs)).all (· ≤ reachBytes) = true := hsz0
  rw [Try.params10] at hA hval hsz
  obtain ⟨v0, vs0, d0, ds0, p0, q0, hargs, rfl, rfl, h0, r0⟩ := trodAll_cons hA
  obtain ⟨v1, vs1, d1, ds1, p1, q1, rfl, rfl, rfl, h1, r1⟩ := trodAll_cons r0
  obtain ⟨v2, vs2, d2, ds2, p2, q2, rfl, rfl, rfl, h2, r2⟩ := trodAll_cons r1
  obtain ⟨rfl, rfl, rfl⟩ := trodAll_nil r2
  obtain rfl : args = #[v0, v1, v2] := by cases args; simp_all
  obtain ⟨rfl, rfl⟩ := trodVars_none hV
  have k0 := h0
  have lt0 : ∀ x ∈ p0, x.block < W.heap.size := by obtain ⟨m, hm⟩ := k0; exact DataW.trod_lt m _ _ _ hm
  have k1 := h1
  have lt1 : ∀ x ∈ p1, x.block < W.heap.size := by obtain ⟨m, hm⟩ := k1; exact DataW.trod_lt m _ _ _ hm
  have k2 := h2
  have lt2 : ∀ x ∈ p2, x.block < W.heap.size := by obtain ⟨m, hm⟩ := k2; exact DataW.trod_lt m _ _ _ hm
  obtain ⟨A0, n0, c0, z0, rfl, m0, qc0, w0, u0, o0⟩ := open_recs_Trod win 2 (by decide) (fun _ => rfl) WinWf Try.underlying22 (by kernel_rfl) el_win (hval 0 22 v0 rfl rfl) h0
  have o0' := o0 (weights_arg hsz (j := 0) rfl rfl)
  rw [show Try.prog.bytesOf 42 = 16 by kernel_rfl] at o0'
  obtain ⟨A1, n1, c1, z1, rfl, m1, qc1, w1, u1, o1⟩ := open_recs_Trod win 2 (by decide) (fun _ => rfl) WinWf Try.underlying23 (by kernel_rfl) el_step (hval 1 23 v1 rfl rfl) h1
  have o1' := o1 (weights_arg hsz (j := 1) rfl rfl)
  rw [show Try.prog.bytesOf 50 = 16 by kernel_rfl] at o1'
  obtain ⟨A2, n2, c2, z2, x2, rfl, m2, w2, u2, y2⟩ := open_level (hval 2 47 v2 rfl rfl) h2
  clear hA0 hval0
  refine (Ytgmpaffoajmmmaa.walk_ProfileCruise A0 n0 c0 z0 A1 n1 c1 z1 A2 n2 c2 z2 x2 W w0 u0 m0 o0' qc0 w1 u1 m1 o1' qc1 m2 w2 u2 y2).mono fun e W' ⟨he, bel⟩ => ?_
  subst he
  exact ⟨_, rfl, _, _, _, [], _, [], hW', trodAll_mk1 (shut_bool Try.underlying4 _), (trodAll_cons_mk (Below.trod laidOut (by kernel_rfl) (of_decide_eq_true (by kernel_rfl)) k0 bel lt0) (trodAll_cons_mk (Below.trod laidOut (by kernel_rfl) (of_decide_eq_true (by kernel_rfl)) k1 bel lt1) (trodAll_cons_mk (Below.trod laidOut (by kernel_rfl) (of_decide_eq_true (by kernel_rfl)) k2 bel lt2) trodAll_mk0))), rfl, bel.frame _, fun h => by cases h⟩

theorem over : Rows.profileCruiseRow.holds Try.pinned (OpenSpec.ofChange Rows.profileCruiseSpec) :=
  OpenClaim.holds_of_wide 10 Try.f10 rfl rfl rfl rfl rfl rfl rfl ⟨rfl, rfl, rfl, rfl, rfl⟩ rfl rfl rfl rfl rfl (by kernel_rfl) Try.func10 (by kernel_rfl)
    (of_decide_eq_true (by kernel_rfl)) (by unfold Func.isWrapper; first | (rw [if_pos (by decide +kernel)]; kernel_rfl) | (rw [if_neg (by decide +kernel)]; exact ⟨rfl, rfl⟩))
    (fun os started H enc _ => lifted os started H enc)

/-- the statement -/
theorem proved : Rows.ProfileCruiseSaid := over
end Go.Proofs.Ytgmpaffoajmmmaa.profileCruise
