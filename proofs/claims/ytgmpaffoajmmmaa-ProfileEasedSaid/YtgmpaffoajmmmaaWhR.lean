/- Layer 34: Where, of the reference (printed by gen_whr.py). -/
import Derived.Test.YtgmpaffoajmmmaaPfR
import Derived.Test.YtgmpaffoajmmmaaWh
namespace Go.Proofs.Ytgmpaffoajmmmaa
set_option linter.unusedSimpArgs false
set_option linter.unusedVariables false
open Go.RowKit

def RwRel (w1 : World) (m : Nat) (lv : Int) (v d : List Int) (t : Value) (wr : World) : Prop :=
  ∃ (k : Nat) (z : Int), k ≤ m + 1 ∧ z + 1 = k ∧ t = .int .i64 z ∧ (k = m + 1 ∨ Pf.Bey v d lv (d.take k).sum) ∧ Below w1.heap.size w1 wr
def BsRel (w2 : World) (v d : List Int) (lv P x : Int) (l h : Value) (wr : World) : Prop :=
  ∃ lo hi : Int, l = .int .i64 lo ∧ h = .int .i64 hi ∧ Pf.BisR v d lv P lo hi ∧ hi < P + x ∧ P - 1 ≤ hi ∧ P ≤ lo ∧ lo ≤ P + x ∧ Below w2.heap.size w2 wr

set_option maxRecDepth 100000 in
set_option maxHeartbeats 8000000 in
theorem rWhere (A D : Option Addr) (n cn m cm : Nat) (v d : List Int) (lv : Int) (w : World) (hv : Ints w A n v) (hd : Ints w D m d) (hn : n ≤ maxLen) (hm : m ≤ maxLen) :
    Calls Try.prog 24 #[.slice A n cn, .slice D m cm, .int .i64 lv] w (WhPost v d lv w) := by
  have HC := Lib.hid (places_any A D n cn m cm v d w hv hd hn hm)
  by_cases he : Pf.chE v d = 0
  · have hok := Pf.chOk_of he
    have hlv := hv.len
    have hld := hd.len
    have l1 := hok.len
    have l2 := hok.two
    have hm63 : m ≤ 63 := by omega
    obtain rfl : n = m + 1 := by omega
    have HV := Lib.hid hv
    have HLV := Lib.hid hlv
    have HLD := Lib.hid hld
    have HOK := Lib.hid hok
    have HE := Lib.hid he
    have hsm := Lib.hid (show (d.take m).sum = d.sum by rw [List.take_of_length_le (by omega)])
    have HSB := Lib.hid (show 0 ≤ d.sum ∧ d.sum ≤ 8000000 * 63 by have := Pf.sum_nn hok.ds; omega)
    obtain ⟨bv, ov, rfl, hbv, hcv⟩ := hv.cells (by omega)
    have HCV := Lib.hid hcv
    have hw1 : IntKind.i64.wrap (((m + 1 : Nat) : Int) - 1) = (m : Int) := by rw [show ((m + 1 : Nat) : Int) - 1 = m from by omega]; exact IntWalk.i64_in _ (by omega)
    have HVA0 := Lib.hid (fun (w' : World) (T : Option Addr) (c : Nat) (s : Int) (hB : Below w.heap.size w w') (hT : Ints w' T (m + 1) (Pf.plc d m)) (h0 : 0 ≤ s) (h1 : s ≤ d.sum) => rval_any (some ⟨bv, ov, none⟩) T (m + 1) cn m c v d s w' (hv.below hB) hT hld hok h0 h1)
    clear hv hd hok hlv hld l1 l2 he hcv hn hm
    go_enter Try.func24, Try.ntmps24
    go_wp2_with fail
    refine HC.out.mono ?_; rintro e w1 ⟨h3, _, hB⟩
    obtain ⟨T, c, rfl, hT⟩ := h3 HE.out
    have HB1 := Lib.hid hB
    have HT := Lib.hid hT
    obtain ⟨bt, ot, rfl, hbt, hct⟩ := hT.cells (by omega)
    have HCT := Lib.hid hct
    have HVA := Lib.hid (fun (s : Int) (W : World) (h : Below w1.heap.size w1 W) h0 h1 => HVA0.out W (some ⟨bt, ot, none⟩) c s (bel_trans HB1.out h) (HT.out.below h) h0 h1)
    clear h3 hB hT hct HC HVA0
    go_wp2_with fail
    go_loopw [10] (fun t wr => RwRel w1 m lv v d t wr) (fun t _ => (intOf t + 1).toNat)
    case atStart => exact ⟨m + 1, m, Nat.le_refl _, by omega, rfl, .inl rfl, Below.refl _ _⟩
    case round =>
      obtain ⟨k, z, hk, hz, rfl, hbey, hB⟩ := hrel
      have HBEY := Lib.hid hbey
      have HB := Lib.hid hB
      clear hbey hB
      cases k with
      | zero =>
        obtain rfl : z = -1 := by omega
        have HF := Lib.hid (show Pf.Bey v d lv 0 by rcases HBEY.out with h | h; omega; simpa using h)
        clear hz
        go_wp2_with fail
        go_ret2
        exact wh_none HE.out HF.out (bel_trans HB1.out HB.out)
      | succ j =>
        obtain rfl : z = (j : Int) := by omega
        clear hz
        obtain ⟨P, hP⟩ : ∃ P, (d.take j).sum = P := ⟨_, rfl⟩
        have HPE := Lib.hid hP
        have hsj := Pf.sum_take_le HOK.out.ds j
        rw [hP] at hsj
        obtain ⟨p0, p1, p2⟩ := hsj
        have HPS := Lib.hid p2
        have p3 : P ≤ 8000000 * 63 := by omega
        clear hP p1 p2
        have hj1 : (j : Int) < ((m + 1 : Nat) : Int) := by omega
        by_cases hjm : j = m
        · have HJM := Lib.hid hjm
          have hjx : ¬ (j : Int) < (m : Int) := by omega
          have HBEX := Lib.hid (show Pf.Bex v d lv P by rw [← HPE.out, hjm, hsm.out]; exact Pf.bex_last v d lv)
          clear hjm
          have ctj := (HB.out.cell (p := ⟨bt, ot + j, none⟩) hbt).trans (HCT.out j _ (Pf.plc_get d m j (by omega)))
          rw [HPE.out] at ctj
          have HVA2 := Lib.hid (HVA.out P wr HB.out (by omega) (by have := HPS.out; omega))
          by_cases hT : lv ≤ Pf.btw v d P
          · have HF := Lib.hid (HBEX.out.wh hT (by omega) (by have := HPS.out; omega))
            generalize Pf.btw v d P = VT at *
            go_wp2_with fail
            refine HVA2.out.mono ?_; rintro e w9 ⟨rfl, q9, rfl⟩
            go_wp2_with fail
            go_ret2
            exact wh_found HE.out HF.out (below_drewN (bel_trans HB1.out HB.out) q9)
          · have HF := Lib.hid (HBEX.out.bey (show Pf.btw v d P < lv by omega))
            generalize Pf.btw v d P = VT at *
            go_wp2_with fail
            refine HVA2.out.mono ?_; rintro e w9 ⟨rfl, q9, rfl⟩
            go_wp2_with fail
            go_roundw
            case rel => exact ⟨j, (j : Int) - 1, by omega, by omega, rfl, .inr (by rw [HPE.out]; exact HF.out), below_drewN HB.out q9⟩
            case measure => simp only [intOf]; omega
        · have hjx : (j : Int) < (m : Int) := by omega
          obtain ⟨x, hx⟩ := get_ex (k := j) HLD.out (by omega)
          obtain ⟨a, ha⟩ := get_ex (k := j) HLV.out (by omega)
          obtain ⟨b, hb⟩ := get_ex (k := j + 1) HLV.out (by omega)
          have HL : Hid (Pf.LegAt v d j a b x P) := Lib.hid ⟨ha, hb, hx, HPE.out⟩
          have HPL := HL.out.place HOK.out
          have HBY := Lib.hid (show Pf.Bey v d lv (P + x) by rcases HBEY.out with h | h; omega; rw [HL.out.next] at h; exact h)
          obtain ⟨_, _, x0, x1, x2⟩ := HPL
          have HX2 := Lib.hid x2
          have x3 : P + x ≤ 8000000 * 63 := by have := HSB.out; omega
          have cva := (HB.out.cell (p := ⟨bv, ov + j, none⟩) (Nat.lt_of_lt_of_le hbv HB1.out.size)).trans ((HB1.out.cell (p := ⟨bv, ov + j, none⟩) hbv).trans (HCV.out j a ha))
          have cvb := (HB.out.cell (p := ⟨bv, ov + (j + 1), none⟩) (Nat.lt_of_lt_of_le hbv HB1.out.size)).trans ((HB1.out.cell (p := ⟨bv, ov + (j + 1), none⟩) hbv).trans (HCV.out (j + 1) b hb))
          have ct0 := (HB.out.cell (p := ⟨bt, ot + j, none⟩) hbt).trans (HCT.out j _ (Pf.plc_get d m j (by omega)))
          have ct1 := (HB.out.cell (p := ⟨bt, ot + (j + 1), none⟩) hbt).trans (HCT.out (j + 1) _ (Pf.plc_get d m (j + 1) (by omega)))
          rw [HPE.out] at ct0
          rw [HL.out.next] at ct1
          have e1 : IntKind.i64.wrap ((j : Int) + 1) = (j : Int) + 1 := IntWalk.i64_in _ (by omega)
          have e2 : ((j : Int) + 1).toNat = j + 1 := by omega
          have e3 : 0 ≤ (j : Int) + 1 := by omega
          have e4 : (j : Int) + 1 < ((m + 1 : Nat) : Int) := by omega
          have e5 : IntKind.i64.wrap (P + x - 1) = P + x - 1 := IntWalk.i64_in _ (by omega)
          clear hjm ha hb hx x2
          by_cases hab : a ≤ b
          · have HAB := Lib.hid hab
            go_wp2_with fail
            go_quiet (fail)
            have HB2 := Lib.hid (below_drewN HB.out nq)
            replace cva : (wr.drewN nq).cell? ⟨bv, ov + j, none⟩ = some (.int .i64 a) := cva
            replace cvb : (wr.drewN nq).cell? ⟨bv, ov + (j + 1), none⟩ = some (.int .i64 b) := cvb
            generalize wr.drewN nq = W1 at *
            clear ct0 ct1
            go_wp2_with fail
            go_quiet (fail)
            have HB3 := Lib.hid (below_drewN HB2.out nq)
            generalize W1.drewN nq = W2 at *
            clear cva cvb e1 e2 e3 e4 e5
            by_cases hx2 : 2 ≤ x
            · have HVH := Lib.hid (HVA.out (P + x - 1) W2 HB3.out (by omega) (by have := HX2.out; omega))
              by_cases hH : lv ≤ Pf.btw v d (P + x - 1)
              · have HF := Lib.hid (Pf.wh_up HBY.out p0 HX2.out (by omega) hH)
                generalize Pf.btw v d (P + x - 1) = VH at *
                go_wp2_with fail
                refine HVH.out.mono ?_; rintro e w9 ⟨rfl, q9, rfl⟩
                go_wp2_with fail
                go_ret2
                exact wh_found HE.out HF.out (below_drewN (bel_trans HB1.out HB3.out) q9)
              · have HBEX := Lib.hid (Pf.bex_up HOK.out HL.out HAB.out HBY.out (fun _ => show Pf.btw v d (P + x - 1) < lv by omega))
                generalize Pf.btw v d (P + x - 1) = VH at *
                go_wp2_with fail
                refine HVH.out.mono ?_; rintro e w9 ⟨rfl, q9, rfl⟩
                have HB4 := Lib.hid (below_drewN HB3.out q9)
                generalize W2.drewN q9 = W3 at *
                have ctj := (HB4.out.cell (p := ⟨bt, ot + j, none⟩) hbt).trans (HCT.out j _ (Pf.plc_get d m j (by omega)))
                rw [HPE.out] at ctj
                have HVA2 := Lib.hid (HVA.out P W3 HB4.out (by omega) (by have := HPS.out; omega))
                by_cases hT : lv ≤ Pf.btw v d P
                · have HF := Lib.hid (HBEX.out.wh hT (by omega) (by have := HPS.out; omega))
                  generalize Pf.btw v d P = VT at *
                  go_wp2_with fail
                  refine HVA2.out.mono ?_; rintro e w9 ⟨rfl, q9, rfl⟩
                  go_wp2_with fail
                  go_ret2
                  exact wh_found HE.out HF.out (below_drewN (bel_trans HB1.out HB4.out) q9)
                · have HF := Lib.hid (HBEX.out.bey (show Pf.btw v d P < lv by omega))
                  generalize Pf.btw v d P = VT at *
                  go_wp2_with fail
                  refine HVA2.out.mono ?_; rintro e w9 ⟨rfl, q9, rfl⟩
                  go_wp2_with fail
                  go_roundw
                  case rel => exact ⟨j, (j : Int) - 1, by omega, by omega, rfl, .inr (by rw [HPE.out]; exact HF.out), below_drewN HB4.out q9⟩
                  case measure => simp only [intOf]; omega
            · have hx3 : ¬ P < P + x - 1 := by omega
              have HBEX := Lib.hid (Pf.bex_up HOK.out HL.out HAB.out HBY.out (fun h => absurd h hx3))
              have ctj := (HB3.out.cell (p := ⟨bt, ot + j, none⟩) hbt).trans (HCT.out j _ (Pf.plc_get d m j (by omega)))
              rw [HPE.out] at ctj
              have HVA2 := Lib.hid (HVA.out P W2 HB3.out (by omega) (by have := HPS.out; omega))
              by_cases hT : lv ≤ Pf.btw v d P
              · have HF := Lib.hid (HBEX.out.wh hT (by omega) (by have := HPS.out; omega))
                generalize Pf.btw v d P = VT at *
                go_wp2_with fail
                refine HVA2.out.mono ?_; rintro e w9 ⟨rfl, q9, rfl⟩
                go_wp2_with fail
                go_ret2
                exact wh_found HE.out HF.out (below_drewN (bel_trans HB1.out HB3.out) q9)
              · have HF := Lib.hid (HBEX.out.bey (show Pf.btw v d P < lv by omega))
                generalize Pf.btw v d P = VT at *
                go_wp2_with fail
                refine HVA2.out.mono ?_; rintro e w9 ⟨rfl, q9, rfl⟩
                go_wp2_with fail
                go_roundw
                case rel => exact ⟨j, (j : Int) - 1, by omega, by omega, rfl, .inr (by rw [HPE.out]; exact HF.out), below_drewN HB3.out q9⟩
                case measure => simp only [intOf]; omega
          · have HAB := Lib.hid (show b ≤ a by omega)
            go_wp2_with fail
            go_quiet (fail)
            have HB2 := Lib.hid (below_drewN HB.out nq)
            replace cva : (wr.drewN nq).cell? ⟨bv, ov + j, none⟩ = some (.int .i64 a) := cva
            replace cvb : (wr.drewN nq).cell? ⟨bv, ov + (j + 1), none⟩ = some (.int .i64 b) := cvb
            generalize wr.drewN nq = W1 at *
            clear ct0 ct1
            go_wp2_with fail
            go_quiet (fail)
            have HB3 := Lib.hid (below_drewN HB2.out nq)
            generalize W1.drewN nq = W2 at *
            clear cva cvb e1 e2 e3 e4 e5
            obtain ⟨wo, rfl⟩ : ∃ wo : World, wo = wr := ⟨_, rfl⟩
            go_wp2_with fail
            go_loopw [11, 12] (fun l h wr => BsRel w1 v d lv P x l h wr) (fun l h _ => (intOf h - intOf l).toNat)
            case atStart => exact ⟨P, P + x - 1, rfl, rfl, Pf.bis_start x0 HBY.out, by omega, by omega, by omega, by omega, HB3.out⟩
            case round =>
              obtain ⟨lo, hi, rfl, rfl, hR, b1, b2, b3, b4, hB⟩ := hrel
              have HR := Lib.hid hR
              have HBi := Lib.hid hB
              clear hR hB
              by_cases hlt : lo < hi
              · obtain ⟨M, hM⟩ : ∃ M, lo + (hi - lo + 1) / 2 = M := ⟨_, rfl⟩
                have HM := Lib.hid hM
                have m1 : lo < M := by omega
                have m2 : M ≤ hi := by omega
                have m3 : 0 ≤ hi - lo + 1 := by omega
                have m4 : 0 ≤ (hi - lo + 1) / 2 ∧ (hi - lo + 1) / 2 ≤ hi - lo := by omega
                obtain ⟨m5, m6⟩ := m4
                clear hM
                have HVM := Lib.hid (HVA.out M wr HBi.out (by omega) (by have := HX2.out; omega))
                by_cases hH : lv ≤ Pf.btw v d M
                · have HRN := Lib.hid (Pf.bis_hi HR.out m1 m2 hH)
                  generalize Pf.btw v d M = VH at *
                  go_wp2_with fail
                  rw [HM.out]
                  refine HVM.out.mono ?_; rintro e w9 ⟨rfl, q9, rfl⟩
                  go_wp2_with fail
                  go_roundw
                  case rel => exact ⟨M, hi, rfl, rfl, HRN.out, b1, b2, by omega, by omega, below_drewN HBi.out q9⟩
                  case measure => simp only [intOf]; omega
                · have HRN := Lib.hid (Pf.bis_lo HOK.out HL.out HAB.out HBY.out HR.out m1 m2 b1 (show Pf.btw v d M < lv by omega))
                  generalize Pf.btw v d M = VH at *
                  go_wp2_with fail
                  rw [HM.out]
                  refine HVM.out.mono ?_; rintro e w9 ⟨rfl, q9, rfl⟩
                  go_wp2_with fail
                  go_roundw
                  case rel => exact ⟨lo, M - 1, rfl, rfl, HRN.out, by omega, by omega, by omega, by omega, below_drewN HBi.out q9⟩
                  case measure => simp only [intOf]; omega
              · have HLT := Lib.hid hlt
                have ct0 := (HBi.out.cell (p := ⟨bt, ot + j, none⟩) hbt).trans (HCT.out j _ (Pf.plc_get d m j (by omega)))
                rw [HPE.out] at ct0
                by_cases hPl : P < lo
                · have HW := Lib.hid (Pf.bis_wh HR.out (show hi ≤ lo by omega) hPl p0 (show lo ≤ d.sum by have := HX2.out; rcases HR.out.2.1 with h | h <;> omega))
                  have HVM := Lib.hid (HVA.out lo wr HBi.out (by omega) HW.out.2.2.1)
                  have HV3 := Lib.hid HW.out.1
                  have hV3 := HV3.out
                  generalize Pf.btw v d lo = VH at *
                  go_wp2_with fail
                  refine HVM.out.mono ?_; rintro e w9 ⟨rfl, q9, rfl⟩
                  go_wp2_with fail
                  go_ret2
                  exact wh_found HE.out HW.out.2 (below_drewN (bel_trans HB1.out HBi.out) q9)
                · obtain rfl : lo = P := by omega
                  have HBEX := Lib.hid (Pf.bis_none HR.out (show hi ≤ lo by omega))
                  have ctj := (HBi.out.cell (p := ⟨bt, ot + j, none⟩) hbt).trans (HCT.out j _ (Pf.plc_get d m j (by omega)))
                  rw [HPE.out] at ctj
                  have HVA2 := Lib.hid (HVA.out lo wr HBi.out (by omega) (by have := HPS.out; omega))
                  by_cases hT : lv ≤ Pf.btw v d lo
                  · have HF := Lib.hid (HBEX.out.wh hT (by omega) (by have := HPS.out; omega))
                    generalize Pf.btw v d lo = VT at *
                    go_wp2_with fail
                    refine HVA2.out.mono ?_; rintro e w9 ⟨rfl, q9, rfl⟩
                    go_wp2_with fail
                    go_ret2
                    exact wh_found HE.out HF.out (below_drewN (bel_trans HB1.out HBi.out) q9)
                  · have HF := Lib.hid (HBEX.out.bey (show Pf.btw v d lo < lv by omega))
                    generalize Pf.btw v d lo = VT at *
                    go_wp2_with fail
                    refine HVA2.out.mono ?_; rintro e w9 ⟨rfl, q9, rfl⟩
                    go_wp2_with fail
                    go_roundw
                    case rel => exact ⟨j, (j : Int) - 1, by omega, by omega, rfl, .inr (by rw [HPE.out]; exact HF.out), below_drewN HBi.out q9⟩
                    case measure => simp only [intOf]; omega
  · have hne : (Pf.chE v d != 0) = true := by rw [bne_iff_ne]; exact he
    have HC2 := Lib.hid (HC.out.mono (R' := fun e w' => e = .returned (.tuple #[.slice none 0 0, .int .i64 (Pf.chE v d)]) ∧ Below w.heap.size w w') fun e w' h => ⟨h.2.1 he, h.2.2⟩)
    have HX := Lib.hid (fun w' (hb : Below w.heap.size w w') => wh_bad (lv := lv) (w := w) rfl he hb)
    clear hv hd he HC
    generalize Pf.chE v d = E at *
    go_enter Try.func24, Try.ntmps24
    go_wp2_with fail
    refine HC2.out.mono ?_; rintro e w' ⟨rfl, hB⟩
    have HB := Lib.hid hB
    clear hB
    go_wp2_with fail
    go_ret2
    exact HX.out _ HB.out
end Go.Proofs.Ytgmpaffoajmmmaa
