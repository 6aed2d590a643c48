/- Layer 35: what all its laws need: equal lists, equal steps, and the chapter's examples (awake returns true). -/
import Derived.Test.YtgplpapphmaafaaSpF
import Derived.Test.YtgplpapphmaafaaSpT
import Derived.Deep.RegionHeld3
namespace Go.Proofs.Ytgplpapphmaafaa
set_option linter.unusedSimpArgs false
set_option linter.unusedVariables false
open Go.RowKit Sp

def SmPost (w : World) (e : Ending) (w' : World) : Prop := e = .returned (.bool true) ∧ ∃ q, w' = w.drewN q
def SmRel (n : Nat) (w : World) (t : Value) (wr : World) : Prop := ∃ k q : Nat, k ≤ n ∧ t = .int .i64 k ∧ wr = w.drewN q
set_option maxRecDepth 100000 in
set_option maxHeartbeats 2000000 in
theorem same_yes (A B : Option Addr) (n cn cm : Nat) (l : List Int) (w : World) (ha : Ints w A n l) (hb : Ints w B n l) (hn : n ≤ maxLen) :
    Calls Try.prog 17 #[.slice A n cn, .slice B n cm] w (SmPost w) := by
  unfold maxLen at hn
  have HL := Lib.hid ha.len
  have HA := Lib.hid ha
  have HB := Lib.hid hb
  have hne : ((n : Int) != (n : Int)) = false := by simp
  clear ha hb
  go_enter Try.func17, Try.ntmps17
  go_wp2_with fail
  go_loopw [13] (fun t wr => SmRel n w t wr) (fun t _ => n - (intOf t).toNat)
  case atStart => exact ⟨0, 0, by omega, rfl, rfl⟩
  case round =>
    obtain ⟨k, q, hk, rfl, hw⟩ := hrel
    have HW := Lib.hid hw
    clear hw
    by_cases hlt : k < n
    · obtain ⟨x, hx⟩ := get_ex HL.out hlt
      obtain ⟨ba, oa, rfl, hba, ca⟩ := ints_cell HA.out hx
      obtain ⟨bb, ob, rfl, hbb, cb⟩ := ints_cell HB.out hx
      have ca2 : wr.cell? ⟨ba, oa + k, none⟩ = some (.int .i64 x) := by rw [HW.out]; exact ca
      have cb2 : wr.cell? ⟨bb, ob + k, none⟩ = some (.int .i64 x) := by rw [HW.out]; exact cb
      have e0 : (0 : Int) ≤ (k : Int) := by omega
      have e1 : (k : Int) < (n : Int) := by omega
      have e2 : (x != x) = false := by simp
      clear hx ca cb
      go_wp2_with fail
      go_quiet (fail)
      go_wp2_with fail
      go_roundw
      case rel => exact ⟨k + 1, q + nq, by omega, by go_num, by rw [HW.out, World.drewN_drewN]⟩
      case measure => simp only [intOf]; omega
    · go_wp2_with fail
      go_ret
      exact ⟨rfl, q, HW.out⟩


set_option maxRecDepth 100000 in
set_option maxHeartbeats 2000000 in
theorem steps_yes (A B : Option Addr) (n cn cm : Nat) (l : Cs.Wins) (w : World) (ha : Pairs w A n l) (hb : Pairs w B n l) (hn : n ≤ maxLen) :
    Calls Try.prog 16 #[.slice A n cn, .slice B n cm] w (SmPost w) := by
  unfold maxLen at hn
  have HL := Lib.hid ha.len
  have HA := Lib.hid ha
  have HB := Lib.hid hb
  have hne : ((n : Int) != (n : Int)) = false := by simp
  clear ha hb
  go_enter Try.func16, Try.ntmps16
  go_wp2_with fail
  go_loopw [13] (fun t wr => SmRel n w t wr) (fun t _ => n - (intOf t).toNat)
  case atStart => exact ⟨0, 0, by omega, rfl, rfl⟩
  case round =>
    obtain ⟨k, q, hk, rfl, hw⟩ := hrel
    have HW := Lib.hid hw
    clear hw
    by_cases hlt : k < n
    · obtain ⟨x, hx⟩ := get_ex HL.out hlt
      obtain ⟨ba, oa, rfl, hba, ca, da⟩ := HA.out.cell hx
      obtain ⟨bb, ob, rfl, hbb, cb, db⟩ := HB.out.cell hx
      have ca2 : wr.cell? ⟨ba, oa + k * 2, none⟩ = some (.int .i64 x.1) := by rw [HW.out]; exact ca
      have cb2 : wr.cell? ⟨bb, ob + k * 2, none⟩ = some (.int .i64 x.1) := by rw [HW.out]; exact cb
      have da2 : wr.cell? ⟨ba, oa + k * 2 + 1, none⟩ = some (.int .i64 x.2) := by rw [HW.out]; exact da
      have db2 : wr.cell? ⟨bb, ob + k * 2 + 1, none⟩ = some (.int .i64 x.2) := by rw [HW.out]; exact db
      have e0 : (0 : Int) ≤ (k : Int) := by omega
      have e1 : (k : Int) < (n : Int) := by omega
      clear hx ca cb da db
      go_wp2_with fail
      go_quiet (fail)
      go_wp2_with fail
      go_roundw
      case rel => exact ⟨k + 1, q + nq, by omega, by go_num, by rw [HW.out, World.drewN_drewN]⟩
      case measure => simp only [intOf]; omega
    · go_wp2_with fail
      go_ret
      exact ⟨rfl, q, HW.out⟩

def exD : List Int := [12000, 9000]
def exY : Cs.Wins := [(20, 14), (15, 10)]
def exZ : Cs.Wins := [(100, 200), (100, 300), (100, 160)]
theorem ex_st : stE exD 10 7 = 0 ∧ stL exD 10 7 = exY := by decide
theorem ex_pl : plE exZ exY [300, 300, 300] = 0 ∧ plL exZ [300, 300, 300] exY = [184, 170, 160] := by decide
theorem ex_sp : spE exZ exY = 0 ∧ spV exZ exY = 84 := by decide
theorem ex_fa : faE exZ exY 65 = 0 ∧ faL exZ exY 65 = [165, 165, 160] := by decide
theorem ex_tk : tkE [1000, 0] [300, 300] = 0 ∧ tkL [1000, 0] [300, 300] = [4, 0] := by decide
theorem pr_ex {F : FuncId} {args : Array Value} {l l' : Cs.Wins} {n : Nat} {E : Int} {w : World} (h : Calls Try.prog F args w (PrRes (okL E l) (okN E n) E w)) (hE : E = 0) (hl : l = l') : Calls Try.prog F args w (PrRes l' n 0 w) := by subst hE hl; exact h
theorem sl_ex {F : FuncId} {args : Array Value} {l l' : List Int} {n : Nat} {E : Int} {w : World} (h : Calls Try.prog F args w (SlRes (okL E l) (okN E n) E w)) (hE : E = 0) (hl : l = l') : Calls Try.prog F args w (SlRes l' n 0 w) := by subst hE hl; exact h
theorem nb_ex {F : FuncId} {args : Array Value} {V V' E : Int} {w : World} (h : Calls Try.prog F args w (NumB (okI E V) E w)) (hE : E = 0) (hV : V = V') : Calls Try.prog F args w (NumB V' 0 w) := by subst hE hV; exact h
set_option maxRecDepth 100000 in
set_option maxHeartbeats 4000000 in
theorem awake_any (w : World) : Calls Try.prog 11 #[] w fun e w' => e = .returned (.bool true) ∧ Below w.heap.size w w' := by
  go_enter Try.func11, Try.ntmps11
  go_wp2_with fail
  have hbn := (Below.refl _ w).alloc (Nat.le_refl _) (.cells #[.int .i64 12000, .int .i64 9000] 2)
  have ID := Lib.hid (Ints.of_alloc w #[.int .i64 12000, .int .i64 9000] 2 [12000, 9000] 2 rfl rfl _ rfl)
  have HB1 := Lib.hid (bel_trans (Below.refl _ w) hbn)
  clear hbn
  generalize w.alloc (.cells #[.int .i64 12000, .int .i64 9000] 2) = w1 at *
  refine (pr_ex (xSpSteps _ 2 2 exD 10 7 w1 ID.out (by decide)) ex_st.1 ex_st.2).mono ?_; rintro e w2 ⟨A1, c1, rfl, hP, hC, hB⟩
  replace ID := Lib.hid (ID.out.below hB)
  have P1 := Lib.hid hP
  have HB2 := Lib.hid (bel_trans HB1.out hB)
  clear hB hP
  have HC1 := Lib.hid hC
  clear hC
  go_wp2_with fail
  have hbn := (Below.refl _ w2).alloc (Nat.le_refl _) (.cells #[.int .i64 20, .int .i64 14, .int .i64 15, .int .i64 10] 52)
  have P2 := Lib.hid (Recs.of_alloc (f := win) (sz := 2) (fun _ => rfl) w2 #[.int .i64 20, .int .i64 14, .int .i64 15, .int .i64 10] 52 exY 2 rfl rfl _ rfl)
  replace ID := Lib.hid (ID.out.below hbn)
  replace P1 := Lib.hid (P1.out.below hbn)
  have HB3 := Lib.hid (bel_trans HB2.out hbn)
  clear hbn
  generalize w2.alloc (.cells #[.int .i64 20, .int .i64 14, .int .i64 15, .int .i64 10] 52) = w3 at *
  refine (steps_yes A1 _ 2 c1 2 exY _ P1.out P2.out (by decide)).mono ?_; rintro e w' ⟨rfl, q, rfl⟩
  replace ID := Lib.hid (ID.out.below (below_drewN (Below.refl _ w3) q))
  replace P1 := Lib.hid (P1.out.below (below_drewN (Below.refl _ w3) q))
  replace P2 := Lib.hid (P2.out.below (below_drewN (Below.refl _ w3) q))
  have HB4 := Lib.hid (below_drewN HB3.out q)
  generalize w3.drewN q = w4 at *
  go_wp2_with fail
  have hbn1 := (Below.refl _ w4).alloc (Nat.le_refl _) (.cells #[.int .i64 100, .int .i64 200, .int .i64 100, .int .i64 300, .int .i64 100, .int .i64 160] 42)
  have hbn2 := (Below.refl _ (w4.alloc (.cells #[.int .i64 100, .int .i64 200, .int .i64 100, .int .i64 300, .int .i64 100, .int .i64 160] 42))).alloc (Nat.le_refl _) (.cells #[.int .i64 300, .int .i64 300, .int .i64 300] 2)
  have hbn := bel_trans hbn1 hbn2
  have P3 := Lib.hid (Recs.of_alloc (f := win) (sz := 2) (fun _ => rfl) w4 #[.int .i64 100, .int .i64 200, .int .i64 100, .int .i64 300, .int .i64 100, .int .i64 160] 42 exZ 3 rfl rfl _ rfl)
  replace P3 := Lib.hid (P3.out.below hbn2)
  have IW := Lib.hid (Ints.of_alloc (w4.alloc (.cells #[.int .i64 100, .int .i64 200, .int .i64 100, .int .i64 300, .int .i64 100, .int .i64 160] 42)) #[.int .i64 300, .int .i64 300, .int .i64 300] 2 [300, 300, 300] 3 rfl rfl (w4.heap.size + 1) (by simp))
  replace ID := Lib.hid (ID.out.below hbn)
  replace P1 := Lib.hid (P1.out.below hbn)
  replace P2 := Lib.hid (P2.out.below hbn)
  have HB5 := Lib.hid (bel_trans HB4.out hbn)
  clear hbn hbn1 hbn2
  generalize (w4.alloc (.cells #[.int .i64 100, .int .i64 200, .int .i64 100, .int .i64 300, .int .i64 100, .int .i64 160] 42)).alloc (.cells #[.int .i64 300, .int .i64 300, .int .i64 300] 2) = w5 at *
  refine (sl_ex (xSpPlan _ A1 _ 3 3 2 c1 3 3 exZ exY [300, 300, 300] w5 P3.out P1.out IW.out (by decide) (by decide) (by decide) HC1.out.le HC1.out.mx) ex_pl.1 ex_pl.2).mono ?_; rintro e w6 ⟨A2, c2, rfl, hI, hB⟩
  replace ID := Lib.hid (ID.out.below hB)
  replace P1 := Lib.hid (P1.out.below hB)
  replace P2 := Lib.hid (P2.out.below hB)
  replace P3 := Lib.hid (P3.out.below hB)
  replace IW := Lib.hid (IW.out.below hB)
  have I2 := Lib.hid hI
  have HB6 := Lib.hid (bel_trans HB5.out hB)
  clear hB hI
  go_wp2_with fail
  refine (nb_ex (xSpSpan _ A1 3 3 2 c1 exZ exY w6 P3.out P1.out (by decide) (by decide) HC1.out.le HC1.out.mx) ex_sp.1 ex_sp.2).mono ?_; rintro e w7 ⟨rfl, hB⟩
  replace ID := Lib.hid (ID.out.below hB)
  replace P1 := Lib.hid (P1.out.below hB)
  replace P2 := Lib.hid (P2.out.below hB)
  replace P3 := Lib.hid (P3.out.below hB)
  replace IW := Lib.hid (IW.out.below hB)
  replace I2 := Lib.hid (I2.out.below hB)
  have HB7 := Lib.hid (bel_trans HB6.out hB)
  clear hB
  go_wp2_with fail
  refine (sl_ex (xSpFamily _ A1 3 3 2 c1 exZ exY 65 w7 P3.out P1.out (by decide) (by decide) HC1.out.le HC1.out.mx) ex_fa.1 ex_fa.2).mono ?_; rintro e w8 ⟨A3, c3, rfl, hI, hB⟩
  replace ID := Lib.hid (ID.out.below hB)
  replace P1 := Lib.hid (P1.out.below hB)
  replace P2 := Lib.hid (P2.out.below hB)
  replace P3 := Lib.hid (P3.out.below hB)
  replace IW := Lib.hid (IW.out.below hB)
  replace I2 := Lib.hid (I2.out.below hB)
  have I3 := Lib.hid hI
  have HB8 := Lib.hid (bel_trans HB7.out hB)
  clear hB hI
  go_wp2_with fail
  have hbn1 := (Below.refl _ w8).alloc (Nat.le_refl _) (.cells #[.int .i64 1000, .int .i64 0] 2)
  have hbn2 := (Below.refl _ (w8.alloc (.cells #[.int .i64 1000, .int .i64 0] 2))).alloc (Nat.le_refl _) (.cells #[.int .i64 300, .int .i64 300] 2)
  have hbn := bel_trans hbn1 hbn2
  have IX := Lib.hid (Ints.of_alloc w8 #[.int .i64 1000, .int .i64 0] 2 [1000, 0] 2 rfl rfl _ rfl)
  replace IX := Lib.hid (IX.out.below hbn2)
  have IY := Lib.hid (Ints.of_alloc (w8.alloc (.cells #[.int .i64 1000, .int .i64 0] 2)) #[.int .i64 300, .int .i64 300] 2 [300, 300] 2 rfl rfl (w8.heap.size + 1) (by simp))
  replace ID := Lib.hid (ID.out.below hbn)
  replace P1 := Lib.hid (P1.out.below hbn)
  replace P2 := Lib.hid (P2.out.below hbn)
  replace P3 := Lib.hid (P3.out.below hbn)
  replace IW := Lib.hid (IW.out.below hbn)
  replace I2 := Lib.hid (I2.out.below hbn)
  replace I3 := Lib.hid (I3.out.below hbn)
  have HB9 := Lib.hid (bel_trans HB8.out hbn)
  clear hbn hbn1 hbn2
  generalize (w8.alloc (.cells #[.int .i64 1000, .int .i64 0] 2)).alloc (.cells #[.int .i64 300, .int .i64 300] 2) = w9 at *
  refine (sl_ex (xSpTicks _ _ 2 2 2 2 [1000, 0] [300, 300] w9 IX.out IY.out (by decide) (by decide)) ex_tk.1 ex_tk.2).mono ?_; rintro e w10 ⟨A4, c4, rfl, hI, hB⟩
  replace ID := Lib.hid (ID.out.below hB)
  replace P1 := Lib.hid (P1.out.below hB)
  replace P2 := Lib.hid (P2.out.below hB)
  replace P3 := Lib.hid (P3.out.below hB)
  replace IW := Lib.hid (IW.out.below hB)
  replace I2 := Lib.hid (I2.out.below hB)
  replace I3 := Lib.hid (I3.out.below hB)
  replace IX := Lib.hid (IX.out.below hB)
  replace IY := Lib.hid (IY.out.below hB)
  have I4 := Lib.hid hI
  have HB10 := Lib.hid (bel_trans HB9.out hB)
  clear hB hI
  go_wp2_with fail
  have hbn := (Below.refl _ w10).alloc (Nat.le_refl _) (.cells #[.int .i64 184, .int .i64 170, .int .i64 160] 2)
  have J2 := Lib.hid (Ints.of_alloc w10 #[.int .i64 184, .int .i64 170, .int .i64 160] 2 [184, 170, 160] 3 rfl rfl _ rfl)
  replace ID := Lib.hid (ID.out.below hbn)
  replace P1 := Lib.hid (P1.out.below hbn)
  replace P2 := Lib.hid (P2.out.below hbn)
  replace P3 := Lib.hid (P3.out.below hbn)
  replace IW := Lib.hid (IW.out.below hbn)
  replace I2 := Lib.hid (I2.out.below hbn)
  replace I3 := Lib.hid (I3.out.below hbn)
  replace IX := Lib.hid (IX.out.below hbn)
  replace IY := Lib.hid (IY.out.below hbn)
  replace I4 := Lib.hid (I4.out.below hbn)
  have HB11 := Lib.hid (bel_trans HB10.out hbn)
  clear hbn
  generalize w10.alloc (.cells #[.int .i64 184, .int .i64 170, .int .i64 160] 2) = w11 at *
  refine (same_yes A2 _ 3 c2 3 [184, 170, 160] _ I2.out J2.out (by decide)).mono ?_; rintro e w' ⟨rfl, q, rfl⟩
  replace ID := Lib.hid (ID.out.below (below_drewN (Below.refl _ w11) q))
  replace P1 := Lib.hid (P1.out.below (below_drewN (Below.refl _ w11) q))
  replace P2 := Lib.hid (P2.out.below (below_drewN (Below.refl _ w11) q))
  replace P3 := Lib.hid (P3.out.below (below_drewN (Below.refl _ w11) q))
  replace IW := Lib.hid (IW.out.below (below_drewN (Below.refl _ w11) q))
  replace I2 := Lib.hid (I2.out.below (below_drewN (Below.refl _ w11) q))
  replace I3 := Lib.hid (I3.out.below (below_drewN (Below.refl _ w11) q))
  replace IX := Lib.hid (IX.out.below (below_drewN (Below.refl _ w11) q))
  replace IY := Lib.hid (IY.out.below (below_drewN (Below.refl _ w11) q))
  replace I4 := Lib.hid (I4.out.below (below_drewN (Below.refl _ w11) q))
  replace J2 := Lib.hid (J2.out.below (below_drewN (Below.refl _ w11) q))
  have HB12 := Lib.hid (below_drewN HB11.out q)
  generalize w11.drewN q = w12 at *
  go_wp2_with fail
  have hbn := (Below.refl _ w12).alloc (Nat.le_refl _) (.cells #[.int .i64 165, .int .i64 165, .int .i64 160] 2)
  have J3 := Lib.hid (Ints.of_alloc w12 #[.int .i64 165, .int .i64 165, .int .i64 160] 2 [165, 165, 160] 3 rfl rfl _ rfl)
  replace ID := Lib.hid (ID.out.below hbn)
  replace P1 := Lib.hid (P1.out.below hbn)
  replace P2 := Lib.hid (P2.out.below hbn)
  replace P3 := Lib.hid (P3.out.below hbn)
  replace IW := Lib.hid (IW.out.below hbn)
  replace I2 := Lib.hid (I2.out.below hbn)
  replace I3 := Lib.hid (I3.out.below hbn)
  replace IX := Lib.hid (IX.out.below hbn)
  replace IY := Lib.hid (IY.out.below hbn)
  replace I4 := Lib.hid (I4.out.below hbn)
  replace J2 := Lib.hid (J2.out.below hbn)
  have HB13 := Lib.hid (bel_trans HB12.out hbn)
  clear hbn
  generalize w12.alloc (.cells #[.int .i64 165, .int .i64 165, .int .i64 160] 2) = w13 at *
  refine (same_yes A3 _ 3 c3 3 [165, 165, 160] _ I3.out J3.out (by decide)).mono ?_; rintro e w' ⟨rfl, q, rfl⟩
  replace ID := Lib.hid (ID.out.below (below_drewN (Below.refl _ w13) q))
  replace P1 := Lib.hid (P1.out.below (below_drewN (Below.refl _ w13) q))
  replace P2 := Lib.hid (P2.out.below (below_drewN (Below.refl _ w13) q))
  replace P3 := Lib.hid (P3.out.below (below_drewN (Below.refl _ w13) q))
  replace IW := Lib.hid (IW.out.below (below_drewN (Below.refl _ w13) q))
  replace I2 := Lib.hid (I2.out.below (below_drewN (Below.refl _ w13) q))
  replace I3 := Lib.hid (I3.out.below (below_drewN (Below.refl _ w13) q))
  replace IX := Lib.hid (IX.out.below (below_drewN (Below.refl _ w13) q))
  replace IY := Lib.hid (IY.out.below (below_drewN (Below.refl _ w13) q))
  replace I4 := Lib.hid (I4.out.below (below_drewN (Below.refl _ w13) q))
  replace J2 := Lib.hid (J2.out.below (below_drewN (Below.refl _ w13) q))
  replace J3 := Lib.hid (J3.out.below (below_drewN (Below.refl _ w13) q))
  have HB14 := Lib.hid (below_drewN HB13.out q)
  generalize w13.drewN q = w14 at *
  go_wp2_with fail
  have hbn := (Below.refl _ w14).alloc (Nat.le_refl _) (.cells #[.int .i64 4, .int .i64 0] 2)
  have J4 := Lib.hid (Ints.of_alloc w14 #[.int .i64 4, .int .i64 0] 2 [4, 0] 2 rfl rfl _ rfl)
  replace ID := Lib.hid (ID.out.below hbn)
  replace P1 := Lib.hid (P1.out.below hbn)
  replace P2 := Lib.hid (P2.out.below hbn)
  replace P3 := Lib.hid (P3.out.below hbn)
  replace IW := Lib.hid (IW.out.below hbn)
  replace I2 := Lib.hid (I2.out.below hbn)
  replace I3 := Lib.hid (I3.out.below hbn)
  replace IX := Lib.hid (IX.out.below hbn)
  replace IY := Lib.hid (IY.out.below hbn)
  replace I4 := Lib.hid (I4.out.below hbn)
  replace J2 := Lib.hid (J2.out.below hbn)
  replace J3 := Lib.hid (J3.out.below hbn)
  have HB15 := Lib.hid (bel_trans HB14.out hbn)
  clear hbn
  generalize w14.alloc (.cells #[.int .i64 4, .int .i64 0] 2) = w15 at *
  refine (same_yes A4 _ 2 c4 2 [4, 0] _ I4.out J4.out (by decide)).mono ?_; rintro e w' ⟨rfl, q, rfl⟩
  replace ID := Lib.hid (ID.out.below (below_drewN (Below.refl _ w15) q))
  replace P1 := Lib.hid (P1.out.below (below_drewN (Below.refl _ w15) q))
  replace P2 := Lib.hid (P2.out.below (below_drewN (Below.refl _ w15) q))
  replace P3 := Lib.hid (P3.out.below (below_drewN (Below.refl _ w15) q))
  replace IW := Lib.hid (IW.out.below (below_drewN (Below.refl _ w15) q))
  replace I2 := Lib.hid (I2.out.below (below_drewN (Below.refl _ w15) q))
  replace I3 := Lib.hid (I3.out.below (below_drewN (Below.refl _ w15) q))
  replace IX := Lib.hid (IX.out.below (below_drewN (Below.refl _ w15) q))
  replace IY := Lib.hid (IY.out.below (below_drewN (Below.refl _ w15) q))
  replace I4 := Lib.hid (I4.out.below (below_drewN (Below.refl _ w15) q))
  replace J2 := Lib.hid (J2.out.below (below_drewN (Below.refl _ w15) q))
  replace J3 := Lib.hid (J3.out.below (below_drewN (Below.refl _ w15) q))
  replace J4 := Lib.hid (J4.out.below (below_drewN (Below.refl _ w15) q))
  have HB16 := Lib.hid (below_drewN HB15.out q)
  generalize w15.drewN q = w16 at *
  go_wp2_with fail
  go_ret
  exact ⟨rfl, HB16.out⟩
end Go.Proofs.Ytgplpapphmaafaa
