/- Layer 34: what all its laws need: equal lists, the results of Where as numbers, and the chapter's examples (awake returns true). -/
import Derived.Test.YtgmpaffoajmmmaaCr
import Derived.Test.YtgmpaffoajmmmaaWhR
import Derived.Test.YtgmpaffoajmmmaaPfR
import Derived.Test.YtgmpaffoajmmmaaMt
namespace Go.Proofs.Ytgmpaffoajmmmaa
set_option linter.unusedSimpArgs false
set_option linter.unusedVariables false
open Go.RowKit

/-- what Where returns, as numbers -/
noncomputable def whE (v d : List Int) (lv : Int) : Int := open Classical in if Pf.chE v d ≠ 0 then Pf.chE v d else if ∃ s, Pf.WhP v d lv s then 0 else 6
noncomputable def whV (v d : List Int) (lv : Int) : Int := open Classical in if Pf.chE v d ≠ 0 then 0 else if h : ∃ s, Pf.WhP v d lv s then Classical.choose h else 0
theorem whV_of {v d : List Int} {lv s : Int} (hc : Pf.chE v d = 0) (h : Pf.WhP v d lv s) : whV v d lv = s ∧ whE v d lv = 0 := by
  have hex : ∃ s, Pf.WhP v d lv s := ⟨s, h⟩
  unfold whV whE
  rw [if_neg (by omega), if_neg (by omega), dif_pos hex, if_pos hex]
  exact ⟨(Classical.choose_spec hex).uniq h, rfl⟩
theorem whV_none {v d : List Int} {lv : Int} (hc : Pf.chE v d = 0) (h : Pf.Bey v d lv 0) : whV v d lv = 0 ∧ whE v d lv = 6 := by
  have hex : ¬ ∃ s, Pf.WhP v d lv s := fun ⟨s, hs⟩ => h.not hs
  unfold whV whE
  rw [if_neg (by omega), if_neg (by omega), dif_neg hex, if_neg hex]
  exact ⟨rfl, rfl⟩
theorem whV_bad {v d : List Int} {lv : Int} (hc : Pf.chE v d ≠ 0) : whV v d lv = 0 ∧ whE v d lv = Pf.chE v d := by
  unfold whV whE
  rw [if_pos hc, if_pos hc]
  exact ⟨rfl, rfl⟩
theorem wh_det {F : FuncId} {args : Array Value} {v d : List Int} {lv : Int} {w : World} (h : Calls Try.prog F args w (WhPost v d lv w)) : Calls Try.prog F args w (BwB (whV v d lv) (whE v d lv) w) := by
  refine h.mono fun e w' ⟨h1, h2, h3⟩ => ?_
  by_cases hc : Pf.chE v d = 0
  · rcases h1 hc with ⟨s, rfl, hs⟩ | ⟨rfl, hn⟩
    · obtain ⟨e1, e2⟩ := whV_of hc hs
      exact ⟨by rw [e1, e2], h3⟩
    · obtain ⟨e1, e2⟩ := whV_none hc hn
      exact ⟨by rw [e1, e2], h3⟩
  · obtain ⟨e1, e2⟩ := whV_bad (lv := lv) hc
    exact ⟨by rw [e1, e2]; exact h2 hc, h3⟩

def SmPost (w : World) (e : Ending) (w' : World) : Prop := e = .returned (.bool true) ∧ ∃ q, w' = w.drewN q
def SmRel (n : Nat) (w : World) (t : Value) (wr : World) : Prop := ∃ k q : Nat, k ≤ n ∧ t = .int .i64 k ∧ wr = w.drewN q
set_option maxRecDepth 100000 in
set_option maxHeartbeats 2000000 in
theorem same_yes (A B : Option Addr) (n cn cm : Nat) (l : List Int) (w : World) (ha : Ints w A n l) (hb : Ints w B n l) (hn : n ≤ maxLen) :
    Calls Try.prog 14 #[.slice A n cn, .slice B n cm] w (SmPost w) := by
  unfold maxLen at hn
  have HL := Lib.hid ha.len
  have HA := Lib.hid ha
  have HB := Lib.hid hb
  have hne : ((n : Int) != (n : Int)) = false := by simp
  clear ha hb
  go_enter Try.func14, Try.ntmps14
  go_wp2_with fail
  go_loopw [13] (fun t wr => SmRel n w t wr) (fun t _ => n - (intOf t).toNat)
  case atStart => exact ⟨0, 0, by omega, rfl, rfl⟩
  case round =>
    obtain ⟨k, q, hk, rfl, hw⟩ := hrel
    have HW := Lib.hid hw
    clear hw
    by_cases hlt : k < n
    · obtain ⟨x, hx⟩ := get_ex HL.out hlt
      obtain ⟨ba, oa, rfl, hba, ca⟩ := HA.out.cell hx
      obtain ⟨bb, ob, rfl, hbb, cb⟩ := HB.out.cell hx
      have ca2 : wr.cell? ⟨ba, oa + k, none⟩ = some (.int .i64 x) := by rw [HW.out]; exact ca
      have cb2 : wr.cell? ⟨bb, ob + k, none⟩ = some (.int .i64 x) := by rw [HW.out]; exact cb
      have e0 : (0 : Int) ≤ (k : Int) := by omega
      have e1 : (k : Int) < (n : Int) := by omega
      have e2 : (x != x) = false := by simp
      clear hx ca cb
      go_wp2_with fail
      go_quiet (fail)
      go_wp2_with fail
      go_roundw
      case rel => exact ⟨k + 1, q + nq, by omega, by go_num, by rw [HW.out, World.drewN_drewN]⟩
      case measure => simp only [intOf]; omega
    · go_wp2_with fail
      go_ret
      exact ⟨rfl, q, HW.out⟩

def exW : Cs.Wins := [(0, 0), (0, 100), (0, 100), (10, 10)]
def exS : Cs.Wins := [(50, 9), (50, 60), (50, 60)]
theorem ex_tg : Cs.tgE exW exS = 0 := by decide
theorem ex_hi : (Cs.tight exW exS).map (fun p => p.2) = [0, 50, 70, 10] := by decide
theorem ex_lo : (Cs.tight exW exS).map (fun p => p.1) = [0, 0, 0, 10] := by decide
theorem ex_cr : crE exW exS 40 = 0 ∧ crV exW exS 40 = [0, 40, 40, 10] ∧ scn (crV exW exS 40) 40 4 = (1, 2) := by decide
theorem ex_bw : (Pf.bwV [0, 40, 40, 10] [100, 200, 7] 303 = 27 ∧ Pf.bwE [0, 40, 40, 10] [100, 200, 7] 303 = 0) ∧ Pf.bwV [0, 40, 40, 10] [100, 200, 7] 300 = 40 ∧ Pf.bwE [0, 40, 40, 10] [100, 200, 7] 300 = 0 := by decide
theorem ex_wh : whV [0, 40, 40, 10] [100, 200, 7] 30 = 302 ∧ whE [0, 40, 40, 10] [100, 200, 7] 30 = 0 := by
  refine whV_of (by decide) ⟨by decide, by decide, by decide, fun t h0 h1 => ?_⟩
  have h2 : t ≤ 307 := h1
  have : t = 303 ∨ t = 304 ∨ t = 305 ∨ t = 306 ∨ t = 307 := by omega
  rcases this with rfl | rfl | rfl | rfl | rfl <;> decide
theorem gr_ex {f : Int × Int → Int} {ws st : Cs.Wins} {n : Nat} {w : World} {l : List Int} {e : Ending} {w' : World} (h : GrPost f ws st n w e w') (ht : Cs.tgE ws st = 0) (hl : (Cs.tight ws st).map f = l) : ∃ A c, e = .returned (.tuple #[.slice A n c, .int .i64 0]) ∧ Ints w' A n l ∧ Below w.heap.size w w' := by
  obtain ⟨A, c, h1, h2⟩ := h.1 ht
  exact ⟨A, c, h1, by rw [← hl]; exact h2, h.2.2⟩
theorem cr_ex {ws st : Cs.Wins} {lv : Int} {n : Nat} {w : World} {l : List Int} {i j : Int} {e : Ending} {w' : World} (h : CrPost ws st lv n w e w') (ht : crE ws st lv = 0) (hl : crV ws st lv = l) (hs : scn (crV ws st lv) lv n = (i, j)) : ∃ A c, e = .returned (.tuple #[.slice A n c, .int .i64 i, .int .i64 j, .int .i64 0]) ∧ Ints w' A n l ∧ Below w.heap.size w w' := by
  obtain ⟨A, c, h1, h2⟩ := h.1 ht
  rw [hs] at h1
  exact ⟨A, c, h1, by rw [← hl]; exact h2, h.2.2⟩
theorem bwpv {F : FuncId} {args : Array Value} {w : World} {X Y V E : Int} (h : Calls Try.prog F args w (BwPost X Y w)) (hx : X = V) (hy : Y = E) : Calls Try.prog F args w (BwPost V E w) := by subst hx hy; exact h
theorem bwbv {F : FuncId} {args : Array Value} {w : World} {X Y V E : Int} (h : Calls Try.prog F args w (BwB X Y w)) (hx : X = V) (hy : Y = E) : Calls Try.prog F args w (BwB V E w) := by subst hx hy; exact h
theorem aw_start (w : World) : Pairs ((w.alloc (.cells #[.int .i64 0, .int .i64 0, .int .i64 0, .int .i64 100, .int .i64 0, .int .i64 100, .int .i64 10, .int .i64 10] 42)).alloc (.cells #[.int .i64 50, .int .i64 9, .int .i64 50, .int .i64 60, .int .i64 50, .int .i64 60] 50)) (some ⟨w.heap.size, 0, none⟩) 4 exW ∧
    Pairs ((w.alloc (.cells #[.int .i64 0, .int .i64 0, .int .i64 0, .int .i64 100, .int .i64 0, .int .i64 100, .int .i64 10, .int .i64 10] 42)).alloc (.cells #[.int .i64 50, .int .i64 9, .int .i64 50, .int .i64 60, .int .i64 50, .int .i64 60] 50)) (some ⟨w.heap.size + 1, 0, none⟩) 3 exS ∧
    Below w.heap.size w ((w.alloc (.cells #[.int .i64 0, .int .i64 0, .int .i64 0, .int .i64 100, .int .i64 0, .int .i64 100, .int .i64 10, .int .i64 10] 42)).alloc (.cells #[.int .i64 50, .int .i64 9, .int .i64 50, .int .i64 60, .int .i64 50, .int .i64 60] 50)) :=
  ⟨(Recs.of_alloc (f := win) (sz := 2) (fun _ => rfl) w _ _ exW 4 rfl rfl _ rfl).below ((Below.refl _ _).alloc (Nat.le_refl _) _), Recs.of_alloc (f := win) (sz := 2) (fun _ => rfl) _ _ _ exS 3 rfl rfl _ (by simp), ((Below.refl _ w).alloc (Nat.le_refl _) _).alloc (by simp) _⟩

set_option maxRecDepth 100000 in
set_option maxHeartbeats 4000000 in
theorem awake_any (w : World) : Calls Try.prog 11 #[] w fun e w' => e = .returned (.bool true) ∧ Below w.heap.size w w' := by
  go_enter Try.func11, Try.ntmps11
  go_wp2_with fail
  have HW0 := Lib.hid (aw_start w)
  generalize ((w.alloc (.cells #[.int .i64 0, .int .i64 0, .int .i64 0, .int .i64 100, .int .i64 0, .int .i64 100, .int .i64 10, .int .i64 10] 42)).alloc (.cells #[.int .i64 50, .int .i64 9, .int .i64 50, .int .i64 60, .int .i64 50, .int .i64 60] 50)) = W0 at *
  obtain ⟨hp, hs, hb⟩ := HW0.out
  have HP := Lib.hid hp
  have HS := Lib.hid hs
  have HB := Lib.hid hb
  clear hp hs hb HW0
  refine ((xGreatest _ _ 4 4 3 3 exW exS W0 HP.out HS.out (by decide) (by decide) (by decide) (by decide)).mono (fun e w' h => gr_ex h ex_tg ex_hi)).mono ?_; rintro e w1 ⟨A1, c1, rfl, hI, hB⟩
  have I1 := Lib.hid hI
  have HP1 := Lib.hid (HP.out.below hB)
  have HS1 := Lib.hid (HS.out.below hB)
  have HB1 := Lib.hid (bel_trans HB.out hB)
  clear hI hB HP HS HB
  go_wp2_with fail
  refine ((xLeast _ _ 4 4 3 3 exW exS w1 HP1.out HS1.out (by decide) (by decide) (by decide) (by decide)).mono (fun e w' h => gr_ex h ex_tg ex_lo)).mono ?_; rintro e w2 ⟨A2, c2, rfl, hI, hB⟩
  have I2 := Lib.hid hI
  replace I1 := Lib.hid (I1.out.below hB)
  have HP2 := Lib.hid (HP1.out.below hB)
  have HS2 := Lib.hid (HS1.out.below hB)
  have HB2 := Lib.hid (bel_trans HB1.out hB)
  clear hI hB HP1 HS1 HB1
  go_wp2_with fail
  refine ((xCruise _ _ 4 4 3 3 exW exS 40 w2 HP2.out HS2.out (by decide) (by decide) (by decide) (by decide) (by simp)).mono (fun e w' h => cr_ex h ex_cr.1 ex_cr.2.1 ex_cr.2.2)).mono ?_; rintro e w3 ⟨A3, c3, rfl, hI, hB⟩
  have I3 := Lib.hid hI
  replace I1 := Lib.hid (I1.out.below hB)
  replace I2 := Lib.hid (I2.out.below hB)
  have HB3 := Lib.hid (bel_trans HB2.out hB)
  clear hI hB HP2 HS2 HB2
  go_wp2_with fail
  have hbn := (Below.refl _ w3).alloc (Nat.le_refl _) (.cells #[.int .i64 0, .int .i64 50, .int .i64 70, .int .i64 10] 2)
  refine (same_yes A1 _ 4 c1 4 [0, 50, 70, 10] _ (I1.out.below hbn) (Ints.of_alloc w3 _ _ [0, 50, 70, 10] 4 rfl rfl _ rfl) (by decide)).mono ?_; rintro e w' ⟨rfl, q, rfl⟩
  have HB4 := Lib.hid (bel_trans HB3.out (below_drewN hbn q))
  replace I2 := Lib.hid (I2.out.below (below_drewN hbn q))
  replace I3 := Lib.hid (I3.out.below (below_drewN hbn q))
  clear hbn
  generalize (w3.alloc (.cells #[.int .i64 0, .int .i64 50, .int .i64 70, .int .i64 10] 2)).drewN q = w4 at *
  go_wp2_with fail
  have hbn := (Below.refl _ w4).alloc (Nat.le_refl _) (.cells #[.int .i64 0, .int .i64 0, .int .i64 0, .int .i64 10] 2)
  refine (same_yes A2 _ 4 c2 4 [0, 0, 0, 10] _ (I2.out.below hbn) (Ints.of_alloc w4 _ _ [0, 0, 0, 10] 4 rfl rfl _ rfl) (by decide)).mono ?_; rintro e w' ⟨rfl, q, rfl⟩
  have HB5 := Lib.hid (bel_trans HB4.out (below_drewN hbn q))
  replace I3 := Lib.hid (I3.out.below (below_drewN hbn q))
  clear hbn
  generalize (w4.alloc (.cells #[.int .i64 0, .int .i64 0, .int .i64 0, .int .i64 10] 2)).drewN q = w5 at *
  go_wp2_with fail
  have hbn := (Below.refl _ w5).alloc (Nat.le_refl _) (.cells #[.int .i64 0, .int .i64 40, .int .i64 40, .int .i64 10] 2)
  refine (same_yes A3 _ 4 c3 4 [0, 40, 40, 10] _ (I3.out.below hbn) (Ints.of_alloc w5 _ _ [0, 40, 40, 10] 4 rfl rfl _ rfl) (by decide)).mono ?_; rintro e w' ⟨rfl, q, rfl⟩
  have HB6 := Lib.hid (bel_trans HB5.out (below_drewN hbn q))
  replace I3 := Lib.hid (I3.out.below (below_drewN hbn q))
  clear hbn
  generalize (w5.alloc (.cells #[.int .i64 0, .int .i64 40, .int .i64 40, .int .i64 10] 2)).drewN q = w6 at *
  go_wp2_with fail
  have hbn := (Below.refl _ w6).alloc (Nat.le_refl _) (.cells #[.int .i64 100, .int .i64 200, .int .i64 7] 2)
  have ID := Lib.hid (Ints.of_alloc w6 #[.int .i64 100, .int .i64 200, .int .i64 7] 2 [100, 200, 7] 3 rfl rfl _ rfl)
  replace I3 := Lib.hid (I3.out.below hbn)
  have HB7 := Lib.hid (bel_trans HB6.out hbn)
  clear hbn
  generalize w6.alloc (.cells #[.int .i64 100, .int .i64 200, .int .i64 7] 2) = w7 at *
  refine (bwpv (between_any A3 _ 4 c3 3 3 [0, 40, 40, 10] [100, 200, 7] 303 w7 I3.out ID.out (by decide) (by decide) ⟨by decide, by decide⟩) ex_bw.1.1 ex_bw.1.2).mono ?_; rintro e w' ⟨rfl, q, rfl⟩
  replace I3 := Lib.hid (I3.out.below (below_drewN (Below.refl _ w7) q))
  replace ID := Lib.hid (ID.out.below (below_drewN (Below.refl _ w7) q))
  have HB8 := Lib.hid (below_drewN HB7.out q)
  generalize w7.drewN q = w8 at *
  go_wp2_with fail
  refine (bwpv (between_any A3 _ 4 c3 3 3 [0, 40, 40, 10] [100, 200, 7] 300 w8 I3.out ID.out (by decide) (by decide) ⟨by decide, by decide⟩) ex_bw.2.1 ex_bw.2.2).mono ?_; rintro e w' ⟨rfl, q, rfl⟩
  replace I3 := Lib.hid (I3.out.below (below_drewN (Below.refl _ w8) q))
  replace ID := Lib.hid (ID.out.below (below_drewN (Below.refl _ w8) q))
  have HB9 := Lib.hid (below_drewN HB8.out q)
  generalize w8.drewN q = w9 at *
  go_wp2_with fail
  refine (bwbv (wh_det (xWhere A3 _ 4 c3 3 3 [0, 40, 40, 10] [100, 200, 7] 30 w9 I3.out ID.out (by decide) (by decide))) ex_wh.1 ex_wh.2).mono ?_; rintro e w' ⟨rfl, hB⟩
  have HB10 := Lib.hid (bel_trans HB9.out hB)
  clear hB
  go_wp2_with fail
  go_ret
  exact ⟨rfl, HB10.out⟩
end Go.Proofs.Ytgmpaffoajmmmaa
