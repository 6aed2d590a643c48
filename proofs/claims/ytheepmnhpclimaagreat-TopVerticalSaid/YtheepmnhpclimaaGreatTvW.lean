
/- Over the layers: TopVertical, the walk. -/
import Derived.Test.YtheepmnhpclimaaGreatTpB
import Derived.Test.YtheepmnhpclimaaGreatM39
import Derived.Test.YtheepmnhpclimaaGreatM40
import Derived.Test.YtheepmnhpclimaaGreatM21
import Derived.Test.YtheepmnhpclimaaGreatPr3
import Derived.Test.YtheepmnhpclimaaGreatM1
import Derived.RegionTactic
import Derived.Deep.CutBlock
namespace Go.Proofs.YtheepmnhpclimaaGreat
set_option linter.unusedSimpArgs false
set_option linter.unusedVariables false
open Go.RowKit
theorem ret_tt_tv {v : Bool} (h : v = true) : Ending.returned (.bool v) = .returned (.bool true) := by rw [h]
theorem boxS0v (w : World) : BoxS w 0 [] w := ⟨fun i cs hi => by simp at hi, by simp, Below.refl _ _, by simp⟩
/-- the first round: the legs so far and their sum -/
def TvR1 (s : Stp) (B : World) (v t i : Value) (wr : World) : Prop := ∃ k : Nat, k ≤ s.no.length ∧ i = .int .i64 (k : Int) ∧ t = .int .i64 (smD (dstL s) (k - 1)) ∧ BoxS B 0 [] wr ∧ Ow oneI 1 2 B.heap.size ((dstL s).take (k - 1)) v wr
/-- the second round: the sum of the legs -/
def TvR2 (s : Stp) (B : World) (t i : Value) (wr : World) : Prop := ∃ k : Nat, k ≤ s.no.length ∧ i = .int .i64 (k : Int) ∧ t = .int .i64 (smD (dstL s) (k - 1)) ∧ BoxS B 0 [] wr
/-- the third round -/
def TvR3 (s : Stp) (x : Int) (B : World) (i t : Value) (wr : World) : Prop := ∃ k : Nat, k < s.no.length ∧ i = .int .i64 (k : Int) ∧ t = .int .i64 (smD (dstL s) k) ∧ smD (dstL s) k ≤ x ∧ B = wr
theorem int_at9 {W : World} {b off n : Nat} {l : List Int} (h : Ints W (some ⟨b, off, none⟩) n l) {k : Nat} {x : Int} (hx : l[k]? = some x) : W.cell? ⟨b, off + k, none⟩ = some (.int .i64 x) := by
  obtain ⟨b', o', h1, h2, h3⟩ := h.cells (by have := h.len; have := (List.getElem?_eq_some_iff.1 hx).1; omega)
  injection h1 with h1; injection h1 with h1 h4; subst h1; subst h4
  exact h3 k _ hx
theorem int_A9 {W : World} {A : Option Addr} {n : Nat} {l : List Int} (h : Ints W A n l) (hn : 0 < n) : ∃ b off, A = some ⟨b, off, none⟩ := by
  obtain ⟨b, off, h1, _, _⟩ := h.cells hn
  exact ⟨b, off, h1⟩
theorem pass_A9 {W : World} {A : Option Addr} {n : Nat} {l : List Pass} (h : Passes W A n l) (hn : 0 < n) : ∃ b off, A = some ⟨b, off, none⟩ := by
  obtain ⟨b, off, h1, _, _⟩ := h.cells hn
  exact ⟨b, off, h1⟩
theorem pass_at9 {W : World} {b off n : Nat} {l : List Pass} (h : Passes W (some ⟨b, off, none⟩) n l) {k : Nat} {p : Pass} (hk : l[k]? = some p) : b < W.heap.size ∧ ∀ j u, p.cells[j]? = some u → W.cell? ⟨b, off + k * 13 + j, none⟩ = some u := by
  obtain ⟨b', o', h1, h2, h3⟩ := h.cells (by have := h.len; have := (List.getElem?_eq_some_iff.1 hk).1; omega)
  injection h1 with h1; injection h1 with h1 h4; subst h1; subst h4
  exact ⟨h2, fun j u hj => h3 k p hk j u hj⟩
theorem dst_take9 {s : Stp} {k : Nat} (hk : k + 1 < s.no.length) : (dstL s).take (k + 1) = (dstL s).take k ++ [(nodA s (k + 1)).di] := take_succ_get _ k _ (tv_dst hk)
theorem clamp_bd {x lo hi : Int} (h : lo ≤ hi) : lo ≤ min (max x lo) hi ∧ min (max x lo) hi ≤ hi := by omega
/-- passage k of a prediction -/
theorem tv_pass {s : Stp} (N : StN s) (R : RnG s) (e : runL s = wtL s (altL s) (pnL s)) {k : Nat} (hk : k < s.no.length) : ∃ p : Pass, (runL s)[k]? = some p ∧ p.alt = (altL s).getD k 0 ∧ p.cas = (pnL s).getD k 0 := by
  refine ⟨psP s (altL s) (pnL s) k, by rw [e]; exact wtL_get hk, (psP_alt _ _ _).1, (psP_alt _ _ _).2⟩
set_option maxRecDepth 100000 in
set_option maxHeartbeats 16000000 in
theorem walk_TopVertical (s : Stp) (at_ la lb : Int) (w : World) (hl : s.lies w) (hok : s.ok) (hsw : StpW s) (hn0 : (Lit.int .i64 at_).wf = true) (hla0 : (Lit.int .i64 la).wf = true) (hlb0 : (Lit.int .i64 lb).wf = true) : Calls Tryz.prog 7 #[.agg s.cells.toArray, .int .i64 at_, .agg #[.int .i64 la, .int .i64 lb]] w (fun e w' => e = .returned (.bool true) ∧ Below w.heap.size w w') := by
  have HS := Lib.hid (boxS2 w s.cells.toArray #[.int .i64 la, .int .i64 lb] 35 67)
  have HAW := Lib.hid bFlight_ok
  have hat : I64 at_ := wf_i64_bd hn0
  have hla : I64 la := wf_i64_bd hla0
  have hlb : I64 lb := wf_i64_bd hlb0
  have HRN := Lib.hid (fun W (h : BoxS w 2 [s.cells, [.int .i64 la, .int .i64 lb]] W) => xPRun s W (hl.below h.B) hok)
  unfold RunP at HRN
  have N := StN.of hl
  have hno := N.no
  generalize (runC s).1 = rx at *
  generalize (runC s).2 = ry at *
  generalize (runS s) = rb at *
  by_cases hr : runE s = 0
  rotate_left
  · rw [show okN (runE s) s.no.length = 0 from if_neg hr] at HRN
    have e1 := beq_of hr
    have e2 := bne_of e1
    generalize runE s = E at *
    clear hl hok hsw hn0 hla0 hlb0 hat hla hlb hr N hno
    go_enter Tryz.func7, Tryz.ntmps7
    go_wp2_with fail
    refine (HAW.out _).mono ?_; rintro e' w1 ⟨rfl, hB⟩
    replace HS := Lib.hid (HS.out.below hB)
    clear hB HAW
    go_wp2_with (refine at_stp (.tmp 3) rfl rfl rfl (HS.out.has 0 _ rfl) ?_)
    refine (HRN.out _ HS.out).mono ?_; rintro e' w2 ⟨A1, c1, rfl, -, -, hB⟩
    replace HS := Lib.hid (HS.out.below hB)
    clear hB HRN
    have Q7 : Hid (Has ((w2.alloc (.cells #[.slice A1 0 c1, .int .i64 rx, .int .i64 ry, .bool rb] 57))) w2.heap.size [.slice A1 0 c1, .int .i64 rx, .int .i64 ry, .bool rb]) := Lib.hid (Has.new _ _ _)
    have r7 : w.heap.size + 2 ≤ w2.heap.size := HS.out.sz
    replace HS := Lib.hid ((HS.out.alloc (.cells #[.slice A1 0 c1, .int .i64 rx, .int .i64 ry, .bool rb] 57)))
    have c7_0 := Q7.out.cell 0 (.slice A1 0 c1) rfl
    go_wp2_with fail
    go_ret
    exact ⟨ret_tt_tv (by simp), HS.out.B⟩
  rw [hr] at HRN
  simp only [okN_0] at HRN
  obtain ⟨R, hw⟩ := run_good N hr
  have hn2 := no_len R.G N
  obtain ⟨i1, i2⟩ := hn2
  have HAL := Lib.hid (tv_al N R hw)
  have HCA := Lib.hid (tv_sp N R hw)
  have HND := Lib.hid (fun (k : Nat) (hk : k < s.no.length) (h : k + 1 < s.no.length → (nodA s (k + 1)).di ≠ 0) => tv_node N R hk h)
  have HMD := Lib.hid (fun (k : Nat) (hk : k < s.no.length) (x : Int) (h1 : smD (dstL s) k ≤ x) (h2 : x ≤ (dstL s).sum) (h3 : k + 1 < s.no.length → x < smD (dstL s) (k + 1)) => tv_mid N R hk h1 h2 h3)
  have HS0 := Lib.hid (fun (k : Nat) (hk : k < s.no.length) => tv_s0 R hk)
  have HSB := Lib.hid (fun (k : Nat) (hk : k < s.no.length) => tv_sb N R hk)
  have HDB := Lib.hid (fun (k : Nat) (hk : k + 1 < s.no.length) => tv_dst (s := s) hk)
  have HPA := Lib.hid (fun (k : Nat) (hk : k < s.no.length) => tv_pass N R hw hk)
  have hdl : (dstL s).length = s.no.length - 1 := (dst_bd R.G N).2
  have HSA : Hid (smD (dstL s) (s.no.length - 1) = (dstL s).sum) := Lib.hid (by rw [← hdl]; exact smD_all _)
  obtain ⟨nb, off, hA⟩ := su_A hl (by omega)
  have HNS := Lib.hid (fun W (h : BoxS w 2 [s.cells, [.int .i64 la, .int .i64 lb]] W) => show W.cell? ⟨w.heap.size, 0, none⟩ = some (.slice (some ⟨nb, off, none⟩) s.no.length s.sno.c) from by rw [hno]; exact su_sl (h.has 0 _ rfl) hA)
  have HNV := Lib.hid (fun W (h : BoxS w 2 [s.cells, [.int .i64 la, .int .i64 lb]] W) k (hk : k < s.no.length) => su_nd (hl.below h.B) hA hk)
  have HLV := Lib.hid (fun W (h : BoxS w 2 [s.cells, [.int .i64 la, .int .i64 lb]] W) => show W.cell? ⟨w.heap.size, 29, none⟩ = some (.int .i64 s.lv) from su_lv (h.has 0 _ rfl))
  have HLA := Lib.hid (fun W (h : BoxS w 2 [s.cells, [.int .i64 la, .int .i64 lb]] W) => show W.cell? ⟨w.heap.size + 1, 0, none⟩ = some (.int .i64 la) ∧ W.cell? ⟨w.heap.size + 1, 1, none⟩ = some (.int .i64 lb) from ⟨h.at 1 _ rfl 0 _ rfl, h.at 1 _ rfl 1 _ rfl⟩)
  have HDL := Lib.hid hdl
  obtain ⟨i0, hi, hz0, hz1, hz2⟩ := info_parts infoI64
  generalize runL s = RL at *
  clear hl hok hsw hn0 hla0 hlb0 hr N hno R hw hA hdl
  go_enter Tryz.func7, Tryz.ntmps7
  go_wp2_with fail
  refine (HAW.out _).mono ?_; rintro e' w1 ⟨rfl, hB⟩
  replace HS := Lib.hid (HS.out.below hB)
  clear hB HAW
  go_wp2_with (refine at_stp (.tmp 3) rfl rfl rfl (HS.out.has 0 _ rfl) ?_)
  refine (HRN.out _ HS.out).mono ?_; rintro e' w2 ⟨A1, c1, rfl, hP1, -, hB⟩
  replace HS := Lib.hid (HS.out.below hB)
  obtain ⟨b5, o5, rfl⟩ := pass_A9 hP1 (by omega)
  have P1 := Lib.hid hP1
  clear hB HRN hP1
  replace P1 := Lib.hid (P1.out.below (below_alloc1 w2 (.cells #[.slice (some ⟨b5, o5, none⟩) s.no.length c1, .int .i64 rx, .int .i64 ry, .bool rb] 57)))
  have Q7 : Hid (Has ((w2.alloc (.cells #[.slice (some ⟨b5, o5, none⟩) s.no.length c1, .int .i64 rx, .int .i64 ry, .bool rb] 57))) w2.heap.size [.slice (some ⟨b5, o5, none⟩) s.no.length c1, .int .i64 rx, .int .i64 ry, .bool rb]) := Lib.hid (Has.new _ _ _)
  have r7 : w.heap.size + 2 ≤ w2.heap.size := HS.out.sz
  replace HS := Lib.hid ((HS.out.alloc (.cells #[.slice (some ⟨b5, o5, none⟩) s.no.length c1, .int .i64 rx, .int .i64 ry, .bool rb] 57)))
  have c7_0 := Q7.out.cell 0 (.slice (some ⟨b5, o5, none⟩) s.no.length c1) rfl
  have k0 := HNS.out _ HS.out
  go_wp2_with fail
  clear k0
  clear c7_0
  generalize (w2.alloc (.cells #[.slice (some ⟨b5, o5, none⟩) s.no.length c1, .int .i64 rx, .int .i64 ry, .bool rb] 57)) = w3 at *
  generalize w2.heap.size = H7 at *
  have HY := Lib.hid (fun W (h : BoxS w3 0 [] W) => HS.out.below h.B)
  go_loopw [9, 10, 57] (fun v t i wr => TvR1 s w3 v t i wr) (fun _ _ i _ => s.no.length - (intOf i).toNat)
  case atStart => exact ⟨0, by omega, rfl, rfl, boxS0v _, Ow.start _ _ _ _ _⟩
  case round =>
    obtain ⟨k, hk, rfl, rfl, hs, ho⟩ := hrel
    have HW := Lib.hid hs
    have HO := Lib.hid ho
    clear hs ho
    by_cases hlt : k < s.no.length
    · have hlt' : (k : Int) < (s.no.length : Int) := by omega
      have hk0 : (0 : Int) ≤ (k : Int) := by omega
      have hg : IntKind.i64.wrap ((k : Int) + 1) = (k : Int) + 1 := IntWalk.i64_in _ (by omega)
      obtain ⟨n0, n1, n2, n3, n4, n5, n6⟩ := HNV.out _ (HY.out _ HW.out) k hlt
      have hs0 := HS0.out k hlt
      have hsb := HSB.out k hlt
      rcases Nat.eq_zero_or_pos k with hz | hz
      · have HZ := Lib.hid hz
        have hgt : ¬ (0 : Int) < (k : Int) := by omega
        clear hz hs0 hsb
        go_wp2_with fail
        go_roundw
        case rel => exact ⟨k + 1, by omega, by go_num, by rw [HZ.out], HW.out.alloc _, by have h := HO.out.alloc (.cells #[.int .i64 (nodA s k).px, .int .i64 (nodA s k).py, .int .i64 (nodA s k).di, .int .i64 (nodA s k).a0, .int .i64 (nodA s k).a1, .int .i64 (nodA s k).s0, .int .i64 (nodA s k).s1] 45); rw [HZ.out] at h ⊢; exact h⟩
        case measure => simp only [intOf]; omega
      · have hgt : (0 : Int) < (k : Int) := by omega
        have HTK := Lib.hid (show (dstL s).take k = (dstL s).take (k - 1) ++ [(nodA s k).di] from by have h := dst_take9 (s := s) (k := k - 1) (by omega); rwa [show k - 1 + 1 = k from by omega] at h)
        have hlen : ((dstL s).take (k - 1)).length ≤ 64 := by rw [List.length_take]; omega
        have hg2 : IntKind.i64.wrap (smD (dstL s) (k - 1) + (nodA s k).di) = smD (dstL s) k := by rw [hs0]; exact IntWalk.i64_in _ (by omega)
        generalize (dstL s).take (k - 1) = LL at *
        generalize smD (dstL s) (k - 1) = T0 at *
        have Q12 := Lib.hid (Has.new wr #[.int .i64 (nodA s k).px, .int .i64 (nodA s k).py, .int .i64 (nodA s k).di, .int .i64 (nodA s k).a0, .int .i64 (nodA s k).a1, .int .i64 (nodA s k).s0, .int .i64 (nodA s k).s1] 45)
        go_wp2_with (at_builtin; refine wpList_append_own_at _ rfl _ _ 23 rfl w3.heap.size 2 i0 (.int .i64 0) 1 8 Tryz.underlying23 hi hz0 hz1 hz2 rfl (by decide) _ _ _ rfl (((HO.out.alloc _).alloc _).own) ⟨(wr.heap.size + 1), 0, none⟩ 1 1 [.int .i64 (nodA s k).di] rfl rfl (news_new _ _ (by first | rfl | simp) _ _ _ rfl) (by intro u hu; simp at hu; subst hu; rfl) (by unfold maxLen; omega) (by omega) (by have := HW.out.B.size; simp; omega) ?_)
        intro v1 w7 hown hgrow hnil hblk
        have HS7 := Lib.hid (((HW.out.alloc _).alloc _).grown hgrow (fun k hk => (HO.out.lt hk).1))
        have HO7 := Lib.hid (Ow.next (l := LL) (f := oneI) (x := (nodA s k).di) hown)
        have c12 := ((Q12.out.alloc (.cells #[.int .i64 (nodA s k).di] 2)).grown hgrow (fun h => by have := (HO.out.lt h.symm).2; omega)).cell 2 _ rfl
        clear hown hgrow hnil hblk Q12
        go_wp2_with fail
        go_roundw
        case rel => exact ⟨k + 1, by omega, by go_num, rfl, HS7.out, by rw [show k + 1 - 1 = k from rfl, HTK.out]; exact HO7.out⟩
        case measure => simp only [intOf]; omega
    obtain rfl : k = s.no.length := by omega
    have hlt' : ¬ ((s.no.length : Nat) : Int) < ((s.no.length : Nat) : Int) := by omega
    have HL := Lib.hid (show Ow oneI 1 2 w3.heap.size (dstL s) _ wr from by have h := HO.out; rwa [List.take_of_length_le (by have := HDL.out; omega)] at h)
    obtain ⟨A', c', hv, hD, -⟩ := HL.out.ints HDL.out
    subst hv
    obtain ⟨b6, o6, rfl⟩ := int_A9 hD (by omega)
    have D := Lib.hid hD
    rw [HSA.out]
    replace HS := Lib.hid (HY.out _ HW.out)
    replace Q7 := Lib.hid (Q7.out.below HW.out.B)
    replace P1 := Lib.hid (P1.out.below HW.out.B)
    clear hD HO HL HY HW hlt hk
    have k0 := HNS.out _ HS.out
    go_wp2_with fail
    clear k0
    obtain ⟨w8, hw8⟩ : ∃ w8, w8 = wr := ⟨_, rfl⟩
    subst hw8
    have HY := Lib.hid (fun W (h : BoxS w8 0 [] W) => HS.out.below h.B)
    have HY7 := Lib.hid (fun W (h : BoxS w8 0 [] W) => Q7.out.below h.B)
    have HTG := Lib.hid (fun W (h : BoxS w8 0 [] W) x (hx : I64 x) => show Calls Tryz.prog 21 #[.agg #[.slice (some ⟨b5, o5, none⟩) s.no.length c1, .int .i64 rx, .int .i64 ry, .bool rb], .slice (some ⟨b6, o6, none⟩) (s.no.length - 1) c', .int .i64 x] W (BwB (Pf.bwV (altL s) (dstL s) x) (Pf.bwE (altL s) (dstL s) x) W) from by
      have h2 := xTarget (some ⟨b5, o5, none⟩) (some ⟨b6, o6, none⟩) s.no.length c1 (s.no.length - 1) c' RL (dstL s) x (.int .i64 rx) (.int .i64 ry) (.bool rb) W (P1.out.below h.B) (D.out.below h.B) (by omega) (by unfold maxLen; omega) hx
      rwa [HAL.out] at h2)
    have HSD := Lib.hid (fun W (h : BoxS w8 0 [] W) x (hx : I64 x) => show Calls Tryz.prog 22 #[.agg #[.slice (some ⟨b5, o5, none⟩) s.no.length c1, .int .i64 rx, .int .i64 ry, .bool rb], .slice (some ⟨b6, o6, none⟩) (s.no.length - 1) c', .int .i64 x] W (BwB (Pf.bwV (pnL s) (dstL s) x) (Pf.bwE (pnL s) (dstL s) x) W) from by
      have h2 := xSpeed (some ⟨b5, o5, none⟩) (some ⟨b6, o6, none⟩) s.no.length c1 (s.no.length - 1) c' RL (dstL s) x (.int .i64 rx) (.int .i64 ry) (.bool rb) W (P1.out.below h.B) (D.out.below h.B) (by omega) (by unfold maxLen; omega) hx
      rwa [HCA.out] at h2)
    go_loopw [13, 77] (fun t i wr => TvR2 s w8 t i wr) (fun _ i _ => s.no.length - (intOf i).toNat)
    case atStart => exact ⟨0, by omega, rfl, by rw [show (0 : Nat) - 1 = 0 from rfl, smD_0], boxS0v _⟩
    case round =>
      obtain ⟨k, hk, rfl, rfl, hs⟩ := hrel
      have HR := Lib.hid hs
      clear hs
      by_cases hlt : k < s.no.length
      · have hlt' : (k : Int) < (s.no.length : Int) := by omega
        have hk0 : (0 : Int) ≤ (k : Int) := by omega
        have hg : IntKind.i64.wrap ((k : Int) + 1) = (k : Int) + 1 := IntWalk.i64_in _ (by omega)
        obtain ⟨n0, n1, n2, n3, n4, n5, n6⟩ := HNV.out _ (HY.out _ HR.out) k hlt
        have hs0 := HS0.out k hlt
        have hsb := HSB.out k hlt
        have hg2 : IntKind.i64.wrap (smD (dstL s) (k - 1) + (nodA s k).di) = smD (dstL s) k := by rw [hs0]; exact IntWalk.i64_in _ (by omega)
        have hx : I64 (smD (dstL s) k) := by unfold I64; omega
        have HNX := Lib.hid (fun W (h : BoxS w8 0 [] W) (hk1 : k + 1 < s.no.length) => (HNV.out _ (HY.out _ h) (k + 1) hk1).2.2.1)
        clear HS
        have HS := HR
        clear HR
        have Q15 : Hid (Has ((wr.alloc (.cells #[.int .i64 (nodA s k).px, .int .i64 (nodA s k).py, .int .i64 (nodA s k).di, .int .i64 (nodA s k).a0, .int .i64 (nodA s k).a1, .int .i64 (nodA s k).s0, .int .i64 (nodA s k).s1] 45))) wr.heap.size [.int .i64 (nodA s k).px, .int .i64 (nodA s k).py, .int .i64 (nodA s k).di, .int .i64 (nodA s k).a0, .int .i64 (nodA s k).a1, .int .i64 (nodA s k).s0, .int .i64 (nodA s k).s1]) := Lib.hid (Has.new _ _ _)
        have r15 : w8.heap.size + 0 ≤ wr.heap.size := HS.out.sz
        replace HS := Lib.hid ((HS.out.alloc (.cells #[.int .i64 (nodA s k).px, .int .i64 (nodA s k).py, .int .i64 (nodA s k).di, .int .i64 (nodA s k).a0, .int .i64 (nodA s k).a1, .int .i64 (nodA s k).s0, .int .i64 (nodA s k).s1] 45)))
        have k0 := HNS.out _ (HY.out _ HS.out)
        by_cases hk1 : k + 1 < s.no.length
        · have hk1' : (k : Int) + 1 < (s.no.length : Int) := by omega
          have nx := HNX.out _ HS.out hk1
          by_cases hdi : (nodA s (k + 1)).di = 0
          · have hdi' : ((nodA s (k + 1)).di == 0) = true := by rw [hdi]; rfl
            go_wp2_with fail
            go_roundw
            case rel => exact ⟨k + 1, by omega, by go_num, rfl, HS.out⟩
            case measure => simp only [intOf]; omega
          · have hdi' : ((nodA s (k + 1)).di == 0) = false := by rw [beq_eq_false_iff_ne]; exact hdi
            have hne : k + 1 < s.no.length → (nodA s (k + 1)).di ≠ 0 := fun _ => hdi
            obtain ⟨aE, aV, cE, cV, al, sp⟩ := HND.out k hlt hne
            have HTX := Lib.hid (fun W (h : BoxS w8 0 [] W) => HTG.out W h _ hx)
            have HSX := Lib.hid (fun W (h : BoxS w8 0 [] W) => HSD.out W h _ hx)
            rw [aE, aV] at HTX
            rw [cE, cV] at HSX
            obtain ⟨va, hva⟩ : ∃ v, v = (altL s).getD k 0 := ⟨_, rfl⟩
            obtain ⟨vc, hvc⟩ : ∃ v, v = (pnL s).getD k 0 := ⟨_, rfl⟩
            rw [← hva] at HTX al
            rw [← hvc] at HSX sp
            clear hva hvc
            have HV := Lib.hid (fun W (h : BoxS w8 0 [] W) => HLV.out W (HY.out W h))
            clear HTG HSD aE aV cE cV hs0 hsb hx hne
            have q7 := HY7.out _ HS.out
            have p0 := q7.cell 0 _ rfl
            have p1 := q7.cell 1 _ rfl
            have p2 := q7.cell 2 _ rfl
            have p3 := q7.cell 3 _ rfl
            clear q7
            go_wp2_with fail
            clear p0 p1 p2 p3
            generalize (wr.alloc (.cells #[.int .i64 (nodA s k).px, .int .i64 (nodA s k).py, .int .i64 (nodA s k).di, .int .i64 (nodA s k).a0, .int .i64 (nodA s k).a1, .int .i64 (nodA s k).s0, .int .i64 (nodA s k).s1] 45)) = w9 at *
            generalize wr.heap.size = H15 at *
            refine (HTX.out _ HS.out).mono ?_; rintro e' w10 ⟨rfl, hB⟩
            replace HS := Lib.hid (HS.out.below hB)
            replace Q15 := Lib.hid (Q15.out.below hB)
            clear hB HTX
            have q7 := HY7.out _ HS.out
            have p0 := q7.cell 0 _ rfl
            have p1 := q7.cell 1 _ rfl
            have p2 := q7.cell 2 _ rfl
            have p3 := q7.cell 3 _ rfl
            clear q7
            go_wp2_with fail
            clear p0 p1 p2 p3
            refine (HSX.out _ HS.out).mono ?_; rintro e' w11 ⟨rfl, hB⟩
            replace HS := Lib.hid (HS.out.below hB)
            replace Q15 := Lib.hid (Q15.out.below hB)
            clear hB HSX
            have lv := HV.out _ HS.out
            have c15_3 := Q15.out.cell 3 (.int .i64 (nodA s k).a0) rfl
            have c15_4 := Q15.out.cell 4 (.int .i64 (nodA s k).a1) rfl
            have c15_5 := Q15.out.cell 5 (.int .i64 (nodA s k).s0) rfl
            have c15_6 := Q15.out.cell 6 (.int .i64 (nodA s k).s1) rfl
            obtain ⟨l1, l2, l3⟩ := al
            obtain ⟨l4, l5⟩ := sp
            have t1 : ¬ va < (nodA s k).a0 := by omega
            have t2 : ¬ (nodA s k).a1 < va := by omega
            have t3 : ¬ s.lv < va := by omega
            have t4 : ¬ vc < (nodA s k).s0 := by omega
            have t5 : ¬ (nodA s k).s1 < vc := by omega
            go_wp2_with fail
            go_roundw
            case rel => exact ⟨k + 1, by omega, by go_num, rfl, HS.out⟩
            case measure => simp only [intOf]; omega
        · have hk1' : ¬ (k : Int) + 1 < (s.no.length : Int) := by omega
          have hne : k + 1 < s.no.length → (nodA s (k + 1)).di ≠ 0 := fun h => absurd h hk1
          obtain ⟨aE, aV, cE, cV, al, sp⟩ := HND.out k hlt hne
          have HTX := Lib.hid (fun W (h : BoxS w8 0 [] W) => HTG.out W h _ hx)
          have HSX := Lib.hid (fun W (h : BoxS w8 0 [] W) => HSD.out W h _ hx)
          rw [aE, aV] at HTX
          rw [cE, cV] at HSX
          obtain ⟨va, hva⟩ : ∃ v, v = (altL s).getD k 0 := ⟨_, rfl⟩
          obtain ⟨vc, hvc⟩ : ∃ v, v = (pnL s).getD k 0 := ⟨_, rfl⟩
          rw [← hva] at HTX al
          rw [← hvc] at HSX sp
          clear hva hvc
          have HV := Lib.hid (fun W (h : BoxS w8 0 [] W) => HLV.out W (HY.out W h))
          clear HTG HSD aE aV cE cV hs0 hsb hx hne
          have q7 := HY7.out _ HS.out
          have p0 := q7.cell 0 _ rfl
          have p1 := q7.cell 1 _ rfl
          have p2 := q7.cell 2 _ rfl
          have p3 := q7.cell 3 _ rfl
          clear q7
          go_wp2_with fail
          clear p0 p1 p2 p3
          generalize (wr.alloc (.cells #[.int .i64 (nodA s k).px, .int .i64 (nodA s k).py, .int .i64 (nodA s k).di, .int .i64 (nodA s k).a0, .int .i64 (nodA s k).a1, .int .i64 (nodA s k).s0, .int .i64 (nodA s k).s1] 45)) = w9 at *
          generalize wr.heap.size = H15 at *
          refine (HTX.out _ HS.out).mono ?_; rintro e' w10 ⟨rfl, hB⟩
          replace HS := Lib.hid (HS.out.below hB)
          replace Q15 := Lib.hid (Q15.out.below hB)
          clear hB HTX
          have q7 := HY7.out _ HS.out
          have p0 := q7.cell 0 _ rfl
          have p1 := q7.cell 1 _ rfl
          have p2 := q7.cell 2 _ rfl
          have p3 := q7.cell 3 _ rfl
          clear q7
          go_wp2_with fail
          clear p0 p1 p2 p3
          refine (HSX.out _ HS.out).mono ?_; rintro e' w11 ⟨rfl, hB⟩
          replace HS := Lib.hid (HS.out.below hB)
          replace Q15 := Lib.hid (Q15.out.below hB)
          clear hB HSX
          have lv := HV.out _ HS.out
          have c15_3 := Q15.out.cell 3 (.int .i64 (nodA s k).a0) rfl
          have c15_4 := Q15.out.cell 4 (.int .i64 (nodA s k).a1) rfl
          have c15_5 := Q15.out.cell 5 (.int .i64 (nodA s k).s0) rfl
          have c15_6 := Q15.out.cell 6 (.int .i64 (nodA s k).s1) rfl
          obtain ⟨l1, l2, l3⟩ := al
          obtain ⟨l4, l5⟩ := sp
          have t1 : ¬ va < (nodA s k).a0 := by omega
          have t2 : ¬ (nodA s k).a1 < va := by omega
          have t3 : ¬ s.lv < va := by omega
          have t4 : ¬ vc < (nodA s k).s0 := by omega
          have t5 : ¬ (nodA s k).s1 < vc := by omega
          go_wp2_with fail
          go_roundw
          case rel => exact ⟨k + 1, by omega, by go_num, rfl, HS.out⟩
          case measure => simp only [intOf]; omega
      obtain rfl : k = s.no.length := by omega
      have hlt' : ¬ ((s.no.length : Nat) : Int) < ((s.no.length : Nat) : Int) := by omega
      replace HS := HR
      clear HR hlt hk HNV HND
      have hsum := HSB.out (s.no.length - 1) (by omega)
      rw [HSA.out] at hsum
      have q7 := HY7.out _ HS.out
      have p0 := q7.cell 0 _ rfl
      have p1 := q7.cell 1 _ rfl
      have p2 := q7.cell 2 _ rfl
      have p3 := q7.cell 3 _ rfl
      clear q7
      go_wp2_with fail
      clear p0 p1 p2 p3
      have hx0 := clamp_bd (x := at_) (lo := 0) (hi := (dstL s).sum) hsum.1
      generalize min (max at_ 0) (dstL s).sum = X at *
      have hx : I64 X := by unfold I64; omega
      refine (HTG.out _ HS.out X hx).mono ?_; rintro e' w10 ⟨rfl, hB⟩
      replace HS := Lib.hid (HS.out.below hB)
      clear hB
      have q7 := HY7.out _ HS.out
      have p0 := q7.cell 0 _ rfl
      have p1 := q7.cell 1 _ rfl
      have p2 := q7.cell 2 _ rfl
      have p3 := q7.cell 3 _ rfl
      clear q7
      go_wp2_with fail
      clear p0 p1 p2 p3
      refine (HSD.out _ HS.out X hx).mono ?_; rintro e' w11 ⟨rfl, hB⟩
      replace HS := Lib.hid (HS.out.below hB)
      clear hB HTG HSD
      have k0 := HNS.out _ (HY.out _ HS.out)
      have HDW := Lib.hid (fun (k : Nat) (hk : k + 1 < s.no.length) => int_at9 (D.out.below HS.out.B) (HDB.out k hk))
      go_upto_block 4 with fail
      go_cut [24, 25] (fun i t wx => ∃ k : Nat, k < s.no.length ∧ i = .int .i64 (k : Int) ∧ t = .int .i64 (smD (dstL s) k) ∧ smD (dstL s) k ≤ X ∧ (k + 1 < s.no.length → X < smD (dstL s) (k + 1)) ∧ w11 = wx)
      case first =>
        go_wp2_with fail
        go_loopw [24, 25] (fun i t wr => TvR3 s X w11 i t wr) (fun i _ _ => s.no.length - (intOf i).toNat)
        case atStart => exact ⟨0, by omega, rfl, by rw [smD_0], by rw [smD_0]; omega, rfl⟩
        case round =>
          obtain ⟨k, hk, rfl, rfl, hle, rfl⟩ := hrel
          have hkb : (0 : Int) ≤ (k : Int) := by omega
          have hg : IntKind.i64.wrap ((k : Int) + 1) = (k : Int) + 1 := IntWalk.i64_in _ (by omega)
          by_cases hk1 : k + 1 < s.no.length
          · have hk1' : (k : Int) + 1 < (s.no.length : Int) := by omega
            have hkm : (k : Int) < ((s.no.length - 1 : Nat) : Int) := by omega
            have hd := HDW.out k hk1
            have hs1 := HS0.out (k + 1) hk1
            rw [show k + 1 - 1 = k from rfl] at hs1
            have hsb := HSB.out (k + 1) hk1
            have hg2 : IntKind.i64.wrap (smD (dstL s) k + (nodA s (k + 1)).di) = smD (dstL s) (k + 1) := by rw [hs1]; exact IntWalk.i64_in _ (by omega)
            by_cases hle2 : smD (dstL s) (k + 1) ≤ X
            · have HK := Lib.hid hle2
              go_wp2_with fail
              go_roundw
              case rel => exact ⟨k + 1, hk1, by go_num, rfl, HK.out, rfl⟩
              case measure => simp only [intOf]; omega
            · have HK := Lib.hid hle2
              go_wp2_with fail
              go_meet
              exact ⟨k, by omega, rfl, rfl, by omega, fun _ => by have := HK.out; omega, rfl⟩
          · have hk1' : ¬ (k : Int) + 1 < (s.no.length : Int) := by omega
            go_wp2_with fail
            go_meet
            exact ⟨k, hk, rfl, rfl, hle, fun h => absurd h hk1, rfl⟩
      case rest =>
        obtain ⟨k, hk, rfl, rfl, hle, hlt, rfl⟩ := hcut
        have M := HMD.out k hk X hle hx0.2 hlt
        obtain ⟨pa, ha1, ha2, ha3⟩ := HPA.out k hk
        obtain ⟨pb, hb1, hb2, hb3⟩ := HPA.out (min (k + 1) (s.no.length - 1)) (by omega)
        have HWW := Lib.hid (fun a b (ha : -200000 ≤ a ∧ a ≤ 6000000) (hb : -10000 ≤ b ∧ b ≤ 10000) => tv_steer (s := s) M (alt := a) (was := b) ha hb)
        obtain ⟨aE, cE, am, cm, -⟩ := M
        rw [← ha2, ← hb2] at am
        rw [← ha3, ← hb3] at cm
        rw [aE, cE]
        generalize hva : Pf.bwV (altL s) (dstL s) X = va at *
        generalize hvc : Pf.bwV (pnL s) (dstL s) X = vc at *
        have HVA := Lib.hid hva
        have HVC := Lib.hid hvc
        clear hva hvc aE cE ha2 ha3 hb2 hb3 hle hlt
        have g1 : IntKind.i64.wrap ((k : Int) + 1) = (k : Int) + 1 := IntWalk.i64_in _ (by omega)
        have g2 : IntKind.i64.wrap ((s.no.length : Int) - 1) = (s.no.length : Int) - 1 := IntWalk.i64_in _ (by omega)
        have k0 := HNS.out _ (HY.out _ HS.out)
        go_wp2_with fail
        clear k0 g1 g2
        rw [show min ((k : Int) + 1) ((s.no.length : Int) - 1) = ((min (k + 1) (s.no.length - 1) : Nat) : Int) from by omega]
        have hkb : min (k + 1) (s.no.length - 1) < s.no.length := by omega
        generalize min (k + 1) (s.no.length - 1) = kb at *
        have HYA := Lib.hid (fun W (h : BoxS w11 0 [] W) => (pass_at9 (P1.out.below (HS.out.below h.B).B) ha1).2)
        have HYB := Lib.hid (fun W (h : BoxS w11 0 [] W) => (pass_at9 (P1.out.below (HS.out.below h.B).B) hb1).2)
        have HYP := Lib.hid (fun W (h : BoxS w11 0 [] W) => (HY7.out W (HS.out.below h.B)).cell 0 _ rfl)
        have HYQ := Lib.hid (fun W (h : BoxS w11 0 [] W) => HY7.out W (HS.out.below h.B))
        have HLB := Lib.hid (fun W (h : BoxS w11 0 [] W) => HLA.out W (HY.out _ (HS.out.below h.B)))
        have HST := Lib.hid (fun W (h : BoxS w11 0 [] W) a b (ha : I64 a) (hb : I64 b) => show Calls Tryz.prog 23 #[.agg #[.slice (some ⟨b5, o5, none⟩) s.no.length c1, .int .i64 rx, .int .i64 ry, .bool rb], .slice (some ⟨b6, o6, none⟩) (s.no.length - 1) c', .int .i64 X, .int .i64 300, .int .i64 a, .int .i64 b] W (StPost (Vt.stT (altL s) (pnL s) (dstL s) X 300 a b) (Vt.stW (altL s) (pnL s) (dstL s) X 300 a b) (Vt.stS (altL s) (pnL s) (dstL s) X 300 a b) (Vt.stE (altL s) (pnL s) (dstL s) X 300 a b) W) from by
          have h2 := xSteer (some ⟨b5, o5, none⟩) (some ⟨b6, o6, none⟩) s.no.length c1 (s.no.length - 1) c' RL (dstL s) X 300 a b (.int .i64 rx) (.int .i64 ry) (.bool rb) W (P1.out.below (HS.out.below h.B).B) (D.out.below (HS.out.below h.B).B) (by omega) (by unfold maxLen; omega) hx (by unfold I64; omega) ha hb
          rwa [HAL.out, HCA.out] at h2)
        have i0 : (0 : Int) ≤ (k : Int) := by omega
        have i1 : (k : Int) < (s.no.length : Int) := by omega
        have i2 : (0 : Int) ≤ (kb : Int) := by omega
        have i3 : (kb : Int) < (s.no.length : Int) := by omega
        clear P1 Q7 D HY7 HLV HDB HS0 HSB HSA HAL HCA HMD HPA HDW ha1 hb1 HDL
        have HSE := Lib.hid (HY.out _ HS.out).B
        have HW0 := Lib.hid (fun W (h : BoxS w11 0 [] W) => (HY.out _ (HS.out.below h.B)).B)
        refine held_start (S := fun W => BoxS w11 0 [] W) 14 #[false, false, false, false, false, false, false, false, false, false, false, false, false, false] rfl rfl (by kernel_rfl) ((boxS0v w11).drew) (fun hHeld => ?_)
        refine held_take 0 206 (v := ?_) rfl rfl (by kernel_rfl) (by kernel_rfl) (by kernel_rfl) (fun _ _ _ h => h) (Or.inl ⟨by rfl, ?_⟩) (by assumption) ?_
        rotate_left
        · intro W hW
          go_simp; try with_reducible rfl
        (try simp only [Act.put, List.setIfInBounds_toArray, List.set_cons_zero, List.set_cons_succ])
        refine held_take 1 207 (v := ?_) rfl rfl (by kernel_rfl) (by kernel_rfl) (by kernel_rfl) (fun _ _ _ h => h) (Or.inl ⟨by rfl, ?_⟩) (by assumption) ?_
        rotate_left
        · intro W hW
          have kk := HYP.out W hW; clear hW; go_simp; try with_reducible rfl
        (try simp only [Act.put, List.setIfInBounds_toArray, List.set_cons_zero, List.set_cons_succ])
        refine held_take 2 208 (v := ?_) rfl rfl (by kernel_rfl) (by kernel_rfl) (by kernel_rfl) (fun _ _ _ h => h) (Or.inl ⟨by rfl, ?_⟩) (by assumption) ?_
        rotate_left
        · intro W hW
          go_simp; try with_reducible rfl
        (try simp only [Act.put, List.setIfInBounds_toArray, List.set_cons_zero, List.set_cons_succ])
        refine held_take 3 209 (v := ?_) rfl rfl (by kernel_rfl) (by kernel_rfl) (by kernel_rfl) (fun _ _ _ h => h) (Or.inl ⟨by rfl, ?_⟩) (by assumption) ?_
        rotate_left
        · intro W hW
          go_simp; try with_reducible rfl
        (try simp only [Act.put, List.setIfInBounds_toArray, List.set_cons_zero, List.set_cons_succ])
        refine held_take 4 210 (v := ?_) rfl rfl (by kernel_rfl) (by kernel_rfl) (by kernel_rfl) (fun _ _ _ h => h) (Or.inl ⟨by rfl, ?_⟩) (by assumption) ?_
        rotate_left
        · intro W hW
          have kk0 := show W.cell? ⟨b5, o5 + k * 13, none⟩ = some (.int .i64 pa.alt) from HYA.out W hW 0 (.int .i64 pa.alt) rfl; have kk1 := show W.cell? ⟨b5, o5 + k * 13 + 1, none⟩ = some (.int .i64 pa.cas) from HYA.out W hW 1 (.int .i64 pa.cas) rfl; have kk2 := show W.cell? ⟨b5, o5 + k * 13 + 2, none⟩ = some (.int .i64 pa.tas) from HYA.out W hW 2 (.int .i64 pa.tas) rfl; have kk3 := show W.cell? ⟨b5, o5 + k * 13 + 3, none⟩ = some (.int .i64 pa.ground) from HYA.out W hW 3 (.int .i64 pa.ground) rfl; have kk4 := show W.cell? ⟨b5, o5 + k * 13 + 4, none⟩ = some (.int .i64 pa.tick) from HYA.out W hW 4 (.int .i64 pa.tick) rfl; have kk5 := show W.cell? ⟨b5, o5 + k * 13 + 5, none⟩ = some (.int .i64 pa.fuel) from HYA.out W hW 5 (.int .i64 pa.fuel) rfl; have kk6 := show W.cell? ⟨b5, o5 + k * 13 + 6, none⟩ = some (.int .i64 pa.gl) from HYA.out W hW 6 (.int .i64 pa.gl) rfl; have kk7 := show W.cell? ⟨b5, o5 + k * 13 + 7, none⟩ = some (.int .i64 pa.gh) from HYA.out W hW 7 (.int .i64 pa.gh) rfl; have kk8 := show W.cell? ⟨b5, o5 + k * 13 + 8, none⟩ = some (.int .i64 pa.tl) from HYA.out W hW 8 (.int .i64 pa.tl) rfl; have kk9 := show W.cell? ⟨b5, o5 + k * 13 + 9, none⟩ = some (.int .i64 pa.th) from HYA.out W hW 9 (.int .i64 pa.th) rfl; have kk10 := show W.cell? ⟨b5, o5 + k * 13 + 10, none⟩ = some (.int .i64 pa.fl) from HYA.out W hW 10 (.int .i64 pa.fl) rfl; have kk11 := show W.cell? ⟨b5, o5 + k * 13 + 11, none⟩ = some (.int .i64 pa.fh) from HYA.out W hW 11 (.int .i64 pa.fh) rfl; have kk12 := show W.cell? ⟨b5, o5 + k * 13 + 12, none⟩ = some (.int .u8 pa.phase) from HYA.out W hW 12 (.int .u8 pa.phase) rfl; clear hW; go_simp; try with_reducible rfl
        (try simp only [Act.put, List.setIfInBounds_toArray, List.set_cons_zero, List.set_cons_succ])
        refine held_take 5 211 (v := ?_) rfl rfl (by kernel_rfl) (by kernel_rfl) (by kernel_rfl) (fun _ _ _ h => h) (Or.inl ⟨by rfl, ?_⟩) (by assumption) ?_
        rotate_left
        · intro W hW
          go_simp; try with_reducible rfl
        (try simp only [Act.put, List.setIfInBounds_toArray, List.set_cons_zero, List.set_cons_succ])
        refine held_take 6 212 (v := ?_) rfl rfl (by kernel_rfl) (by kernel_rfl) (by kernel_rfl) (fun _ _ _ h => h) (Or.inl ⟨by rfl, ?_⟩) (by assumption) ?_
        rotate_left
        · intro W hW
          have kk := HYP.out W hW; clear hW; go_simp; try with_reducible rfl
        (try simp only [Act.put, List.setIfInBounds_toArray, List.set_cons_zero, List.set_cons_succ])
        refine held_take 7 213 (v := ?_) rfl rfl (by kernel_rfl) (by kernel_rfl) (by kernel_rfl) (fun _ _ _ h => h) (Or.inl ⟨by rfl, ?_⟩) (by assumption) ?_
        rotate_left
        · intro W hW
          go_simp; try with_reducible rfl
        (try simp only [Act.put, List.setIfInBounds_toArray, List.set_cons_zero, List.set_cons_succ])
        refine held_take 8 214 (v := ?_) rfl rfl (by kernel_rfl) (by kernel_rfl) (by kernel_rfl) (fun _ _ _ h => h) (Or.inl ⟨by rfl, ?_⟩) (by assumption) ?_
        rotate_left
        · intro W hW
          go_simp; try with_reducible rfl
        (try simp only [Act.put, List.setIfInBounds_toArray, List.set_cons_zero, List.set_cons_succ])
        refine held_take 9 215 (v := ?_) rfl rfl (by kernel_rfl) (by kernel_rfl) (by kernel_rfl) (fun _ _ _ h => h) (Or.inl ⟨by rfl, ?_⟩) (by assumption) ?_
        rotate_left
        · intro W hW
          have kk0 := show W.cell? ⟨b5, o5 + kb * 13, none⟩ = some (.int .i64 pb.alt) from HYB.out W hW 0 (.int .i64 pb.alt) rfl; have kk1 := show W.cell? ⟨b5, o5 + kb * 13 + 1, none⟩ = some (.int .i64 pb.cas) from HYB.out W hW 1 (.int .i64 pb.cas) rfl; have kk2 := show W.cell? ⟨b5, o5 + kb * 13 + 2, none⟩ = some (.int .i64 pb.tas) from HYB.out W hW 2 (.int .i64 pb.tas) rfl; have kk3 := show W.cell? ⟨b5, o5 + kb * 13 + 3, none⟩ = some (.int .i64 pb.ground) from HYB.out W hW 3 (.int .i64 pb.ground) rfl; have kk4 := show W.cell? ⟨b5, o5 + kb * 13 + 4, none⟩ = some (.int .i64 pb.tick) from HYB.out W hW 4 (.int .i64 pb.tick) rfl; have kk5 := show W.cell? ⟨b5, o5 + kb * 13 + 5, none⟩ = some (.int .i64 pb.fuel) from HYB.out W hW 5 (.int .i64 pb.fuel) rfl; have kk6 := show W.cell? ⟨b5, o5 + kb * 13 + 6, none⟩ = some (.int .i64 pb.gl) from HYB.out W hW 6 (.int .i64 pb.gl) rfl; have kk7 := show W.cell? ⟨b5, o5 + kb * 13 + 7, none⟩ = some (.int .i64 pb.gh) from HYB.out W hW 7 (.int .i64 pb.gh) rfl; have kk8 := show W.cell? ⟨b5, o5 + kb * 13 + 8, none⟩ = some (.int .i64 pb.tl) from HYB.out W hW 8 (.int .i64 pb.tl) rfl; have kk9 := show W.cell? ⟨b5, o5 + kb * 13 + 9, none⟩ = some (.int .i64 pb.th) from HYB.out W hW 9 (.int .i64 pb.th) rfl; have kk10 := show W.cell? ⟨b5, o5 + kb * 13 + 10, none⟩ = some (.int .i64 pb.fl) from HYB.out W hW 10 (.int .i64 pb.fl) rfl; have kk11 := show W.cell? ⟨b5, o5 + kb * 13 + 11, none⟩ = some (.int .i64 pb.fh) from HYB.out W hW 11 (.int .i64 pb.fh) rfl; have kk12 := show W.cell? ⟨b5, o5 + kb * 13 + 12, none⟩ = some (.int .u8 pb.phase) from HYB.out W hW 12 (.int .u8 pb.phase) rfl; clear hW; go_simp; try with_reducible rfl
        (try simp only [Act.put, List.setIfInBounds_toArray, List.set_cons_zero, List.set_cons_succ])
        refine held_name ?_
        intro OPS QQ A0 hO hQ hA
        have st_10_11 : Hid (∀ (H27 H28 : Nat) (W : World) (qH27 : Has W H27 [.int .i64 0, .int .i64 0, .int .i64 0, .int .i64 0, .int .i64 0, .int .i64 0, .int .i64 0, .int .i64 0, .int .i64 0, .int .i64 0, .int .i64 0, .int .i64 0, .int .u8 0]) (rH27 : w11.heap.size + 0 ≤ H27) (qH28 : Has W H28 [.int .i64 0, .int .i64 0, .int .i64 0, .int .i64 0, .int .i64 0, .int .i64 0, .int .i64 0, .int .i64 0, .int .i64 0, .int .i64 0, .int .i64 0, .int .i64 0, .int .u8 0]) (rH28 : w11.heap.size + 0 ≤ H28) (nH27H28 : H27 ≠ H28), (fun W => BoxS w11 0 [] W) W → wpAnyH Tryz.prog .any OPS QQ (fun W => BoxS w11 0 [] W) 2 #[true, true, true, true, true, true, true, true, true, true, true, true, false, false] ((A0.put (some 27) (.pointer (some ⟨H27, 0, none⟩))).put (some 28) (.pointer (some ⟨H28, 0, none⟩))) W) := by
          subst hO hQ hA
          refine Lib.hid ?_
          intro H27 H28 W qH27 rH27 qH28 rH28 nH27H28 hHeld
          (try simp only [Act.put, List.setIfInBounds_toArray, List.set_cons_zero, List.set_cons_succ])
          have fz := qH27.fr
          have cz0 := qH27.cell 0 _ rfl
          have cz1 := qH27.cell 1 _ rfl
          have cz2 := qH27.cell 2 _ rfl
          have cz3 := qH27.cell 3 _ rfl
          have cz4 := qH27.cell 4 _ rfl
          have cz5 := qH27.cell 5 _ rfl
          have cz6 := qH27.cell 6 _ rfl
          have cz7 := qH27.cell 7 _ rfl
          have cz8 := qH27.cell 8 _ rfl
          have cz9 := qH27.cell 9 _ rfl
          have cz10 := qH27.cell 10 _ rfl
          have cz11 := qH27.cell 11 _ rfl
          have cz12 := qH27.cell 12 _ rfl
          refine wpAnyH_ready (rs := [12]) (by kernel_rfl) (by simp) ?_
          refine AllReadyH.cons (o := _) rfl (fun K hK => ?_) AllReadyH.nil
          go_simp
          have hs0 := hHeld
          have hs1 := (hs0.set H27 0 rH27 (.int .i64 pa.alt))
          have hs2 := (hs1.set H27 1 rH27 (.int .i64 pa.cas))
          have hs3 := (hs2.set H27 2 rH27 (.int .i64 pa.tas))
          have hs4 := (hs3.set H27 3 rH27 (.int .i64 pa.ground))
          have hs5 := (hs4.set H27 4 rH27 (.int .i64 pa.tick))
          have hs6 := (hs5.set H27 5 rH27 (.int .i64 pa.fuel))
          have hs7 := (hs6.set H27 6 rH27 (.int .i64 pa.gl))
          have hs8 := (hs7.set H27 7 rH27 (.int .i64 pa.gh))
          have hs9 := (hs8.set H27 8 rH27 (.int .i64 pa.tl))
          have hs10 := (hs9.set H27 9 rH27 (.int .i64 pa.th))
          have hs11 := (hs10.set H27 10 rH27 (.int .i64 pa.fl))
          have hs12 := (hs11.set H27 11 rH27 (.int .i64 pa.fh))
          have hs13 := (hs12.set H27 12 rH27 (.int .u8 pa.phase))
          have hNew := hs13
          have pH27 : Has (((((((((((((W.setCell ⟨H27, 0, none⟩ (.int .i64 pa.alt)).setCell ⟨H27, 1, none⟩ (.int .i64 pa.cas)).setCell ⟨H27, 2, none⟩ (.int .i64 pa.tas)).setCell ⟨H27, 3, none⟩ (.int .i64 pa.ground)).setCell ⟨H27, 4, none⟩ (.int .i64 pa.tick)).setCell ⟨H27, 5, none⟩ (.int .i64 pa.fuel)).setCell ⟨H27, 6, none⟩ (.int .i64 pa.gl)).setCell ⟨H27, 7, none⟩ (.int .i64 pa.gh)).setCell ⟨H27, 8, none⟩ (.int .i64 pa.tl)).setCell ⟨H27, 9, none⟩ (.int .i64 pa.th)).setCell ⟨H27, 10, none⟩ (.int .i64 pa.fl)).setCell ⟨H27, 11, none⟩ (.int .i64 pa.fh)).setCell ⟨H27, 12, none⟩ (.int .u8 pa.phase)) H27 [.int .i64 pa.alt, .int .i64 pa.cas, .int .i64 pa.tas, .int .i64 pa.ground, .int .i64 pa.tick, .int .i64 pa.fuel, .int .i64 pa.gl, .int .i64 pa.gh, .int .i64 pa.tl, .int .i64 pa.th, .int .i64 pa.fl, .int .i64 pa.fh, .int .u8 pa.phase] := (((((((((((((qH27.set 0 (.int .i64 pa.alt) (by simp)).set 1 (.int .i64 pa.cas) (by simp)).set 2 (.int .i64 pa.tas) (by simp)).set 3 (.int .i64 pa.ground) (by simp)).set 4 (.int .i64 pa.tick) (by simp)).set 5 (.int .i64 pa.fuel) (by simp)).set 6 (.int .i64 pa.gl) (by simp)).set 7 (.int .i64 pa.gh) (by simp)).set 8 (.int .i64 pa.tl) (by simp)).set 9 (.int .i64 pa.th) (by simp)).set 10 (.int .i64 pa.fl) (by simp)).set 11 (.int .i64 pa.fh) (by simp)).set 12 (.int .u8 pa.phase) (by simp))
          have pH28 := (((((((((((((qH28.other H27 0 (.int .i64 pa.alt) (by omega)).other H27 1 (.int .i64 pa.cas) (by omega)).other H27 2 (.int .i64 pa.tas) (by omega)).other H27 3 (.int .i64 pa.ground) (by omega)).other H27 4 (.int .i64 pa.tick) (by omega)).other H27 5 (.int .i64 pa.fuel) (by omega)).other H27 6 (.int .i64 pa.gl) (by omega)).other H27 7 (.int .i64 pa.gh) (by omega)).other H27 8 (.int .i64 pa.tl) (by omega)).other H27 9 (.int .i64 pa.th) (by omega)).other H27 10 (.int .i64 pa.fl) (by omega)).other H27 11 (.int .i64 pa.fh) (by omega)).other H27 12 (.int .u8 pa.phase) (by omega))
          refine hK.out _ _ hNew (fun hHeld2 => ?_)
          clear hK K hNew fz hs0 hs1 hs2 hs3 hs4 hs5 hs6 hs7 hs8 hs9 hs10 hs11 hs12 hs13 cz0 cz1 cz2 cz3 cz4 cz5 cz6 cz7 cz8 cz9 cz10 cz11 cz12 qH27 qH28 hHeld
          have hHeld := hHeld2
          clear hHeld2
          have qH27 := pH27
          have qH28 := pH28
          clear pH27 pH28
          (try simp only [Act.put, List.setIfInBounds_toArray, List.set_cons_zero, List.set_cons_succ])
          generalize (((((((((((((W.setCell ⟨H27, 0, none⟩ (.int .i64 pa.alt)).setCell ⟨H27, 1, none⟩ (.int .i64 pa.cas)).setCell ⟨H27, 2, none⟩ (.int .i64 pa.tas)).setCell ⟨H27, 3, none⟩ (.int .i64 pa.ground)).setCell ⟨H27, 4, none⟩ (.int .i64 pa.tick)).setCell ⟨H27, 5, none⟩ (.int .i64 pa.fuel)).setCell ⟨H27, 6, none⟩ (.int .i64 pa.gl)).setCell ⟨H27, 7, none⟩ (.int .i64 pa.gh)).setCell ⟨H27, 8, none⟩ (.int .i64 pa.tl)).setCell ⟨H27, 9, none⟩ (.int .i64 pa.th)).setCell ⟨H27, 10, none⟩ (.int .i64 pa.fl)).setCell ⟨H27, 11, none⟩ (.int .i64 pa.fh)).setCell ⟨H27, 12, none⟩ (.int .u8 pa.phase)) = W1 at *
          have fz := qH28.fr
          have cz0 := qH28.cell 0 _ rfl
          have cz1 := qH28.cell 1 _ rfl
          have cz2 := qH28.cell 2 _ rfl
          have cz3 := qH28.cell 3 _ rfl
          have cz4 := qH28.cell 4 _ rfl
          have cz5 := qH28.cell 5 _ rfl
          have cz6 := qH28.cell 6 _ rfl
          have cz7 := qH28.cell 7 _ rfl
          have cz8 := qH28.cell 8 _ rfl
          have cz9 := qH28.cell 9 _ rfl
          have cz10 := qH28.cell 10 _ rfl
          have cz11 := qH28.cell 11 _ rfl
          have cz12 := qH28.cell 12 _ rfl
          refine wpAnyH_ready (rs := [13]) (by kernel_rfl) (by simp) ?_
          refine AllReadyH.cons (o := _) rfl (fun K hK => ?_) AllReadyH.nil
          go_simp
          have hs0 := hHeld
          have hs1 := (hs0.set H28 0 rH28 (.int .i64 pb.alt))
          have hs2 := (hs1.set H28 1 rH28 (.int .i64 pb.cas))
          have hs3 := (hs2.set H28 2 rH28 (.int .i64 pb.tas))
          have hs4 := (hs3.set H28 3 rH28 (.int .i64 pb.ground))
          have hs5 := (hs4.set H28 4 rH28 (.int .i64 pb.tick))
          have hs6 := (hs5.set H28 5 rH28 (.int .i64 pb.fuel))
          have hs7 := (hs6.set H28 6 rH28 (.int .i64 pb.gl))
          have hs8 := (hs7.set H28 7 rH28 (.int .i64 pb.gh))
          have hs9 := (hs8.set H28 8 rH28 (.int .i64 pb.tl))
          have hs10 := (hs9.set H28 9 rH28 (.int .i64 pb.th))
          have hs11 := (hs10.set H28 10 rH28 (.int .i64 pb.fl))
          have hs12 := (hs11.set H28 11 rH28 (.int .i64 pb.fh))
          have hs13 := (hs12.set H28 12 rH28 (.int .u8 pb.phase))
          have hNew := hs13
          have pH27 := (((((((((((((qH27.other H28 0 (.int .i64 pb.alt) (by omega)).other H28 1 (.int .i64 pb.cas) (by omega)).other H28 2 (.int .i64 pb.tas) (by omega)).other H28 3 (.int .i64 pb.ground) (by omega)).other H28 4 (.int .i64 pb.tick) (by omega)).other H28 5 (.int .i64 pb.fuel) (by omega)).other H28 6 (.int .i64 pb.gl) (by omega)).other H28 7 (.int .i64 pb.gh) (by omega)).other H28 8 (.int .i64 pb.tl) (by omega)).other H28 9 (.int .i64 pb.th) (by omega)).other H28 10 (.int .i64 pb.fl) (by omega)).other H28 11 (.int .i64 pb.fh) (by omega)).other H28 12 (.int .u8 pb.phase) (by omega))
          have pH28 : Has (((((((((((((W1.setCell ⟨H28, 0, none⟩ (.int .i64 pb.alt)).setCell ⟨H28, 1, none⟩ (.int .i64 pb.cas)).setCell ⟨H28, 2, none⟩ (.int .i64 pb.tas)).setCell ⟨H28, 3, none⟩ (.int .i64 pb.ground)).setCell ⟨H28, 4, none⟩ (.int .i64 pb.tick)).setCell ⟨H28, 5, none⟩ (.int .i64 pb.fuel)).setCell ⟨H28, 6, none⟩ (.int .i64 pb.gl)).setCell ⟨H28, 7, none⟩ (.int .i64 pb.gh)).setCell ⟨H28, 8, none⟩ (.int .i64 pb.tl)).setCell ⟨H28, 9, none⟩ (.int .i64 pb.th)).setCell ⟨H28, 10, none⟩ (.int .i64 pb.fl)).setCell ⟨H28, 11, none⟩ (.int .i64 pb.fh)).setCell ⟨H28, 12, none⟩ (.int .u8 pb.phase)) H28 [.int .i64 pb.alt, .int .i64 pb.cas, .int .i64 pb.tas, .int .i64 pb.ground, .int .i64 pb.tick, .int .i64 pb.fuel, .int .i64 pb.gl, .int .i64 pb.gh, .int .i64 pb.tl, .int .i64 pb.th, .int .i64 pb.fl, .int .i64 pb.fh, .int .u8 pb.phase] := (((((((((((((qH28.set 0 (.int .i64 pb.alt) (by simp)).set 1 (.int .i64 pb.cas) (by simp)).set 2 (.int .i64 pb.tas) (by simp)).set 3 (.int .i64 pb.ground) (by simp)).set 4 (.int .i64 pb.tick) (by simp)).set 5 (.int .i64 pb.fuel) (by simp)).set 6 (.int .i64 pb.gl) (by simp)).set 7 (.int .i64 pb.gh) (by simp)).set 8 (.int .i64 pb.tl) (by simp)).set 9 (.int .i64 pb.th) (by simp)).set 10 (.int .i64 pb.fl) (by simp)).set 11 (.int .i64 pb.fh) (by simp)).set 12 (.int .u8 pb.phase) (by simp))
          refine hK.out _ _ hNew (fun hHeld2 => ?_)
          clear hK K hNew fz hs0 hs1 hs2 hs3 hs4 hs5 hs6 hs7 hs8 hs9 hs10 hs11 hs12 hs13 cz0 cz1 cz2 cz3 cz4 cz5 cz6 cz7 cz8 cz9 cz10 cz11 cz12 qH27 qH28 hHeld
          have hHeld := hHeld2
          clear hHeld2
          have qH27 := pH27
          have qH28 := pH28
          clear pH27 pH28
          (try simp only [Act.put, List.setIfInBounds_toArray, List.set_cons_zero, List.set_cons_succ])
          generalize (((((((((((((W1.setCell ⟨H28, 0, none⟩ (.int .i64 pb.alt)).setCell ⟨H28, 1, none⟩ (.int .i64 pb.cas)).setCell ⟨H28, 2, none⟩ (.int .i64 pb.tas)).setCell ⟨H28, 3, none⟩ (.int .i64 pb.ground)).setCell ⟨H28, 4, none⟩ (.int .i64 pb.tick)).setCell ⟨H28, 5, none⟩ (.int .i64 pb.fuel)).setCell ⟨H28, 6, none⟩ (.int .i64 pb.gl)).setCell ⟨H28, 7, none⟩ (.int .i64 pb.gh)).setCell ⟨H28, 8, none⟩ (.int .i64 pb.tl)).setCell ⟨H28, 9, none⟩ (.int .i64 pb.th)).setCell ⟨H28, 10, none⟩ (.int .i64 pb.fl)).setCell ⟨H28, 11, none⟩ (.int .i64 pb.fh)).setCell ⟨H28, 12, none⟩ (.int .u8 pb.phase)) = W2 at *
          refine wpAnyH_done (by kernel_rfl) ?_ _
          have c0 := qH27.cell 0 (.int .i64 pa.alt) rfl
          have c1 := qH27.cell 1 (.int .i64 pa.cas) rfl
          have d0 := qH28.cell 0 (.int .i64 pb.alt) rfl
          have d1 := qH28.cell 1 (.int .i64 pb.cas) rfl
          have HS2 := Lib.hid hHeld
          clear qH27 qH28 hHeld
          have la0 := (HLB.out _ HS2.out).1
          have la1 := (HLB.out _ HS2.out).2
          have hm1 := clamp_bd (x := la) (lo := -10000) (hi := 10000) (by decide)
          have hm2 := clamp_bd (x := lb) (lo := -200000) (hi := 6000000) (by decide)
          obtain ⟨a1, a2⟩ := am
          obtain ⟨m1, m2⟩ := cm
          have t1 : ¬ va < min pa.alt pb.alt := by omega
          have t2 : ¬ max pa.alt pb.alt < va := by omega
          have t3 : ¬ vc < min pa.cas pb.cas := by omega
          have t4 : ¬ max pa.cas pb.cas < vc := by omega
          have q7 := HYQ.out _ HS2.out
          have p0 := q7.cell 0 _ rfl
          have p1 := q7.cell 1 _ rfl
          have p2 := q7.cell 2 _ rfl
          have p3 := q7.cell 3 _ rfl
          clear q7
          go_wp2_with fail
          generalize min (max la (-10000)) 10000 = was at *
          generalize min (max lb (-200000)) 6000000 = alt at *
          obtain ⟨we, wt, ws, ww⟩ := HWW.out alt was hm2 hm1
          have HT := Lib.hid (HST.out _ HS2.out alt was (by unfold I64; omega) (by unfold I64; omega))
          rw [we, wt, ws, HVA.out, HVC.out] at HT
          generalize Vt.stW (altL s) (pnL s) (dstL s) X 300 alt was = vs at *
          refine HT.out.mono ?_; rintro e' w12 ⟨rfl, hB⟩
          have HE := Lib.hid (bel_trans (HW0.out _ HS2.out) hB)
          have g3 : IntKind.i64.wrap (vs - was) = vs - was := IntWalk.i64_in _ (by omega)
          have g4 : IntKind.i64.wrap (was - vs) = was - vs := IntWalk.i64_in _ (by omega)
          have u1 : vs - was ≤ 40 := by omega
          have u2 : was - vs ≤ 40 := by omega
          clear hB HT
          go_wp2_with fail
          go_ret
          exact ⟨ret_tt_tv (by simp [u1, u2]), HE.out⟩
        have st_10 : Hid (∀ (H27 : Nat) (W : World) (qH27 : Has W H27 [.int .i64 0, .int .i64 0, .int .i64 0, .int .i64 0, .int .i64 0, .int .i64 0, .int .i64 0, .int .i64 0, .int .i64 0, .int .i64 0, .int .i64 0, .int .i64 0, .int .u8 0]) (rH27 : w11.heap.size + 0 ≤ H27), (fun W => BoxS w11 0 [] W) W → wpAnyH Tryz.prog .any OPS QQ (fun W => BoxS w11 0 [] W) 3 #[true, true, true, true, true, true, true, true, true, true, true, false, false, false] (A0.put (some 27) (.pointer (some ⟨H27, 0, none⟩))) W) := by
          subst hO hQ hA
          refine Lib.hid ?_
          intro H27 W qH27 rH27 hHeld
          (try simp only [Act.put, List.setIfInBounds_toArray, List.set_cons_zero, List.set_cons_succ])
          refine wpAnyH_ready (rs := [11]) (by kernel_rfl) (by simp) ?_
          refine AllReadyH.cons (o := _) rfl (fun K hK => ?_) ?_
          · go_simp
            have hNew := hHeld.alloc (.cells #[.int .i64 0, .int .i64 0, .int .i64 0, .int .i64 0, .int .i64 0, .int .i64 0, .int .i64 0, .int .i64 0, .int .i64 0, .int .i64 0, .int .i64 0, .int .i64 0, .int .u8 0] 62)
            have qH27N := qH27.alloc (.cells #[.int .i64 0, .int .i64 0, .int .i64 0, .int .i64 0, .int .i64 0, .int .i64 0, .int .i64 0, .int .i64 0, .int .i64 0, .int .i64 0, .int .i64 0, .int .i64 0, .int .u8 0] 62)
            have rH27N := rH27
            have qH28N : Has (W.alloc (.cells #[.int .i64 0, .int .i64 0, .int .i64 0, .int .i64 0, .int .i64 0, .int .i64 0, .int .i64 0, .int .i64 0, .int .i64 0, .int .i64 0, .int .i64 0, .int .i64 0, .int .u8 0] 62)) W.heap.size [.int .i64 0, .int .i64 0, .int .i64 0, .int .i64 0, .int .i64 0, .int .i64 0, .int .i64 0, .int .i64 0, .int .i64 0, .int .i64 0, .int .i64 0, .int .i64 0, .int .u8 0] := Has.new W _ _
            have rH28N : w11.heap.size + 0 ≤ W.heap.size := hHeld.sz
            have nH27H28N : H27 ≠ W.heap.size := by have := qH27.lt; omega
            refine hK.out _ _ hNew (fun hHeld2 => ?_)
            (try simp only [Act.put, List.setIfInBounds_toArray, List.set_cons_zero, List.set_cons_succ])
            have nx := st_10_11.out
            simp only [Act.put, List.setIfInBounds_toArray, List.set_cons_zero, List.set_cons_succ] at nx
            exact nx H27 W.heap.size _ qH27N rH27N qH28N rH28N nH27H28N hHeld2
          exact AllReadyH.nil
        have st_11 : Hid (∀ (H28 : Nat) (W : World) (qH28 : Has W H28 [.int .i64 0, .int .i64 0, .int .i64 0, .int .i64 0, .int .i64 0, .int .i64 0, .int .i64 0, .int .i64 0, .int .i64 0, .int .i64 0, .int .i64 0, .int .i64 0, .int .u8 0]) (rH28 : w11.heap.size + 0 ≤ H28), (fun W => BoxS w11 0 [] W) W → wpAnyH Tryz.prog .any OPS QQ (fun W => BoxS w11 0 [] W) 3 #[true, true, true, true, true, true, true, true, true, true, false, true, false, false] (A0.put (some 28) (.pointer (some ⟨H28, 0, none⟩))) W) := by
          subst hO hQ hA
          refine Lib.hid ?_
          intro H28 W qH28 rH28 hHeld
          (try simp only [Act.put, List.setIfInBounds_toArray, List.set_cons_zero, List.set_cons_succ])
          refine wpAnyH_ready (rs := [10]) (by kernel_rfl) (by simp) ?_
          refine AllReadyH.cons (o := _) rfl (fun K hK => ?_) ?_
          · go_simp
            have hNew := hHeld.alloc (.cells #[.int .i64 0, .int .i64 0, .int .i64 0, .int .i64 0, .int .i64 0, .int .i64 0, .int .i64 0, .int .i64 0, .int .i64 0, .int .i64 0, .int .i64 0, .int .i64 0, .int .u8 0] 62)
            have qH27N : Has (W.alloc (.cells #[.int .i64 0, .int .i64 0, .int .i64 0, .int .i64 0, .int .i64 0, .int .i64 0, .int .i64 0, .int .i64 0, .int .i64 0, .int .i64 0, .int .i64 0, .int .i64 0, .int .u8 0] 62)) W.heap.size [.int .i64 0, .int .i64 0, .int .i64 0, .int .i64 0, .int .i64 0, .int .i64 0, .int .i64 0, .int .i64 0, .int .i64 0, .int .i64 0, .int .i64 0, .int .i64 0, .int .u8 0] := Has.new W _ _
            have rH27N : w11.heap.size + 0 ≤ W.heap.size := hHeld.sz
            have qH28N := qH28.alloc (.cells #[.int .i64 0, .int .i64 0, .int .i64 0, .int .i64 0, .int .i64 0, .int .i64 0, .int .i64 0, .int .i64 0, .int .i64 0, .int .i64 0, .int .i64 0, .int .i64 0, .int .u8 0] 62)
            have rH28N := rH28
            have nH27H28N : W.heap.size ≠ H28 := by have := qH28.lt; omega
            refine hK.out _ _ hNew (fun hHeld2 => ?_)
            (try simp only [Act.put, List.setIfInBounds_toArray, List.set_cons_zero, List.set_cons_succ])
            have nx := st_10_11.out
            simp only [Act.put, List.setIfInBounds_toArray, List.set_cons_zero, List.set_cons_succ] at nx
            exact nx W.heap.size H28 _ qH27N rH27N qH28N rH28N nH27H28N hHeld2
          exact AllReadyH.nil
        have st : Hid (∀ (W : World), (fun W => BoxS w11 0 [] W) W → wpAnyH Tryz.prog .any OPS QQ (fun W => BoxS w11 0 [] W) 4 #[true, true, true, true, true, true, true, true, true, true, false, false, false, false] A0 W) := by
          subst hO hQ hA
          refine Lib.hid ?_
          intro W hHeld
          (try simp only [Act.put, List.setIfInBounds_toArray, List.set_cons_zero, List.set_cons_succ])
          refine wpAnyH_ready (rs := [10, 11]) (by kernel_rfl) (by simp) ?_
          refine AllReadyH.cons (o := _) rfl (fun K hK => ?_) ?_
          · go_simp
            have hNew := hHeld.alloc (.cells #[.int .i64 0, .int .i64 0, .int .i64 0, .int .i64 0, .int .i64 0, .int .i64 0, .int .i64 0, .int .i64 0, .int .i64 0, .int .i64 0, .int .i64 0, .int .i64 0, .int .u8 0] 62)
            have qH27N : Has (W.alloc (.cells #[.int .i64 0, .int .i64 0, .int .i64 0, .int .i64 0, .int .i64 0, .int .i64 0, .int .i64 0, .int .i64 0, .int .i64 0, .int .i64 0, .int .i64 0, .int .i64 0, .int .u8 0] 62)) W.heap.size [.int .i64 0, .int .i64 0, .int .i64 0, .int .i64 0, .int .i64 0, .int .i64 0, .int .i64 0, .int .i64 0, .int .i64 0, .int .i64 0, .int .i64 0, .int .i64 0, .int .u8 0] := Has.new W _ _
            have rH27N : w11.heap.size + 0 ≤ W.heap.size := hHeld.sz
            refine hK.out _ _ hNew (fun hHeld2 => ?_)
            (try simp only [Act.put, List.setIfInBounds_toArray, List.set_cons_zero, List.set_cons_succ])
            have nx := st_10.out
            simp only [Act.put, List.setIfInBounds_toArray, List.set_cons_zero, List.set_cons_succ] at nx
            exact nx W.heap.size _ qH27N rH27N hHeld2
          refine AllReadyH.cons (o := _) rfl (fun K hK => ?_) ?_
          · go_simp
            have hNew := hHeld.alloc (.cells #[.int .i64 0, .int .i64 0, .int .i64 0, .int .i64 0, .int .i64 0, .int .i64 0, .int .i64 0, .int .i64 0, .int .i64 0, .int .i64 0, .int .i64 0, .int .i64 0, .int .u8 0] 62)
            have qH28N : Has (W.alloc (.cells #[.int .i64 0, .int .i64 0, .int .i64 0, .int .i64 0, .int .i64 0, .int .i64 0, .int .i64 0, .int .i64 0, .int .i64 0, .int .i64 0, .int .i64 0, .int .i64 0, .int .u8 0] 62)) W.heap.size [.int .i64 0, .int .i64 0, .int .i64 0, .int .i64 0, .int .i64 0, .int .i64 0, .int .i64 0, .int .i64 0, .int .i64 0, .int .i64 0, .int .i64 0, .int .i64 0, .int .u8 0] := Has.new W _ _
            have rH28N : w11.heap.size + 0 ≤ W.heap.size := hHeld.sz
            refine hK.out _ _ hNew (fun hHeld2 => ?_)
            (try simp only [Act.put, List.setIfInBounds_toArray, List.set_cons_zero, List.set_cons_succ])
            have nx := st_11.out
            simp only [Act.put, List.setIfInBounds_toArray, List.set_cons_zero, List.set_cons_succ] at nx
            exact nx W.heap.size _ qH28N rH28N hHeld2
          exact AllReadyH.nil
        subst hO hQ hA
        exact st.out _  hHeld
end Go.Proofs.YtheepmnhpclimaaGreat
