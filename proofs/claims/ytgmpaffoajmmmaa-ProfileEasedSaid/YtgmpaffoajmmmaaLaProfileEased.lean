/- The statement ProfileEased: for every input the law returns true, and every argument reads afterwards as before. No condition. -/
import Derived.Test.YtgmpaffoajmmmaaRows
import Derived.Test.YtgmpaffoajmmmaaLaLevel
import Derived.RegionTactic
import Derived.BigRegion
import Derived.Deep.RegionHeld3
import Derived.SizedLaws
import Derived.WalkKit
import Derived.ProofKit
import Derived.OpenShut
import Derived.ShutString
import Derived.ChangeOld
import Derived.Below
namespace Go.Proofs.Ytgmpaffoajmmmaa
set_option linter.unusedSimpArgs false
set_option linter.unusedVariables false
open Go.RowKit
theorem tmod_bd (x : Int) (n : Nat) (h : 0 < n) : -(n : Int) < x.tmod n ∧ x.tmod n < n := by
  have h1 := Int.tmod_lt_of_pos x (show (0 : Int) < n by omega)
  have h2 := Int.lt_tmod_of_pos x (show (0 : Int) < n by omega)
  omega
def wideL (zs : Cs.Wins) (i : Nat) (k : Int) : Cs.Wins := (List.range zs.length).map fun j => if j = i then (max (Cs.lo zs i - k) (-1099511627776), min (Cs.hi zs i + k) 1099511627776) else (Cs.lo zs j, Cs.hi zs j)
theorem wide_get {zs : Cs.Wins} {i j : Nat} {k : Int} (h : j < zs.length) : (wideL zs i k)[j]? = some (if j = i then (max (Cs.lo zs i - k) (-1099511627776), min (Cs.hi zs i + k) 1099511627776) else (Cs.lo zs j, Cs.hi zs j)) := by
  unfold wideL
  rw [List.getElem?_map, List.getElem?_range h]; rfl
theorem wide_len (zs : Cs.Wins) (i : Nat) (k : Int) : (wideL zs i k).length = zs.length := by simp [wideL]
theorem wide_sol {zs ys : Cs.Wins} {i : Nat} {k : Int} (hk : 0 ≤ k) (hok : Cs.CsOk zs ys) {v : Nat → Int} (hv : Cs.Sol zs ys v) : Cs.Sol (wideL zs i k) ys v := by
  refine ⟨fun j hj => ?_, fun j hj => hv.stp j (by rw [wide_len] at hj; exact hj)⟩
  rw [wide_len] at hj
  have h1 := hv.win j hj
  have h2 := hok.win hj
  unfold Pf.inB at h2
  rw [(Cs.lo_of (wide_get hj)).1, (Cs.lo_of (wide_get hj)).2]
  by_cases e : j = i
  · subst e
    rw [if_pos rfl]
    simp only
    omega
  · rw [if_neg e]; exact h1
theorem wide_ok {zs ys : Cs.Wins} {i : Nat} {k : Int} (hk : 0 ≤ k) (hok : Cs.CsOk zs ys) : Cs.CsOk (wideL zs i k) ys := by
  refine ⟨by rw [wide_len]; exact hok.len, by rw [wide_len]; exact hok.slen, fun p hp => ?_, hok.tok⟩
  unfold wideL at hp
  simp only [List.mem_map, List.mem_range] at hp
  obtain ⟨j, hj, rfl⟩ := hp
  have h2 := hok.win hj
  unfold Pf.inB at h2
  unfold Cs.okW Pf.inB
  by_cases e : j = i
  · subst e
    rw [if_pos rfl]
    simp only
    omega
  · rw [if_neg e]
    simp only
    omega
theorem wide_tg {zs ys : Cs.Wins} {i : Nat} {k : Int} (hk : 0 ≤ k) (h : Cs.tgE zs ys = 0) : Cs.tgE (wideL zs i k) ys = 0 ∧ ∀ j, j < zs.length → ((Cs.tight zs ys).map fun p => p.2).getD j 0 ≤ ((Cs.tight (wideL zs i k) ys).map fun p => p.2).getD j 0 := by
  obtain ⟨hc, hl⟩ := Cs.tgE_0 h
  have hok := Cs.csOk_of hc
  have hs := wide_sol (i := i) hk hok (Cs.sol_tH hok (Cs.confL_nil.1 hl))
  refine ⟨Cs.tgE_ok (wide_ok hk hok).err (Cs.confL_nil.2 hs.noConf), fun j hj => ?_⟩
  rw [getD_map_tight _ hj, getD_map_tight _ (by rw [wide_len]; exact hj)]
  exact (hs.between (by rw [wide_len]; exact hj)).2
def wideF (zs : Cs.Wins) (i : Nat) (k : Int) : Nat → Int × Int := fun j => if j = i then (max (Cs.lo zs i - k) (-1099511627776), min (Cs.hi zs i + k) 1099511627776) else (Cs.lo zs j, Cs.hi zs j)
theorem wide_step (zs : Cs.Wins) (i : Nat) (k : Int) (j : Nat) : updH (updL (fun j => zs.getD j (0, 0)) i (max (Cs.lo zs i - k) (-1099511627776))) i (min (Cs.hi zs i + k) 1099511627776) j = wideF zs i k j := by
  unfold updH updL wideF Cs.lo Cs.hi
  by_cases e : j = i
  · rw [if_pos e, if_pos e, if_pos e]
  · rw [if_neg e, if_neg e, if_neg e]
theorem wide_row {w0 w : World} {g n i : Nat} {K : Int} {zs : Cs.Wins} (hl : zs.length = n) (h : RowF w0 g n (wideF zs i K) w) : Pairs w (some ⟨g, 0, none⟩) n (wideL zs i K) := by
  subst hl
  exact h.pairs
def EaRel (n : Nat) (w : World) (t : Value) (wr : World) : Prop := ∃ k : Nat, k ≤ n ∧ t = .int .i64 k ∧ Below w.heap.size w wr
theorem ret_tt_ProfileEased {b : Bool} (h : b = true) : Ending.returned (.bool b) = .returned (.bool true) := by rw [h]
set_option maxRecDepth 100000 in
set_option maxHeartbeats 4000000 in
theorem walk_ProfileEased (A : Option Addr) (n cn : Nat) (zs : Cs.Wins) (S : Option Addr) (m cm : Nat) (ys : Cs.Wins) (xs lv : Int) (w : World) (hw : Pairs w A n zs) (hzf : ∀ x ∈ zs, WinWf x) (hn : n ≤ maxLen) (hn8 : n * 16 ≤ reachBytes) (hcA : CapOk A n cn) (hs : Pairs w S m ys) (hyf : ∀ x ∈ ys, WinWf x) (hm : m ≤ maxLen) (hm8 : m * 16 ≤ reachBytes) (hcS : CapOk S m cm) (hsf : (Lit.int .i64 xs).wf = true) (hlf : (Lit.int .i64 lv).wf = true) :
    Calls Try.prog 8 #[.slice A n cn, .slice S m cm, .agg #[.int .i64 xs, .int .i64 lv]] w fun e w' => e = .returned (.bool true) ∧ Below w.heap.size w w' := by
  have HW := Lib.hid hw
  have HS := Lib.hid hs
  have HNM := Lib.hid (And.intro hn hm)
  have HCS := Lib.hid hcS
  have HLW := Lib.hid hw.len
  have isx := wf_i64_bd hsf
  obtain ⟨xs0, xs1⟩ := isx
  have ilv := wf_i64_bd hlf
  obtain ⟨lv0, lv1⟩ := ilv
  unfold reachBytes at hn8
  have hn43 : n ≤ 8796093022208 := by omega
  have hnle : n ≤ cn := hcA.le
  obtain ⟨i0, hi, hz0, hz1, hz2⟩ := info_parts infoWin
  clear hw hs hcA hcS hzf hyf hsf hlf hn8 hm8 hn hm
  by_cases he : Cs.tgE zs ys = 0
  · have HE := Lib.hid he
    clear he
    by_cases hn0 : n = 0
    · have hne : ((n : Int) == 0) = true := beq_iff_eq.2 (by omega)
      clear hn0
      go_enter Try.func8, Try.ntmps8
      go_wp2_with fail
      refine (awake_any _).mono ?_; rintro e w1 ⟨rfl, hB⟩
      have k0 : w1.cell? ⟨w.heap.size, 0, none⟩ = some (.int .i64 xs) := (hB.cell (p := ⟨w.heap.size, 0, none⟩) (by simp)).trans (one_box w _ _ 0)
      have k1 : w1.cell? ⟨w.heap.size, 1, none⟩ = some (.int .i64 lv) := (hB.cell (p := ⟨w.heap.size, 1, none⟩) (by simp)).trans (one_box w _ _ 1)
      have hlt0 : w.heap.size < w1.heap.size := by have := hB.size; simp at this; omega
      have HB1 := Lib.hid (bel_alloc hB)
      clear hB
      go_wp2_with fail
      refine ((xGreatest A S n cn m cm zs ys w1 (HW.out.below HB1.out) (HS.out.below HB1.out) HNM.out.1 HNM.out.2 HCS.out.le HCS.out.mx).mono (fun e w' h => gr_ex h HE.out rfl)).mono ?_; rintro e w2 ⟨A1, c1, rfl, hI, hB⟩
      have HB2 := Lib.hid (bel_trans HB1.out hB)
      clear hI hB
      go_wp2_with fail
      go_ret
      exact ⟨ret_tt_ProfileEased (by simp), HB2.out⟩
    · have hn1 : 0 < n := by omega
      have hn64 : n ≤ 64 := by have := tgE_n HE.out; have := HLW.out; omega
      have hne : ((n : Int) == 0) = false := beq_eq_false_iff_ne.2 (by omega)
      have tb := tmod_bd xs n hn1
      obtain ⟨tb0, tb1⟩ := tb
      have hi1 := Int.emod_nonneg (xs.tmod n) (show (n : Int) ≠ 0 by omega)
      have hi2 := Int.emod_lt_of_pos (xs.tmod n) (show (0 : Int) < n by omega)
      obtain ⟨i, hii⟩ : ∃ i : Nat, (xs.tmod n) % n = (i : Int) := ⟨((xs.tmod n) % n).toNat, by omega⟩
      have hin : i < n := by omega
      have HI := Lib.hid hii
      clear hi1 hi2 hii hn0
      obtain ⟨bw, ow, rfl, hbw, _⟩ := HW.out.cells (by omega)
      have hfl := Lib.hid (show (zs.flatMap win).length = n * 2 by rw [flat_len, HLW.out])
      go_enter Try.func8, Try.ntmps8
      go_wp2_with fail
      refine (awake_any _).mono ?_; rintro e w1 ⟨rfl, hB⟩
      have k0 : w1.cell? ⟨w.heap.size, 0, none⟩ = some (.int .i64 xs) := (hB.cell (p := ⟨w.heap.size, 0, none⟩) (by simp)).trans (one_box w _ _ 0)
      have k1 : w1.cell? ⟨w.heap.size, 1, none⟩ = some (.int .i64 lv) := (hB.cell (p := ⟨w.heap.size, 1, none⟩) (by simp)).trans (one_box w _ _ 1)
      have hlt0 : w.heap.size < w1.heap.size := by have := hB.size; simp at this; omega
      have HB1 := Lib.hid (bel_alloc hB)
      clear hB
      go_wp2_with fail
      refine ((xGreatest (some ⟨bw, ow, none⟩) S n cn m cm zs ys w1 (HW.out.below HB1.out) (HS.out.below HB1.out) HNM.out.1 HNM.out.2 HCS.out.le HCS.out.mx).mono (fun e w' h => gr_ex h HE.out rfl)).mono ?_; rintro e w2 ⟨A1, c1, rfl, hI, hB⟩
      have I1 := Lib.hid hI
      have HB2 := Lib.hid (bel_trans HB1.out hB)
      replace k0 : w2.cell? ⟨w.heap.size, 0, none⟩ = some (.int .i64 xs) := (hB.cell (p := ⟨w.heap.size, 0, none⟩) hlt0).trans k0
      replace k1 : w2.cell? ⟨w.heap.size, 1, none⟩ = some (.int .i64 lv) := (hB.cell (p := ⟨w.heap.size, 1, none⟩) hlt0).trans k1
      replace hlt0 : w.heap.size < w2.heap.size := Nat.lt_of_lt_of_le hlt0 hB.size
      have HBa := Lib.hid (HB2.out.alloc HB2.out.size (.cells #[] 42))
      have HPF := Lib.hid (pairs_flat (HW.out.below HBa.out))
      have HO0 : Hid ((w2.alloc (.cells #[] 42)).ownsRow w2.heap.size 42 2 (.slice (some ⟨w2.heap.size, 0, none⟩) 0 0) 0 []) := Lib.hid (World.ownsRow_lit w2 #[] 0 (Nat.le_refl _) (by decide) rfl)
      clear hI hB
      go_wp2_with (at_builtin; refine wpList_append_own _ rfl _ _ 22 rfl w2.heap.size 42 i0 (.agg #[.int .i64 0, .int .i64 0]) 2 16 Try.underlying22 hi hz0 hz1 hz2 rfl (by decide) _ _ _ rfl HO0.out ⟨bw, ow, none⟩ n cn (zs.flatMap win) rfl hfl.out HPF.out (flat_one zs) (by unfold maxLen; omega) (by omega) (by simp) ?_; intro v1 w3 hown1 hgrow1 hnil1; have hB3 : Below w2.heap.size w2 w3 := ((Below.refl _ w2).alloc (Nat.le_refl _) _).grown hgrow1 (by simp) (own_block_ge HO0.out); replace k1 : w3.cell? ⟨w.heap.size, 1, none⟩ = some (.int .i64 lv) := (hB3.cell (p := ⟨w.heap.size, 1, none⟩) hlt0).trans k1)
      rw [HI.out]
      rw [Nat.zero_add, List.nil_append] at hown1
      obtain ⟨g, cap, hv1, hg0, hglt⟩ := hown1.form (by omega)
      subst hv1
      have HR := Lib.hid (RowF.of_own (w0 := w2) HLW.out hown1 hB3)
      have HB3 := Lib.hid (bel_trans HB2.out hB3)
      have I1z := Lib.hid I1.out
      clear hown1 hgrow1 hnil1 hB3
      obtain ⟨p, hp⟩ := get_ex (k := i) HLW.out hin
      obtain ⟨b', o', hAe, hb', c0, c1'⟩ := HW.out.cell hp
      injection hAe with hAe
      injection hAe with hAe hOe
      subst hAe hOe
      have HLO := Lib.hid (Cs.lo_of hp)
      have hpw := (Cs.csOk_of (Cs.tgE_0 HE.out).1).wok p (List.mem_of_getElem? hp)
      obtain ⟨⟨q0, q1⟩, q2, q3⟩ := hpw
      have d0 := (HB3.out.cell (p := ⟨bw, ow + i * 2, none⟩) hb').trans c0
      have d1 := (HB3.out.cell (p := ⟨bw, ow + i * 2 + 1, none⟩) hb').trans c1'
      have e0 := HR.out.lo i hin
      have e1 := HR.out.hi i hin
      have f0 := HR.out.fr (i * 2)
      have f1 := HR.out.fr (i * 2 + 1)
      clear hp c0 c1'
      have nbg : bw ≠ g := by have := HR.out.ge; have := HB2.out.size; omega
      have K0 : 0 ≤ min (max lv 0) 1099511627776 := by omega
      have K1 : min (max lv 0) 1099511627776 ≤ 1099511627776 := by omega
      generalize min (max lv 0) 1099511627776 = K at *
      have s0 : IntKind.i64.wrap (p.1 - K) = p.1 - K := IntWalk.i64_in _ (by omega)
      have s1 : IntKind.i64.wrap (p.2 + K) = p.2 + K := IntWalk.i64_in _ (by omega)
      have i1 : (0 : Int) ≤ (i : Int) := by omega
      have i2 : (i : Int) < (n : Int) := by omega
      go_region_held3 (fun w' => w'.cell? ⟨bw, ow + i * 2, none⟩ = some (.int .i64 p.1) ∧ w'.cell? ⟨bw, ow + i * 2 + 1, none⟩ = some (.int .i64 p.2)) ((refine ⟨?_, ?_⟩ <;> (simp only [World.cell?_drew]; (repeat rw [World.cell?_setCell_other _ _ _ _ (by intro e; injection e with e; exact nbg e.symm)]); assumption))) (fail)
      all_goals
        have HR2 := Lib.hid ((((HR.out.setL hin (max (p.1 - K) (-1099511627776))).setH hin (min (p.2 + K) 1099511627776)).congr (G := wideF zs i K) (fun j _ => by rw [← HLO.out.1, ← HLO.out.2]; exact wide_step zs i K j)).drew)
        have HB4 := Lib.hid (bel_trans HB2.out HR2.out.bel)
        have HP2 := Lib.hid (wide_row HLW.out HR2.out)
        replace I1 := Lib.hid (I1z.out.below HR2.out.bel)
        generalize ((w3.setCell ⟨g, i * 2, none⟩ (.int .i64 (max (p.1 - K) (-1099511627776)))).setCell ⟨g, i * 2 + 1, none⟩ (.int .i64 (min (p.2 + K) 1099511627776))).drew = w4 at *
        have HWT := Lib.hid (wide_tg (i := i) K0 HE.out)
        go_wp2_with fail
        refine ((xGreatest _ S n cap m cm (wideL zs i K) ys w4 HP2.out (HS.out.below HB4.out) HNM.out.1 HNM.out.2 HCS.out.le HCS.out.mx).mono (fun e w' h => gr_ex h HWT.out.1 rfl)).mono ?_; rintro e w5 ⟨A2, c2, rfl, hI, hB⟩
        have I2 := Lib.hid hI
        replace I1 := Lib.hid (I1.out.below hB)
        have HB5 := Lib.hid (bel_trans HB4.out hB)
        clear hI hB
        have hnn : ((n : Int) != (n : Int)) = false := by simp
        go_wp2_with fail
        go_loopw [95] (fun t wr => EaRel n w5 t wr) (fun t _ => n - (intOf t).toNat)
        case atStart => exact ⟨0, by omega, rfl, Below.refl _ _⟩
        case round =>
          obtain ⟨r, hr, rfl, hB⟩ := hrel
          have HBr := Lib.hid hB
          clear hB
          by_cases hlt2 : r < n
          · have hrz : r < zs.length := by have := HLW.out; omega
            obtain ⟨a, ha⟩ := get_ex (k := r) I1.out.len hlt2
            obtain ⟨b, hb⟩ := get_ex (k := r) I2.out.len hlt2
            have q1 := HWT.out.2 r hrz
            rw [getD_of ha, getD_of hb] at q1
            obtain ⟨b1, o1, hA1, hb1, z1⟩ := I1.out.cell ha
            obtain ⟨b2, o2, hA2, hb2, z2⟩ := I2.out.cell hb
            subst hA1 hA2
            have d1 := (HBr.out.cell (p := ⟨b1, o1 + r, none⟩) hb1).trans z1
            have d2 := (HBr.out.cell (p := ⟨b2, o2 + r, none⟩) hb2).trans z2
            have j0 : (0 : Int) ≤ (r : Int) := by omega
            have j1 : (r : Int) < (n : Int) := by omega
            have j2 : ¬ b < a := by omega
            clear ha hb z1 z2
            go_wp2_with fail
            go_quiet (fail)
            go_wp2_with fail
            go_roundw
            case rel => exact ⟨r + 1, by omega, by go_num, below_drewN HBr.out _⟩
            case measure => simp only [intOf]; omega
          · go_wp2_with fail
            go_ret
            exact ⟨ret_tt_ProfileEased (by simp), bel_trans HB5.out HBr.out⟩
  · have HE := Lib.hid he
    have hne : (Cs.tgE zs ys != 0) = true := by rw [bne_iff_ne]; exact he
    have HON := Lib.hid (show okN (Cs.tgE zs ys) n = 0 by unfold okN; rw [if_neg he])
    clear he
    go_enter Try.func8, Try.ntmps8
    go_wp2_with fail
    refine (awake_any _).mono ?_; rintro e w1 ⟨rfl, hB⟩
    have k0 : w1.cell? ⟨w.heap.size, 0, none⟩ = some (.int .i64 xs) := (hB.cell (p := ⟨w.heap.size, 0, none⟩) (by simp)).trans (one_box w _ _ 0)
    have k1 : w1.cell? ⟨w.heap.size, 1, none⟩ = some (.int .i64 lv) := (hB.cell (p := ⟨w.heap.size, 1, none⟩) (by simp)).trans (one_box w _ _ 1)
    have hlt0 : w.heap.size < w1.heap.size := by have := hB.size; simp at this; omega
    have HB1 := Lib.hid (bel_alloc hB)
    clear hB
    go_wp2_with fail
    refine (gr_any (xGreatest A S n cn m cm zs ys w1 (HW.out.below HB1.out) (HS.out.below HB1.out) HNM.out.1 HNM.out.2 HCS.out.le HCS.out.mx)).mono ?_; rintro e w2 ⟨A1, c1, rfl, hI, hB⟩
    have HB2 := Lib.hid (bel_trans HB1.out hB)
    rw [HON.out]
    clear hI hB HE
    generalize Cs.tgE zs ys = E at *
    go_wp2_with fail
    go_ret
    exact ⟨ret_tt_ProfileEased (by simp), HB2.out⟩
end Go.Proofs.Ytgmpaffoajmmmaa
namespace Go.Proofs.Ytgmpaffoajmmmaa.profileEased
open Go.ChangeShapes Go.WideShapes Go.ChangeAt Go.RowKit
open Go.ChangeMaps (open_string shut_string)
set_option linter.unusedVariables false
set_option linter.unusedSimpArgs false

theorem own : ownKnob Try.prog.godebug = none := by kernel_rfl
theorem laidOut : laidOutB Try.prog = true := by kernel_rfl

set_option maxRecDepth 100000 in
theorem lifted (os : Os) (started : os.Started) (H : Type) (enc : TypeId × Value → H) :
    ReturnsInHanded {} Try.checked os 8 .any (Rows.profileEasedSpec.pre6 enc Try.prog Try.f8 Rows.profileEasedRow.domain false) (Rows.profileEasedSpec.post enc Try.prog Try.f8 false true false false) := by
  refine returnsInHanded_of_change_sized (C := Try.checked) own started (by kernel_rfl) Try.func8
    (ChangeSpec.witness6 (enc := enc) (C := Try.checked) false ⟨#[], #[.slice none 0 0, .slice none 0 0, .agg #[.int .i64 0, .int .i64 0]], []⟩ 8 (by kernel_rfl) (by kernel_rfl) (by kernel_rfl) (by kernel_rfl)) ?_
  intro W base args ds gs before hval0 hW hcnd hsz0 _
  have hval : ∀ (j : Nat) t v, Try.f8.params[j]? = some t → args[j]? = some v → Value.okWide Try.prog W .any base t v := hval0
  have hW' := hW
  obtain ⟨p, q, hA0, hV, rfl, hfz, hnd⟩ := hW
  have hA : DataW.TrodAll enc Try.prog W 0 (fun _ => true) true Try.f8.params.toList args.toList ds p := hA0
  have hsz : (DataW.weightsEach Try.prog (Try.f8.params.toList ++ Rows.profileEasedSpec.plain.varTypes Try.prog) (ds ++ gs)).all (· ≤ reachBytes) = true := hsz0
  rw [Try.params8] at hA hval hsz
  obtain ⟨v0, vs0, d0, ds0, p0, q0, hargs, rfl, rfl, h0, r0⟩ := trodAll_cons hA
  obtain ⟨v1, vs1, d1, ds1, p1, q1, rfl, rfl, rfl, h1, r1⟩ := trodAll_cons r0
  obtain ⟨v2, vs2, d2, ds2, p2, q2, rfl, rfl, rfl, h2, r2⟩ := trodAll_cons r1
  obtain ⟨rfl, rfl, rfl⟩ := trodAll_nil r2
  obtain rfl : args = #[v0, v1, v2] := by cases args; simp_all
  obtain ⟨rfl, rfl⟩ := trodVars_none hV
  have k0 := h0
  have lt0 : ∀ x ∈ p0, x.block < W.heap.size := by obtain ⟨m, hm⟩ := k0; exact DataW.trod_lt m _ _ _ hm
  have k1 := h1
  have lt1 : ∀ x ∈ p1, x.block < W.heap.size := by obtain ⟨m, hm⟩ := k1; exact DataW.trod_lt m _ _ _ hm
  have k2 := h2
  have lt2 : ∀ x ∈ p2, x.block < W.heap.size := by obtain ⟨m, hm⟩ := k2; exact DataW.trod_lt m _ _ _ hm
  obtain ⟨A0, n0, c0, z0, rfl, m0, qc0, w0, u0, o0⟩ := open_recs_Trod win 2 (by decide) (fun _ => rfl) WinWf Try.underlying22 (by kernel_rfl) el_win (hval 0 22 v0 rfl rfl) h0
  have o0' := o0 (weights_arg hsz (j := 0) rfl rfl)
  rw [show Try.prog.bytesOf 42 = 16 by kernel_rfl] at o0'
  obtain ⟨A1, n1, c1, z1, rfl, m1, qc1, w1, u1, o1⟩ := open_recs_Trod win 2 (by decide) (fun _ => rfl) WinWf Try.underlying23 (by kernel_rfl) el_step (hval 1 23 v1 rfl rfl) h1
  have o1' := o1 (weights_arg hsz (j := 1) rfl rfl)
  rw [show Try.prog.bytesOf 50 = 16 by kernel_rfl] at o1'
  obtain ⟨cs2, fu2, rfl, hh2⟩ := open_agg_list Try.underlying36 (hval 2 36 v2 rfl rfl) h2
  obtain ⟨e2_0, e2_1, rfl, g2_0, g2_1⟩ := el_spot _ _ _ hh2
  clear hA0 hval0
  refine (Ytgmpaffoajmmmaa.walk_ProfileEased A0 n0 c0 z0 A1 n1 c1 z1 e2_0 e2_1 W w0 u0 m0 o0' qc0 w1 u1 m1 o1' qc1 g2_0 g2_1).mono fun e W' ⟨he, bel⟩ => ?_
  subst he
  exact ⟨_, rfl, _, _, _, [], _, [], hW', trodAll_mk1 (shut_bool Try.underlying4 _), (trodAll_cons_mk (Below.trod laidOut (by kernel_rfl) (of_decide_eq_true (by kernel_rfl)) k0 bel lt0) (trodAll_cons_mk (Below.trod laidOut (by kernel_rfl) (of_decide_eq_true (by kernel_rfl)) k1 bel lt1) (trodAll_cons_mk (Below.trod laidOut (by kernel_rfl) (of_decide_eq_true (by kernel_rfl)) k2 bel lt2) trodAll_mk0))), rfl, bel.frame _, fun h => by cases h⟩

theorem over : Rows.profileEasedRow.holds Try.pinned (OpenSpec.ofChange Rows.profileEasedSpec) :=
  OpenClaim.holds_of_wide 8 Try.f8 rfl rfl rfl rfl rfl rfl rfl ⟨rfl, rfl, rfl, rfl, rfl⟩ rfl rfl rfl rfl rfl (by kernel_rfl) Try.func8 (by kernel_rfl)
    (of_decide_eq_true (by kernel_rfl)) (by unfold Func.isWrapper; first | (rw [if_pos (by decide +kernel)]; kernel_rfl) | (rw [if_neg (by decide +kernel)]; exact ⟨rfl, rfl⟩))
    (fun os started H enc _ => lifted os started H enc)

/-- the statement -/
theorem proved : Rows.ProfileEasedSaid := over
end Go.Proofs.Ytgmpaffoajmmmaa.profileEased
