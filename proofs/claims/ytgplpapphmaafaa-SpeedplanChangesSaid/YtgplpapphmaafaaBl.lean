/- Layer 34: Below of the program and of the reference (printed by gen_bl.py). -/
import Derived.Test.YtgplpapphmaafaaBlPlain
import Derived.Test.YtgplpapphmaafaaPl
import Derived.Test.YtgplpapphmaafaaCsRow
import Derived.Test.YtgplpapphmaafaaPf
import Derived.Laws.AppendOwnNone
namespace Go.Proofs.Ytgplpapphmaafaa
set_option linter.unusedSimpArgs false
set_option linter.unusedVariables false
open Go.RowKit

theorem ints_cell {w : World} {A : Option Addr} {n k : Nat} {l : List Int} {x : Int} (h : Ints w A n l) (hk : l[k]? = some x) : ∃ b off, A = some ⟨b, off, none⟩ ∧ b < w.heap.size ∧ w.cell? ⟨b, off + k, none⟩ = some (.int .i64 x) := by
  have hl := h.len
  have := (List.getElem?_eq_some_iff.1 hk).1
  obtain ⟨b, off, e, hb, hc⟩ := h.cells (by omega)
  exact ⟨b, off, e, hb, hc k x hk⟩
def BelPost (ws st : Cs.Wins) (wish : List Int) (n : Nat) (w : World) (e : Ending) (w' : World) : Prop :=
  (Cs.belE ws st wish = 0 → ∃ A c, e = .returned (.tuple #[.slice A n c, .int .i64 0]) ∧ Ints w' A n ((Cs.tight (Cs.lowL ws wish) st).map fun p => p.2)) ∧ (Cs.belE ws st wish ≠ 0 → e = .returned (.tuple #[.slice none 0 0, .int .i64 (Cs.belE ws st wish)])) ∧ Below w.heap.size w w'
theorem belPost_err {ws st : Cs.Wins} {wish : List Int} {n : Nat} {E : Int} {w w' : World} (hE : Cs.belE ws st wish = E) (h0 : E ≠ 0) (hb : Below w.heap.size w w') : BelPost ws st wish n w (.returned (.tuple #[.slice none 0 0, .int .i64 E])) w' :=
  ⟨fun h => absurd (hE.symm.trans h) h0, fun _ => by rw [hE], hb⟩
theorem belPost_gr {ws st : Cs.Wins} {wish : List Int} {n : Nat} {w w1 w' : World} {e : Ending} (hE : Cs.belE ws st wish = Cs.tgE (Cs.lowL ws wish) st) (hb : Below w.heap.size w w1) (h : GrPost (fun p => p.2) (Cs.lowL ws wish) st n w1 e w') : BelPost ws st wish n w e w' :=
  ⟨fun k => h.1 (hE.symm.trans k), fun k => by rw [hE]; exact h.2.1 (fun j => k (hE.trans j)), bel_trans hb h.2.2⟩
def BlRel (ws : Cs.Wins) (wish : List Int) (n g : Nat) (w : World) (t : Value) (wr : World) : Prop := ∃ k : Nat, k ≤ n ∧ t = .int .i64 k ∧ (∀ x ∈ wish.take k, Pf.inB x) ∧ RowF w g n (Cs.lowF ws wish k) wr
theorem low_step {ws : Cs.Wins} {wish : List Int} {k : Nat} {x : Int} (hx : wish[k]? = some x) (j : Nat) : updH (Cs.lowF ws wish k) k (min (Cs.hi ws k) x) j = Cs.lowF ws wish (k + 1) j := by
  have e : wish.getD k 0 = x := by rw [List.getD_eq_getElem?_getD, hx]; rfl
  unfold updH Cs.lowF
  by_cases h : j = k
  · subst h
    rw [if_pos rfl, if_neg (Nat.lt_irrefl j), if_pos (Nat.lt_succ_self j), e]
  · rw [if_neg h]
    by_cases h2 : j < k
    · rw [if_pos h2, if_pos (show j < k + 1 by omega)]
    · rw [if_neg h2, if_neg (show ¬ j < k + 1 by omega)]

set_option maxRecDepth 100000 in
set_option maxHeartbeats 4000000 in
theorem xBelow (A S V : Option Addr) (n cn m cm nv cv : Nat) (ws st : Cs.Wins) (wish : List Int) (w : World) (hw : Pairs w A n ws) (hs : Pairs w S m st) (hv : Ints w V nv wish) (hn : n ≤ maxLen) (hm : m ≤ maxLen) (hnv : nv ≤ maxLen) (hmc : m ≤ cm) (hcm : cm ≤ maxLen) :
    Calls Try.prog 33 #[.slice A n cn, .slice S m cm, .slice V nv cv] w (BelPost ws st wish n w) := by
  have HC := Lib.hid (xCheck A S n cn m cm ws st w hw hs hn hm)
  unfold ChkPost at HC
  obtain ⟨i0, hi, hz0, hz1, hz2⟩ := info_parts infoWin
  by_cases he : Cs.chkE ws st = 0
  · by_cases hnn : nv = n
    · subst hnn
      have hok := Cs.csOk_of he
      have hn64 : nv ≤ 64 := by have := hok.len; have := hw.len; omega
      rw [he] at HC
      have HN := Lib.hid hw.len
      have HV0 := Lib.hid hv.len
      have HW := Lib.hid hw
      have HS := Lib.hid hs
      have HV := Lib.hid hv
      have HE := Lib.hid he
      have HOK := Lib.hid hok
      have HM := Lib.hid hm
      clear hw hs hv he hok hn hm hnv
      by_cases hn0 : nv = 0
      · subst hn0
        have HBE := Lib.hid (Cs.belE_ok (wish := wish) HE.out (by rw [HV0.out, HN.out]) (by intro x hx; have h0 := List.eq_nil_of_length_eq_zero HV0.out; rw [h0] at hx; simp at hx))
        cases A with
        | none =>
          go_enter Try.func33, Try.ntmps33
          go_wp2_with fail
          refine HC.out.mono ?_; rintro e w1 ⟨rfl, hB1⟩
          have HBW := Lib.hid hB1
          clear hB1
          go_wp2_with (at_builtin; refine wpList_append_nil0 rfl _ _ 34 rfl 42 i0 Try.underlying34 hi cn rfl rfl ?_)
          refine wp_loop_rounds 1 ?_
          rw [rounds_succ]
          have HG := xGreatest none S 0 0 m cm (Cs.lowL ws wish) st w1 ⟨by rw [Cs.lowL_len]; exact HN.out, fun h => absurd h (by omega)⟩ (HS.out.below HBW.out) (by unfold maxLen; omega) HM.out hmc hcm
          by_cases ht : Cs.tgE (Cs.lowL ws wish) st = 0
          · have HG2 := Lib.hid (HG.mono (R' := fun e w' => ∃ A' c', e = .returned (.tuple #[.slice A' 0 c', .int .i64 0]) ∧ BelPost ws st wish 0 w e w') fun e w' h => by
              obtain ⟨A', c', h1, _⟩ := h.1 ht
              exact ⟨A', c', h1, belPost_gr HBE.out HBW.out h⟩)
            clear HG ht
            go_wp2_with fail
            refine HG2.out.mono ?_; rintro e w3 ⟨A', c', rfl, hG⟩
            have HBP := Lib.hid hG
            clear hG
            go_wp2_with fail
            go_ret2
            exact HBP.out
          · have HG2 := Lib.hid (HG.mono (R' := fun e w' => e = .returned (.tuple #[.slice none 0 0, .int .i64 (Cs.tgE (Cs.lowL ws wish) st)]) ∧ BelPost ws st wish 0 w e w') fun e w' h => ⟨h.2.1 ht, belPost_gr HBE.out HBW.out h⟩)
            clear HG ht
            generalize Cs.tgE (Cs.lowL ws wish) st = E at *
            go_wp2_with fail
            refine HG2.out.mono ?_; rintro e w3 ⟨rfl, hG⟩
            have HBP := Lib.hid hG
            clear hG
            go_wp2_with fail
            go_ret2
            exact HBP.out
        | some ad =>
          go_enter Try.func33, Try.ntmps33
          go_wp2_with fail
          refine HC.out.mono ?_; rintro e w1 ⟨rfl, hB1⟩
          have HB1 := Lib.hid hB1
          clear hB1
          go_wp2_with (at_builtin; refine wpList_append_own _ rfl _ _ 34 rfl w.heap.size 42 i0 (.agg #[.int .i64 0, .int .i64 0]) 2 16 Try.underlying34 hi hz0 hz1 hz2 rfl (by decide) _ _ _ rfl (World.ownsRow_nil _ _ _ _) ad 0 cn [] rfl rfl (by intro j u hu; simp at hu) (by intro u hu; simp at hu) (by unfold maxLen; omega) (by omega) HB1.out.size ?_; intro v1 w2 hown1 hgrow1 hnil1)
          obtain rfl := hnil1.2 ⟨rfl, trivial⟩
          have HBW := Lib.hid (HB1.out.grown hgrow1 HB1.out.size (own_block_ge (World.ownsRow_nil w1 w.heap.size 42 2)))
          clear hown1 hgrow1 hnil1
          refine wp_loop_rounds 1 ?_
          rw [rounds_succ]
          have HG := xGreatest none S 0 0 m cm (Cs.lowL ws wish) st w2 ⟨by rw [Cs.lowL_len]; exact HN.out, fun h => absurd h (by omega)⟩ (HS.out.below HBW.out) (by unfold maxLen; omega) HM.out hmc hcm
          by_cases ht : Cs.tgE (Cs.lowL ws wish) st = 0
          · have HG2 := Lib.hid (HG.mono (R' := fun e w' => ∃ A' c', e = .returned (.tuple #[.slice A' 0 c', .int .i64 0]) ∧ BelPost ws st wish 0 w e w') fun e w' h => by
              obtain ⟨A', c', h1, _⟩ := h.1 ht
              exact ⟨A', c', h1, belPost_gr HBE.out HBW.out h⟩)
            clear HG ht
            go_wp2_with fail
            refine HG2.out.mono ?_; rintro e w3 ⟨A', c', rfl, hG⟩
            have HBP := Lib.hid hG
            clear hG
            go_wp2_with fail
            go_ret2
            exact HBP.out
          · have HG2 := Lib.hid (HG.mono (R' := fun e w' => e = .returned (.tuple #[.slice none 0 0, .int .i64 (Cs.tgE (Cs.lowL ws wish) st)]) ∧ BelPost ws st wish 0 w e w') fun e w' h => ⟨h.2.1 ht, belPost_gr HBE.out HBW.out h⟩)
            clear HG ht
            generalize Cs.tgE (Cs.lowL ws wish) st = E at *
            go_wp2_with fail
            refine HG2.out.mono ?_; rintro e w3 ⟨rfl, hG⟩
            have HBP := Lib.hid hG
            clear hG
            go_wp2_with fail
            go_ret2
            exact HBP.out
      · obtain ⟨b, off, rfl, hb, _⟩ := HW.out.cells (by omega)
        have hfl := Lib.hid (show (ws.flatMap win).length = nv * 2 by rw [flat_len, HN.out])
        go_enter Try.func33, Try.ntmps33
        go_wp2_with fail
        refine HC.out.mono ?_; rintro e w1 ⟨rfl, hB1⟩
        have HB1 := Lib.hid hB1
        have HPF := Lib.hid (pairs_flat (HW.out.below hB1))
        clear hB1
        go_wp2_with (at_builtin; refine wpList_append_own _ rfl _ _ 34 rfl w.heap.size 42 i0 (.agg #[.int .i64 0, .int .i64 0]) 2 16 Try.underlying34 hi hz0 hz1 hz2 rfl (by decide) _ _ _ rfl (World.ownsRow_nil _ _ _ _) ⟨b, off, none⟩ nv cn (ws.flatMap win) rfl hfl.out HPF.out (flat_one ws) (by unfold maxLen; omega) (by omega) HB1.out.size ?_; intro v1 w2 hown1 hgrow1 hnil1)
        rw [Nat.zero_add, List.nil_append] at hown1
        obtain ⟨g, cap, hv1, hg0, hglt⟩ := hown1.form (by omega)
        subst hv1
        have HB2 := Lib.hid (HB1.out.grown hgrow1 HB1.out.size (own_block_ge (World.ownsRow_nil w1 w.heap.size 42 2)))
        have HR := Lib.hid (RowF.of_own (w0 := w) HN.out hown1 HB2.out)
        clear hown1 hgrow1 hnil1
        go_wp2_with fail
        go_loopw [27] (fun t wr => BlRel ws wish nv g w t wr) (fun t _ => nv - (intOf t).toNat)
        case atStart => exact ⟨0, by omega, rfl, by simp, HR.out.congr fun j hj => Cs.lowF_zero j⟩
        case round =>
          obtain ⟨k, hk, rfl, hall, hR⟩ := hrel
          have HR := Lib.hid hR
          have HALL := Lib.hid hall
          clear hR hall
          by_cases hlt : k < nv
          · obtain ⟨x, hx⟩ := get_ex HV0.out hlt
            obtain ⟨bv, ov, rfl, hbv, cx⟩ := ints_cell HV.out hx
            replace cx := (HR.out.bel.cell (p := ⟨bv, ov + k, none⟩) hbv).trans cx
            have HX := Lib.hid hx
            have e1 := HR.out.hi k hlt
            have fr := HR.out.fr (k * 2 + 1)
            rw [Cs.lowF_cells] at e1
            replace e1 : wr.cell? ⟨g, k * 2 + 1, none⟩ = some (.int .i64 (Cs.hi ws k)) := e1
            have hgl := HR.out.lt
            clear hx
            by_cases hin : Pf.inB x
            · have HIN := Lib.hid hin
              have hstep := Lib.hid (low_step (ws := ws) HX.out)
              generalize Cs.hi ws k = HH at *
              clear hin
              go_wp2_with fail
              refine (inBound_yes x HIN.out _).mono ?_; rintro e w' ⟨rfl, rfl⟩
              go_wp2_with fail
              go_roundw
              case rel => exact ⟨k + 1, by omega, by go_num, tk_all HALL.out HX.out HIN.out, (HR.out.setH hlt (min HH x)).congr fun j _ => hstep.out j⟩
              case measure => simp only [intOf]; omega
            · have HX2 := Lib.hid (Cs.belE_rng HE.out (by rw [HV0.out, HN.out]) (List.mem_of_getElem? HX.out) hin)
              have HIN := Lib.hid hin
              clear hin
              go_wp2_with fail
              refine (inBound_no x HIN.out _).mono ?_; rintro e w' ⟨rfl, rfl⟩
              go_wp2_with fail
              go_ret2
              exact belPost_err HX2.out (by decide) HR.out.bel
          · have hkn := Lib.hid (show k = nv by omega)
            have HIN := Lib.hid (tk_len HV0.out (by have := HALL.out; rwa [hkn.out] at this))
            have hp := HR.out.pairs
            rw [hkn.out] at hp
            have HBE := Lib.hid (Cs.belE_ok HE.out (by rw [HV0.out, HN.out]) HIN.out)
            have HG := xGreatest (some ⟨g, 0, none⟩) S nv cap m cm (Cs.lowL ws wish) st wr (by unfold Cs.lowL; rw [HN.out]; exact hp) (HS.out.below HR.out.bel) (by unfold maxLen; omega) HM.out hmc hcm
            by_cases ht : Cs.tgE (Cs.lowL ws wish) st = 0
            · have HG2 := Lib.hid (HG.mono (R' := fun e w' => ∃ A' c', e = .returned (.tuple #[.slice A' nv c', .int .i64 0]) ∧ BelPost ws st wish nv w e w') fun e w' h => by
                obtain ⟨A', c', h1, _⟩ := h.1 ht
                exact ⟨A', c', h1, belPost_gr HBE.out HR.out.bel h⟩)
              clear hp HG ht
              go_wp2_with fail
              refine HG2.out.mono ?_; rintro e w3 ⟨A', c', rfl, hG⟩
              have HBP := Lib.hid hG
              clear hG
              go_wp2_with fail
              go_ret2
              exact HBP.out
            · have HG2 := Lib.hid (HG.mono (R' := fun e w' => e = .returned (.tuple #[.slice none 0 0, .int .i64 (Cs.tgE (Cs.lowL ws wish) st)]) ∧ BelPost ws st wish nv w e w') fun e w' h => ⟨h.2.1 ht, belPost_gr HBE.out HR.out.bel h⟩)
              clear hp HG ht
              generalize Cs.tgE (Cs.lowL ws wish) st = E at *
              go_wp2_with fail
              refine HG2.out.mono ?_; rintro e w3 ⟨rfl, hG⟩
              have HBP := Lib.hid hG
              clear hG
              go_wp2_with fail
              go_ret2
              exact HBP.out
    · have hne : ((nv : Int) != (n : Int)) = true := by rw [bne_iff_ne]; omega
      have HX := Lib.hid (Cs.belE_len (wish := wish) he (fun h => hnn (by have := hw.len; have := hv.len; omega)))
      rw [he] at HC
      clear hw hs hv he
      go_enter Try.func33, Try.ntmps33
      go_wp2_with fail
      refine HC.out.mono ?_; rintro e w1 ⟨rfl, hB1⟩
      have HB1 := Lib.hid hB1
      clear hB1
      go_wp2_with fail
      go_ret2
      exact belPost_err HX.out (by decide) HB1.out
  · have hne : (Cs.chkE ws st != 0) = true := by rw [bne_iff_ne]; exact he
    have HX := Lib.hid (Cs.belE_chk (wish := wish) he)
    have HNE := Lib.hid he
    clear hw hs hv he
    generalize Cs.chkE ws st = E at *
    go_enter Try.func33, Try.ntmps33
    go_wp2_with fail
    refine HC.out.mono ?_; rintro e w1 ⟨rfl, hB1⟩
    have HB1 := Lib.hid hB1
    clear hB1
    go_wp2_with fail
    go_ret2
    exact belPost_err HX.out HNE.out HB1.out

set_option maxRecDepth 100000 in
set_option maxHeartbeats 4000000 in
theorem rBelow (A S V : Option Addr) (n cn m cm nv cv : Nat) (ws st : Cs.Wins) (wish : List Int) (w : World) (hw : Pairs w A n ws) (hs : Pairs w S m st) (hv : Ints w V nv wish) (hn : n ≤ maxLen) (hm : m ≤ maxLen) (hnv : nv ≤ maxLen) (hmc : m ≤ cm) (hcm : cm ≤ maxLen) (hA : A = none → cn = 0) :
    Calls Try.prog 35 #[.slice A n cn, .slice S m cm, .slice V nv cv] w (BelPost ws st wish n w) := by
  have HC := Lib.hid (rCheck A S n cn m cm ws st w hw hs hn hm)
  unfold ChkPost at HC
  obtain ⟨i0, hi, hz0, hz1, hz2⟩ := info_parts infoWin
  by_cases he : Cs.chkE ws st = 0
  · by_cases hnn : nv = n
    · subst hnn
      have hok := Cs.csOk_of he
      have hn64 : nv ≤ 64 := by have := hok.len; have := hw.len; omega
      rw [he] at HC
      have HN := Lib.hid hw.len
      have HV0 := Lib.hid hv.len
      have HW := Lib.hid hw
      have HS := Lib.hid hs
      have HV := Lib.hid hv
      have HE := Lib.hid he
      have HOK := Lib.hid hok
      have HM := Lib.hid hm
      clear hw hs hv he hok hn hm hnv
      by_cases hn0 : nv = 0
      · subst hn0
        have HBE := Lib.hid (Cs.belE_ok (wish := wish) HE.out (by rw [HV0.out, HN.out]) (by intro x hx; have h0 := List.eq_nil_of_length_eq_zero HV0.out; rw [h0] at hx; simp at hx))
        cases A with
        | none =>
          obtain rfl := hA rfl
          go_enter Try.func35, Try.ntmps35
          go_wp2_with fail
          refine HC.out.mono ?_; rintro e w1 ⟨rfl, hB1⟩
          have HBW := Lib.hid (hB1.alloc hB1.size (.cells #[] 42))
          have HO0 : Hid ((w1.alloc (.cells #[] 42)).ownsRow w.heap.size 42 2 (.slice (some ⟨w1.heap.size, 0, none⟩) 0 0) 0 []) := Lib.hid (World.ownsRow_lit w1 #[] 0 hB1.size (by decide) rfl)
          clear hB1
          go_wp2_with (at_builtin; refine wpList_append_own_none rfl _ _ 34 rfl w.heap.size 42 i0 2 Try.underlying34 hi _ 0 [] rfl HO0.out rfl ?_)
          refine wp_loop_rounds 1 ?_
          rw [rounds_succ]
          have HG := rGreatest (some ⟨w1.heap.size, 0, none⟩) S 0 0 m cm (Cs.lowL ws wish) st (w1.alloc (.cells #[] 42)) ⟨by rw [Cs.lowL_len]; exact HN.out, fun h => absurd h (by omega)⟩ (HS.out.below HBW.out) (by unfold maxLen; omega) HM.out hmc hcm
          by_cases ht : Cs.tgE (Cs.lowL ws wish) st = 0
          · have HG2 := Lib.hid (HG.mono (R' := fun e w' => ∃ A' c', e = .returned (.tuple #[.slice A' 0 c', .int .i64 0]) ∧ BelPost ws st wish 0 w e w') fun e w' h => by
              obtain ⟨A', c', h1, _⟩ := h.1 ht
              exact ⟨A', c', h1, belPost_gr HBE.out HBW.out h⟩)
            clear HG ht
            go_wp2_with fail
            refine HG2.out.mono ?_; rintro e w3 ⟨A', c', rfl, hG⟩
            have HBP := Lib.hid hG
            clear hG
            go_wp2_with fail
            go_ret2
            exact HBP.out
          · have HG2 := Lib.hid (HG.mono (R' := fun e w' => e = .returned (.tuple #[.slice none 0 0, .int .i64 (Cs.tgE (Cs.lowL ws wish) st)]) ∧ BelPost ws st wish 0 w e w') fun e w' h => ⟨h.2.1 ht, belPost_gr HBE.out HBW.out h⟩)
            clear HG ht
            generalize Cs.tgE (Cs.lowL ws wish) st = E at *
            go_wp2_with fail
            refine HG2.out.mono ?_; rintro e w3 ⟨rfl, hG⟩
            have HBP := Lib.hid hG
            clear hG
            go_wp2_with fail
            go_ret2
            exact HBP.out
        | some ad =>
          go_enter Try.func35, Try.ntmps35
          go_wp2_with fail
          refine HC.out.mono ?_; rintro e w1 ⟨rfl, hB1⟩
          have HBa := Lib.hid (hB1.alloc hB1.size (.cells #[] 42))
          have HO0 : Hid ((w1.alloc (.cells #[] 42)).ownsRow w.heap.size 42 2 (.slice (some ⟨w1.heap.size, 0, none⟩) 0 0) 0 []) := Lib.hid (World.ownsRow_lit w1 #[] 0 hB1.size (by decide) rfl)
          clear hB1
          go_wp2_with (at_builtin; refine wpList_append_own _ rfl _ _ 34 rfl w.heap.size 42 i0 (.agg #[.int .i64 0, .int .i64 0]) 2 16 Try.underlying34 hi hz0 hz1 hz2 rfl (by decide) _ _ _ rfl HO0.out ad 0 cn [] rfl rfl (by intro j u hu; simp at hu) (by intro u hu; simp at hu) (by unfold maxLen; omega) (by omega) HBa.out.size ?_; intro v1 w2 hown1 hgrow1 hnil1)
          obtain ⟨A2, c2, hv⟩ := own_form hown1
          subst hv
          have HBW := Lib.hid (HBa.out.grown hgrow1 HBa.out.size (own_block_ge HO0.out))
          clear hown1 hgrow1 hnil1
          refine wp_loop_rounds 1 ?_
          rw [rounds_succ]
          have HG := rGreatest A2 S 0 c2 m cm (Cs.lowL ws wish) st w2 ⟨by rw [Cs.lowL_len]; exact HN.out, fun h => absurd h (by omega)⟩ (HS.out.below HBW.out) (by unfold maxLen; omega) HM.out hmc hcm
          by_cases ht : Cs.tgE (Cs.lowL ws wish) st = 0
          · have HG2 := Lib.hid (HG.mono (R' := fun e w' => ∃ A' c', e = .returned (.tuple #[.slice A' 0 c', .int .i64 0]) ∧ BelPost ws st wish 0 w e w') fun e w' h => by
              obtain ⟨A', c', h1, _⟩ := h.1 ht
              exact ⟨A', c', h1, belPost_gr HBE.out HBW.out h⟩)
            clear HG ht
            go_wp2_with fail
            refine HG2.out.mono ?_; rintro e w3 ⟨A', c', rfl, hG⟩
            have HBP := Lib.hid hG
            clear hG
            go_wp2_with fail
            go_ret2
            exact HBP.out
          · have HG2 := Lib.hid (HG.mono (R' := fun e w' => e = .returned (.tuple #[.slice none 0 0, .int .i64 (Cs.tgE (Cs.lowL ws wish) st)]) ∧ BelPost ws st wish 0 w e w') fun e w' h => ⟨h.2.1 ht, belPost_gr HBE.out HBW.out h⟩)
            clear HG ht
            generalize Cs.tgE (Cs.lowL ws wish) st = E at *
            go_wp2_with fail
            refine HG2.out.mono ?_; rintro e w3 ⟨rfl, hG⟩
            have HBP := Lib.hid hG
            clear hG
            go_wp2_with fail
            go_ret2
            exact HBP.out
      · obtain ⟨b, off, rfl, hb, _⟩ := HW.out.cells (by omega)
        have hfl := Lib.hid (show (ws.flatMap win).length = nv * 2 by rw [flat_len, HN.out])
        go_enter Try.func35, Try.ntmps35
        go_wp2_with fail
        refine HC.out.mono ?_; rintro e w1 ⟨rfl, hB1⟩
        have HB1 := Lib.hid hB1
        have HBa := Lib.hid (hB1.alloc hB1.size (.cells #[] 42))
        have HPF := Lib.hid (pairs_flat (HW.out.below HBa.out))
        have HO0 : Hid ((w1.alloc (.cells #[] 42)).ownsRow w.heap.size 42 2 (.slice (some ⟨w1.heap.size, 0, none⟩) 0 0) 0 []) := Lib.hid (World.ownsRow_lit w1 #[] 0 hB1.size (by decide) rfl)
        clear hB1
        go_wp2_with (at_builtin; refine wpList_append_own _ rfl _ _ 34 rfl w.heap.size 42 i0 (.agg #[.int .i64 0, .int .i64 0]) 2 16 Try.underlying34 hi hz0 hz1 hz2 rfl (by decide) _ _ _ rfl HO0.out ⟨b, off, none⟩ nv cn (ws.flatMap win) rfl hfl.out HPF.out (flat_one ws) (by unfold maxLen; omega) (by omega) HBa.out.size ?_; intro v1 w2 hown1 hgrow1 hnil1)
        rw [Nat.zero_add, List.nil_append] at hown1
        obtain ⟨g, cap, hv1, hg0, hglt⟩ := hown1.form (by omega)
        subst hv1
        have HB2 := Lib.hid (HBa.out.grown hgrow1 HBa.out.size (own_block_ge HO0.out))
        have HR := Lib.hid (RowF.of_own (w0 := w) HN.out hown1 HB2.out)
        clear hown1 hgrow1 hnil1
        go_wp2_with fail
        go_loopw [28] (fun t wr => BlRel ws wish nv g w t wr) (fun t _ => nv - (intOf t).toNat)
        case atStart => exact ⟨0, by omega, rfl, by simp, HR.out.congr fun j hj => Cs.lowF_zero j⟩
        case round =>
          obtain ⟨k, hk, rfl, hall, hR⟩ := hrel
          have HR := Lib.hid hR
          have HALL := Lib.hid hall
          clear hR hall
          by_cases hlt : k < nv
          · obtain ⟨x, hx⟩ := get_ex HV0.out hlt
            obtain ⟨bv, ov, rfl, hbv, cx⟩ := ints_cell HV.out hx
            replace cx := (HR.out.bel.cell (p := ⟨bv, ov + k, none⟩) hbv).trans cx
            have HX := Lib.hid hx
            have e1 := HR.out.hi k hlt
            have fr := HR.out.fr (k * 2 + 1)
            rw [Cs.lowF_cells] at e1
            replace e1 : wr.cell? ⟨g, k * 2 + 1, none⟩ = some (.int .i64 (Cs.hi ws k)) := e1
            have hgl := HR.out.lt
            clear hx
            by_cases hin : Pf.inB x
            · have HIN := Lib.hid hin
              have hstep := Lib.hid (low_step (ws := ws) HX.out)
              generalize Cs.hi ws k = HH at *
              clear hin
              obtain ⟨x0, x1⟩ := HIN.out
              go_wp2_with fail
              go_roundw
              case rel => exact ⟨k + 1, by omega, by go_num, tk_all HALL.out HX.out HIN.out, (HR.out.setH hlt (min HH x)).congr fun j _ => hstep.out j⟩
              case measure => simp only [intOf]; omega
            · have HX2 := Lib.hid (Cs.belE_rng HE.out (by rw [HV0.out, HN.out]) (List.mem_of_getElem? HX.out) hin)
              have hin' : x < -1099511627776 ∨ 1099511627776 < x := by unfold Pf.inB at hin; omega
              clear hin
              rcases hin' with hin | hin
              · go_wp2_with fail
                go_ret2
                exact belPost_err HX2.out (by decide) HR.out.bel
              · have hin2 : ¬ x < -1099511627776 := by omega
                go_wp2_with fail
                go_ret2
                exact belPost_err HX2.out (by decide) HR.out.bel
          · have hkn := Lib.hid (show k = nv by omega)
            have HIN := Lib.hid (tk_len HV0.out (by have := HALL.out; rwa [hkn.out] at this))
            have hp := HR.out.pairs
            rw [hkn.out] at hp
            have HBE := Lib.hid (Cs.belE_ok HE.out (by rw [HV0.out, HN.out]) HIN.out)
            have HG := rGreatest (some ⟨g, 0, none⟩) S nv cap m cm (Cs.lowL ws wish) st wr (by unfold Cs.lowL; rw [HN.out]; exact hp) (HS.out.below HR.out.bel) (by unfold maxLen; omega) HM.out hmc hcm
            by_cases ht : Cs.tgE (Cs.lowL ws wish) st = 0
            · have HG2 := Lib.hid (HG.mono (R' := fun e w' => ∃ A' c', e = .returned (.tuple #[.slice A' nv c', .int .i64 0]) ∧ BelPost ws st wish nv w e w') fun e w' h => by
                obtain ⟨A', c', h1, _⟩ := h.1 ht
                exact ⟨A', c', h1, belPost_gr HBE.out HR.out.bel h⟩)
              clear hp HG ht
              go_wp2_with fail
              refine HG2.out.mono ?_; rintro e w3 ⟨A', c', rfl, hG⟩
              have HBP := Lib.hid hG
              clear hG
              go_wp2_with fail
              go_ret2
              exact HBP.out
            · have HG2 := Lib.hid (HG.mono (R' := fun e w' => e = .returned (.tuple #[.slice none 0 0, .int .i64 (Cs.tgE (Cs.lowL ws wish) st)]) ∧ BelPost ws st wish nv w e w') fun e w' h => ⟨h.2.1 ht, belPost_gr HBE.out HR.out.bel h⟩)
              clear hp HG ht
              generalize Cs.tgE (Cs.lowL ws wish) st = E at *
              go_wp2_with fail
              refine HG2.out.mono ?_; rintro e w3 ⟨rfl, hG⟩
              have HBP := Lib.hid hG
              clear hG
              go_wp2_with fail
              go_ret2
              exact HBP.out
    · have hne : ((nv : Int) != (n : Int)) = true := by rw [bne_iff_ne]; omega
      have HX := Lib.hid (Cs.belE_len (wish := wish) he (fun h => hnn (by have := hw.len; have := hv.len; omega)))
      rw [he] at HC
      clear hw hs hv he
      go_enter Try.func35, Try.ntmps35
      go_wp2_with fail
      refine HC.out.mono ?_; rintro e w1 ⟨rfl, hB1⟩
      have HB1 := Lib.hid hB1
      clear hB1
      go_wp2_with fail
      go_ret2
      exact belPost_err HX.out (by decide) HB1.out
  · have hne : (Cs.chkE ws st != 0) = true := by rw [bne_iff_ne]; exact he
    have HX := Lib.hid (Cs.belE_chk (wish := wish) he)
    have HNE := Lib.hid he
    clear hw hs hv he
    generalize Cs.chkE ws st = E at *
    go_enter Try.func35, Try.ntmps35
    go_wp2_with fail
    refine HC.out.mono ?_; rintro e w1 ⟨rfl, hB1⟩
    have HB1 := Lib.hid hB1
    clear hB1
    go_wp2_with fail
    go_ret2
    exact belPost_err HX.out HNE.out HB1.out
end Go.Proofs.Ytgplpapphmaafaa
