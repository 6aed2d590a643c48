/- Layer 35: the contracts of Ticks, of the program and of the reference (printed by gen_spt.py). -/
import Derived.Test.YtgplpapphmaafaaSp
import Derived.Test.YtgplpapphmaafaaFxOps
namespace Go.Proofs.Ytgplpapphmaafaa
set_option linter.unusedSimpArgs false
set_option linter.unusedVariables false
open Go.RowKit Sp

theorem ceil_tk {x g : Int} (hx : Pf.okD x) (hg : okG g) : Fx.scV 1 x 1 g = tkF x g := by
  have hb := tk_bd hx hg
  unfold Pf.okD at hx
  unfold okG at hg
  have h1 := Int.emod_add_mul_ediv (-x) g
  have h2 := Int.emod_nonneg (-x) (show g ≠ 0 by omega)
  have h3 := Int.emod_lt_of_pos (-x) (show 0 < g by omega)
  have e1 : tkF x g = -((-x) / g) := by
    unfold tkF
    refine ((Int.ediv_emod_unique (r := g - 1 - (-x) % g) (show 0 < g by omega)).2 ⟨?_, by omega, by omega⟩).1
    rw [Int.mul_neg]
    omega
  have e2 : Fx.rqz 1 (x * 1) g = tkF x g := by
    unfold Fx.rqz Fx.rq
    rw [if_neg (by omega), if_neg (by decide), if_pos rfl, Int.mul_one, e1]
  rw [Fx.scV_eq 1 x 1 g (by omega), e2, if_pos]
  unfold Fx.inR
  omega
def TkRel (n : Nat) (d g : List Int) (w : World) (v t : Value) (wr : World) : Prop := ∃ k : Nat, k ≤ n ∧ t = .int .i64 k ∧ (∀ x ∈ d.take k, Pf.okD x) ∧ (∀ x ∈ g.take k, okG x) ∧ Own oneI 1 2 w ((tkL d g).take k) v wr
theorem own_drewN {α : Type} {f : α → List Value} {sz : Nat} {e : TypeId} {w wr : World} {l : List α} {v : Value} (h : Own f sz e w l v wr) (q : Nat) : Own f sz e w l v (wr.drewN q) := h.below (below_drewN (Below.refl _ _) q)

set_option maxRecDepth 100000 in
set_option maxHeartbeats 4000000 in
theorem xSpTicks (A B : Option Addr) (n cn m cm : Nat) (d g : List Int) (w : World) (hd : Ints w A n d) (hg : Ints w B m g) (hn : n ≤ maxLen) (hm : m ≤ maxLen) :
    Calls Try.prog 14 #[.slice A n cn, .slice B m cm] w (SlRes (okL (tkE d g) (tkL d g)) (okN (tkE d g) n) (tkE d g) w) := by
  unfold maxLen at hn hm
  obtain ⟨i0, hi, hz0, hz1, hz2⟩ := info_parts infoI64
  have HD := Lib.hid hd
  have HG := Lib.hid hg
  have HL := Lib.hid hd.len
  have HM := Lib.hid hg.len
  clear hd hg
  by_cases hnm : n = m
  · subst hnm
    have hne : ((n : Int) != (n : Int)) = false := by simp
    have HLE := Lib.hid (show d.length = g.length by rw [HL.out, HM.out])
    by_cases h64 : 64 < n
    · have HX := Lib.hid (tkE_3 HLE.out (show 64 < d.length by rw [HL.out]; exact h64))
      go_enter Try.func14, Try.ntmps14
      go_wp2_with fail
      go_ret2
      exact slRes_err HX.out (by decide) (Below.refl _ _)
    · have hnl := Lib.hid (show ¬ 64 < d.length by rw [HL.out]; exact h64)
      have HLT := Lib.hid (show (tkL d g).length = n by rw [tkL_len HLE.out]; exact HL.out)
      go_enter Try.func14, Try.ntmps14
      go_wp2_with fail
      go_loopw [6, 23] (fun v t wr => TkRel n d g w v t wr) (fun _ t _ => n - (intOf t).toNat)
      case atStart => exact ⟨0, by omega, rfl, by simp, by simp, Own.start _ _ _ _⟩
      case round =>
        obtain ⟨k, hk, rfl, hall, hallg, hO⟩ := hrel
        have HALL := Lib.hid hall
        have HALG := Lib.hid hallg
        have HO := Lib.hid hO
        clear hall hallg hO
        by_cases hlt : k < n
        · obtain ⟨x, hx⟩ := get_ex HL.out hlt
          obtain ⟨y, hy⟩ := get_ex HM.out hlt
          obtain ⟨b, off, rfl, hb, cx0⟩ := ints_cell HD.out hx
          obtain ⟨b2, off2, rfl, hb2, cy0⟩ := ints_cell HG.out hy
          have cx := (HO.out.bel.cell (p := ⟨b, off + k, none⟩) hb).trans cx0
          have cy := (HO.out.bel.cell (p := ⟨b2, off2 + k, none⟩) hb2).trans cy0
          have HX := Lib.hid hx
          have HY := Lib.hid hy
          clear hx hy cx0 cy0
          by_cases hin : Pf.okD x
          · have HI := Lib.hid hin
            by_cases hgo : okG y
            · have HIG := Lib.hid hgo
              have hbd := tk_bd hin hgo
              obtain ⟨t0, t1, _, _⟩ := hbd
              have HNX := Lib.hid (show (tkL d g).take (k + 1) = (tkL d g).take k ++ [tkF x y] from take_succ_get _ k _ (tkL_get HX.out HY.out))
              have hlen := Lib.hid (take_len (k := k) HLT.out hk)
              have hlen2 : ((tkL d g).take k).length ≤ 64 := by rw [hlen.out]; omega
              generalize (tkL d g).take k = LL at *
              obtain ⟨x0, x1⟩ := hin
              obtain ⟨y0, y1⟩ := hgo
              have HCE := Lib.hid (fun w => xCeil x y ⟨by omega, by omega⟩ ⟨by omega, by omega⟩ w)
              rw [ceil_tk HI.out HIG.out] at HCE
              generalize Fx.scE 1 x 1 y = EE at *
              have HTF := Lib.hid (show tkF x y = tkF x y from rfl)
              generalize tkF x y = TF at *
              go_wp2_with fail
              refine (dst_yes x HI.out _).mono ?_; rintro e wx ⟨rfl, rfl⟩
              go_wp2_with fail
              refine (HCE.out _).mono ?_; rintro e wx ⟨rfl, q, rfl⟩
              have HO2 := Lib.hid (own_drewN HO.out q)
              generalize wr.drewN q = w2 at *
              go_wp2_with (at_builtin; refine wpList_append_own _ rfl _ _ 22 rfl w.heap.size 2 i0 (.int .i64 0) 1 8 Try.underlying22 hi hz0 hz1 hz2 rfl (by decide) _ _ _ rfl (HO2.out.own.alloc _) ⟨w2.heap.size, 0, none⟩ 1 1 [.int .i64 TF] rfl rfl (news_new _ _ rfl _ _ _ rfl) (by intro u hu; simp at hu; subst hu; rfl) (by unfold maxLen; omega) (by omega) (by have := HO2.out.bel.size; simp; omega) ?_; intro v1 w3 hown1 hgrow1 hnil1)
              go_roundw
              case rel => exact ⟨k + 1, by omega, by go_num, tk_all HALL.out HX.out HI.out, tk_all HALG.out HY.out HIG.out, by rw [HNX.out]; exact HO2.out.next hown1 hgrow1⟩
              case measure => simp only [intOf]; omega
            · have HE := Lib.hid (tkE_b HLE.out hnl.out (fun h => hgo (h.2 y (List.mem_of_getElem? HY.out))))
              have h' : y < 1 ∨ 5000 < y := by unfold okG at hgo; omega
              obtain ⟨x0, x1⟩ := hin
              have x2 : ¬ x < 0 := by omega
              have x3 : ¬ 8000000 < x := by omega
              clear hgo
              rcases h' with h | h
              · go_wp2_with fail
                refine (dst_yes x HI.out _).mono ?_; rintro e wx ⟨rfl, rfl⟩
                go_wp2_with fail
                go_ret2
                exact slRes_err HE.out (by decide) HO.out.bel
              · have h2 : ¬ y < 1 := by omega
                go_wp2_with fail
                refine (dst_yes x HI.out _).mono ?_; rintro e wx ⟨rfl, rfl⟩
                go_wp2_with fail
                go_ret2
                exact slRes_err HE.out (by decide) HO.out.bel
          · have HE := Lib.hid (tkE_b HLE.out hnl.out (fun h => hin (h.1 x (List.mem_of_getElem? HX.out))))
            have HI := Lib.hid hin
            clear hin
            go_wp2_with fail
            refine (dst_no x HI.out _).mono ?_; rintro e wx ⟨rfl, rfl⟩
            go_wp2_with fail
            go_ret2
            exact slRes_err HE.out (by decide) HO.out.bel
        · have hkn := Lib.hid (show k = n by omega)
          have HE := Lib.hid (tkE_0 HLE.out hnl.out (tk_len HL.out (by have := HALL.out; rwa [hkn.out] at this)) (tk_len HM.out (by have := HALG.out; rwa [hkn.out] at this)))
          have HT := Lib.hid (show (tkL d g).take k = tkL d g from List.take_of_length_le (by rw [HLT.out, hkn.out]; exact Nat.le_refl _))
          have hO := HO.out
          rw [HT.out] at hO
          obtain ⟨A', c', hv, hI, hcap⟩ := hO.ints HLT.out
          have HI := Lib.hid hI
          subst hv
          clear hO hI hcap
          go_wp2_with fail
          go_ret2
          exact slRes_ok HE.out ⟨A', c', rfl, HI.out⟩ HO.out.bel
  · have hne : ((n : Int) != (m : Int)) = true := by rw [bne_iff_ne]; omega
    have HX := Lib.hid (tkE_1 (d := d) (g := g) (by rw [HL.out, HM.out]; exact hnm))
    clear hnm
    go_enter Try.func14, Try.ntmps14
    go_wp2_with fail
    go_ret2
    exact slRes_err HX.out (by decide) (Below.refl _ _)

set_option maxRecDepth 100000 in
set_option maxHeartbeats 4000000 in
theorem rSpTicks (A B : Option Addr) (n cn m cm : Nat) (d g : List Int) (w : World) (hd : Ints w A n d) (hg : Ints w B m g) (hn : n ≤ maxLen) (hm : m ≤ maxLen) :
    Calls Try.prog 15 #[.slice A n cn, .slice B m cm] w (SlRes (okL (tkE d g) (tkL d g)) (okN (tkE d g) n) (tkE d g) w) := by
  unfold maxLen at hn hm
  obtain ⟨i0, hi, hz0, hz1, hz2⟩ := info_parts infoI64
  have HD := Lib.hid hd
  have HG := Lib.hid hg
  have HL := Lib.hid hd.len
  have HM := Lib.hid hg.len
  clear hd hg
  by_cases hnm : n = m
  · subst hnm
    have hne : ((n : Int) != (n : Int)) = false := by simp
    have HLE := Lib.hid (show d.length = g.length by rw [HL.out, HM.out])
    by_cases h64 : 64 < n
    · have HX := Lib.hid (tkE_3 HLE.out (show 64 < d.length by rw [HL.out]; exact h64))
      go_enter Try.func15, Try.ntmps15
      go_wp2_with fail
      go_ret2
      exact slRes_err HX.out (by decide) (Below.refl _ _)
    · have hnl := Lib.hid (show ¬ 64 < d.length by rw [HL.out]; exact h64)
      have HLT := Lib.hid (show (tkL d g).length = n by rw [tkL_len HLE.out]; exact HL.out)
      go_enter Try.func15, Try.ntmps15
      go_wp2_with fail
      go_loopw [6, 22] (fun v t wr => TkRel n d g w v t wr) (fun _ t _ => n - (intOf t).toNat)
      case atStart => exact ⟨0, by omega, rfl, by simp, by simp, Own.start _ _ _ _⟩
      case round =>
        obtain ⟨k, hk, rfl, hall, hallg, hO⟩ := hrel
        have HALL := Lib.hid hall
        have HALG := Lib.hid hallg
        have HO := Lib.hid hO
        clear hall hallg hO
        by_cases hlt : k < n
        · obtain ⟨x, hx⟩ := get_ex HL.out hlt
          obtain ⟨y, hy⟩ := get_ex HM.out hlt
          obtain ⟨b, off, rfl, hb, cx0⟩ := ints_cell HD.out hx
          obtain ⟨b2, off2, rfl, hb2, cy0⟩ := ints_cell HG.out hy
          have cx := (HO.out.bel.cell (p := ⟨b, off + k, none⟩) hb).trans cx0
          have cy := (HO.out.bel.cell (p := ⟨b2, off2 + k, none⟩) hb2).trans cy0
          have HX := Lib.hid hx
          have HY := Lib.hid hy
          clear hx hy cx0 cy0
          by_cases hin : Pf.okD x
          · have HI := Lib.hid hin
            by_cases hgo : okG y
            · have HIG := Lib.hid hgo
              have hbd := tk_bd hin hgo
              obtain ⟨t0, t1, _, _⟩ := hbd
              have HNX := Lib.hid (show (tkL d g).take (k + 1) = (tkL d g).take k ++ [tkF x y] from take_succ_get _ k _ (tkL_get HX.out HY.out))
              have hlen := Lib.hid (take_len (k := k) HLT.out hk)
              have hlen2 : ((tkL d g).take k).length ≤ 64 := by rw [hlen.out]; omega
              generalize (tkL d g).take k = LL at *
              obtain ⟨x0, x1⟩ := hin
              obtain ⟨y0, y1⟩ := hgo
              have e1 : (x + y - 1) / y = tkF x y := rfl
              have y2 : ¬ y < 1 := by omega
              have HE1 := Lib.hid e1
              clear e1
              go_wp2_with (at_builtin; refine wpList_append_own _ rfl _ _ 22 rfl w.heap.size 2 i0 (.int .i64 0) 1 8 Try.underlying22 hi hz0 hz1 hz2 rfl (by decide) _ _ _ rfl (HO.out.own.alloc _) ⟨wr.heap.size, 0, none⟩ 1 1 [.int .i64 ((x + y - 1) / y)] rfl rfl (news_new _ _ rfl _ _ _ rfl) (by intro u hu; simp at hu; subst hu; rfl) (by unfold maxLen; omega) (by omega) (by have := HO.out.bel.size; simp; omega) ?_; intro v1 w3 hown1 hgrow1 hnil1)
              go_roundw
              case rel => exact ⟨k + 1, by omega, by go_num, tk_all HALL.out HX.out HI.out, tk_all HALG.out HY.out HIG.out, by rw [HNX.out, ← HE1.out]; exact HO.out.next hown1 hgrow1⟩
              case measure => simp only [intOf]; omega
            · have HE := Lib.hid (tkE_b HLE.out hnl.out (fun h => hgo (h.2 y (List.mem_of_getElem? HY.out))))
              have h' : y < 1 ∨ 5000 < y := by unfold okG at hgo; omega
              obtain ⟨x0, x1⟩ := hin
              have x2 : ¬ x < 0 := by omega
              have x3 : ¬ 8000000 < x := by omega
              clear hgo
              rcases h' with h | h
              · go_wp2_with fail
                go_ret2
                exact slRes_err HE.out (by decide) HO.out.bel
              · have h2 : ¬ y < 1 := by omega
                go_wp2_with fail
                go_ret2
                exact slRes_err HE.out (by decide) HO.out.bel
          · have HE := Lib.hid (tkE_b HLE.out hnl.out (fun h => hin (h.1 x (List.mem_of_getElem? HX.out))))
            have h' : x < 0 ∨ 8000000 < x := by unfold Pf.okD at hin; omega
            clear hin
            rcases h' with h | h
            · go_wp2_with fail
              go_ret2
              exact slRes_err HE.out (by decide) HO.out.bel
            · have h2 : ¬ x < 0 := by omega
              go_wp2_with fail
              go_ret2
              exact slRes_err HE.out (by decide) HO.out.bel
        · have hkn := Lib.hid (show k = n by omega)
          have HE := Lib.hid (tkE_0 HLE.out hnl.out (tk_len HL.out (by have := HALL.out; rwa [hkn.out] at this)) (tk_len HM.out (by have := HALG.out; rwa [hkn.out] at this)))
          have HT := Lib.hid (show (tkL d g).take k = tkL d g from List.take_of_length_le (by rw [HLT.out, hkn.out]; exact Nat.le_refl _))
          have hO := HO.out
          rw [HT.out] at hO
          obtain ⟨A', c', hv, hI, hcap⟩ := hO.ints HLT.out
          have HI := Lib.hid hI
          subst hv
          clear hO hI hcap
          go_wp2_with fail
          go_ret2
          exact slRes_ok HE.out ⟨A', c', rfl, HI.out⟩ HO.out.bel
  · have hne : ((n : Int) != (m : Int)) = true := by rw [bne_iff_ne]; omega
    have HX := Lib.hid (tkE_1 (d := d) (g := g) (by rw [HL.out, HM.out]; exact hnm))
    clear hnm
    go_enter Try.func15, Try.ntmps15
    go_wp2_with fail
    go_ret2
    exact slRes_err HX.out (by decide) (Below.refl _ _)
end Go.Proofs.Ytgplpapphmaafaa
