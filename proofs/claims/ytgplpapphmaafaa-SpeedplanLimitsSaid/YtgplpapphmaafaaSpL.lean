/- Layer 35: the contracts of Limit, of the program and of the reference (printed by gen_spl.py). -/
import Derived.Test.YtgplpapphmaafaaSp
import Derived.Test.YtgplpapphmaafaaCopyNew
namespace Go.Proofs.Ytgplpapphmaafaa
set_option linter.unusedSimpArgs false
set_option linter.unusedVariables false
open Go.RowKit Sp

def liFk (zs : Cs.Wins) (al : List Int) (a s : Int) (k : Nat) : Nat → Int × Int := fun j => if j < k then (liL zs al a s).getD j (0, 0) else zs.getD j (0, 0)
theorem liFk_0 (zs : Cs.Wins) (al : List Int) (a s : Int) (j : Nat) : zs.getD j (0, 0) = liFk zs al a s 0 j := by unfold liFk; rw [if_neg (by omega)]
theorem getD2_of {l : Cs.Wins} {i : Nat} {x : Int × Int} (h : l[i]? = some x) : l.getD i (0, 0) = x := by rw [List.getD_eq_getElem?_getD, h]; rfl
theorem liFk_yes {zs : Cs.Wins} {al : List Int} {a s h : Int} {k : Nat} {p : Int × Int} (hp : zs[k]? = some p) (hh : al[k]? = some h) (hlt : h < a) (j : Nat) : updH (liFk zs al a s k) k (min p.2 s) j = liFk zs al a s (k + 1) j := by
  unfold updH liFk
  by_cases e : j = k
  · subst e
    rw [if_pos rfl, if_neg (by omega), if_pos (by omega), getD2_of hp, getD2_of (liL_get hp hh)]
    unfold liF
    rw [if_pos hlt]
  · rw [if_neg e]
    by_cases e2 : j < k
    · rw [if_pos e2, if_pos (by omega)]
    · rw [if_neg e2, if_neg (by omega)]
theorem liFk_no {zs : Cs.Wins} {al : List Int} {a s h : Int} {k : Nat} {p : Int × Int} (hp : zs[k]? = some p) (hh : al[k]? = some h) (hlt : ¬ h < a) (j : Nat) : liFk zs al a s k j = liFk zs al a s (k + 1) j := by
  unfold liFk
  by_cases e : j = k
  · subst e
    rw [if_neg (by omega), if_pos (by omega), getD2_of hp, getD2_of (liL_get hp hh)]
    unfold liF
    rw [if_neg hlt]
  · by_cases e2 : j < k
    · rw [if_pos e2, if_pos (by omega)]
    · rw [if_neg e2, if_neg (by omega)]
theorem liFk_cell {zs : Cs.Wins} {al : List Int} {a s : Int} {k : Nat} {p : Int × Int} (hp : zs[k]? = some p) : liFk zs al a s k k = p := by
  unfold liFk
  rw [if_neg (by omega), getD2_of hp]
theorem liFk_all {zs : Cs.Wins} {al : List Int} {a s : Int} {n : Nat} (h : (liL zs al a s).length = n) : (List.range n).map (liFk zs al a s n) = liL zs al a s := by
  refine List.ext_getElem? fun i => ?_
  rw [List.getElem?_map]
  rcases Nat.lt_or_ge i n with hi | hi
  · obtain ⟨x, hx⟩ := get_ex (k := i) h hi
    rw [List.getElem?_range hi, hx]
    show some (liFk zs al a s n i) = _
    unfold liFk
    rw [if_pos hi, getD2_of hx]
  · rw [List.getElem?_eq_none (by simpa using hi), List.getElem?_eq_none (by rw [h]; exact hi)]; rfl
def LmRel (w : World) (g n : Nat) (zs : Cs.Wins) (al : List Int) (a s : Int) (t : Value) (wr : World) : Prop := ∃ k : Nat, k ≤ n ∧ t = .int .i64 k ∧ RowF w g n (liFk zs al a s k) wr
def LoRel (n : Nat) (L : Cs.Wins) (w : World) (v t : Value) (wr : World) : Prop := ∃ k : Nat, k ≤ n ∧ t = .int .i64 k ∧ Own win 2 42 w (L.take k) v wr
theorem size_of_info {t : TypeId} {z : Value} {sz by_ : Nat} (h : (Try.prog.info? t).map (fun i => (i.zero, i.size, i.bytes)) = some (some z, sz, by_)) : (Try.prog.info? t).map (·.size) = some sz := by
  obtain ⟨i, hi, h1, h2, h3⟩ := info_parts h
  rw [hi]; exact congrArg some h2

set_option maxRecDepth 100000 in
set_option maxHeartbeats 4000000 in
theorem xSpLimit (A B : Option Addr) (n cn m cm : Nat) (zs : Cs.Wins) (al : List Int) (a s : Int) (w : World) (hz : Pairs w A n zs) (hl : Ints w B m al) (hn : n ≤ maxLen) (hm : m ≤ maxLen) (hcA : CapOk A n cn) :
    Calls Try.prog 25 #[.slice A n cn, .slice B m cm, .int .i64 a, .int .i64 s] w (PrRes (okL (liE zs al s) (liL zs al a s)) (okN (liE zs al s) n) (liE zs al s) w) := by
  unfold maxLen at hn hm
  obtain ⟨i0, hi, hz0, hz1, hz2⟩ := info_parts infoWin
  have HZ := Lib.hid hz
  have HL := Lib.hid hl
  have HN := Lib.hid hz.len
  have HM := Lib.hid hl.len
  clear hz hl
  by_cases h64 : 64 < n
  · have HX := Lib.hid (liE_3 (al := al) (sp := s) (show 64 < zs.length by rw [HN.out]; exact h64))
    go_enter Try.func25, Try.ntmps25
    go_wp2_with fail
    go_ret2
    exact prRes_err HX.out (by decide) (Below.refl _ _)
  · have hnl := Lib.hid (show ¬ 64 < zs.length by rw [HN.out]; exact h64)
    by_cases hnm : m = n
    · subst hnm
      have hne : ((m : Int) != (m : Int)) = false := by simp
      have HLE := Lib.hid (show al.length = zs.length by rw [HN.out, HM.out])
      have HLT := Lib.hid (show (liL zs al a s).length = m by rw [liL_len HLE.out]; exact HN.out)
      by_cases hs : okV s
      · have HX := Lib.hid (liE_0 hnl.out HLE.out hs)
        have HS := Lib.hid hs
        have hmk : ∀ W : World, (Instr.makeSlice 34 (.int .i64 (m : Int)) (.int .i64 (m : Int))).run Try.prog W = .ok (.slice (some ⟨W.heap.size, 0, none⟩) m m) (W.alloc (.cells (madeCells #[.int .i64 0, .int .i64 0] (m * 2)) 42)) := fun W => by
          have h := run_make W 34 42 i0 (.agg #[.int .i64 0, .int .i64 0]) Try.underlying34 hi hz0 .i64 .i64 (m : Int) (m : Int) (by omega) (Int.le_refl _) (by rw [hz2]; omega) (by omega)
          rw [hz1, Int.toNat_natCast] at h
          exact h
        have hcp : ∀ ty : TypeId, (Builtin.copy_ #[34, 34] ty #[.slice (some ⟨w.heap.size, 0, none⟩) m m, .slice A m cn]).run Try.prog (w.alloc (.cells (madeCells #[.int .i64 0, .int .i64 0] (m * 2)) 42)) = .ok (goInt m) (w.alloc (.cells (zs.flatMap win).toArray 42)) := fun ty => by
          have hfl : (zs.flatMap win).length = m * 2 := by rw [flat_len, HN.out]
          cases A with
          | none =>
            have hc0 : cn = 0 := hcA.nil rfl
            have h0 : m = 0 := by have := hcA.le; omega
            subst hc0 h0
            have e : (zs.flatMap win).toArray = madeCells #[.int .i64 0, .int .i64 0] (0 * 2) := by rw [List.eq_nil_of_length_eq_zero (l := zs.flatMap win) (by rw [hfl])]; simp [madeCells]
            rw [e]
            exact run_copy_new0 Try.prog w _ _ ty 42 42 2 _ Try.underlying34 (size_of_info infoWin)
          | some ad =>
            refine run_copy_new Try.prog w _ _ ty 42 42 2 m cn ad _ (zs.flatMap win) Try.underlying34 (size_of_info infoWin) hfl (by simp [madeCells]) (fun j v hj => ?_) (flat_one zs)
            have hm0 : 0 < m := by
              rcases Nat.eq_zero_or_pos m with h | h
              · subst h
                rw [List.eq_nil_of_length_eq_zero (l := zs.flatMap win) (by rw [hfl])] at hj
                simp at hj
              · exact h
            obtain ⟨b, off, he, hb, _⟩ := HZ.out.cells hm0
            injection he with he
            subst he
            exact pairs_flat HZ.out j v hj
        have HR0 := Lib.hid ((RowF.of_own (w0 := w) HN.out (by
          have h := World.ownsRow_lit (base := w.heap.size) (e := 42) (size := 2) w (zs.flatMap win).toArray m (Nat.le_refl _) (by unfold maxLen; omega) (by simpa using (show (zs.flatMap win).length = m * 2 by rw [flat_len, HN.out]))
          exact h) ((Below.refl _ w).alloc (Nat.le_refl _) _)).congr (G := liFk zs al a s 0) (fun j _ => liFk_0 zs al a s j))
        obtain ⟨s0, s1⟩ := hs
        go_enter Try.func25, Try.ntmps25
        go_wp2_with fail
        refine (spd_yes s HS.out _).mono ?_; rintro e wx ⟨rfl, rfl⟩
        go_wp2_with fail
        generalize w.alloc (.cells (zs.flatMap win).toArray 42) = w2 at *
        generalize hg : w.heap.size = g at *
        go_loopw [34] (fun t wr => LmRel w g m zs al a s t wr) (fun t _ => m - (intOf t).toNat)
        case atStart => exact ⟨0, by omega, rfl, HR0.out⟩
        case round =>
          obtain ⟨k, hk, rfl, hR⟩ := hrel
          have HR := Lib.hid hR
          clear hR
          by_cases hlt : k < m
          · obtain ⟨p, hp⟩ := get_ex HN.out hlt
            obtain ⟨h, hh⟩ := get_ex HM.out hlt
            obtain ⟨b2, off2, rfl, hb2, cy0⟩ := ints_cell HL.out hh
            have cy := (HR.out.bel.cell (p := ⟨b2, off2 + k, none⟩) hb2).trans cy0
            have d1 := HR.out.hi k hlt
            rw [liFk_cell hp] at d1
            have f1 := HR.out.fr (k * 2 + 1)
            have hgl := HR.out.lt
            have HP := Lib.hid hp
            have HH := Lib.hid hh
            clear hp hh cy0
            by_cases hlo : h < a
            · have HLO := Lib.hid hlo
              go_wp2_with fail
              go_roundw
              case rel => exact ⟨k + 1, by omega, by go_num, (HR.out.setH hlt (min p.2 s)).congr fun j _ => liFk_yes HP.out HH.out HLO.out j⟩
              case measure => simp only [intOf]; omega
            · have HLO := Lib.hid hlo
              go_wp2_with fail
              go_roundw
              case rel => exact ⟨k + 1, by omega, by go_num, HR.out.congr fun j _ => liFk_no HP.out HH.out HLO.out j⟩
              case measure => simp only [intOf]; omega
          · have hkn := Lib.hid (show k = m by omega)
            have hP := HR.out.pairs
            rw [hkn.out, liFk_all HLT.out] at hP
            have HP := Lib.hid hP
            clear hP
            go_wp2_with fail
            go_ret2
            exact prRes_ok HX.out ⟨_, _, rfl, HP.out, ⟨Nat.le_refl _, by unfold maxLen; omega, fun h => by cases h⟩⟩ HR.out.bel
      · have HX := Lib.hid (liE_2 hnl.out HLE.out hs)
        have HS := Lib.hid hs
        clear hs
        go_enter Try.func25, Try.ntmps25
        go_wp2_with fail
        refine (spd_no s HS.out _).mono ?_; rintro e wx ⟨rfl, rfl⟩
        go_wp2_with fail
        go_ret2
        exact prRes_err HX.out (by decide) (Below.refl _ _)
    · have hne : ((m : Int) != (n : Int)) = true := by rw [bne_iff_ne]; omega
      have HX := Lib.hid (liE_1 (sp := s) hnl.out (show al.length ≠ zs.length by rw [HN.out, HM.out]; exact hnm))
      clear hnm
      go_enter Try.func25, Try.ntmps25
      go_wp2_with fail
      go_ret2
      exact prRes_err HX.out (by decide) (Below.refl _ _)

set_option maxRecDepth 100000 in
set_option maxHeartbeats 4000000 in
theorem rSpLimit (A B : Option Addr) (n cn m cm : Nat) (zs : Cs.Wins) (al : List Int) (a s : Int) (w : World) (hz : Pairs w A n zs) (hl : Ints w B m al) (hn : n ≤ maxLen) (hm : m ≤ maxLen) :
    Calls Try.prog 26 #[.slice A n cn, .slice B m cm, .int .i64 a, .int .i64 s] w (PrRes (okL (liE zs al s) (liL zs al a s)) (okN (liE zs al s) n) (liE zs al s) w) := by
  unfold maxLen at hn hm
  obtain ⟨i0, hi, hz0, hz1, hz2⟩ := info_parts infoWin
  have HZ := Lib.hid hz
  have HL := Lib.hid hl
  have HN := Lib.hid hz.len
  have HM := Lib.hid hl.len
  clear hz hl
  by_cases h64 : 64 < n
  · have HX := Lib.hid (liE_3 (al := al) (sp := s) (show 64 < zs.length by rw [HN.out]; exact h64))
    go_enter Try.func26, Try.ntmps26
    go_wp2_with fail
    go_ret2
    exact prRes_err HX.out (by decide) (Below.refl _ _)
  · have hnl := Lib.hid (show ¬ 64 < zs.length by rw [HN.out]; exact h64)
    by_cases hnm : m = n
    · subst hnm
      have hne : ((m : Int) != (m : Int)) = false := by simp
      have HLE := Lib.hid (show al.length = zs.length by rw [HN.out, HM.out])
      have HLT := Lib.hid (show (liL zs al a s).length = m by rw [liL_len HLE.out]; exact HN.out)
      by_cases hs : okV s
      · have HX := Lib.hid (liE_0 hnl.out HLE.out hs)
        obtain ⟨s0, s1⟩ := hs
        go_enter Try.func26, Try.ntmps26
        go_wp2_with fail
        go_loopw [10, 32] (fun v t wr => LoRel m (liL zs al a s) w v t wr) (fun _ t _ => m - (intOf t).toNat)
        case atStart => exact ⟨0, by omega, rfl, Own.start _ _ _ _⟩
        case round =>
          obtain ⟨k, hk, rfl, hO⟩ := hrel
          have HO := Lib.hid hO
          clear hO
          by_cases hlt : k < m
          · obtain ⟨p, hp⟩ := get_ex HN.out hlt
            obtain ⟨h, hh⟩ := get_ex HM.out hlt
            obtain ⟨b, off, rfl, hb, c0, c1⟩ := HZ.out.cell hp
            obtain ⟨b2, off2, rfl, hb2, cy0⟩ := ints_cell HL.out hh
            replace c0 := (HO.out.bel.cell (p := ⟨b, off + k * 2, none⟩) hb).trans c0
            replace c1 := (HO.out.bel.cell (p := ⟨b, off + k * 2 + 1, none⟩) hb).trans c1
            have cy : (wr.alloc (.cells #[.int .i64 p.1, .int .i64 p.2] 42)).cell? ⟨b2, off2 + k, none⟩ = some (.int .i64 h) := ((HO.out.below ((Below.refl _ wr).alloc (Nat.le_refl _) (.cells #[.int .i64 p.1, .int .i64 p.2] 42))).bel.cell (p := ⟨b2, off2 + k, none⟩) hb2).trans cy0
            have HNX := Lib.hid (show (liL zs al a s).take (k + 1) = (liL zs al a s).take k ++ [liF a s p h] from take_succ_get _ k _ (liL_get hp hh))
            have hlen := Lib.hid (take_len (k := k) HLT.out hk)
            have hlen2 : ((liL zs al a s).take k).length ≤ 64 := by rw [hlen.out]; omega
            generalize (liL zs al a s).take k = LL at *
            clear hp hh cy0
            by_cases hlo : h < a
            · have hval := Lib.hid (show liF a s p h = (p.1, min p.2 s) by unfold liF; rw [if_pos hlo])
              have HOb := Lib.hid (HO.out.below ((Below.refl _ wr).alloc (Nat.le_refl _) (.cells #[.int .i64 p.1, .int .i64 (min p.2 s)] 42)))
              go_wp2_with (at_builtin; refine wpList_append_own _ rfl _ _ 34 rfl w.heap.size 42 i0 (.agg #[.int .i64 0, .int .i64 0]) 2 16 Try.underlying34 hi hz0 hz1 hz2 rfl (by decide) _ _ _ rfl (HOb.out.own.alloc _) ⟨wr.heap.size + 1, 0, none⟩ 1 1 [.int .i64 p.1, .int .i64 (min p.2 s)] rfl rfl (news_new _ _ (by simp) _ _ _ rfl) (by intro u hu; simp at hu; rcases hu with rfl | rfl <;> rfl) (by unfold maxLen; omega) (by omega) (by have := HO.out.bel.size; simp; omega) ?_; intro v1 w3 hown1 hgrow1 hnil1)
              go_roundw
              case rel => exact ⟨k + 1, by omega, by go_num, by rw [HNX.out, hval.out]; exact HOb.out.next (x := (p.1, min p.2 s)) hown1 hgrow1⟩
              case measure => simp only [intOf]; omega
            · have hval := Lib.hid (show liF a s p h = (p.1, p.2) by unfold liF; rw [if_neg hlo])
              have HOb := Lib.hid (HO.out.below ((Below.refl _ wr).alloc (Nat.le_refl _) (.cells #[.int .i64 p.1, .int .i64 p.2] 42)))
              go_wp2_with (at_builtin; refine wpList_append_own _ rfl _ _ 34 rfl w.heap.size 42 i0 (.agg #[.int .i64 0, .int .i64 0]) 2 16 Try.underlying34 hi hz0 hz1 hz2 rfl (by decide) _ _ _ rfl (HOb.out.own.alloc _) ⟨wr.heap.size + 1, 0, none⟩ 1 1 [.int .i64 p.1, .int .i64 p.2] rfl rfl (news_new _ _ (by simp) _ _ _ rfl) (by intro u hu; simp at hu; rcases hu with rfl | rfl <;> rfl) (by unfold maxLen; omega) (by omega) (by have := HO.out.bel.size; simp; omega) ?_; intro v1 w3 hown1 hgrow1 hnil1)
              go_roundw
              case rel => exact ⟨k + 1, by omega, by go_num, by rw [HNX.out, hval.out]; exact HOb.out.next (x := (p.1, p.2)) hown1 hgrow1⟩
              case measure => simp only [intOf]; omega
          · have hkn := Lib.hid (show k = m by omega)
            have HT := Lib.hid (show (liL zs al a s).take k = liL zs al a s from List.take_of_length_le (by rw [HLT.out, hkn.out]; exact Nat.le_refl _))
            have hO := HO.out
            rw [HT.out] at hO
            obtain ⟨A2, c2, hv, hP, hcap⟩ := hO.res win_len HLT.out
            have HP := Lib.hid hP
            have HCAP := Lib.hid hcap
            subst hv
            clear hO hP hcap
            go_wp2_with fail
            go_ret2
            exact prRes_ok HX.out ⟨A2, c2, rfl, HP.out, HCAP.out⟩ HO.out.bel
      · have HX := Lib.hid (liE_2 hnl.out HLE.out hs)
        have h' : s < 0 ∨ 1000 < s := by unfold okV at hs; omega
        clear hs
        rcases h' with h | h
        · go_enter Try.func26, Try.ntmps26
          go_wp2_with fail
          go_ret2
          exact prRes_err HX.out (by decide) (Below.refl _ _)
        · have h2 : ¬ s < 0 := by omega
          go_enter Try.func26, Try.ntmps26
          go_wp2_with fail
          go_ret2
          exact prRes_err HX.out (by decide) (Below.refl _ _)
    · have hne : ((m : Int) != (n : Int)) = true := by rw [bne_iff_ne]; omega
      have HX := Lib.hid (liE_1 (sp := s) hnl.out (show al.length ≠ zs.length by rw [HN.out, HM.out]; exact hnm))
      clear hnm
      go_enter Try.func26, Try.ntmps26
      go_wp2_with fail
      go_ret2
      exact prRes_err HX.out (by decide) (Below.refl _ _)
end Go.Proofs.Ytgplpapphmaafaa
