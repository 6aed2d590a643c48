/- Layer 35: the contracts of speedplan and of its reference (printed by gen_sp.py). -/
import Derived.Test.YtgplpapphmaafaaSpPlain
import Derived.Test.YtgplpapphmaafaaOpenW
import Derived.Test.YtgplpapphmaafaaOwn
import Derived.Test.YtgplpapphmaafaaBl
import Derived.RegionTactic
import Derived.BigRegion
import Derived.Deep.QuietTactic
import Derived.BigQuiet
namespace Go.Proofs.Ytgplpapphmaafaa
set_option linter.unusedSimpArgs false
set_option linter.unusedVariables false
open Go.RowKit Sp

theorem infoStep : (Try.prog.info? 52).map (fun i => (i.zero, i.size, i.bytes)) = some (some (.agg #[.int .i64 0, .int .i64 0]), 2, 16) := by kernel_rfl
/-- a list of pairs as a result, with an error beside it -/
def PrRes (l : List (Int × Int)) (n : Nat) (E : Int) (w : World) (e : Ending) (w' : World) : Prop := ∃ A c, e = .returned (.tuple #[.slice A n c, .int .i64 E]) ∧ Pairs w' A n l ∧ CapOk A n c ∧ Below w.heap.size w w'
theorem prRes_err {l : List (Int × Int)} {n : Nat} {E E' : Int} {w w' : World} (hE : E = E') (h0 : E' ≠ 0) (hb : Below w.heap.size w w') : PrRes (okL E l) (okN E n) E w (.returned (.tuple #[.slice none 0 0, .int .i64 E'])) w' := by
  subst hE
  unfold okL okN
  rw [if_neg h0, if_neg h0]
  exact ⟨none, 0, rfl, Recs.nil _ _ _, ⟨Nat.le_refl _, Nat.zero_le _, fun _ => rfl⟩, hb⟩
theorem slRes_err {l : List Int} {n : Nat} {E E' : Int} {w w' : World} (hE : E = E') (h0 : E' ≠ 0) (hb : Below w.heap.size w w') : SlRes (okL E l) (okN E n) E w (.returned (.tuple #[.slice none 0 0, .int .i64 E'])) w' := by
  subst hE
  unfold okL okN
  rw [if_neg h0, if_neg h0]
  exact ⟨none, 0, rfl, Ints.nil _, hb⟩
theorem prRes_ok {l : List (Int × Int)} {n : Nat} {E : Int} {w w' : World} {e : Ending} (hE : E = 0) (h : ∃ A c, e = .returned (.tuple #[.slice A n c, .int .i64 0]) ∧ Pairs w' A n l ∧ CapOk A n c) (hb : Below w.heap.size w w') : PrRes (okL E l) (okN E n) E w e w' := by
  subst hE
  obtain ⟨A, c, h1, h2, h3⟩ := h
  exact ⟨A, c, h1, h2, h3, hb⟩
theorem slRes_ok {l : List Int} {n : Nat} {E : Int} {w w' : World} {e : Ending} (hE : E = 0) (h : ∃ A c, e = .returned (.tuple #[.slice A n c, .int .i64 0]) ∧ Ints w' A n l) (hb : Below w.heap.size w w') : SlRes (okL E l) (okN E n) E w e w' := by
  subst hE
  obtain ⟨A, c, h1, h2⟩ := h
  exact ⟨A, c, h1, h2, hb⟩
theorem take_map_succ {α β : Type} {l : List α} {f : α → β} {k : Nat} {x : α} (h : l[k]? = some x) : (l.map f).take (k + 1) = (l.map f).take k ++ [f x] := take_succ_get _ k _ (by rw [List.getElem?_map, h]; rfl)
theorem take_len {α : Type} {l : List α} {n k : Nat} (h : l.length = n) (hk : k ≤ n) : (l.take k).length = k := by rw [List.length_take]; omega
theorem spd_yes (x : Int) (h : okV x) (w : World) : Calls Try.prog 29 #[.int .i64 x] w fun e w' => e = .returned (.bool true) ∧ w = w' := by
  obtain ⟨h0, h1⟩ := h
  go_enter Try.func29, Try.ntmps29
  go_wp2_with fail
  go_ret
  exact ⟨rfl, rfl⟩
theorem spd_no (x : Int) (h : ¬ okV x) (w : World) : Calls Try.prog 29 #[.int .i64 x] w fun e w' => e = .returned (.bool false) ∧ w = w' := by
  have h' : x < 0 ∨ 1000 < x := by unfold okV at h; omega
  clear h
  rcases h' with h | h
  · have h0 : ¬ 0 ≤ x := by omega
    go_enter Try.func29, Try.ntmps29
    go_wp2_with fail
    go_ret
    exact ⟨rfl, rfl⟩
  · have h0 : 0 ≤ x := by omega
    have h1 : ¬ x ≤ 1000 := by omega
    go_enter Try.func29, Try.ntmps29
    go_wp2_with fail
    go_ret
    exact ⟨rfl, rfl⟩
theorem dst_yes (x : Int) (h : Pf.okD x) (w : World) : Calls Try.prog 30 #[.int .i64 x] w fun e w' => e = .returned (.bool true) ∧ w = w' := by
  obtain ⟨h0, h1⟩ := h
  go_enter Try.func30, Try.ntmps30
  go_wp2_with fail
  go_ret
  exact ⟨rfl, rfl⟩
theorem dst_no (x : Int) (h : ¬ Pf.okD x) (w : World) : Calls Try.prog 30 #[.int .i64 x] w fun e w' => e = .returned (.bool false) ∧ w = w' := by
  have h' : x < 0 ∨ 8000000 < x := by unfold Pf.okD at h; omega
  clear h
  rcases h' with h | h
  · have h0 : ¬ 0 ≤ x := by omega
    go_enter Try.func30, Try.ntmps30
    go_wp2_with fail
    go_ret
    exact ⟨rfl, rfl⟩
  · have h0 : 0 ≤ x := by omega
    have h1 : ¬ x ≤ 8000000 := by omega
    go_enter Try.func30, Try.ntmps30
    go_wp2_with fail
    go_ret
    exact ⟨rfl, rfl⟩

def StRel (n : Nat) (d : List Int) (a c : Int) (w : World) (v t : Value) (wr : World) : Prop := ∃ k : Nat, k ≤ n ∧ t = .int .i64 k ∧ (∀ x ∈ d.take k, Pf.okD x) ∧ Own win 2 52 w ((stL d a c).take k) v wr

set_option maxRecDepth 100000 in
set_option maxHeartbeats 4000000 in
theorem xSpSteps (A : Option Addr) (n cn : Nat) (d : List Int) (a c : Int) (w : World) (hd : Ints w A n d) (hn : n ≤ maxLen) :
    Calls Try.prog 12 #[.slice A n cn, .int .i64 a, .int .i64 c] w (PrRes (okL (stE d a c) (stL d a c)) (okN (stE d a c) n) (stE d a c) w) := by
  unfold maxLen at hn
  obtain ⟨i0, hi, hz0, hz1, hz2⟩ := info_parts infoStep
  have HD := Lib.hid hd
  have HL := Lib.hid hd.len
  by_cases h64 : 64 ≤ n
  · have HX := Lib.hid (stE_3 (a := a) (c := c) (show 64 ≤ d.length by rw [hd.len]; exact h64))
    clear hd
    go_enter Try.func12, Try.ntmps12
    go_wp2_with fail
    go_ret2
    exact prRes_err HX.out (by decide) (Below.refl _ _)
  · have hnl := Lib.hid (show ¬ 64 ≤ d.length by rw [hd.len]; exact h64)
    clear hd
    by_cases ha : okV a
    · by_cases hc : okV c
      · have HA := Lib.hid (And.intro ha hc)
        obtain ⟨a0, a1⟩ := ha
        obtain ⟨c0, c1⟩ := hc
        go_enter Try.func12, Try.ntmps12
        go_wp2_with fail
        refine (spd_yes a HA.out.1 _).mono ?_; rintro e wx ⟨rfl, rfl⟩
        go_wp2_with fail
        refine (spd_yes c HA.out.2 _).mono ?_; rintro e wx ⟨rfl, rfl⟩
        go_wp2_with fail
        go_loopw [8, 24] (fun v t wr => StRel n d a c w v t wr) (fun _ t _ => n - (intOf t).toNat)
        case atStart => exact ⟨0, by omega, rfl, by simp, Own.start _ _ _ _⟩
        case round =>
          obtain ⟨k, hk, rfl, hall, hO⟩ := hrel
          have HALL := Lib.hid hall
          have HO := Lib.hid hO
          clear hall hO
          by_cases hlt : k < n
          · obtain ⟨x, hx⟩ := get_ex HL.out hlt
            obtain ⟨b, off, rfl, hb, cx0⟩ := ints_cell HD.out hx
            have cx := (HO.out.bel.cell (p := ⟨b, off + k, none⟩) hb).trans cx0
            have HX := Lib.hid hx
            clear hx cx0
            by_cases hin : Pf.okD x
            · have HI := Lib.hid hin
              obtain ⟨p0, p1, p2, p3⟩ := st_prod HA.out.1 hin
              obtain ⟨r0, r1, r2, r3⟩ := st_prod HA.out.2 hin
              obtain ⟨x0, x1⟩ := hin
              have e1 : IntKind.i64.wrap (a * x) = a * x := IntWalk.i64_in _ (by omega)
              have e2 : IntKind.i64.wrap (c * x) = c * x := IntWalk.i64_in _ (by omega)
              have hlen := Lib.hid (take_len (k := k) (show (stL d a c).length = n by unfold stL; rw [List.length_map]; exact HL.out) hk)
              have hlen2 : ((stL d a c).take k).length ≤ 64 := by rw [hlen.out]; omega
              have HN := Lib.hid (take_map_succ (f := stF a c) HX.out)
              generalize hLL : (stL d a c).take k = LL at *
              have HLL := Lib.hid hLL
              clear hLL
              go_wp2_with fail
              refine (dst_yes x HI.out _).mono ?_; rintro e wx ⟨rfl, rfl⟩
              go_wp2_with (at_builtin; refine wpList_append_own _ rfl _ _ 25 rfl w.heap.size 52 i0 (.agg #[.int .i64 0, .int .i64 0]) 2 16 Try.underlying25 hi hz0 hz1 hz2 rfl (by decide) _ _ _ rfl (HO.out.own.alloc _) ⟨wr.heap.size, 0, none⟩ 1 1 [.int .i64 (a * x / 6000), .int .i64 (c * x / 6000)] rfl rfl (news_new _ _ rfl _ _ _ rfl) (by intro u hu; simp at hu; rcases hu with rfl | rfl <;> rfl) (by unfold maxLen; omega) (by omega) (by have := HO.out.bel.size; simp; omega) ?_; intro v1 w3 hown1 hgrow1 hnil1)
              go_roundw
              case rel => exact ⟨k + 1, by omega, by go_num, tk_all HALL.out HX.out HI.out, by show Own win 2 52 w ((d.map (stF a c)).take (k + 1)) _ _; rw [HN.out]; have h := HO.out.next (x := stF a c x) hown1 hgrow1; rw [← HLL.out] at h; exact h⟩
              case measure => simp only [intOf]; omega
            · have HE := Lib.hid (stE_b (a := a) (c := c) hnl.out HA.out (List.mem_of_getElem? HX.out) hin)
              have HI := Lib.hid hin
              clear hin
              go_wp2_with fail
              refine (dst_no x HI.out _).mono ?_; rintro e wx ⟨rfl, rfl⟩
              go_wp2_with fail
              go_ret2
              exact prRes_err HE.out (by decide) HO.out.bel
          · have hkn := Lib.hid (show k = n by omega)
            have HE := Lib.hid (stE_0 (a := a) (c := c) hnl.out HA.out (tk_len HL.out (by have := HALL.out; rwa [hkn.out] at this)))
            have HT := Lib.hid (show (stL d a c).take k = stL d a c from List.take_of_length_le (by unfold stL; rw [List.length_map, HL.out, hkn.out]; exact Nat.le_refl _))
            have hO := HO.out
            rw [HT.out] at hO
            obtain ⟨A', c', hv, hP, hcap⟩ := hO.res win_len (show (stL d a c).length = n by unfold stL; rw [List.length_map]; exact HL.out)
            have HP := Lib.hid hP
            have HCAP := Lib.hid hcap
            subst hv
            clear hO hP hcap
            go_wp2_with fail
            go_ret2
            exact prRes_ok HE.out ⟨A', c', rfl, HP.out, HCAP.out⟩ HO.out.bel
      · have HX := Lib.hid (stE_2 (a := a) (c := c) hnl.out (fun h => hc h.2))
        have HV := Lib.hid hc
        have HA := Lib.hid ha
        clear ha
        clear hc
        go_enter Try.func12, Try.ntmps12
        go_wp2_with fail
        refine (spd_yes a HA.out _).mono ?_; rintro e wx ⟨rfl, rfl⟩
        go_wp2_with fail
        refine (spd_no c HV.out _).mono ?_; rintro e wx ⟨rfl, rfl⟩
        go_wp2_with fail
        go_ret2
        exact prRes_err HX.out (by decide) (Below.refl _ _)
    · have HX := Lib.hid (stE_2 (a := a) (c := c) hnl.out (fun h => ha h.1))
      have HV := Lib.hid ha
      clear ha
      go_enter Try.func12, Try.ntmps12
      go_wp2_with fail
      refine (spd_no a HV.out _).mono ?_; rintro e wx ⟨rfl, rfl⟩
      go_wp2_with fail
      go_ret2
      exact prRes_err HX.out (by decide) (Below.refl _ _)

set_option maxRecDepth 100000 in
set_option maxHeartbeats 4000000 in
theorem rSpSteps (A : Option Addr) (n cn : Nat) (d : List Int) (a c : Int) (w : World) (hd : Ints w A n d) (hn : n ≤ maxLen) :
    Calls Try.prog 13 #[.slice A n cn, .int .i64 a, .int .i64 c] w (PrRes (okL (stE d a c) (stL d a c)) (okN (stE d a c) n) (stE d a c) w) := by
  unfold maxLen at hn
  obtain ⟨i0, hi, hz0, hz1, hz2⟩ := info_parts infoStep
  have HD := Lib.hid hd
  have HL := Lib.hid hd.len
  by_cases h64 : 64 ≤ n
  · have HX := Lib.hid (stE_3 (a := a) (c := c) (show 64 ≤ d.length by rw [hd.len]; exact h64))
    clear hd
    go_enter Try.func13, Try.ntmps13
    go_wp2_with fail
    go_ret2
    exact prRes_err HX.out (by decide) (Below.refl _ _)
  · have hnl := Lib.hid (show ¬ 64 ≤ d.length by rw [hd.len]; exact h64)
    clear hd
    by_cases ha : okV a
    · by_cases hc : okV c
      · have HA := Lib.hid (And.intro ha hc)
        obtain ⟨a0, a1⟩ := ha
        obtain ⟨c0, c1⟩ := hc
        go_enter Try.func13, Try.ntmps13
        go_wp2_with fail
        go_loopw [8, 30] (fun v t wr => StRel n d a c w v t wr) (fun _ t _ => n - (intOf t).toNat)
        case atStart => exact ⟨0, by omega, rfl, by simp, Own.start _ _ _ _⟩
        case round =>
          obtain ⟨k, hk, rfl, hall, hO⟩ := hrel
          have HALL := Lib.hid hall
          have HO := Lib.hid hO
          clear hall hO
          by_cases hlt : k < n
          · obtain ⟨x, hx⟩ := get_ex HL.out hlt
            obtain ⟨b, off, rfl, hb, cx0⟩ := ints_cell HD.out hx
            have cx := (HO.out.bel.cell (p := ⟨b, off + k, none⟩) hb).trans cx0
            have HX := Lib.hid hx
            clear hx cx0
            by_cases hin : Pf.okD x
            · have HI := Lib.hid hin
              obtain ⟨p0, p1, p2, p3⟩ := st_prod HA.out.1 hin
              obtain ⟨r0, r1, r2, r3⟩ := st_prod HA.out.2 hin
              obtain ⟨x0, x1⟩ := hin
              have e1 : IntKind.i64.wrap (a * x) = a * x := IntWalk.i64_in _ (by omega)
              have e2 : IntKind.i64.wrap (c * x) = c * x := IntWalk.i64_in _ (by omega)
              have hlen := Lib.hid (take_len (k := k) (show (stL d a c).length = n by unfold stL; rw [List.length_map]; exact HL.out) hk)
              have hlen2 : ((stL d a c).take k).length ≤ 64 := by rw [hlen.out]; omega
              have HN := Lib.hid (take_map_succ (f := stF a c) HX.out)
              generalize hLL : (stL d a c).take k = LL at *
              have HLL := Lib.hid hLL
              clear hLL
              go_wp2_with (at_builtin; refine wpList_append_own _ rfl _ _ 25 rfl w.heap.size 52 i0 (.agg #[.int .i64 0, .int .i64 0]) 2 16 Try.underlying25 hi hz0 hz1 hz2 rfl (by decide) _ _ _ rfl (HO.out.own.alloc _) ⟨wr.heap.size, 0, none⟩ 1 1 [.int .i64 (a * x / 6000), .int .i64 (c * x / 6000)] rfl rfl (news_new _ _ rfl _ _ _ rfl) (by intro u hu; simp at hu; rcases hu with rfl | rfl <;> rfl) (by unfold maxLen; omega) (by omega) (by have := HO.out.bel.size; simp; omega) ?_; intro v1 w3 hown1 hgrow1 hnil1)
              go_roundw
              case rel => exact ⟨k + 1, by omega, by go_num, tk_all HALL.out HX.out HI.out, by show Own win 2 52 w ((d.map (stF a c)).take (k + 1)) _ _; rw [HN.out]; have h := HO.out.next (x := stF a c x) hown1 hgrow1; rw [← HLL.out] at h; exact h⟩
              case measure => simp only [intOf]; omega
            · have HE := Lib.hid (stE_b (a := a) (c := c) hnl.out HA.out (List.mem_of_getElem? HX.out) hin)
              have hin' : x < 0 ∨ 8000000 < x := by unfold Pf.okD at hin; omega
              clear hin
              rcases hin' with hin | hin
              · go_wp2_with fail
                go_ret2
                exact prRes_err HE.out (by decide) HO.out.bel
              · have hin2 : ¬ x < 0 := by omega
                go_wp2_with fail
                go_ret2
                exact prRes_err HE.out (by decide) HO.out.bel
          · have hkn := Lib.hid (show k = n by omega)
            have HE := Lib.hid (stE_0 (a := a) (c := c) hnl.out HA.out (tk_len HL.out (by have := HALL.out; rwa [hkn.out] at this)))
            have HT := Lib.hid (show (stL d a c).take k = stL d a c from List.take_of_length_le (by unfold stL; rw [List.length_map, HL.out, hkn.out]; exact Nat.le_refl _))
            have hO := HO.out
            rw [HT.out] at hO
            obtain ⟨A', c', hv, hP, hcap⟩ := hO.res win_len (show (stL d a c).length = n by unfold stL; rw [List.length_map]; exact HL.out)
            have HP := Lib.hid hP
            have HCAP := Lib.hid hcap
            subst hv
            clear hO hP hcap
            go_wp2_with fail
            go_ret2
            exact prRes_ok HE.out ⟨A', c', rfl, HP.out, HCAP.out⟩ HO.out.bel
      · have HX := Lib.hid (stE_2 (a := a) (c := c) hnl.out (fun h => hc h.2))
        have h' : c < 0 ∨ 1000 < c := by unfold okV at hc; omega
        clear hc
        obtain ⟨a0, a1⟩ := ha
        have b0 : ¬ a < 0 := by omega
        have b1 : ¬ 1000 < a := by omega
        rcases h' with h | h
        · go_enter Try.func13, Try.ntmps13
          go_wp2_with fail
          go_ret2
          exact prRes_err HX.out (by decide) (Below.refl _ _)
        · have h2 : ¬ c < 0 := by omega
          go_enter Try.func13, Try.ntmps13
          go_wp2_with fail
          go_ret2
          exact prRes_err HX.out (by decide) (Below.refl _ _)
    · have HX := Lib.hid (stE_2 (a := a) (c := c) hnl.out (fun h => ha h.1))
      have h' : a < 0 ∨ 1000 < a := by unfold okV at ha; omega
      clear ha
      rcases h' with h | h
      · go_enter Try.func13, Try.ntmps13
        go_wp2_with fail
        go_ret2
        exact prRes_err HX.out (by decide) (Below.refl _ _)
      · have h2 : ¬ a < 0 := by omega
        go_enter Try.func13, Try.ntmps13
        go_wp2_with fail
        go_ret2
        exact prRes_err HX.out (by decide) (Below.refl _ _)
end Go.Proofs.Ytgplpapphmaafaa
