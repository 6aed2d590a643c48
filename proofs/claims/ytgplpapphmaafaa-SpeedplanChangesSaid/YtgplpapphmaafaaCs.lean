/- Layer 33: the contracts of Check, between, excess, of the program and of the reference (printed by gen_cs.py). -/
import Derived.Test.YtgplpapphmaafaaMem
import Derived.Test.YtgplpapphmaafaaCsConf
import Derived.Test.YtgplpapphmaafaaFxOps
import Derived.WalkKit
import Derived.RegionTactic
import Derived.ChangeAlike
import Derived.BigRegion
import Derived.Laws.NewBlocks
import Derived.OwnWalk
namespace Go.Proofs.Ytgplpapphmaafaa
set_option linter.unusedSimpArgs false
set_option linter.unusedVariables false
open Go.RowKit

/-- the cells of a window, of a step -/
def win (p : Int × Int) : List Value := [.int .i64 p.1, .int .i64 p.2]
theorem win_len (p : Int × Int) : (win p).length = 2 := rfl
/-- a slice of windows, of steps -/
def Pairs (w : World) (A : Option Addr) (n : Nat) (l : List (Int × Int)) : Prop := Recs win 2 w A n l
theorem Pairs.below {w w' : World} {A : Option Addr} {n : Nat} {l : List (Int × Int)} (h : Pairs w A n l) (hb : Below w.heap.size w w') : Pairs w' A n l := Recs.below h hb
theorem Pairs.cell {w : World} {A : Option Addr} {n k : Nat} {l : List (Int × Int)} {p : Int × Int} (h : Pairs w A n l) (hp : l[k]? = some p) :
    ∃ b off, A = some ⟨b, off, none⟩ ∧ b < w.heap.size ∧ w.cell? ⟨b, off + k * 2, none⟩ = some (.int .i64 p.1) ∧ w.cell? ⟨b, off + k * 2 + 1, none⟩ = some (.int .i64 p.2) := by
  have hk := (List.getElem?_eq_some_iff.1 hp).1
  have hl := h.len
  obtain ⟨b, off, e, hb, hc⟩ := h.cells (by omega)
  exact ⟨b, off, e, hb, hc k p hp 0 _ rfl, hc k p hp 1 _ rfl⟩
theorem within_yes (x lo hi : Int) (h : lo ≤ x ∧ x ≤ hi) (w : World) : Calls Try.prog 39 #[.int .i64 x, .int .i64 lo, .int .i64 hi] w fun e w' => e = .returned (.bool true) ∧ w = w' := by
  obtain ⟨h0, h1⟩ := h
  go_enter Try.func39, Try.ntmps39
  go_wp2_with fail
  go_ret
  exact ⟨rfl, rfl⟩
theorem within_no (x lo hi : Int) (h : ¬ (lo ≤ x ∧ x ≤ hi)) (w : World) : Calls Try.prog 39 #[.int .i64 x, .int .i64 lo, .int .i64 hi] w fun e w' => e = .returned (.bool false) ∧ w = w' := by
  by_cases h0 : lo ≤ x
  · have h1 : ¬ x ≤ hi := fun k => h ⟨h0, k⟩
    clear h
    go_enter Try.func39, Try.ntmps39
    go_wp2_with fail
    go_ret
    exact ⟨rfl, rfl⟩
  · clear h
    go_enter Try.func39, Try.ntmps39
    go_wp2_with fail
    go_ret
    exact ⟨rfl, rfl⟩
def ChkRel (p : Int × Int → Prop) (l : List (Int × Int)) (n : Nat) (w : World) (t : Value) (wr : World) : Prop := ∃ k : Nat, k ≤ n ∧ t = .int .i64 k ∧ (∀ x ∈ l.take k, p x) ∧ Below w.heap.size w wr
def ChkPost (E : Int) (w : World) (e : Ending) (w' : World) : Prop := e = .returned (.int .i64 E) ∧ Below w.heap.size w w'
theorem tk_all {α : Type} {l : List α} {p : α → Prop} {k : Nat} {x : α} (h : ∀ y ∈ l.take k, p y) (hx : l[k]? = some x) (hp : p x) : ∀ y ∈ l.take (k + 1), p y := by
  rw [take_succ_get l k x hx]
  intro y hy
  rw [List.mem_append, List.mem_singleton] at hy
  rcases hy with hy | hy
  · exact h y hy
  · rw [hy]; exact hp
theorem tk_len {α : Type} {l : List α} {p : α → Prop} {n : Nat} (hl : l.length = n) (h : ∀ y ∈ l.take n, p y) : ∀ y ∈ l, p y := by
  rw [List.take_of_length_le (by omega)] at h
  exact h
theorem chkE_2 {ws st : Cs.Wins} (h : 64 < ws.length) : Cs.chkE ws st = 3 := by unfold Cs.chkE; rw [if_pos h]
theorem chkE_1 {ws st : Cs.Wins} (h0 : ¬ 64 < ws.length) (h : st.length ≠ ws.length - 1) : Cs.chkE ws st = 1 := by unfold Cs.chkE; rw [if_neg h0, if_pos h]
theorem chkE_b {ws st : Cs.Wins} (h0 : ¬ 64 < ws.length) (h : ¬ st.length ≠ ws.length - 1) (h2 : ¬ ((∀ x ∈ ws, Cs.okW x) ∧ ∀ x ∈ st, Cs.okT x)) : Cs.chkE ws st = 2 := by unfold Cs.chkE; rw [if_neg h0, if_neg h, if_neg h2]

set_option maxRecDepth 100000 in
set_option maxHeartbeats 2000000 in
theorem xCheck (A S : Option Addr) (n cn m cm : Nat) (ws st : Cs.Wins) (w : World) (hw : Pairs w A n ws) (hs : Pairs w S m st) (hn : n ≤ maxLen) (hm : m ≤ maxLen) :
    Calls Try.prog 38 #[.slice A n cn, .slice S m cm] w (ChkPost (Cs.chkE ws st) w) := by
  have lw := hw.len
  have ls := hs.len
  unfold maxLen at hn hm
  by_cases h1 : 64 < n
  · have E := Lib.hid (chkE_2 (ws := ws) (st := st) (by omega))
    clear hw hs lw ls
    go_enter Try.func38, Try.ntmps38
    go_wp2_with fail
    go_ret
    exact ⟨ret_int E.out.symm, Below.refl _ _⟩
  · by_cases h3 : m = n - 1
    · have hne : ((m : Int) != max ((n : Int) - 1) 0) = false := by rw [bne_eq_false_iff_eq]; omega
      have N0 := Lib.hid (show ¬ 64 < ws.length by omega)
      have N1 := Lib.hid (show ¬ st.length ≠ ws.length - 1 by omega)
      have HW := Lib.hid hw
      have HS := Lib.hid hs
      have LW := Lib.hid lw
      have LS := Lib.hid ls
      have H3 := Lib.hid h3
      have m64 : m ≤ 64 := by omega
      clear hw hs lw ls h3
      go_enter Try.func38, Try.ntmps38
      go_wp2_with fail
      go_loopw [23] (fun t wr => ChkRel Cs.okW ws n w t wr) (fun t _ => n - (intOf t).toNat)
      case atStart => exact ⟨0, by omega, rfl, by simp, Below.refl _ _⟩
      case round =>
        obtain ⟨k, hk, rfl, hall, hB⟩ := hrel
        have HALL := Lib.hid hall
        have HB := Lib.hid hB
        clear hall hB
        by_cases hlt : k < n
        · obtain ⟨p, hp⟩ := get_ex LW.out hlt
          obtain ⟨b, off, rfl, hb, c0, c1⟩ := (HW.out.below HB.out).cell hp
          have HX := Lib.hid hp
          clear hp
          by_cases h1 : (-1099511627776) ≤ p.1 ∧ p.1 ≤ 1099511627776
          · have H1 := Lib.hid h1
            clear h1
            by_cases h2 : (-1099511627776) ≤ p.2 ∧ p.2 ≤ 1099511627776
            · have H2 := Lib.hid h2
              clear h2
              go_wp2_with fail
              refine (within_yes _ (-1099511627776) 1099511627776 H1.out _).mono ?_; rintro e w' ⟨rfl, rfl⟩
              go_wp2_with fail
              refine (within_yes _ (-1099511627776) 1099511627776 H2.out _).mono ?_; rintro e w' ⟨rfl, rfl⟩
              go_wp2_with fail
              go_roundw
              case rel => exact ⟨k + 1, by omega, by go_num, tk_all HALL.out HX.out ⟨H1.out, H2.out⟩, (HB.out.alloc HB.out.size _)⟩
              case measure => simp only [intOf]; omega
            · have HE := Lib.hid (chkE_b (ws := ws) (st := st) N0.out N1.out fun hh => (fun h => h2 h.2) (hh.1 p (List.mem_of_getElem? HX.out)))
              have H2 := Lib.hid h2
              clear h2
              go_wp2_with fail
              refine (within_yes _ (-1099511627776) 1099511627776 H1.out _).mono ?_; rintro e w' ⟨rfl, rfl⟩
              go_wp2_with fail
              refine (within_no _ (-1099511627776) 1099511627776 H2.out _).mono ?_; rintro e w' ⟨rfl, rfl⟩
              go_wp2_with fail
              go_ret
              exact ⟨ret_int HE.out.symm, HB.out.alloc HB.out.size _⟩
          · have HE := Lib.hid (chkE_b (ws := ws) (st := st) N0.out N1.out fun hh => (fun h => h1 h.1) (hh.1 p (List.mem_of_getElem? HX.out)))
            have H1 := Lib.hid h1
            clear h1
            go_wp2_with fail
            refine (within_no _ (-1099511627776) 1099511627776 H1.out _).mono ?_; rintro e w' ⟨rfl, rfl⟩
            go_wp2_with fail
            go_ret
            exact ⟨ret_int HE.out.symm, HB.out.alloc HB.out.size _⟩
        · have hvs := Lib.hid (tk_len LW.out (by have := HALL.out; rwa [show k = n from by omega] at this))
          have hvsW := Lib.hid hvs.out
          have HB0 := Lib.hid HB.out
          clear hvs HB HALL
          go_wp2_with fail
          go_loopw [40] (fun t wr => ChkRel Cs.okT st m w t wr) (fun t _ => m - (intOf t).toNat)
          case atStart => exact ⟨0, by omega, rfl, by simp, HB0.out⟩
          case round =>
            obtain ⟨k, hk, rfl, hall, hB⟩ := hrel
            have HALL := Lib.hid hall
            have HB := Lib.hid hB
            clear hall hB
            by_cases hlt : k < m
            · obtain ⟨p, hp⟩ := get_ex LS.out hlt
              obtain ⟨b, off, rfl, hb, c0, c1⟩ := (HS.out.below HB.out).cell hp
              have HX := Lib.hid hp
              clear hp
              by_cases h1 : 0 ≤ p.1 ∧ p.1 ≤ 1099511627776
              · have H1 := Lib.hid h1
                clear h1
                by_cases h2 : 0 ≤ p.2 ∧ p.2 ≤ 1099511627776
                · have H2 := Lib.hid h2
                  clear h2
                  go_wp2_with fail
                  refine (within_yes _ 0 1099511627776 H1.out _).mono ?_; rintro e w' ⟨rfl, rfl⟩
                  go_wp2_with fail
                  refine (within_yes _ 0 1099511627776 H2.out _).mono ?_; rintro e w' ⟨rfl, rfl⟩
                  go_wp2_with fail
                  go_roundw
                  case rel => exact ⟨k + 1, by omega, by go_num, tk_all HALL.out HX.out ⟨H1.out, H2.out⟩, (HB.out.alloc HB.out.size _)⟩
                  case measure => simp only [intOf]; omega
                · have HE := Lib.hid (chkE_b (ws := ws) (st := st) N0.out N1.out fun hh => (fun h => h2 h.2) (hh.2 p (List.mem_of_getElem? HX.out)))
                  have H2 := Lib.hid h2
                  clear h2
                  go_wp2_with fail
                  refine (within_yes _ 0 1099511627776 H1.out _).mono ?_; rintro e w' ⟨rfl, rfl⟩
                  go_wp2_with fail
                  refine (within_no _ 0 1099511627776 H2.out _).mono ?_; rintro e w' ⟨rfl, rfl⟩
                  go_wp2_with fail
                  go_ret
                  exact ⟨ret_int HE.out.symm, HB.out.alloc HB.out.size _⟩
              · have HE := Lib.hid (chkE_b (ws := ws) (st := st) N0.out N1.out fun hh => (fun h => h1 h.1) (hh.2 p (List.mem_of_getElem? HX.out)))
                have H1 := Lib.hid h1
                clear h1
                go_wp2_with fail
                refine (within_no _ 0 1099511627776 H1.out _).mono ?_; rintro e w' ⟨rfl, rfl⟩
                go_wp2_with fail
                go_ret
                exact ⟨ret_int HE.out.symm, HB.out.alloc HB.out.size _⟩
            · have hvs := Lib.hid (tk_len LS.out (by have := HALL.out; rwa [show k = m from by omega] at this))
              go_wp2_with fail
              go_ret
              exact ⟨ret_int (Cs.CsOk.err ⟨by have := LW.out; omega, by have := LW.out; have := LS.out; have := H3.out; omega, hvsW.out, hvs.out⟩).symm, HB.out⟩
    · have hne : ((m : Int) != max ((n : Int) - 1) 0) = true := by rw [bne_iff_ne]; omega
      have E := Lib.hid (chkE_1 (ws := ws) (st := st) (by omega) (by omega))
      clear hw hs lw ls
      go_enter Try.func38, Try.ntmps38
      go_wp2_with fail
      go_ret
      exact ⟨ret_int E.out.symm, Below.refl _ _⟩

set_option maxRecDepth 100000 in
set_option maxHeartbeats 2000000 in
theorem rCheck (A S : Option Addr) (n cn m cm : Nat) (ws st : Cs.Wins) (w : World) (hw : Pairs w A n ws) (hs : Pairs w S m st) (hn : n ≤ maxLen) (hm : m ≤ maxLen) :
    Calls Try.prog 42 #[.slice A n cn, .slice S m cm] w (ChkPost (Cs.chkE ws st) w) := by
  have lw := hw.len
  have ls := hs.len
  unfold maxLen at hn hm
  by_cases h1 : 64 < n
  · have E := Lib.hid (chkE_2 (ws := ws) (st := st) (by omega))
    clear hw hs lw ls
    go_enter Try.func42, Try.ntmps42
    go_wp2_with fail
    go_ret
    exact ⟨ret_int E.out.symm, Below.refl _ _⟩
  · by_cases h3 : m = n - 1
    · have hne : ((m : Int) != max ((n : Int) - 1) 0) = false := by rw [bne_eq_false_iff_eq]; omega
      have N0 := Lib.hid (show ¬ 64 < ws.length by omega)
      have N1 := Lib.hid (show ¬ st.length ≠ ws.length - 1 by omega)
      have HW := Lib.hid hw
      have HS := Lib.hid hs
      have LW := Lib.hid lw
      have LS := Lib.hid ls
      have H3 := Lib.hid h3
      have m64 : m ≤ 64 := by omega
      clear hw hs lw ls h3
      go_enter Try.func42, Try.ntmps42
      go_wp2_with fail
      go_loopw [23] (fun t wr => ChkRel Cs.okW ws n w t wr) (fun t _ => n - (intOf t).toNat)
      case atStart => exact ⟨0, by omega, rfl, by simp, Below.refl _ _⟩
      case round =>
        obtain ⟨k, hk, rfl, hall, hB⟩ := hrel
        have HALL := Lib.hid hall
        have HB := Lib.hid hB
        clear hall hB
        by_cases hlt : k < n
        · obtain ⟨p, hp⟩ := get_ex LW.out hlt
          obtain ⟨b, off, rfl, hb, c0, c1⟩ := (HW.out.below HB.out).cell hp
          have HX := Lib.hid hp
          clear hp
          by_cases a0 : p.1 < (-1099511627776)
          · have HE := Lib.hid (chkE_b (ws := ws) (st := st) N0.out N1.out fun hh => (fun h : Cs.okW p => by have h9 := h.1; unfold Pf.inB at h9; omega) (hh.1 p (List.mem_of_getElem? HX.out)))
            go_wp2_with fail
            go_ret
            exact ⟨ret_int HE.out.symm, HB.out.alloc HB.out.size _⟩
          · skip
            by_cases a1 : 1099511627776 < p.1
            · have HE := Lib.hid (chkE_b (ws := ws) (st := st) N0.out N1.out fun hh => (fun h : Cs.okW p => by have h9 := h.1; unfold Pf.inB at h9; omega) (hh.1 p (List.mem_of_getElem? HX.out)))
              go_wp2_with fail
              go_ret
              exact ⟨ret_int HE.out.symm, HB.out.alloc HB.out.size _⟩
            · skip
              by_cases a2 : p.2 < (-1099511627776)
              · have HE := Lib.hid (chkE_b (ws := ws) (st := st) N0.out N1.out fun hh => (fun h : Cs.okW p => by have h9 := h.2; unfold Pf.inB at h9; omega) (hh.1 p (List.mem_of_getElem? HX.out)))
                go_wp2_with fail
                go_ret
                exact ⟨ret_int HE.out.symm, HB.out.alloc HB.out.size _⟩
              · skip
                by_cases a3 : 1099511627776 < p.2
                · have HE := Lib.hid (chkE_b (ws := ws) (st := st) N0.out N1.out fun hh => (fun h : Cs.okW p => by have h9 := h.2; unfold Pf.inB at h9; omega) (hh.1 p (List.mem_of_getElem? HX.out)))
                  go_wp2_with fail
                  go_ret
                  exact ⟨ret_int HE.out.symm, HB.out.alloc HB.out.size _⟩
                · skip
                  have HOKP := Lib.hid (show Cs.okW p from ⟨⟨by omega, by omega⟩, by omega, by omega⟩)
                  go_wp2_with fail
                  go_roundw
                  case rel => exact ⟨k + 1, by omega, by go_num, tk_all HALL.out HX.out HOKP.out, (HB.out.alloc HB.out.size _)⟩
                  case measure => simp only [intOf]; omega
        · have hvs := Lib.hid (tk_len LW.out (by have := HALL.out; rwa [show k = n from by omega] at this))
          have hvsW := Lib.hid hvs.out
          have HB0 := Lib.hid HB.out
          clear hvs HB HALL
          go_wp2_with fail
          go_loopw [48] (fun t wr => ChkRel Cs.okT st m w t wr) (fun t _ => m - (intOf t).toNat)
          case atStart => exact ⟨0, by omega, rfl, by simp, HB0.out⟩
          case round =>
            obtain ⟨k, hk, rfl, hall, hB⟩ := hrel
            have HALL := Lib.hid hall
            have HB := Lib.hid hB
            clear hall hB
            by_cases hlt : k < m
            · obtain ⟨p, hp⟩ := get_ex LS.out hlt
              obtain ⟨b, off, rfl, hb, c0, c1⟩ := (HS.out.below HB.out).cell hp
              have HX := Lib.hid hp
              clear hp
              by_cases a0 : p.1 < 0
              · have HE := Lib.hid (chkE_b (ws := ws) (st := st) N0.out N1.out fun hh => (fun h : Cs.okT p => by have h9 := h.1; unfold Cs.okS at h9; omega) (hh.2 p (List.mem_of_getElem? HX.out)))
                go_wp2_with fail
                go_ret
                exact ⟨ret_int HE.out.symm, HB.out.alloc HB.out.size _⟩
              · skip
                by_cases a1 : 1099511627776 < p.1
                · have HE := Lib.hid (chkE_b (ws := ws) (st := st) N0.out N1.out fun hh => (fun h : Cs.okT p => by have h9 := h.1; unfold Cs.okS at h9; omega) (hh.2 p (List.mem_of_getElem? HX.out)))
                  go_wp2_with fail
                  go_ret
                  exact ⟨ret_int HE.out.symm, HB.out.alloc HB.out.size _⟩
                · skip
                  by_cases a2 : p.2 < 0
                  · have HE := Lib.hid (chkE_b (ws := ws) (st := st) N0.out N1.out fun hh => (fun h : Cs.okT p => by have h9 := h.2; unfold Cs.okS at h9; omega) (hh.2 p (List.mem_of_getElem? HX.out)))
                    go_wp2_with fail
                    go_ret
                    exact ⟨ret_int HE.out.symm, HB.out.alloc HB.out.size _⟩
                  · skip
                    by_cases a3 : 1099511627776 < p.2
                    · have HE := Lib.hid (chkE_b (ws := ws) (st := st) N0.out N1.out fun hh => (fun h : Cs.okT p => by have h9 := h.2; unfold Cs.okS at h9; omega) (hh.2 p (List.mem_of_getElem? HX.out)))
                      go_wp2_with fail
                      go_ret
                      exact ⟨ret_int HE.out.symm, HB.out.alloc HB.out.size _⟩
                    · skip
                      have HOKP := Lib.hid (show Cs.okT p from ⟨⟨by omega, by omega⟩, by omega, by omega⟩)
                      go_wp2_with fail
                      go_roundw
                      case rel => exact ⟨k + 1, by omega, by go_num, tk_all HALL.out HX.out HOKP.out, (HB.out.alloc HB.out.size _)⟩
                      case measure => simp only [intOf]; omega
            · have hvs := Lib.hid (tk_len LS.out (by have := HALL.out; rwa [show k = m from by omega] at this))
              go_wp2_with fail
              go_ret
              exact ⟨ret_int (Cs.CsOk.err ⟨by have := LW.out; omega, by have := LW.out; have := LS.out; have := H3.out; omega, hvsW.out, hvs.out⟩).symm, HB.out⟩
    · have hne : ((m : Int) != max ((n : Int) - 1) 0) = true := by rw [bne_iff_ne]; omega
      have E := Lib.hid (chkE_1 (ws := ws) (st := st) (by omega) (by omega))
      clear hw hs lw ls
      go_enter Try.func42, Try.ntmps42
      go_wp2_with fail
      go_ret
      exact ⟨ret_int E.out.symm, Below.refl _ _⟩
end Go.Proofs.Ytgplpapphmaafaa
