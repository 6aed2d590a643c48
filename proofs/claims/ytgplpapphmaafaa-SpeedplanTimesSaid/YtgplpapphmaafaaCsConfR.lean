/- Layer 33: the contract of the reference's Conflicts (printed by gen_conf.py). -/
import Derived.Test.YtgplpapphmaafaaCsAllR
namespace Go.Proofs.Ytgplpapphmaafaa
set_option linter.unusedSimpArgs false
set_option linter.unusedVariables false
open Go.RowKit

/-- the first conflict, and whether there is one -/
def cfP (ws st : Cs.Wins) : Int × Int := if Cs.chkE ws st = 0 then (Cs.confL ws st).headD (0, 0) else (0, 0)
def cfB (ws st : Cs.Wins) : Bool := decide (Cs.chkE ws st = 0) && !(Cs.confL ws st).isEmpty
def CfPost (ws st : Cs.Wins) (w : World) (e : Ending) (w' : World) : Prop := e = .returned (.tuple #[.agg #[.int .i64 (cfP ws st).1, .int .i64 (cfP ws st).2], .bool (cfB ws st), .int .i64 (Cs.chkE ws st)]) ∧ Below w.heap.size w w'
theorem Blk0 (w : World) (cs : Array Value) (t : TypeId) (i : Nat) : (w.alloc (.cells cs t)).frozen? ⟨w.heap.size, i, none⟩ = false := frozen_of_row _ _ _ _ _ (heap_alloc_new w _)
theorem two_set (w : World) (g : Nat) (v u x y : Value) (h0 : w.cell? ⟨g, 0, none⟩ = some x) (h1 : w.cell? ⟨g, 1, none⟩ = some y) :
    ((w.setCell ⟨g, 0, none⟩ v).setCell ⟨g, 1, none⟩ u).cell? ⟨g, 0, none⟩ = some v ∧ ((w.setCell ⟨g, 0, none⟩ v).setCell ⟨g, 1, none⟩ u).cell? ⟨g, 1, none⟩ = some u ∧ ∀ w0 : World, w0.heap.size ≤ g → Below w0.heap.size w0 w → Below w0.heap.size w0 ((w.setCell ⟨g, 0, none⟩ v).setCell ⟨g, 1, none⟩ u) := by
  refine ⟨?_, ?_, fun w0 hg hb => (hb.setCell (p := ⟨g, 0, none⟩) hg _).setCell (p := ⟨g, 1, none⟩) hg _⟩
  · rw [World.cell?_setCell_other _ ⟨g, 1, none⟩ ⟨g, 0, none⟩ _ (by intro e; injection e with _ e; omega), World.cell?_setCell_same w ⟨g, 0, none⟩ _ h0]
  · rw [World.cell?_setCell_same _ ⟨g, 1, none⟩ _ (by rw [World.cell?_setCell_other w ⟨g, 0, none⟩ ⟨g, 1, none⟩ _ (by intro e; injection e with _ e; omega)]; exact h1)]
theorem cf_bad {ws st : Cs.Wins} (h : Cs.chkE ws st ≠ 0) : cfP ws st = (0, 0) ∧ cfB ws st = false := by unfold cfP cfB; rw [if_neg h]; simp [h]
theorem cf_none {ws st : Cs.Wins} (h : Cs.chkE ws st = 0) (h2 : Cs.confL ws st = []) : cfP ws st = (0, 0) ∧ cfB ws st = false := by unfold cfP cfB; rw [if_pos h, h2]; simp
theorem cf_some {ws st : Cs.Wins} {p : Int × Int} {t : Cs.Wins} (h : Cs.chkE ws st = 0) (h2 : Cs.confL ws st = p :: t) : cfP ws st = p ∧ cfB ws st = true := by unfold cfP cfB; rw [if_pos h, h2]; simp [h]

set_option maxRecDepth 100000 in
set_option maxHeartbeats 2000000 in
theorem rConflicts (A S : Option Addr) (n cn m cm : Nat) (ws st : Cs.Wins) (w : World) (hw : Pairs w A n ws) (hs : Pairs w S m st) (hn : n ≤ maxLen) (hm : m ≤ maxLen) (hmc : m ≤ cm) (hcm : cm ≤ maxLen) :
    Calls Try.prog 45 #[.slice A n cn, .slice S m cm] w (CfPost ws st w) := by
  have HC := Lib.hid (fun W (h : Below w.heap.size w W) => rAll A S n cn m cm ws st W (hw.below h) (hs.below h) hn hm hmc hcm)
  clear hw hs
  by_cases he : Cs.chkE ws st = 0
  · by_cases hcf : Cs.confL ws st = []
    · have E := Lib.hid (cf_none he hcf)
      have HE := Lib.hid he
      have HC2 := Lib.hid (fun W (h : Below w.heap.size w W) => (HC.out W h).mono (R' := fun e w' => ∃ A' c', e = .returned (.tuple #[.slice A' 0 c', .int .i64 0]) ∧ Below W.heap.size W w') fun e w' h => by
        obtain ⟨A', c', h1, _⟩ := h.1 he
        rw [hcf] at h1
        exact ⟨A', c', h1, h.2.2⟩)
      clear he hcf HC
      go_enter Try.func45, Try.ntmps45
      go_wp2_with fail
      refine (HC2.out _ ((Below.refl _ _).alloc (Nat.le_refl _) _)).mono ?_; rintro e w1 ⟨A', c', rfl, hB1⟩
      have k0 : w1.cell? ⟨w.heap.size, 0, none⟩ = some (.int .i64 0) := (hB1.cell (p := ⟨w.heap.size, 0, none⟩) (by simp)).trans (by simp [World.cell?_alloc_new])
      have k1 : w1.cell? ⟨w.heap.size, 1, none⟩ = some (.int .i64 0) := (hB1.cell (p := ⟨w.heap.size, 1, none⟩) (by simp)).trans (by simp [World.cell?_alloc_new])
      have f0 : w1.frozen? ⟨w.heap.size, 0, none⟩ = false := (hB1.frozen (p := ⟨w.heap.size, 0, none⟩) (by simp)).trans (Blk0 w _ _ 0)
      have f1 : w1.frozen? ⟨w.heap.size, 1, none⟩ = false := (hB1.frozen (p := ⟨w.heap.size, 1, none⟩) (by simp)).trans (Blk0 w _ _ 1)
      have HB1 := Lib.hid (bel_alloc hB1)
      have KK := Lib.hid (And.intro k0 k1)
      clear hB1
      go_wp2_with fail
      have r := Lib.hid (two_set w1 w.heap.size (.int .i64 0) (.int .i64 0) _ _ KK.out.1 KK.out.2)
      obtain ⟨r0, r1, rB⟩ := r.out
      have rB2 := Lib.hid (rB w (Nat.le_refl _) HB1.out)
      clear rB r
      exact bodyPost_ret (v := .tuple #[.agg #[.int .i64 0, .int .i64 0], .bool false, .int .i64 0]) (by simp [results, Try.results45, go_sem, r0, r1]) rfl ⟨by rw [E.out.1, E.out.2, HE.out], rB2.out⟩
    · obtain ⟨p, t, hpt⟩ : ∃ p t, Cs.confL ws st = p :: t := by
        cases h : Cs.confL ws st with
        | nil => exact absurd h hcf
        | cons p t => exact ⟨p, t, rfl⟩
      have E := Lib.hid (cf_some he hpt)
      have HE := Lib.hid he
      have hlen : 0 < (Cs.confL ws st).length := List.length_pos_iff.2 hcf
      have HC2 := Lib.hid (fun W (h : Below w.heap.size w W) => (HC.out W h).mono (R' := fun e w' => ∃ b off c', e = .returned (.tuple #[.slice (some ⟨b, off, none⟩) (Cs.confL ws st).length c', .int .i64 0]) ∧ b < w'.heap.size ∧ w'.cell? ⟨b, off, none⟩ = some (.int .i64 p.1) ∧ w'.cell? ⟨b, off + 1, none⟩ = some (.int .i64 p.2) ∧ Below W.heap.size W w') fun e w' h => by
        obtain ⟨A', c', h1, h2⟩ := h.1 he
        obtain ⟨b, off, rfl, hb, c0, c1⟩ := h2.cell (k := 0) (p := p) (by rw [hpt]; rfl)
        refine ⟨b, off, c', h1, hb, by simpa using c0, by simpa using c1, h.2.2⟩)
      clear he hcf hpt HC
      generalize (Cs.confL ws st).length = L at *
      go_enter Try.func45, Try.ntmps45
      go_wp2_with fail
      refine (HC2.out _ ((Below.refl _ _).alloc (Nat.le_refl _) _)).mono ?_; rintro e w1 ⟨b, off, c', rfl, hbb, q0, q1, hB1⟩
      have k0 : w1.cell? ⟨w.heap.size, 0, none⟩ = some (.int .i64 0) := (hB1.cell (p := ⟨w.heap.size, 0, none⟩) (by simp)).trans (by simp [World.cell?_alloc_new])
      have k1 : w1.cell? ⟨w.heap.size, 1, none⟩ = some (.int .i64 0) := (hB1.cell (p := ⟨w.heap.size, 1, none⟩) (by simp)).trans (by simp [World.cell?_alloc_new])
      have f0 : w1.frozen? ⟨w.heap.size, 0, none⟩ = false := (hB1.frozen (p := ⟨w.heap.size, 0, none⟩) (by simp)).trans (Blk0 w _ _ 0)
      have f1 : w1.frozen? ⟨w.heap.size, 1, none⟩ = false := (hB1.frozen (p := ⟨w.heap.size, 1, none⟩) (by simp)).trans (Blk0 w _ _ 1)
      have HB1 := Lib.hid (bel_alloc hB1)
      have KK := Lib.hid (And.intro k0 k1)
      clear hB1
      go_wp2_with fail
      have r := Lib.hid (two_set w1 w.heap.size (.int .i64 p.1) (.int .i64 p.2) _ _ KK.out.1 KK.out.2)
      obtain ⟨r0, r1, rB⟩ := r.out
      have rB2 := Lib.hid (rB w (Nat.le_refl _) HB1.out)
      clear rB r
      exact bodyPost_ret (v := .tuple #[.agg #[.int .i64 p.1, .int .i64 p.2], .bool true, .int .i64 0]) (by simp [results, Try.results45, go_sem, r0, r1]) rfl ⟨by rw [E.out.1, E.out.2, HE.out], rB2.out⟩
  · have E := Lib.hid (cf_bad he)
    have hne : (Cs.chkE ws st != 0) = true := by rw [bne_iff_ne]; exact he
    have HC2 := Lib.hid (fun W (h : Below w.heap.size w W) => (HC.out W h).mono (R' := fun e w' => e = .returned (.tuple #[.slice none 0 0, .int .i64 (Cs.chkE ws st)]) ∧ Below W.heap.size W w') fun e w' h => ⟨h.2.1 he, h.2.2⟩)
    clear he HC
    obtain ⟨EV, hEV⟩ : ∃ x, Cs.chkE ws st = x := ⟨_, rfl⟩
    rw [hEV] at hne HC2
    have HE := Lib.hid hEV
    clear hEV
    go_enter Try.func45, Try.ntmps45
    go_wp2_with fail
    refine (HC2.out _ ((Below.refl _ _).alloc (Nat.le_refl _) _)).mono ?_; rintro e w1 ⟨rfl, hB1⟩
    have k0 : w1.cell? ⟨w.heap.size, 0, none⟩ = some (.int .i64 0) := (hB1.cell (p := ⟨w.heap.size, 0, none⟩) (by simp)).trans (by simp [World.cell?_alloc_new])
    have k1 : w1.cell? ⟨w.heap.size, 1, none⟩ = some (.int .i64 0) := (hB1.cell (p := ⟨w.heap.size, 1, none⟩) (by simp)).trans (by simp [World.cell?_alloc_new])
    have f0 : w1.frozen? ⟨w.heap.size, 0, none⟩ = false := (hB1.frozen (p := ⟨w.heap.size, 0, none⟩) (by simp)).trans (Blk0 w _ _ 0)
    have f1 : w1.frozen? ⟨w.heap.size, 1, none⟩ = false := (hB1.frozen (p := ⟨w.heap.size, 1, none⟩) (by simp)).trans (Blk0 w _ _ 1)
    have HB1 := Lib.hid (bel_alloc hB1)
    have KK := Lib.hid (And.intro k0 k1)
    clear hB1
    go_wp2_with fail
    have r := Lib.hid (two_set w1 w.heap.size (.int .i64 0) (.int .i64 0) _ _ KK.out.1 KK.out.2)
    obtain ⟨r0, r1, rB⟩ := r.out
    have rB2 := Lib.hid (rB w (Nat.le_refl _) HB1.out)
    clear rB r
    exact bodyPost_ret (v := .tuple #[.agg #[.int .i64 0, .int .i64 0], .bool false, .int .i64 EV]) (by simp [results, Try.results45, go_sem, r0, r1]) rfl ⟨by rw [E.out.1, E.out.2, HE.out], rB2.out⟩
end Go.Proofs.Ytgplpapphmaafaa
