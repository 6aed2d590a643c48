/- Layer 34: Where, of the program. -/
import Derived.Test.YtgmpaffoajmmmaaPf
import Derived.Test.YtgmpaffoajmmmaaWhPlain
import Derived.Test.YtgmpaffoajmmmaaSearch
import Derived.Deep.RegionHeld3
namespace Go.Proofs.Ytgmpaffoajmmmaa
set_option linter.unusedSimpArgs false
set_option linter.unusedVariables false
open Go.RowKit

def WhPost (v d : List Int) (lv : Int) (w : World) (e : Ending) (w' : World) : Prop :=
  (Pf.chE v d = 0 → (∃ s, e = .returned (.tuple #[.int .i64 s, .int .i64 0]) ∧ Pf.WhP v d lv s) ∨ (e = .returned (.tuple #[.int .i64 0, .int .i64 6]) ∧ Pf.Bey v d lv 0)) ∧
  (Pf.chE v d ≠ 0 → e = .returned (.tuple #[.int .i64 0, .int .i64 (Pf.chE v d)])) ∧ Below w.heap.size w w'
theorem wh_found {v d : List Int} {lv s : Int} {w w' : World} (hc : Pf.chE v d = 0) (h : Pf.WhP v d lv s) (hb : Below w.heap.size w w') : WhPost v d lv w (.returned (.tuple #[.int .i64 s, .int .i64 0])) w' := ⟨fun _ => .inl ⟨s, rfl, h⟩, fun k => absurd hc k, hb⟩
theorem wh_found' {v d : List Int} {lv s t : Int} {w w' : World} (hc : Pf.chE v d = 0) (h : Pf.WhP v d lv s) (hb : Below w.heap.size w w') (e : t = s) : WhPost v d lv w (.returned (.tuple #[.int .i64 t, .int .i64 0])) w' := by subst e; exact wh_found hc h hb
theorem wh_none {v d : List Int} {lv : Int} {w w' : World} (hc : Pf.chE v d = 0) (h : Pf.Bey v d lv 0) (hb : Below w.heap.size w w') : WhPost v d lv w (.returned (.tuple #[.int .i64 0, .int .i64 6])) w' := ⟨fun _ => .inr ⟨rfl, h⟩, fun k => absurd hc k, hb⟩
theorem wh_bad {v d : List Int} {lv E : Int} {w w' : World} (hc : Pf.chE v d = E) (h0 : E ≠ 0) (hb : Below w.heap.size w w') : WhPost v d lv w (.returned (.tuple #[.int .i64 0, .int .i64 E])) w' := by
  subst hc
  exact ⟨fun k => absurd k h0, fun _ => rfl, hb⟩

/-- the boxes of Where: its three parameters, in blocks g, g + 1, g + 1 + 1 -/
structure WhS (w : World) (A D : Option Addr) (n cn m cm : Nat) (lv : Int) (g : Nat) (W : World) : Prop where
  c3 : W.cell? ⟨g, 0, none⟩ = some (.slice A n cn)
  c4 : W.cell? ⟨g + 1, 0, none⟩ = some (.slice D m cm)
  c5 : W.cell? ⟨g + 1 + 1, 0, none⟩ = some (.int .i64 lv)
  lt : g + 1 + 1 < W.heap.size
  ge : w.heap.size = g
  bel : Below w.heap.size w W
section
variable {w W : World} {A D : Option Addr} {n cn m cm : Nat} {lv : Int} {g : Nat}
theorem WhS.below (h : WhS w A D n cn m cm lv g W) {W' : World} (hb : Below W.heap.size W W') : WhS w A D n cn m cm lv g W' := by
  have := h.lt
  exact ⟨(hb.cell (p := ⟨g, 0, none⟩) (show g < _ by omega)).trans h.c3, (hb.cell (p := ⟨g + 1, 0, none⟩) (show g + 1 < _ by omega)).trans h.c4, (hb.cell (p := ⟨g + 1 + 1, 0, none⟩) (by omega)).trans h.c5, Nat.lt_of_lt_of_le h.lt hb.size, h.ge, bel_trans h.bel hb⟩
theorem WhS.drewN (h : WhS w A D n cn m cm lv g W) (q : Nat) : WhS w A D n cn m cm lv g (W.drewN q) := h.below (below_drewN (Below.refl _ _) q)
theorem WhS.set (h : WhS w A D n cn m cm lv g W) {p : Nat} (hp : g + 1 + 1 < p) (u : Value) : WhS w A D n cn m cm lv g (W.setCell ⟨p, 0, none⟩ u) := by
  have hge := h.ge
  refine ⟨?_, ?_, ?_, by simpa [World.setCell] using h.lt, h.ge, h.bel.setCell (p := ⟨p, 0, none⟩) (show w.heap.size ≤ p by omega) _⟩
  · rw [World.cell?_setCell_other W ⟨p, 0, none⟩ ⟨g, 0, none⟩ _ (by intro e; injection e with e; omega)]; exact h.c3
  · rw [World.cell?_setCell_other W ⟨p, 0, none⟩ ⟨g + 1, 0, none⟩ _ (by intro e; injection e with e; omega)]; exact h.c4
  · rw [World.cell?_setCell_other W ⟨p, 0, none⟩ ⟨g + 1 + 1, 0, none⟩ _ (by intro e; injection e with e; omega)]; exact h.c5
theorem WhS.start (w : World) (A D : Option Addr) (n cn m cm : Nat) (lv : Int) (t u x : TypeId) :
    WhS w A D n cn m cm lv w.heap.size (((w.alloc (.cells #[.slice A n cn] t)).alloc (.cells #[.slice D m cm] u)).alloc (.cells #[.int .i64 lv] x)) := by
  have e1 : w.heap.size + 1 = (w.alloc (.cells #[.slice A n cn] t)).heap.size := by simp
  have e2 : w.heap.size + 1 + 1 = ((w.alloc (.cells #[.slice A n cn] t)).alloc (.cells #[.slice D m cm] u)).heap.size := by simp
  refine ⟨?_, ?_, ?_, by simp, rfl, (((Below.refl _ w).alloc (Nat.le_refl _) _).alloc (by simp) _).alloc (by simp; omega) _⟩
  · rw [World.cell?_alloc_lt _ _ ⟨w.heap.size, 0, none⟩ (by simp; omega), World.cell?_alloc_lt _ _ ⟨w.heap.size, 0, none⟩ (by simp), World.cell?_alloc_new]; rfl
  · rw [World.cell?_alloc_lt _ _ ⟨w.heap.size + 1, 0, none⟩ (by simp), e1, World.cell?_alloc_new]; rfl
  · rw [e2, World.cell?_alloc_new]; rfl
end
/-- a box of one integer, above the boxes of the parameters -/
structure Box1 (g : Nat) (p : Value) (W : World) (i : Int) (b : Nat) : Prop where
  pe : p = .pointer (some ⟨b, 0, none⟩)
  hi : g + 1 + 1 < b
  lt : b < W.heap.size
  cell : W.cell? ⟨b, 0, none⟩ = some (.int .i64 i)
  fr : W.frozen? ⟨b, 0, none⟩ = false
theorem Box1.below {g b : Nat} {p : Value} {W W' : World} {i : Int} (h : Box1 g p W i b) (hb : Below W.heap.size W W') : Box1 g p W' i b :=
  ⟨h.pe, h.hi, Nat.lt_of_lt_of_le h.lt hb.size, (hb.cell (p := ⟨b, 0, none⟩) h.lt).trans h.cell, (hb.frozen (p := ⟨b, 0, none⟩) h.lt).trans h.fr⟩
/-- the integer in a pointer's cell, one more -/
def cellI (p : Value) (w : World) : Nat := match p with
  | .pointer (some a) => (match w.cell? a with
    | some (.int _ i) => (i + 1).toNat
    | _ => 0)
  | _ => 0
theorem Box1.meas {g b : Nat} {p : Value} {W : World} {i : Int} (h : Box1 g p W i b) : cellI p W = (i + 1).toNat := by
  rw [h.pe]
  show (match W.cell? ⟨b, 0, none⟩ with
    | some (.int _ i) => (i + 1).toNat
    | _ => 0) = _
  rw [h.cell]
theorem Box1.new (g : Nat) (W : World) (i : Int) (t : TypeId) (hg : g + 1 + 1 < W.heap.size) : Box1 g (.pointer (some ⟨W.heap.size, 0, none⟩)) (W.alloc (.cells #[.int .i64 i] t)) i W.heap.size :=
  ⟨rfl, hg, by simp, by rw [World.cell?_alloc_new]; rfl, frozen_of_row _ _ _ _ _ (heap_alloc_new W _)⟩
theorem Box1.set {g b : Nat} {p : Value} {W : World} {i : Int} (h : Box1 g p W i b) (k : Int) : Box1 g p (W.setCell ⟨b, 0, none⟩ (.int .i64 k)) k b :=
  ⟨h.pe, h.hi, by simpa [World.setCell] using h.lt, World.cell?_setCell_same W ⟨b, 0, none⟩ _ h.cell, by rw [World.frozen?_setCell]; exact h.fr⟩
theorem on_k (A D : Option Addr) (n cn m cm i : Nat) (v d : List Int) (a b x k : Int) (w : World) (hv : Ints w A n v) (hd : Ints w D m d) (hn : n ≤ 64) (hm : m ≤ 64)
    (h0 : v[i]? = some a) (h1 : v[i + 1]? = some b) (hx : d[i]? = some x) (ha : Pf.inB a) (hb : Pf.inB b) (hk1 : 0 ≤ k) (hk2 : k ≤ x) (hx2 : x ≤ 8000000) :
    Calls Try.prog 32 #[.slice A n cn, .slice D m cm, .int .i64 i, .int .i64 k] w fun e w' => e = .returned (.int .i64 (Pf.onV a b k x)) ∧ ∃ q, w' = w.drewN q := by
  by_cases hz : k = 0
  · subst hz
    rw [Pf.onV_0]
    exact (on_zero A D n cn m cm i v a w hv h0 hn).mono fun e w' ⟨h, h2⟩ => ⟨h, 0, h2.symm⟩
  · exact on_any A D n cn m cm i v d a b x k w hv hd hn hm h0 h1 hx ha hb hz hk1 hk2 hx2

/-- a leg, as Where's closure sees it -/
structure WhL (v d : List Int) (i : Nat) (a b x : Int) : Prop where
  va : v[i]? = some a
  vb : v[i + 1]? = some b
  dx : d[i]? = some x
  ha : Pf.inB a
  hb : Pf.inB b
  x0 : 0 ≤ x
  x1 : x ≤ 8000000
set_option maxRecDepth 100000 in
set_option maxHeartbeats 2000000 in
theorem wh1_any (A D : Option Addr) (n cn m cm i g b0 : Nat) (v d : List Int) (a b x lv k : Int) (p : Value) (w W : World) (hS : WhS w A D n cn m cm lv g W) (hB : Box1 g p W i b0) (hv : Ints W A n v) (hd : Ints W D m d) (hn : n ≤ 64) (hm : m ≤ 64) (hL : WhL v d i a b x) (hk1 : 0 ≤ k) (hk2 : k ≤ x) :
    Calls Try.prog 36 #[.int .i64 k, .pointer (some ⟨g, 0, none⟩), .pointer (some ⟨g + 1, 0, none⟩), p, .pointer (some ⟨g + 1 + 1, 0, none⟩)] W fun e w' => e = .returned (.bool (decide (Pf.onV a b k x < lv))) ∧ Below W.heap.size W w' := by
  have HON := Lib.hid (fun (W' : World) (hh : W'.heap = W.heap) => on_k A D n cn m cm i v d a b x k W' (hv.heap hh) (hd.heap hh) hn hm hL.va hL.vb hL.dx hL.ha hL.hb hk1 hk2 hL.x1)
  obtain ⟨rfl, hhi, hlt, cb, _⟩ := hB
  have c3 := hS.c3
  have c4 := hS.c4
  have c5 := hS.c5
  have hSl := hS.lt
  clear hS hv hd hL
  generalize Pf.onV a b k x = V at *
  go_enter Try.func36, Try.ntmps36
  go_wp2_with fail
  go_quiet ((go_at_call 32; exact Calls.quiet_of (HON.out _ rfl)))
  go_wp2_with fail
  go_ret
  exact ⟨rfl, below_drewN (Below.refl _ _) _⟩

/-- Where's loop: k legs are left -/
def WhRel (w : World) (A D : Option Addr) (n cn m cm : Nat) (lv : Int) (v d : List Int) (s p : Value) (wr : World) : Prop :=
  ∃ k b : Nat, k ≤ m ∧ s = .int .i64 (d.take k).sum ∧ Box1 w.heap.size p wr ((k : Int) - 1) b ∧ Pf.Bey v d lv (d.take k).sum ∧ WhS w A D n cn m cm lv w.heap.size wr
theorem whL_of {v d : List Int} {i : Nat} {a b x P : Int} (hok : Pf.ChOk v d) (h : Pf.LegAt v d i a b x P) : WhL v d i a b x :=
  ⟨h.va, h.vb, h.dx, hok.vs _ (List.mem_of_getElem? h.va), hok.vs _ (List.mem_of_getElem? h.vb), (h.place hok).2.2.1, (h.place hok).2.2.2.1⟩
theorem wh_round {w wr W : World} {A D : Option Addr} {n cn m cm j b : Nat} {lv P : Int} {v d : List Int} {t : TypeId} (hS : WhS w A D n cn m cm lv w.heap.size W) (hP : (d.take j).sum = P) (hbey : Pf.Bey v d lv P) (hj : j ≤ m)
    (hb : Box1 w.heap.size (.pointer (some ⟨b, 0, none⟩)) wr (((j + 1 : Nat) : Int) - 1) b) :
    WhRel w A D n cn m cm lv v d (.int .i64 P) (.pointer (some ⟨W.heap.size, 0, none⟩)) (W.alloc (.cells #[.int .i64 ((j : Int) - 1)] t)) ∧ cellI (.pointer (some ⟨W.heap.size, 0, none⟩)) (W.alloc (.cells #[.int .i64 ((j : Int) - 1)] t)) < cellI (.pointer (some ⟨b, 0, none⟩)) wr := by
  subst hP
  have h1 := Box1.new w.heap.size W ((j : Int) - 1) t hS.lt
  refine ⟨⟨j, W.heap.size, hj, rfl, h1, hbey, hS.below ((Below.refl _ W).alloc (Nat.le_refl _) _)⟩, ?_⟩
  rw [h1.meas, hb.meas]
  omega

set_option maxRecDepth 100000 in
set_option maxHeartbeats 4000000 in
theorem xWhere (A D : Option Addr) (n cn m cm : Nat) (v d : List Int) (lv : Int) (w : World) (hv : Ints w A n v) (hd : Ints w D m d) (hn : n ≤ maxLen) (hm : m ≤ maxLen) :
    Calls Try.prog 23 #[.slice A n cn, .slice D m cm, .int .i64 lv] w (WhPost v d lv w) := by
  have HV := Lib.hid hv
  have HD := Lib.hid hd
  have HC := Lib.hid (fun W (h : Below w.heap.size w W) => check_any A D n cn m cm v d W (hv.below h) (hd.below h) hn hm)
  by_cases he : Pf.chE v d = 0
  · have hok := Pf.chOk_of he
    have hcv : Pf.chV v d = d.sum := by unfold Pf.chV; rw [if_pos he]
    rw [hcv, he] at HC
    have hlv := hv.len
    have hld := hd.len
    have l1 := hok.len
    have l2 := hok.two
    have hm64 : m ≤ 63 := by omega
    have hn64 : n ≤ 64 := by omega
    have HNM := Lib.hid (show n = m + 1 by omega)
    have HLV := Lib.hid hlv
    have HLD := Lib.hid hld
    have HOK := Lib.hid hok
    have HE := Lib.hid he
    have hsm := Lib.hid (show (d.take m).sum = d.sum by rw [List.take_of_length_le (by omega)])
    have hsum := Pf.sum_nn hok.ds
    have hsb : d.sum ≤ 8000000 * 64 := by omega
    obtain ⟨hsum0, _⟩ := hsum
    obtain ⟨z, hz⟩ := get_ex (k := m) hlv (by omega)
    have hzd : v[d.length]? = some z := by rw [hld]; exact hz
    have HZ := Lib.hid hzd
    obtain rfl : n = m + 1 := by omega
    obtain ⟨bv, ov, rfl, hbv, hcv2⟩ := hv.cells (by omega)
    have CZ := Lib.hid (hcv2 m z hz)
    have HCV := Lib.hid hcv2
    have hw1 : IntKind.i64.wrap (((m + 1 : Nat) : Int) - 1) = (m : Int) := by rw [show ((m + 1 : Nat) : Int) - 1 = m from by omega]; exact IntWalk.i64_in _ (by omega)
    have hm1 : (m : Int) < ((m + 1 : Nat) : Int) := by omega
    rename_i hsr
    clear hv hd hok hlv hld l1 l2 he hcv hzd hz hcv2 hn hm hsr
    go_enter Try.func23, Try.ntmps23
    have HS0 := Lib.hid (WhS.start w (some ⟨bv, ov, none⟩) D (m + 1) cn m cm lv 25 25 2)
    go_wp2_with fail
    refine (HC.out _ HS0.out.bel).mono ?_; rintro e w1 ⟨rfl, rfl⟩
    clear HC
    generalize ((w.alloc (.cells #[.slice (some ⟨bv, ov, none⟩) (m + 1) cn] 25)).alloc (.cells #[.slice D m cm] 25)).alloc (.cells #[.int .i64 lv] 2) = W0 at *
    have c3 := HS0.out.c3
    have c4 := HS0.out.c4
    have c5 := HS0.out.c5
    have cz : W0.cell? ⟨bv, ov + m, none⟩ = some (.int .i64 z) := (HS0.out.bel.cell (p := ⟨bv, ov + m, none⟩) hbv).trans CZ.out
    by_cases hend : lv ≤ z
    · have HF := Lib.hid (Pf.whP_end HOK.out HZ.out hend)
      generalize d.sum = SM at *
      go_wp2_with fail
      go_quiet (fail)
      go_wp2_with fail
      go_ret2
      exact wh_found HE.out HF.out (below_drewN HS0.out.bel _)
    · have HF := Lib.hid (Pf.bey_end (lv := lv) HOK.out HZ.out (show z < lv by omega))
      go_wp2_with fail
      go_quiet (fail)
      have HS1 := Lib.hid (HS0.out.drewN nq)
      generalize W0.drewN nq = W1 at *
      clear c3 c4 c5 cz
      have c3 := HS1.out.c3
      have c4 := HS1.out.c4
      have c5 := HS1.out.c5
      have HBx := Lib.hid (Box1.new w.heap.size W1 ((m : Int) - 1) 3 HS1.out.lt)
      have HS2 := Lib.hid (HS1.out.below ((Below.refl _ W1).alloc (Nat.le_refl _) (.cells #[.int .i64 ((m : Int) - 1)] 3)))
      go_wp2_with fail
      go_loopw [8, 10] (fun s p wr => WhRel w (some ⟨bv, ov, none⟩) D (m + 1) cn m cm lv v d s p wr) (fun _ p wr => cellI p wr)
      case atStart => exact ⟨m, _, Nat.le_refl _, by rw [hsm.out], HBx.out, by rw [hsm.out]; exact HF.out, HS2.out⟩
      case round =>
        obtain ⟨k, b, hk, rfl, hBx, hBey, hS⟩ := hrel
        have HBx := Lib.hid hBx
        have HBey := Lib.hid hBey
        have HS := Lib.hid hS
        clear hBx hBey hS HS0 HS1 HS2 HF c3 c4 c5
        obtain ⟨rfl, hbg, hbl, cb, fb⟩ := HBx.out
        have c3 := HS.out.c3
        have c4 := HS.out.c4
        have c5 := HS.out.c5
        cases k with
        | zero =>
          have cb2 : wr.cell? ⟨b, 0, none⟩ = some (.int .i64 (-1)) := cb
          clear cb
          go_wp2_with fail
          go_ret2
          exact wh_none HE.out (by simpa using HBey.out) HS.out.bel
        | succ j =>
          have cb2 : wr.cell? ⟨b, 0, none⟩ = some (.int .i64 (j : Int)) := by rw [cb]; congr 2; omega
          clear cb
          obtain ⟨x, hx⟩ := get_ex (k := j) HLD.out (by omega)
          obtain ⟨a, ha⟩ := get_ex (k := j) HLV.out (by omega)
          obtain ⟨a', ha'⟩ := get_ex (k := j + 1) HLV.out (by omega)
          have HL : Hid (Pf.LegAt v d j a a' x (d.take j).sum) := Lib.hid ⟨ha, ha', hx, rfl⟩
          have HNX := Lib.hid HL.out.next
          have HPL := HL.out.place HOK.out
          rw [HNX.out] at HBey ⊢
          have HP0 := Lib.hid (show (d.take j).sum = (d.take j).sum from rfl)
          obtain ⟨bd, od, hDe, hbd, hcd⟩ := HD.out.cells (by omega)
          have cd := (HS.out.bel.cell (p := ⟨bd, od + j, none⟩) hbd).trans (hcd j x hx)
          have ca := (HS.out.bel.cell (p := ⟨bv, ov + j, none⟩) hbv).trans (HCV.out j a ha)
          subst hDe
          obtain ⟨N, hN⟩ : ∃ N : Nat, x = N := ⟨x.toNat, by omega⟩
          subst hN
          obtain ⟨p0, p1, _, p3, p4⟩ := HPL
          have p1' : (d.take j).sum ≤ 8000000 * 64 := by omega
          have p3' : N ≤ 8000000 := by omega
          have P1 := Lib.hid p4
          generalize hP : (d.take j).sum = P at *
          have HPE := Lib.hid hP
          have hj1 : j < m := hk
          clear hx ha ha' hcd p1 p3 p4 hP hk
          by_cases hx0 : N = 0
          · have HN0 := Lib.hid hx0
            have hz : ((N : Int) == 0) = true := beq_iff_eq.2 (by omega)
            clear hx0
            go_wp2_with fail
            exact wh_round HS.out HPE.out (by have h := HN0.out; subst h; exact Pf.bey_skip HL.out HBey.out) (by omega) HBx.out
          · have hz : ((N : Int) == 0) = false := beq_eq_false_iff_ne.2 (by omega)
            have hN1 : 0 < N := by omega
            have hw2 : IntKind.i64.wrap ((N : Int) - 1) = (N : Int) - 1 := IntWalk.i64_in _ (by omega)
            have HWL := Lib.hid (whL_of HOK.out (by have h := HL.out; rw [← HPE.out] at h; exact h) : WhL v d j a a' N)
            have HON := Lib.hid (fun (W' : World) (hh : W'.heap = wr.heap) => on_k (some ⟨bv, ov, none⟩) (some ⟨bd, od, none⟩) (m + 1) cn m cm j v d a a' N ((N : Int) - 1) W' ((HV.out.below HS.out.bel).heap hh) ((HD.out.below HS.out.bel).heap hh) hn64 (by omega) HWL.out.va HWL.out.vb HWL.out.dx HWL.out.ha HWL.out.hb (by omega) (by omega) HWL.out.x1)
            clear hx0
            generalize hV1 : Pf.onV a a' ((N : Int) - 1) N = V1 at *
            have HV1 := Lib.hid hV1
            clear hV1
            by_cases h1 : lv ≤ V1
            · have HF := Lib.hid (Pf.whP_last HOK.out HL.out (by omega) HBey.out (by rw [HV1.out]; exact h1))
              go_wp2_with fail
              go_quiet ((go_at_call 32; exact Calls.quiet_of (HON.out _ rfl)))
              go_wp2_with fail
              go_ret2
              exact wh_found HE.out HF.out (below_drewN HS.out.bel _)
            · have HN1 := Lib.hid (show Pf.onV a a' ((N : Int) - 1) N < lv by rw [HV1.out]; omega)
              by_cases h2 : lv ≤ a
              · have HA := Lib.hid h2
                go_wp2_with fail
                go_quiet ((go_at_call 32; exact Calls.quiet_of (HON.out _ rfl)))
                have HS2 := Lib.hid (HS.out.drewN nq)
                have HB2 := Lib.hid (HBx.out.below (below_drewN (Below.refl _ wr) nq))
                have ca2 : (wr.drewN nq).cell? ⟨bv, ov + j, none⟩ = some (.int .i64 a) := ca
                have HV2 := Lib.hid ((HV.out.below HS2.out.bel))
                have HD2 := Lib.hid ((HD.out.below HS2.out.bel))
                generalize wr.drewN nq = W1 at *
                clear c3 c4 c5 cb2 ca fb
                have c3 := HS2.out.c3
                have c4 := HS2.out.c4
                have c5 := HS2.out.c5
                have cb3 : W1.cell? ⟨b, 0, none⟩ = some (.int .i64 (j : Int)) := by rw [HB2.out.cell]; congr 2; omega
                have hj2 : (j : Int) < ((m + 1 : Nat) : Int) := by omega
                have hj3 : (0 : Int) ≤ (j : Int) := by omega
                go_wp2_with fail
                go_quiet (fail)
                go_wp2_with fail
                have HS3 := Lib.hid (HS2.out.drewN nq)
                have HB3 := Lib.hid (HB2.out.below (below_drewN (Below.refl _ W1) nq))
                have HV3 := Lib.hid (HV.out.below HS3.out.bel)
                have HD3 := Lib.hid (HD.out.below HS3.out.bel)
                generalize W1.drewN nq = W2 at *
                refine (search_any (fun i => Pf.onV a a' i N < lv) N (by omega) 36 #[.pointer (some ⟨w.heap.size, 0, none⟩), .pointer (some ⟨w.heap.size + 1, 0, none⟩), .pointer (some ⟨b, 0, none⟩), .pointer (some ⟨w.heap.size + 1 + 1, 0, none⟩)] W2 (enters_of Try.func36 (by kernel_rfl) rfl)
                  (fun W' i hi hB => wh1_any (some ⟨bv, ov, none⟩) (some ⟨bd, od, none⟩) (m + 1) cn m cm j w.heap.size b v d a a' N lv i (.pointer (some ⟨b, 0, none⟩)) w W' (HS3.out.below hB) (by have h := HB3.out.below hB; rw [show (((j + 1 : Nat) : Int) - 1) = (j : Int) by omega] at h; exact h) (HV3.out.below hB) (HD3.out.below hB) hn64 (by omega) HWL.out (by omega) (by omega))).mono ?_
                rintro e w3 ⟨k, rfl, hkN, h4, h5, hB3⟩
                obtain ⟨hk0, hF⟩ := Pf.whP_find HOK.out HL.out (by omega) HBey.out HN1.out HA.out (by rcases h4 with h4 | h4; exact .inl (by omega); exact .inr h4) h5 (by omega)
                have HF := Lib.hid hF
                have hkb : k ≤ 8000000 := by omega
                have HB4 := Lib.hid hB3
                clear h4 h5 hF hB3
                go_wp2_with fail
                go_ret2
                exact wh_found HE.out HF.out (bel_trans HS3.out.bel HB4.out)
              · have HA := Lib.hid (show a < lv by omega)
                have HF := Lib.hid (Pf.bey_leg HOK.out HL.out (by omega) HBey.out HN1.out HA.out)
                go_wp2_with fail
                go_quiet ((go_at_call 32; exact Calls.quiet_of (HON.out _ rfl)))
                have HS2 := Lib.hid (HS.out.drewN nq)
                have HB2 := Lib.hid (HBx.out.below (below_drewN (Below.refl _ wr) nq))
                have ca2 : (wr.drewN nq).cell? ⟨bv, ov + j, none⟩ = some (.int .i64 a) := ca
                generalize wr.drewN nq = W1 at *
                clear c3 c4 c5 cb2 ca fb
                have c3 := HS2.out.c3
                have c4 := HS2.out.c4
                have c5 := HS2.out.c5
                have cb3 : W1.cell? ⟨b, 0, none⟩ = some (.int .i64 (j : Int)) := by rw [HB2.out.cell]; congr 2; omega
                have hj2 : (j : Int) < ((m + 1 : Nat) : Int) := by omega
                have hj3 : (0 : Int) ≤ (j : Int) := by omega
                go_wp2_with fail
                go_quiet (fail)
                have HS3 := Lib.hid (HS2.out.drewN nq)
                have HB3 := Lib.hid (HB2.out.below (below_drewN (Below.refl _ W1) nq))
                generalize W1.drewN nq = W2 at *
                clear c3 c4 c5 cb3 ca2
                have c3 := HS3.out.c3
                have c4 := HS3.out.c4
                have c5 := HS3.out.c5
                have cb4 : W2.cell? ⟨b, 0, none⟩ = some (.int .i64 (j : Int)) := by rw [HB3.out.cell]; congr 2; omega
                go_wp2_with fail
                exact wh_round HS3.out HPE.out HF.out (by omega) HBx.out
  · have hne : (Pf.chE v d != 0) = true := by rw [bne_iff_ne]; exact he
    have hcv : Pf.chV v d = 0 := by unfold Pf.chV; rw [if_neg he]
    rw [hcv] at HC
    have HX := Lib.hid (fun w' (hb : Below w.heap.size w w') => wh_bad (lv := lv) (w := w) rfl he hb)
    clear hv hd he hcv
    generalize Pf.chE v d = E at *
    go_enter Try.func23, Try.ntmps23
    have HS0 := Lib.hid (WhS.start w A D n cn m cm lv 25 25 2)
    go_wp2_with fail
    refine (HC.out _ HS0.out.bel).mono ?_; rintro e w1 ⟨rfl, rfl⟩
    clear HC
    generalize ((w.alloc (.cells #[.slice A n cn] 25)).alloc (.cells #[.slice D m cm] 25)).alloc (.cells #[.int .i64 lv] 2) = W0 at *
    go_wp2_with fail
    go_ret2
    exact HX.out _ HS0.out.bel
end Go.Proofs.Ytgmpaffoajmmmaa
