/- Layer 59: a cycle of an aircraft among the arguments. -/
import Derived.Test.YtcmdpfdhmbpahaaOpen59
import Derived.Test.YtcmdpfdhmbpahaaOpenPf
import Derived.Test.YtcmdpfdhmbpahaaOpen
namespace Go.Proofs.Ytcmdpfdhmbpahaa
set_option linter.unusedSimpArgs false
set_option linter.unusedVariables false
open Go.RowKit Go.ChangeShapes Go.WideShapes Go.Deep
set_option maxRecDepth 100000 in
theorem op_tgts {H : Type} {enc : TypeId × Value → H} {w : World} {base : Nat} {spare : Nat → Bool} {held : Bool} (n : Nat) (cs : List Value) (y : DataW H × List MemPlace) (h : DataW.trod enc Try.prog w base spare held n 29 cs = some y) :
    ∃ (t0 : Int) (t1 : Int) (t2 : Int) (tb : Int) (ts : Int) (ta : Int) (tv : Int), cs = [.int .u8 t0, .int .u8 t1, .int .u8 t2, .int .i64 tb, .int .i64 ts, .int .i64 ta, .int .i64 tv] ∧ (Lit.int .u8 t0).wf = true ∧ (Lit.int .u8 t1).wf = true ∧ (Lit.int .u8 t2).wf = true ∧ (Lit.int .i64 tb).wf = true ∧ (Lit.int .i64 ts).wf = true ∧ (Lit.int .i64 ta).wf = true ∧ (Lit.int .i64 tv).wf = true := by
  obtain ⟨xs, n', _, _, hlen, hx, hf⟩ := DataW.trod_struct Try.underlying29 h
  rw [show Try.prog.cellsOf 29 = 7 by kernel_rfl] at hlen
  match cs, hlen with
  | [c0, c1, c2, c3, c4, c5, c6], _ =>
    have e0 : DataW.trod enc Try.prog w base spare held n' 5 [c0] = xs[0]? := by
      have := hf 0 _ rfl
      first | exact this | (rw [show Try.prog.cellsOf 5 = 1 by kernel_rfl] at this; exact this)
    have i0 : 0 < xs.length := by first | omega | (rw [hx]; decide)
    rw [List.getElem?_eq_getElem i0] at e0
    obtain ⟨t0, h0, w0⟩ := el_int (k := .u8) Try.underlying5 _ _ _ e0
    obtain rfl : c0 = .int .u8 t0 := by injection h0
    have e1 : DataW.trod enc Try.prog w base spare held n' 5 [c1] = xs[1]? := by
      have := hf 1 _ rfl
      first | exact this | (rw [show Try.prog.cellsOf 5 = 1 by kernel_rfl] at this; exact this)
    have i1 : 1 < xs.length := by first | omega | (rw [hx]; decide)
    rw [List.getElem?_eq_getElem i1] at e1
    obtain ⟨t1, h1, w1⟩ := el_int (k := .u8) Try.underlying5 _ _ _ e1
    obtain rfl : c1 = .int .u8 t1 := by injection h1
    have e2 : DataW.trod enc Try.prog w base spare held n' 5 [c2] = xs[2]? := by
      have := hf 2 _ rfl
      first | exact this | (rw [show Try.prog.cellsOf 5 = 1 by kernel_rfl] at this; exact this)
    have i2 : 2 < xs.length := by first | omega | (rw [hx]; decide)
    rw [List.getElem?_eq_getElem i2] at e2
    obtain ⟨t2, h2, w2⟩ := el_int (k := .u8) Try.underlying5 _ _ _ e2
    obtain rfl : c2 = .int .u8 t2 := by injection h2
    have e3 : DataW.trod enc Try.prog w base spare held n' 2 [c3] = xs[3]? := by
      have := hf 3 _ rfl
      first | exact this | (rw [show Try.prog.cellsOf 2 = 1 by kernel_rfl] at this; exact this)
    have i3 : 3 < xs.length := by first | omega | (rw [hx]; decide)
    rw [List.getElem?_eq_getElem i3] at e3
    obtain ⟨tb, h3, w3⟩ := el_int (k := .i64) Try.underlying2 _ _ _ e3
    obtain rfl : c3 = .int .i64 tb := by injection h3
    have e4 : DataW.trod enc Try.prog w base spare held n' 2 [c4] = xs[4]? := by
      have := hf 4 _ rfl
      first | exact this | (rw [show Try.prog.cellsOf 2 = 1 by kernel_rfl] at this; exact this)
    have i4 : 4 < xs.length := by first | omega | (rw [hx]; decide)
    rw [List.getElem?_eq_getElem i4] at e4
    obtain ⟨ts, h4, w4⟩ := el_int (k := .i64) Try.underlying2 _ _ _ e4
    obtain rfl : c4 = .int .i64 ts := by injection h4
    have e5 : DataW.trod enc Try.prog w base spare held n' 2 [c5] = xs[5]? := by
      have := hf 5 _ rfl
      first | exact this | (rw [show Try.prog.cellsOf 2 = 1 by kernel_rfl] at this; exact this)
    have i5 : 5 < xs.length := by first | omega | (rw [hx]; decide)
    rw [List.getElem?_eq_getElem i5] at e5
    obtain ⟨ta, h5, w5⟩ := el_int (k := .i64) Try.underlying2 _ _ _ e5
    obtain rfl : c5 = .int .i64 ta := by injection h5
    have e6 : DataW.trod enc Try.prog w base spare held n' 2 [c6] = xs[6]? := by
      have := hf 6 _ rfl
      first | exact this | (rw [show Try.prog.cellsOf 2 = 1 by kernel_rfl] at this; exact this)
    have i6 : 6 < xs.length := by first | omega | (rw [hx]; decide)
    rw [List.getElem?_eq_getElem i6] at e6
    obtain ⟨tv, h6, w6⟩ := el_int (k := .i64) Try.underlying2 _ _ _ e6
    obtain rfl : c6 = .int .i64 tv := by injection h6
    exact ⟨t0, t1, t2, tb, ts, ta, tv, rfl, w0, w1, w2, w3, w4, w5, w6⟩
set_option maxRecDepth 100000 in
theorem op_step {H : Type} {enc : TypeId × Value → H} {w : World} {base : Nat} {spare : Nat → Bool} {held : Bool} (n : Nat) (cs : List Value) (y : DataW H × List MemPlace) (h : DataW.trod enc Try.prog w base spare held n 37 cs = some y) :
    ∃ (tk : Int) (px : Int) (py : Int) (ve : Int) (vn : Int) (al : Int) (vs : Int) (hd : Int) (ca : Int) (fu : Int) (bk : Int) (gr : Bool) (em : Int) (t0 : Int) (t1 : Int) (t2 : Int) (tb : Int) (ts : Int) (ta : Int) (tv : Int) (we : Int) (wn : Int) (E : Option Addr) (ne : Nat) (ce : Nat) (er : List (Int × Int)) (sve : Int) (svn : Int) (si : Int) (th : Bool) (st : Bool) (s0 : ByteArray) (s1 : ByteArray), cs = [.int .i64 tk, .int .i64 px, .int .i64 py, .int .i64 ve, .int .i64 vn, .int .i64 al, .int .i64 vs, .int .i64 hd, .int .i64 ca, .int .i64 fu, .int .i64 bk, .bool gr, .int .i64 em, .int .u8 t0, .int .u8 t1, .int .u8 t2, .int .i64 tb, .int .i64 ts, .int .i64 ta, .int .i64 tv, .int .i64 we, .int .i64 wn, .slice E ne ce, .int .i64 sve, .int .i64 svn, .int .u16 si, .bool th, .bool st, .string s0, .string s1] ∧ (Lit.int .i64 tk).wf = true ∧ (Lit.int .i64 px).wf = true ∧ (Lit.int .i64 py).wf = true ∧ (Lit.int .i64 ve).wf = true ∧ (Lit.int .i64 vn).wf = true ∧ (Lit.int .i64 al).wf = true ∧ (Lit.int .i64 vs).wf = true ∧ (Lit.int .i64 hd).wf = true ∧ (Lit.int .i64 ca).wf = true ∧ (Lit.int .i64 fu).wf = true ∧ (Lit.int .i64 bk).wf = true ∧ (Lit.int .i64 em).wf = true ∧ (Lit.int .u8 t0).wf = true ∧ (Lit.int .u8 t1).wf = true ∧ (Lit.int .u8 t2).wf = true ∧ (Lit.int .i64 tb).wf = true ∧ (Lit.int .i64 ts).wf = true ∧ (Lit.int .i64 ta).wf = true ∧ (Lit.int .i64 tv).wf = true ∧ (Lit.int .i64 we).wf = true ∧ (Lit.int .i64 wn).wf = true ∧ ne ≤ maxLen ∧ CapOk E ne ce ∧ Recs er2 2 w E ne er ∧ (∀ x ∈ er, (fun p : Int × Int => I64 p.1 ∧ I64 p.2) x) ∧ (Lit.int .i64 sve).wf = true ∧ (Lit.int .i64 svn).wf = true ∧ (Lit.int .u16 si).wf = true ∧ s0.size ≤ maxLen ∧ s1.size ≤ maxLen := by
  obtain ⟨xs, n', _, _, hlen, hx, hf⟩ := DataW.trod_struct Try.underlying37 h
  rw [show Try.prog.cellsOf 37 = 30 by kernel_rfl] at hlen
  match cs, hlen with
  | [c0, c1, c2, c3, c4, c5, c6, c7, c8, c9, c10, c11, c12, c13, c14, c15, c16, c17, c18, c19, c20, c21, c22, c23, c24, c25, c26, c27, c28, c29], _ =>
    have e0 : DataW.trod enc Try.prog w base spare held n' 27 [c0, c1, c2, c3, c4, c5, c6, c7, c8, c9, c10, c11] = xs[0]? := by
      have := hf 0 _ rfl
      first | exact this | (rw [show Try.prog.cellsOf 27 = 12 by kernel_rfl] at this; exact this)
    have i0 : 0 < xs.length := by first | omega | (rw [hx]; decide)
    rw [List.getElem?_eq_getElem i0] at e0
    obtain ⟨tk, px, py, ve, vn, al, vs, hd, ca, fu, bk, gr, h0, w0_0, w0_1, w0_2, w0_3, w0_4, w0_5, w0_6, w0_7, w0_8, w0_9, w0_10⟩ := op_craft _ _ _ e0
    obtain ⟨rfl, rfl, rfl, rfl, rfl, rfl, rfl, rfl, rfl, rfl, rfl, rfl⟩ : c0 = .int .i64 tk ∧ c1 = .int .i64 px ∧ c2 = .int .i64 py ∧ c3 = .int .i64 ve ∧ c4 = .int .i64 vn ∧ c5 = .int .i64 al ∧ c6 = .int .i64 vs ∧ c7 = .int .i64 hd ∧ c8 = .int .i64 ca ∧ c9 = .int .i64 fu ∧ c10 = .int .i64 bk ∧ c11 = .bool gr := by simpa using h0
    have e1 : DataW.trod enc Try.prog w base spare held n' 2 [c12] = xs[1]? := by
      have := hf 1 _ rfl
      first | exact this | (rw [show Try.prog.cellsOf 2 = 1 by kernel_rfl] at this; exact this)
    have i1 : 1 < xs.length := by first | omega | (rw [hx]; decide)
    rw [List.getElem?_eq_getElem i1] at e1
    obtain ⟨em, h1, w1⟩ := el_int (k := .i64) Try.underlying2 _ _ _ e1
    obtain rfl : c12 = .int .i64 em := by injection h1
    have e2 : DataW.trod enc Try.prog w base spare held n' 29 [c13, c14, c15, c16, c17, c18, c19] = xs[2]? := by
      have := hf 2 _ rfl
      first | exact this | (rw [show Try.prog.cellsOf 29 = 7 by kernel_rfl] at this; exact this)
    have i2 : 2 < xs.length := by first | omega | (rw [hx]; decide)
    rw [List.getElem?_eq_getElem i2] at e2
    obtain ⟨t0, t1, t2, tb, ts, ta, tv, h2, w2_0, w2_1, w2_2, w2_3, w2_4, w2_5, w2_6⟩ := op_tgts _ _ _ e2
    obtain ⟨rfl, rfl, rfl, rfl, rfl, rfl, rfl⟩ : c13 = .int .u8 t0 ∧ c14 = .int .u8 t1 ∧ c15 = .int .u8 t2 ∧ c16 = .int .i64 tb ∧ c17 = .int .i64 ts ∧ c18 = .int .i64 ta ∧ c19 = .int .i64 tv := by simpa using h2
    have e3 : DataW.trod enc Try.prog w base spare held n' 35 [c20, c21, c22, c23, c24, c25, c26, c27, c28, c29] = xs[3]? := by
      have := hf 3 _ rfl
      first | exact this | (rw [show Try.prog.cellsOf 35 = 10 by kernel_rfl] at this; exact this)
    have i3 : 3 < xs.length := by first | omega | (rw [hx]; decide)
    rw [List.getElem?_eq_getElem i3] at e3
    obtain ⟨we, wn, E, ne, ce, er, sve, svn, si, th, st, s0, s1, h3, w3_0, w3_1, w3_2, w3_3, w3_4, w3_5, w3_6, w3_7, w3_8, w3_9, w3_10⟩ := op_moment _ _ _ e3
    obtain ⟨rfl, rfl, rfl, rfl, rfl, rfl, rfl, rfl, rfl, rfl⟩ : c20 = .int .i64 we ∧ c21 = .int .i64 wn ∧ c22 = .slice E ne ce ∧ c23 = .int .i64 sve ∧ c24 = .int .i64 svn ∧ c25 = .int .u16 si ∧ c26 = .bool th ∧ c27 = .bool st ∧ c28 = .string s0 ∧ c29 = .string s1 := by simpa using h3
    exact ⟨tk, px, py, ve, vn, al, vs, hd, ca, fu, bk, gr, em, t0, t1, t2, tb, ts, ta, tv, we, wn, E, ne, ce, er, sve, svn, si, th, st, s0, s1, rfl, w0_0, w0_1, w0_2, w0_3, w0_4, w0_5, w0_6, w0_7, w0_8, w0_9, w0_10, w1, w2_0, w2_1, w2_2, w2_3, w2_4, w2_5, w2_6, w3_0, w3_1, w3_2, w3_3, w3_4, w3_5, w3_6, w3_7, w3_8, w3_9, w3_10⟩
end Go.Proofs.Ytcmdpfdhmbpahaa
