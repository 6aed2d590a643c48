/- Layer 59: aircraft, sensors, moments among the arguments. -/
import Derived.Test.YtkomooeohlcnaaaSimSns
import Derived.Test.YtkomooeohlcnaaaSimMo
import Derived.Test.YtkomooeohlcnaaaOpen
namespace Go.Proofs.Ytkomooeohlcnaaa
set_option linter.unusedSimpArgs false
set_option linter.unusedVariables false
open Go.RowKit Go.ChangeShapes Go.WideShapes Go.Deep
set_option maxRecDepth 100000 in
theorem op_pt {H : Type} {enc : TypeId × Value → H} {w : World} {base : Nat} {spare : Nat → Bool} {held : Bool} (n : Nat) (cs : List Value) (y : DataW H × List MemPlace) (h : DataW.trod enc Try.prog w base spare held n 23 cs = some y) :
    ∃ (px : Int) (py : Int), cs = [.int .i64 px, .int .i64 py] ∧ (Lit.int .i64 px).wf = true ∧ (Lit.int .i64 py).wf = true := by
  obtain ⟨xs, n', _, _, hlen, hx, hf⟩ := DataW.trod_struct Try.underlying23 h
  rw [show Try.prog.cellsOf 23 = 2 by kernel_rfl] at hlen
  match cs, hlen with
  | [c0, c1], _ =>
    have e0 : DataW.trod enc Try.prog w base spare held n' 2 [c0] = xs[0]? := by
      have := hf 0 _ rfl
      first | exact this | (rw [show Try.prog.cellsOf 2 = 1 by kernel_rfl] at this; exact this)
    have i0 : 0 < xs.length := by first | omega | (rw [hx]; decide)
    rw [List.getElem?_eq_getElem i0] at e0
    obtain ⟨px, h0, w0⟩ := el_int (k := .i64) Try.underlying2 _ _ _ e0
    obtain rfl : c0 = .int .i64 px := by injection h0
    have e1 : DataW.trod enc Try.prog w base spare held n' 2 [c1] = xs[1]? := by
      have := hf 1 _ rfl
      first | exact this | (rw [show Try.prog.cellsOf 2 = 1 by kernel_rfl] at this; exact this)
    have i1 : 1 < xs.length := by first | omega | (rw [hx]; decide)
    rw [List.getElem?_eq_getElem i1] at e1
    obtain ⟨py, h1, w1⟩ := el_int (k := .i64) Try.underlying2 _ _ _ e1
    obtain rfl : c1 = .int .i64 py := by injection h1
    exact ⟨px, py, rfl, w0, w1⟩
set_option maxRecDepth 100000 in
theorem op_ve {H : Type} {enc : TypeId × Value → H} {w : World} {base : Nat} {spare : Nat → Bool} {held : Bool} (n : Nat) (cs : List Value) (y : DataW H × List MemPlace) (h : DataW.trod enc Try.prog w base spare held n 25 cs = some y) :
    ∃ (ve : Int) (vn : Int), cs = [.int .i64 ve, .int .i64 vn] ∧ (Lit.int .i64 ve).wf = true ∧ (Lit.int .i64 vn).wf = true := by
  obtain ⟨xs, n', _, _, hlen, hx, hf⟩ := DataW.trod_struct Try.underlying25 h
  rw [show Try.prog.cellsOf 25 = 2 by kernel_rfl] at hlen
  match cs, hlen with
  | [c0, c1], _ =>
    have e0 : DataW.trod enc Try.prog w base spare held n' 2 [c0] = xs[0]? := by
      have := hf 0 _ rfl
      first | exact this | (rw [show Try.prog.cellsOf 2 = 1 by kernel_rfl] at this; exact this)
    have i0 : 0 < xs.length := by first | omega | (rw [hx]; decide)
    rw [List.getElem?_eq_getElem i0] at e0
    obtain ⟨ve, h0, w0⟩ := el_int (k := .i64) Try.underlying2 _ _ _ e0
    obtain rfl : c0 = .int .i64 ve := by injection h0
    have e1 : DataW.trod enc Try.prog w base spare held n' 2 [c1] = xs[1]? := by
      have := hf 1 _ rfl
      first | exact this | (rw [show Try.prog.cellsOf 2 = 1 by kernel_rfl] at this; exact this)
    have i1 : 1 < xs.length := by first | omega | (rw [hx]; decide)
    rw [List.getElem?_eq_getElem i1] at e1
    obtain ⟨vn, h1, w1⟩ := el_int (k := .i64) Try.underlying2 _ _ _ e1
    obtain rfl : c1 = .int .i64 vn := by injection h1
    exact ⟨ve, vn, rfl, w0, w1⟩
set_option maxRecDepth 100000 in
theorem op_wi {H : Type} {enc : TypeId × Value → H} {w : World} {base : Nat} {spare : Nat → Bool} {held : Bool} (n : Nat) (cs : List Value) (y : DataW H × List MemPlace) (h : DataW.trod enc Try.prog w base spare held n 29 cs = some y) :
    ∃ (we : Int) (wn : Int), cs = [.int .i64 we, .int .i64 wn] ∧ (Lit.int .i64 we).wf = true ∧ (Lit.int .i64 wn).wf = true := by
  obtain ⟨xs, n', _, _, hlen, hx, hf⟩ := DataW.trod_struct Try.underlying29 h
  rw [show Try.prog.cellsOf 29 = 2 by kernel_rfl] at hlen
  match cs, hlen with
  | [c0, c1], _ =>
    have e0 : DataW.trod enc Try.prog w base spare held n' 2 [c0] = xs[0]? := by
      have := hf 0 _ rfl
      first | exact this | (rw [show Try.prog.cellsOf 2 = 1 by kernel_rfl] at this; exact this)
    have i0 : 0 < xs.length := by first | omega | (rw [hx]; decide)
    rw [List.getElem?_eq_getElem i0] at e0
    obtain ⟨we, h0, w0⟩ := el_int (k := .i64) Try.underlying2 _ _ _ e0
    obtain rfl : c0 = .int .i64 we := by injection h0
    have e1 : DataW.trod enc Try.prog w base spare held n' 2 [c1] = xs[1]? := by
      have := hf 1 _ rfl
      first | exact this | (rw [show Try.prog.cellsOf 2 = 1 by kernel_rfl] at this; exact this)
    have i1 : 1 < xs.length := by first | omega | (rw [hx]; decide)
    rw [List.getElem?_eq_getElem i1] at e1
    obtain ⟨wn, h1, w1⟩ := el_int (k := .i64) Try.underlying2 _ _ _ e1
    obtain rfl : c1 = .int .i64 wn := by injection h1
    exact ⟨we, wn, rfl, w0, w1⟩
set_option maxRecDepth 100000 in
theorem op_craft {H : Type} {enc : TypeId × Value → H} {w : World} {base : Nat} {spare : Nat → Bool} {held : Bool} (n : Nat) (cs : List Value) (y : DataW H × List MemPlace) (h : DataW.trod enc Try.prog w base spare held n 27 cs = some y) :
    ∃ (tk : Int) (px : Int) (py : Int) (ve : Int) (vn : Int) (al : Int) (vs : Int) (hd : Int) (ca : Int) (fu : Int) (bk : Int) (gr : Bool), cs = [.int .i64 tk, .int .i64 px, .int .i64 py, .int .i64 ve, .int .i64 vn, .int .i64 al, .int .i64 vs, .int .i64 hd, .int .i64 ca, .int .i64 fu, .int .i64 bk, .bool gr] ∧ (Lit.int .i64 tk).wf = true ∧ (Lit.int .i64 px).wf = true ∧ (Lit.int .i64 py).wf = true ∧ (Lit.int .i64 ve).wf = true ∧ (Lit.int .i64 vn).wf = true ∧ (Lit.int .i64 al).wf = true ∧ (Lit.int .i64 vs).wf = true ∧ (Lit.int .i64 hd).wf = true ∧ (Lit.int .i64 ca).wf = true ∧ (Lit.int .i64 fu).wf = true ∧ (Lit.int .i64 bk).wf = true := by
  obtain ⟨xs, n', _, _, hlen, hx, hf⟩ := DataW.trod_struct Try.underlying27 h
  rw [show Try.prog.cellsOf 27 = 12 by kernel_rfl] at hlen
  match cs, hlen with
  | [c0, c1, c2, c3, c4, c5, c6, c7, c8, c9, c10, c11], _ =>
    have e0 : DataW.trod enc Try.prog w base spare held n' 2 [c0] = xs[0]? := by
      have := hf 0 _ rfl
      first | exact this | (rw [show Try.prog.cellsOf 2 = 1 by kernel_rfl] at this; exact this)
    have i0 : 0 < xs.length := by first | omega | (rw [hx]; decide)
    rw [List.getElem?_eq_getElem i0] at e0
    obtain ⟨tk, h0, w0⟩ := el_int (k := .i64) Try.underlying2 _ _ _ e0
    obtain rfl : c0 = .int .i64 tk := by injection h0
    have e1 : DataW.trod enc Try.prog w base spare held n' 23 [c1, c2] = xs[1]? := by
      have := hf 1 _ rfl
      first | exact this | (rw [show Try.prog.cellsOf 23 = 2 by kernel_rfl] at this; exact this)
    have i1 : 1 < xs.length := by first | omega | (rw [hx]; decide)
    rw [List.getElem?_eq_getElem i1] at e1
    obtain ⟨px, py, h1, w1_0, w1_1⟩ := op_pt _ _ _ e1
    obtain ⟨rfl, rfl⟩ : c1 = .int .i64 px ∧ c2 = .int .i64 py := by simpa using h1
    have e2 : DataW.trod enc Try.prog w base spare held n' 25 [c3, c4] = xs[2]? := by
      have := hf 2 _ rfl
      first | exact this | (rw [show Try.prog.cellsOf 25 = 2 by kernel_rfl] at this; exact this)
    have i2 : 2 < xs.length := by first | omega | (rw [hx]; decide)
    rw [List.getElem?_eq_getElem i2] at e2
    obtain ⟨ve, vn, h2, w2_0, w2_1⟩ := op_ve _ _ _ e2
    obtain ⟨rfl, rfl⟩ : c3 = .int .i64 ve ∧ c4 = .int .i64 vn := by simpa using h2
    have e3 : DataW.trod enc Try.prog w base spare held n' 2 [c5] = xs[3]? := by
      have := hf 3 _ rfl
      first | exact this | (rw [show Try.prog.cellsOf 2 = 1 by kernel_rfl] at this; exact this)
    have i3 : 3 < xs.length := by first | omega | (rw [hx]; decide)
    rw [List.getElem?_eq_getElem i3] at e3
    obtain ⟨al, h3, w3⟩ := el_int (k := .i64) Try.underlying2 _ _ _ e3
    obtain rfl : c5 = .int .i64 al := by injection h3
    have e4 : DataW.trod enc Try.prog w base spare held n' 2 [c6] = xs[4]? := by
      have := hf 4 _ rfl
      first | exact this | (rw [show Try.prog.cellsOf 2 = 1 by kernel_rfl] at this; exact this)
    have i4 : 4 < xs.length := by first | omega | (rw [hx]; decide)
    rw [List.getElem?_eq_getElem i4] at e4
    obtain ⟨vs, h4, w4⟩ := el_int (k := .i64) Try.underlying2 _ _ _ e4
    obtain rfl : c6 = .int .i64 vs := by injection h4
    have e5 : DataW.trod enc Try.prog w base spare held n' 2 [c7] = xs[5]? := by
      have := hf 5 _ rfl
      first | exact this | (rw [show Try.prog.cellsOf 2 = 1 by kernel_rfl] at this; exact this)
    have i5 : 5 < xs.length := by first | omega | (rw [hx]; decide)
    rw [List.getElem?_eq_getElem i5] at e5
    obtain ⟨hd, h5, w5⟩ := el_int (k := .i64) Try.underlying2 _ _ _ e5
    obtain rfl : c7 = .int .i64 hd := by injection h5
    have e6 : DataW.trod enc Try.prog w base spare held n' 2 [c8] = xs[6]? := by
      have := hf 6 _ rfl
      first | exact this | (rw [show Try.prog.cellsOf 2 = 1 by kernel_rfl] at this; exact this)
    have i6 : 6 < xs.length := by first | omega | (rw [hx]; decide)
    rw [List.getElem?_eq_getElem i6] at e6
    obtain ⟨ca, h6, w6⟩ := el_int (k := .i64) Try.underlying2 _ _ _ e6
    obtain rfl : c8 = .int .i64 ca := by injection h6
    have e7 : DataW.trod enc Try.prog w base spare held n' 2 [c9] = xs[7]? := by
      have := hf 7 _ rfl
      first | exact this | (rw [show Try.prog.cellsOf 2 = 1 by kernel_rfl] at this; exact this)
    have i7 : 7 < xs.length := by first | omega | (rw [hx]; decide)
    rw [List.getElem?_eq_getElem i7] at e7
    obtain ⟨fu, h7, w7⟩ := el_int (k := .i64) Try.underlying2 _ _ _ e7
    obtain rfl : c9 = .int .i64 fu := by injection h7
    have e8 : DataW.trod enc Try.prog w base spare held n' 2 [c10] = xs[8]? := by
      have := hf 8 _ rfl
      first | exact this | (rw [show Try.prog.cellsOf 2 = 1 by kernel_rfl] at this; exact this)
    have i8 : 8 < xs.length := by first | omega | (rw [hx]; decide)
    rw [List.getElem?_eq_getElem i8] at e8
    obtain ⟨bk, h8, w8⟩ := el_int (k := .i64) Try.underlying2 _ _ _ e8
    obtain rfl : c10 = .int .i64 bk := by injection h8
    have e9 : DataW.trod enc Try.prog w base spare held n' 4 [c11] = xs[9]? := by
      have := hf 9 _ rfl
      first | exact this | (rw [show Try.prog.cellsOf 4 = 1 by kernel_rfl] at this; exact this)
    have i9 : 9 < xs.length := by first | omega | (rw [hx]; decide)
    rw [List.getElem?_eq_getElem i9] at e9
    obtain ⟨gr, h9, _⟩ := DataW.trod_bool Try.underlying4 e9
    obtain rfl : c11 = .bool gr := by injection h9
    exact ⟨tk, px, py, ve, vn, al, vs, hd, ca, fu, bk, gr, rfl, w0, w1_0, w1_1, w2_0, w2_1, w3, w4, w5, w6, w7, w8⟩
set_option maxRecDepth 100000 in
theorem op_sns {H : Type} {enc : TypeId × Value → H} {w : World} {base : Nat} {spare : Nat → Bool} {held : Bool} (n : Nat) (cs : List Value) (y : DataW H × List MemPlace) (h : DataW.trod enc Try.prog w base spare held n 55 cs = some y) :
    ∃ (co : Int) (so : Int) (ki : Int) (qpx : Int) (qpy : Int) (bo : Int) (we : Int), cs = [.int .i64 co, .int .i64 so, .int .u8 ki, .int .i64 qpx, .int .i64 qpy, .int .i64 bo, .int .i64 we] ∧ (Lit.int .i64 co).wf = true ∧ (Lit.int .i64 so).wf = true ∧ (Lit.int .u8 ki).wf = true ∧ (Lit.int .i64 qpx).wf = true ∧ (Lit.int .i64 qpy).wf = true ∧ (Lit.int .i64 bo).wf = true ∧ (Lit.int .i64 we).wf = true := by
  obtain ⟨xs, n', _, _, hlen, hx, hf⟩ := DataW.trod_struct Try.underlying55 h
  rw [show Try.prog.cellsOf 55 = 7 by kernel_rfl] at hlen
  match cs, hlen with
  | [c0, c1, c2, c3, c4, c5, c6], _ =>
    have e0 : DataW.trod enc Try.prog w base spare held n' 3 [c0] = xs[0]? := by
      have := hf 0 _ rfl
      first | exact this | (rw [show Try.prog.cellsOf 3 = 1 by kernel_rfl] at this; exact this)
    have i0 : 0 < xs.length := by first | omega | (rw [hx]; decide)
    rw [List.getElem?_eq_getElem i0] at e0
    obtain ⟨co, h0, w0⟩ := el_int (k := .i64) Try.underlying3 _ _ _ e0
    obtain rfl : c0 = .int .i64 co := by injection h0
    have e1 : DataW.trod enc Try.prog w base spare held n' 3 [c1] = xs[1]? := by
      have := hf 1 _ rfl
      first | exact this | (rw [show Try.prog.cellsOf 3 = 1 by kernel_rfl] at this; exact this)
    have i1 : 1 < xs.length := by first | omega | (rw [hx]; decide)
    rw [List.getElem?_eq_getElem i1] at e1
    obtain ⟨so, h1, w1⟩ := el_int (k := .i64) Try.underlying3 _ _ _ e1
    obtain rfl : c1 = .int .i64 so := by injection h1
    have e2 : DataW.trod enc Try.prog w base spare held n' 47 [c2] = xs[2]? := by
      have := hf 2 _ rfl
      first | exact this | (rw [show Try.prog.cellsOf 47 = 1 by kernel_rfl] at this; exact this)
    have i2 : 2 < xs.length := by first | omega | (rw [hx]; decide)
    rw [List.getElem?_eq_getElem i2] at e2
    obtain ⟨ki, h2, w2⟩ := el_int (k := .u8) Try.underlying47 _ _ _ e2
    obtain rfl : c2 = .int .u8 ki := by injection h2
    have e3 : DataW.trod enc Try.prog w base spare held n' 23 [c3, c4] = xs[3]? := by
      have := hf 3 _ rfl
      first | exact this | (rw [show Try.prog.cellsOf 23 = 2 by kernel_rfl] at this; exact this)
    have i3 : 3 < xs.length := by first | omega | (rw [hx]; decide)
    rw [List.getElem?_eq_getElem i3] at e3
    obtain ⟨qpx, qpy, h3, w3_0, w3_1⟩ := op_pt _ _ _ e3
    obtain ⟨rfl, rfl⟩ : c3 = .int .i64 qpx ∧ c4 = .int .i64 qpy := by simpa using h3
    have e4 : DataW.trod enc Try.prog w base spare held n' 2 [c5] = xs[4]? := by
      have := hf 4 _ rfl
      first | exact this | (rw [show Try.prog.cellsOf 2 = 1 by kernel_rfl] at this; exact this)
    have i4 : 4 < xs.length := by first | omega | (rw [hx]; decide)
    rw [List.getElem?_eq_getElem i4] at e4
    obtain ⟨bo, h4, w4⟩ := el_int (k := .i64) Try.underlying2 _ _ _ e4
    obtain rfl : c5 = .int .i64 bo := by injection h4
    have e5 : DataW.trod enc Try.prog w base spare held n' 2 [c6] = xs[5]? := by
      have := hf 5 _ rfl
      first | exact this | (rw [show Try.prog.cellsOf 2 = 1 by kernel_rfl] at this; exact this)
    have i5 : 5 < xs.length := by first | omega | (rw [hx]; decide)
    rw [List.getElem?_eq_getElem i5] at e5
    obtain ⟨we, h5, w5⟩ := el_int (k := .i64) Try.underlying2 _ _ _ e5
    obtain rfl : c6 = .int .i64 we := by injection h5
    exact ⟨co, so, ki, qpx, qpy, bo, we, rfl, w0, w1, w2, w3_0, w3_1, w4, w5⟩
set_option maxRecDepth 100000 in
theorem op_two {H : Type} {enc : TypeId × Value → H} {w : World} {base : Nat} {spare : Nat → Bool} {held : Bool} (n : Nat) (cs : List Value) (y : DataW H × List MemPlace) (h : DataW.trod enc Try.prog w base spare held n 56 cs = some y) :
    ∃ (d0 : Int) (d1 : Int), cs = [.int .i64 d0, .int .i64 d1] ∧ (Lit.int .i64 d0).wf = true ∧ (Lit.int .i64 d1).wf = true := by
  obtain ⟨xs, n', _, _, hlen, hx, hf⟩ := DataW.trod_array Try.underlying56 h
  rw [show Try.prog.cellsOf 56 = 2 by kernel_rfl] at hlen
  match cs, hlen with
  | [c0, c1], _ =>
    have e0 : DataW.trod enc Try.prog w base spare held n' 2 [c0] = xs[0]? := by
      have := hf 0 (by omega)
      first | exact this | (rw [show Try.prog.cellsOf 2 = 1 by kernel_rfl] at this; exact this)
    have i0 : 0 < xs.length := by first | omega | (rw [hx]; decide)
    rw [List.getElem?_eq_getElem i0] at e0
    obtain ⟨d0, h0, w0⟩ := el_int (k := .i64) Try.underlying2 _ _ _ e0
    obtain rfl : c0 = .int .i64 d0 := by injection h0
    have e1 : DataW.trod enc Try.prog w base spare held n' 2 [c1] = xs[1]? := by
      have := hf 1 (by omega)
      first | exact this | (rw [show Try.prog.cellsOf 2 = 1 by kernel_rfl] at this; exact this)
    have i1 : 1 < xs.length := by first | omega | (rw [hx]; decide)
    rw [List.getElem?_eq_getElem i1] at e1
    obtain ⟨d1, h1, w1⟩ := el_int (k := .i64) Try.underlying2 _ _ _ e1
    obtain rfl : c1 = .int .i64 d1 := by injection h1
    exact ⟨d0, d1, rfl, w0, w1⟩
set_option maxRecDepth 100000 in
theorem op_cmds {H : Type} {enc : TypeId × Value → H} {w : World} {base : Nat} {spare : Nat → Bool} {held : Bool} (n : Nat) (cs : List Value) (y : DataW H × List MemPlace) (h : DataW.trod enc Try.prog w base spare held n 32 cs = some y) :
    ∃ (s0 : ByteArray) (s1 : ByteArray), cs = [.string s0, .string s1] ∧ s0.size ≤ maxLen ∧ s1.size ≤ maxLen := by
  obtain ⟨xs, n', _, _, hlen, hx, hf⟩ := DataW.trod_array Try.underlying32 h
  rw [show Try.prog.cellsOf 32 = 2 by kernel_rfl] at hlen
  match cs, hlen with
  | [c0, c1], _ =>
    have e0 : DataW.trod enc Try.prog w base spare held n' 9 [c0] = xs[0]? := by
      have := hf 0 (by omega)
      first | exact this | (rw [show Try.prog.cellsOf 9 = 1 by kernel_rfl] at this; exact this)
    have i0 : 0 < xs.length := by first | omega | (rw [hx]; decide)
    rw [List.getElem?_eq_getElem i0] at e0
    obtain ⟨s0, h0, _, w0⟩ := DataW.trod_string Try.underlying9 e0
    obtain rfl : c0 = .string s0 := by injection h0
    have e1 : DataW.trod enc Try.prog w base spare held n' 9 [c1] = xs[1]? := by
      have := hf 1 (by omega)
      first | exact this | (rw [show Try.prog.cellsOf 9 = 1 by kernel_rfl] at this; exact this)
    have i1 : 1 < xs.length := by first | omega | (rw [hx]; decide)
    rw [List.getElem?_eq_getElem i1] at e1
    obtain ⟨s1, h1, _, w1⟩ := DataW.trod_string Try.underlying9 e1
    obtain rfl : c1 = .string s1 := by injection h1
    exact ⟨s0, s1, rfl, w0, w1⟩
instance : Inhabited Sns := ⟨⟨0, 0, 0, 0, 0, 0, 0⟩⟩
theorem el_sns {H : Type} {enc : TypeId × Value → H} {w : World} {base : Nat} {spare : Nat → Bool} {held : Bool} (n : Nat) (cs : List Value) (y : DataW H × List MemPlace) (h : DataW.trod enc Try.prog w base spare held n 55 cs = some y) : ∃ s : Sns, cs = s.cells ∧ s.wf := by
  obtain ⟨co, so, ki, qx, qy, bo, we, h1, w1, w2, w3, _⟩ := op_sns n cs y h
  have := bounds_u8 w3
  exact ⟨⟨co, so, ki, qx, qy, bo, we⟩, h1, wf_i64_bd w2, this.1, this.2⟩
theorem el_two2 {H : Type} {enc : TypeId × Value → H} {w : World} {base : Nat} {spare : Nat → Bool} {held : Bool} (n : Nat) (cs : List Value) (y : DataW H × List MemPlace) (h : DataW.trod enc Try.prog w base spare held n 56 cs = some y) : ∃ p : Int × Int, cs = er2 p ∧ (I64 p.1 ∧ I64 p.2) := by
  obtain ⟨a, b, h1, w1, w2⟩ := op_two n cs y h
  exact ⟨(a, b), h1, wf_i64_bd w1, wf_i64_bd w2⟩
set_option maxRecDepth 100000 in
theorem op_moment {H : Type} {enc : TypeId × Value → H} {w : World} {base : Nat} {spare : Nat → Bool} {held : Bool} (n : Nat) (cs : List Value) (y : DataW H × List MemPlace) (h : DataW.trod enc Try.prog w base spare held n 34 cs = some y) :
    ∃ (we : Int) (wn : Int) (E : Option Addr) (ne : Nat) (ce : Nat) (er : List (Int × Int)) (sve : Int) (svn : Int) (si : Int) (th : Bool) (st : Bool) (s0 : ByteArray) (s1 : ByteArray), cs = [.int .i64 we, .int .i64 wn, .slice E ne ce, .int .i64 sve, .int .i64 svn, .int .u16 si, .bool th, .bool st, .string s0, .string s1] ∧ (Lit.int .i64 we).wf = true ∧ (Lit.int .i64 wn).wf = true ∧ ne ≤ maxLen ∧ CapOk E ne ce ∧ Recs er2 2 w E ne er ∧ (∀ x ∈ er, (fun p : Int × Int => I64 p.1 ∧ I64 p.2) x) ∧ (Lit.int .i64 sve).wf = true ∧ (Lit.int .i64 svn).wf = true ∧ (Lit.int .u16 si).wf = true ∧ s0.size ≤ maxLen ∧ s1.size ≤ maxLen := by
  obtain ⟨xs, n', _, _, hlen, hx, hf⟩ := DataW.trod_struct Try.underlying34 h
  rw [show Try.prog.cellsOf 34 = 10 by kernel_rfl] at hlen
  match cs, hlen with
  | [c0, c1, c2, c3, c4, c5, c6, c7, c8, c9], _ =>
    have e0 : DataW.trod enc Try.prog w base spare held n' 29 [c0, c1] = xs[0]? := by
      have := hf 0 _ rfl
      first | exact this | (rw [show Try.prog.cellsOf 29 = 2 by kernel_rfl] at this; exact this)
    have i0 : 0 < xs.length := by first | omega | (rw [hx]; decide)
    rw [List.getElem?_eq_getElem i0] at e0
    obtain ⟨we, wn, h0, w0_0, w0_1⟩ := op_wi _ _ _ e0
    obtain ⟨rfl, rfl⟩ : c0 = .int .i64 we ∧ c1 = .int .i64 wn := by simpa using h0
    have e1 : DataW.trod enc Try.prog w base spare held n' 30 [c2] = xs[1]? := by
      have := hf 1 _ rfl
      first | exact this | (rw [show Try.prog.cellsOf 30 = 1 by kernel_rfl] at this; exact this)
    have i1 : 1 < xs.length := by first | omega | (rw [hx]; decide)
    rw [List.getElem?_eq_getElem i1] at e1
    obtain ⟨E, ne, ce, er, rfl, w1a, w1b, w1c, w1d, _⟩ := open_recs er2 2 (by decide) (fun _ => rfl) (fun p : Int × Int => I64 p.1 ∧ I64 p.2) Try.underlying30 (by kernel_rfl) el_two2 e1
    have e2 : DataW.trod enc Try.prog w base spare held n' 25 [c3, c4] = xs[2]? := by
      have := hf 2 _ rfl
      first | exact this | (rw [show Try.prog.cellsOf 25 = 2 by kernel_rfl] at this; exact this)
    have i2 : 2 < xs.length := by first | omega | (rw [hx]; decide)
    rw [List.getElem?_eq_getElem i2] at e2
    obtain ⟨sve, svn, h2, w2_0, w2_1⟩ := op_ve _ _ _ e2
    obtain ⟨rfl, rfl⟩ : c3 = .int .i64 sve ∧ c4 = .int .i64 svn := by simpa using h2
    have e3 : DataW.trod enc Try.prog w base spare held n' 31 [c5] = xs[3]? := by
      have := hf 3 _ rfl
      first | exact this | (rw [show Try.prog.cellsOf 31 = 1 by kernel_rfl] at this; exact this)
    have i3 : 3 < xs.length := by first | omega | (rw [hx]; decide)
    rw [List.getElem?_eq_getElem i3] at e3
    obtain ⟨si, h3, w3⟩ := el_int (k := .u16) Try.underlying31 _ _ _ e3
    obtain rfl : c5 = .int .u16 si := by injection h3
    have e4 : DataW.trod enc Try.prog w base spare held n' 4 [c6] = xs[4]? := by
      have := hf 4 _ rfl
      first | exact this | (rw [show Try.prog.cellsOf 4 = 1 by kernel_rfl] at this; exact this)
    have i4 : 4 < xs.length := by first | omega | (rw [hx]; decide)
    rw [List.getElem?_eq_getElem i4] at e4
    obtain ⟨th, h4, _⟩ := DataW.trod_bool Try.underlying4 e4
    obtain rfl : c6 = .bool th := by injection h4
    have e5 : DataW.trod enc Try.prog w base spare held n' 4 [c7] = xs[5]? := by
      have := hf 5 _ rfl
      first | exact this | (rw [show Try.prog.cellsOf 4 = 1 by kernel_rfl] at this; exact this)
    have i5 : 5 < xs.length := by first | omega | (rw [hx]; decide)
    rw [List.getElem?_eq_getElem i5] at e5
    obtain ⟨st, h5, _⟩ := DataW.trod_bool Try.underlying4 e5
    obtain rfl : c7 = .bool st := by injection h5
    have e6 : DataW.trod enc Try.prog w base spare held n' 32 [c8, c9] = xs[6]? := by
      have := hf 6 _ rfl
      first | exact this | (rw [show Try.prog.cellsOf 32 = 2 by kernel_rfl] at this; exact this)
    have i6 : 6 < xs.length := by first | omega | (rw [hx]; decide)
    rw [List.getElem?_eq_getElem i6] at e6
    obtain ⟨s0, s1, h6, w6_0, w6_1⟩ := op_cmds _ _ _ e6
    obtain ⟨rfl, rfl⟩ : c8 = .string s0 ∧ c9 = .string s1 := by simpa using h6
    exact ⟨we, wn, E, ne, ce, er, sve, svn, si, th, st, s0, s1, rfl, w0_0, w0_1, w1a, w1b, w1c, w1d, w2_0, w2_1, w3, w6_0, w6_1⟩
end Go.Proofs.Ytkomooeohlcnaaa
