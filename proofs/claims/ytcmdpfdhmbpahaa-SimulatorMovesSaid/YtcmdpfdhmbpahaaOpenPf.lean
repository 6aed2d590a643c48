/- Performance tables among the arguments. -/
import Derived.Test.YtcmdpfdhmbpahaaPeRow
import Derived.Test.YtcmdpfdhmbpahaaFxOps
import Derived.Test.YtcmdpfdhmbpahaaOpen
namespace Go.Proofs.Ytcmdpfdhmbpahaa
set_option linter.unusedSimpArgs false
set_option linter.unusedVariables false
open Go.RowKit Go.ChangeShapes Go.WideShapes Go.Deep
def rowOk (w : World) (r : Row) : Prop := Ints w r.A r.n r.l ∧ r.n ≤ maxLen
theorem el_row {H : Type} {enc : TypeId × Value → H} {w : World} {base : Nat} {spare : Nat → Bool} {held : Bool} (n : Nat) (cs : List Value) (y : DataW H × List MemPlace) (h : DataW.trod enc Try.prog w base spare held n 38 cs = some y) : ∃ r : Row, cs = r.cells ∧ rowOk w r := by
  obtain ⟨v, rfl⟩ : ∃ v, cs = [v] := by
    rcases open_slice Try.underlying38 h with ⟨hc, _⟩ | ⟨a, len, cap, m, fu, D, Pl, hc, _⟩
    · exact ⟨_, hc⟩
    · exact ⟨_, hc⟩
  obtain ⟨A, n, c, xs, rfl, h1, h2, h3, h4, _⟩ := open_ints_arg Try.underlying38 Try.underlying2 (by kernel_rfl) h
  exact ⟨⟨A, n, c, xs⟩, rfl, h3, h1⟩
set_option maxRecDepth 100000 in
theorem op_perf {H : Type} {enc : TypeId × Value → H} {w : World} {base : Nat} {spare : Nat → Bool} {held : Bool} (n : Nat) (cs : List Value) (y : DataW H × List MemPlace) (h : DataW.trod enc Try.prog w base spare held n 41 cs = some y) :
    ∃ (nm : ByteArray) (em : Int) (mf : Int) (alA : Option Addr) (aln : Nat) (alc : Nat) (alx : List Int) (msA : Option Addr) (msn : Nat) (msc : Nat) (msx : List Int) (clA : Option Addr) (cln : Nat) (clc : Nat) (clx : List Row) (cfA : Option Addr) (cfn : Nat) (cfc : Nat) (cfx : List Row) (crA : Option Addr) (crn : Nat) (crc : Nat) (crx : List Row) (deA : Option Addr) (den : Nat) (dec : Nat) (dex : List Int) (idA : Option Addr) (idn : Nat) (idc : Nat) (idx : List Int) (mxA : Option Addr) (mxn : Nat) (mxc : Nat) (mxx : List Int) (mnA : Option Addr) (mnn : Nat) (mnc : Nat) (mnx : List Int) (rf : Int) (ex : Int) (ce : Int), cs = [.string nm, .int .i64 em, .int .i64 mf, .slice alA aln alc, .slice msA msn msc, .slice clA cln clc, .slice cfA cfn cfc, .slice crA crn crc, .slice deA den dec, .slice idA idn idc, .slice mxA mxn mxc, .slice mnA mnn mnc, .int .i64 rf, .int .i64 ex, .int .i64 ce] ∧ nm.size ≤ maxLen ∧ (Lit.int .i64 em).wf = true ∧ (Lit.int .i64 mf).wf = true ∧ aln ≤ maxLen ∧ CapOk alA aln alc ∧ Ints w alA aln alx ∧ (∀ x ∈ alx, (Lit.int .i64 x).wf = true) ∧ msn ≤ maxLen ∧ CapOk msA msn msc ∧ Ints w msA msn msx ∧ (∀ x ∈ msx, (Lit.int .i64 x).wf = true) ∧ cln ≤ maxLen ∧ CapOk clA cln clc ∧ Recs Row.cells 1 w clA cln clx ∧ (∀ x ∈ clx, rowOk w x) ∧ cfn ≤ maxLen ∧ CapOk cfA cfn cfc ∧ Recs Row.cells 1 w cfA cfn cfx ∧ (∀ x ∈ cfx, rowOk w x) ∧ crn ≤ maxLen ∧ CapOk crA crn crc ∧ Recs Row.cells 1 w crA crn crx ∧ (∀ x ∈ crx, rowOk w x) ∧ den ≤ maxLen ∧ CapOk deA den dec ∧ Ints w deA den dex ∧ (∀ x ∈ dex, (Lit.int .i64 x).wf = true) ∧ idn ≤ maxLen ∧ CapOk idA idn idc ∧ Ints w idA idn idx ∧ (∀ x ∈ idx, (Lit.int .i64 x).wf = true) ∧ mxn ≤ maxLen ∧ CapOk mxA mxn mxc ∧ Ints w mxA mxn mxx ∧ (∀ x ∈ mxx, (Lit.int .i64 x).wf = true) ∧ mnn ≤ maxLen ∧ CapOk mnA mnn mnc ∧ Ints w mnA mnn mnx ∧ (∀ x ∈ mnx, (Lit.int .i64 x).wf = true) ∧ (Lit.int .i64 rf).wf = true ∧ (Lit.int .i64 ex).wf = true ∧ (Lit.int .i64 ce).wf = true := by
  obtain ⟨xs, n', _, _, hlen, hx, hf⟩ := DataW.trod_struct Try.underlying41 h
  rw [show Try.prog.cellsOf 41 = 15 by kernel_rfl] at hlen
  match cs, hlen with
  | [c0, c1, c2, c3, c4, c5, c6, c7, c8, c9, c10, c11, c12, c13, c14], _ =>
    have e0 : DataW.trod enc Try.prog w base spare held n' 9 [c0] = xs[0]? := by
      have := hf 0 _ rfl
      first | exact this | (rw [show Try.prog.cellsOf 9 = 1 by kernel_rfl] at this; exact this)
    have i0 : 0 < xs.length := by first | omega | (rw [hx]; decide)
    rw [List.getElem?_eq_getElem i0] at e0
    obtain ⟨nm, h0, _, w0⟩ := DataW.trod_string Try.underlying9 e0
    obtain rfl : c0 = .string nm := by injection h0
    have e1 : DataW.trod enc Try.prog w base spare held n' 2 [c1] = xs[1]? := by
      have := hf 1 _ rfl
      first | exact this | (rw [show Try.prog.cellsOf 2 = 1 by kernel_rfl] at this; exact this)
    have i1 : 1 < xs.length := by first | omega | (rw [hx]; decide)
    rw [List.getElem?_eq_getElem i1] at e1
    obtain ⟨em, h1, w1⟩ := el_int (k := .i64) Try.underlying2 _ _ _ e1
    obtain rfl : c1 = .int .i64 em := by injection h1
    have e2 : DataW.trod enc Try.prog w base spare held n' 2 [c2] = xs[2]? := by
      have := hf 2 _ rfl
      first | exact this | (rw [show Try.prog.cellsOf 2 = 1 by kernel_rfl] at this; exact this)
    have i2 : 2 < xs.length := by first | omega | (rw [hx]; decide)
    rw [List.getElem?_eq_getElem i2] at e2
    obtain ⟨mf, h2, w2⟩ := el_int (k := .i64) Try.underlying2 _ _ _ e2
    obtain rfl : c2 = .int .i64 mf := by injection h2
    have e3 : DataW.trod enc Try.prog w base spare held n' 38 [c3] = xs[3]? := by
      have := hf 3 _ rfl
      first | exact this | (rw [show Try.prog.cellsOf 38 = 1 by kernel_rfl] at this; exact this)
    have i3 : 3 < xs.length := by first | omega | (rw [hx]; decide)
    rw [List.getElem?_eq_getElem i3] at e3
    obtain ⟨alA, aln, alc, alx, rfl, w3a, w3b, w3c, w3d, _⟩ := open_ints_arg Try.underlying38 Try.underlying2 (by kernel_rfl) e3
    have e4 : DataW.trod enc Try.prog w base spare held n' 38 [c4] = xs[4]? := by
      have := hf 4 _ rfl
      first | exact this | (rw [show Try.prog.cellsOf 38 = 1 by kernel_rfl] at this; exact this)
    have i4 : 4 < xs.length := by first | omega | (rw [hx]; decide)
    rw [List.getElem?_eq_getElem i4] at e4
    obtain ⟨msA, msn, msc, msx, rfl, w4a, w4b, w4c, w4d, _⟩ := open_ints_arg Try.underlying38 Try.underlying2 (by kernel_rfl) e4
    have e5 : DataW.trod enc Try.prog w base spare held n' 39 [c5] = xs[5]? := by
      have := hf 5 _ rfl
      first | exact this | (rw [show Try.prog.cellsOf 39 = 1 by kernel_rfl] at this; exact this)
    have i5 : 5 < xs.length := by first | omega | (rw [hx]; decide)
    rw [List.getElem?_eq_getElem i5] at e5
    obtain ⟨clA, cln, clc, clx, rfl, w5a, w5b, w5c, w5d, _⟩ := open_recs Row.cells 1 (by decide) (fun _ => rfl) (rowOk w) Try.underlying39 (by kernel_rfl) el_row e5
    have e6 : DataW.trod enc Try.prog w base spare held n' 39 [c6] = xs[6]? := by
      have := hf 6 _ rfl
      first | exact this | (rw [show Try.prog.cellsOf 39 = 1 by kernel_rfl] at this; exact this)
    have i6 : 6 < xs.length := by first | omega | (rw [hx]; decide)
    rw [List.getElem?_eq_getElem i6] at e6
    obtain ⟨cfA, cfn, cfc, cfx, rfl, w6a, w6b, w6c, w6d, _⟩ := open_recs Row.cells 1 (by decide) (fun _ => rfl) (rowOk w) Try.underlying39 (by kernel_rfl) el_row e6
    have e7 : DataW.trod enc Try.prog w base spare held n' 39 [c7] = xs[7]? := by
      have := hf 7 _ rfl
      first | exact this | (rw [show Try.prog.cellsOf 39 = 1 by kernel_rfl] at this; exact this)
    have i7 : 7 < xs.length := by first | omega | (rw [hx]; decide)
    rw [List.getElem?_eq_getElem i7] at e7
    obtain ⟨crA, crn, crc, crx, rfl, w7a, w7b, w7c, w7d, _⟩ := open_recs Row.cells 1 (by decide) (fun _ => rfl) (rowOk w) Try.underlying39 (by kernel_rfl) el_row e7
    have e8 : DataW.trod enc Try.prog w base spare held n' 38 [c8] = xs[8]? := by
      have := hf 8 _ rfl
      first | exact this | (rw [show Try.prog.cellsOf 38 = 1 by kernel_rfl] at this; exact this)
    have i8 : 8 < xs.length := by first | omega | (rw [hx]; decide)
    rw [List.getElem?_eq_getElem i8] at e8
    obtain ⟨deA, den, dec, dex, rfl, w8a, w8b, w8c, w8d, _⟩ := open_ints_arg Try.underlying38 Try.underlying2 (by kernel_rfl) e8
    have e9 : DataW.trod enc Try.prog w base spare held n' 38 [c9] = xs[9]? := by
      have := hf 9 _ rfl
      first | exact this | (rw [show Try.prog.cellsOf 38 = 1 by kernel_rfl] at this; exact this)
    have i9 : 9 < xs.length := by first | omega | (rw [hx]; decide)
    rw [List.getElem?_eq_getElem i9] at e9
    obtain ⟨idA, idn, idc, idx, rfl, w9a, w9b, w9c, w9d, _⟩ := open_ints_arg Try.underlying38 Try.underlying2 (by kernel_rfl) e9
    have e10 : DataW.trod enc Try.prog w base spare held n' 38 [c10] = xs[10]? := by
      have := hf 10 _ rfl
      first | exact this | (rw [show Try.prog.cellsOf 38 = 1 by kernel_rfl] at this; exact this)
    have i10 : 10 < xs.length := by first | omega | (rw [hx]; decide)
    rw [List.getElem?_eq_getElem i10] at e10
    obtain ⟨mxA, mxn, mxc, mxx, rfl, w10a, w10b, w10c, w10d, _⟩ := open_ints_arg Try.underlying38 Try.underlying2 (by kernel_rfl) e10
    have e11 : DataW.trod enc Try.prog w base spare held n' 38 [c11] = xs[11]? := by
      have := hf 11 _ rfl
      first | exact this | (rw [show Try.prog.cellsOf 38 = 1 by kernel_rfl] at this; exact this)
    have i11 : 11 < xs.length := by first | omega | (rw [hx]; decide)
    rw [List.getElem?_eq_getElem i11] at e11
    obtain ⟨mnA, mnn, mnc, mnx, rfl, w11a, w11b, w11c, w11d, _⟩ := open_ints_arg Try.underlying38 Try.underlying2 (by kernel_rfl) e11
    have e12 : DataW.trod enc Try.prog w base spare held n' 2 [c12] = xs[12]? := by
      have := hf 12 _ rfl
      first | exact this | (rw [show Try.prog.cellsOf 2 = 1 by kernel_rfl] at this; exact this)
    have i12 : 12 < xs.length := by first | omega | (rw [hx]; decide)
    rw [List.getElem?_eq_getElem i12] at e12
    obtain ⟨rf, h12, w12⟩ := el_int (k := .i64) Try.underlying2 _ _ _ e12
    obtain rfl : c12 = .int .i64 rf := by injection h12
    have e13 : DataW.trod enc Try.prog w base spare held n' 2 [c13] = xs[13]? := by
      have := hf 13 _ rfl
      first | exact this | (rw [show Try.prog.cellsOf 2 = 1 by kernel_rfl] at this; exact this)
    have i13 : 13 < xs.length := by first | omega | (rw [hx]; decide)
    rw [List.getElem?_eq_getElem i13] at e13
    obtain ⟨ex, h13, w13⟩ := el_int (k := .i64) Try.underlying2 _ _ _ e13
    obtain rfl : c13 = .int .i64 ex := by injection h13
    have e14 : DataW.trod enc Try.prog w base spare held n' 2 [c14] = xs[14]? := by
      have := hf 14 _ rfl
      first | exact this | (rw [show Try.prog.cellsOf 2 = 1 by kernel_rfl] at this; exact this)
    have i14 : 14 < xs.length := by first | omega | (rw [hx]; decide)
    rw [List.getElem?_eq_getElem i14] at e14
    obtain ⟨ce, h14, w14⟩ := el_int (k := .i64) Try.underlying2 _ _ _ e14
    obtain rfl : c14 = .int .i64 ce := by injection h14
    exact ⟨nm, em, mf, alA, aln, alc, alx, msA, msn, msc, msx, clA, cln, clc, clx, cfA, cfn, cfc, cfx, crA, crn, crc, crx, deA, den, dec, dex, idA, idn, idc, idx, mxA, mxn, mxc, mxx, mnA, mnn, mnc, mnx, rf, ex, ce, rfl, w0, w1, w2, w3a, w3b, w3c, w3d, w4a, w4b, w4c, w4d, w5a, w5b, w5c, w5d, w6a, w6b, w6c, w6d, w7a, w7b, w7c, w7d, w8a, w8b, w8c, w8d, w9a, w9b, w9c, w9d, w10a, w10b, w10c, w10d, w11a, w11b, w11c, w11d, w12, w13, w14⟩
theorem op_prf {H : Type} {enc : TypeId × Value → H} {w : World} {base : Nat} {spare : Nat → Bool} {held : Bool} (n : Nat) (cs : List Value) (y : DataW H × List MemPlace) (h : DataW.trod enc Try.prog w base spare held n 41 cs = some y) :
    ∃ p : Prf, cs = p.cells ∧ p.lies w ∧ p.ok ∧ (I64 p.em ∧ I64 p.mf ∧ I64 p.rf ∧ I64 p.ex ∧ I64 p.ce) := by
  obtain ⟨nm, em, mf, alA, aln, alc, alx, msA, msn, msc, msx, clA, cln, clc, clx, cfA, cfn, cfc, cfx, crA, crn, crc, crx, deA, den, dec, dex, idA, idn, idc, idx, mxA, mxn, mxc, mxx, mnA, mnn, mnc, mnx, rf, ex, ce, h1, f0, f1, f2, f3, f4, f5, f6, f7, f8, f9, f10, f11, f12, f13, f14, f15, f16, f17, f18, f19, f20, f21, f22, f23, f24, f25, f26, f27, f28, f29, f30, f31, f32, f33, f34, f35, f36, f37, f38, f39, f40, f41⟩ := op_perf n cs y h
  exact ⟨⟨nm, em, mf, ⟨alA, aln, alc⟩, ⟨msA, msn, msc⟩, ⟨clA, cln, clc⟩, ⟨cfA, cfn, cfc⟩, ⟨crA, crn, crc⟩, ⟨deA, den, dec⟩, ⟨idA, idn, idc⟩, ⟨mxA, mxn, mxc⟩, ⟨mnA, mnn, mnc⟩, rf, ex, ce, alx, msx, clx, cfx, crx, dex, idx, mxx, mnx⟩, h1, ⟨f5, f9, ⟨f13, fun r hr => (f14 r hr).1⟩, ⟨f17, fun r hr => (f18 r hr).1⟩, ⟨f21, fun r hr => (f22 r hr).1⟩, f25, f29, f33, f37⟩,
    ⟨f0, f3, f7, f11, f15, f19, f23, f27, f31, f35, fun r hr => (f14 r hr).2, fun r hr => (f18 r hr).2, fun r hr => (f22 r hr).2⟩, wf_i64_bd f1, wf_i64_bd f2, wf_i64_bd f39, wf_i64_bd f40, wf_i64_bd f41⟩
end Go.Proofs.Ytcmdpfdhmbpahaa
