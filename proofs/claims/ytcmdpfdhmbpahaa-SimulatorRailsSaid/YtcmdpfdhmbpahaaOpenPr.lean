/- What is read of a prediction among the arguments. -/
import Derived.Test.YtcmdpfdhmbpahaaOpen
import Derived.Test.YtcmdpfdhmbpahaaPassT
import Derived.Test.YtcmdpfdhmbpahaaFxOps
namespace Go.Proofs.Ytcmdpfdhmbpahaa
set_option linter.unusedSimpArgs false
set_option linter.unusedVariables false
open Go.RowKit Go.ChangeShapes Go.WideShapes Go.Deep

instance : Inhabited Pass := ⟨⟨0, 0, 0, 0, 0, 0, 0, 0, 0, 0, 0, 0, 0⟩⟩
set_option maxRecDepth 100000 in
theorem el_pass {H : Type} {enc : TypeId × Value → H} {w : World} {base : Nat} {spare : Nat → Bool} {held : Bool} (n : Nat) (cs : List Value) (y : DataW H × List MemPlace) (h : DataW.trod enc Try.prog w base spare held n 101 cs = some y) :
    ∃ alt cas tas ground tick fuel gl gh tl th fl fh phase : Int, cs = [.int .i64 alt, .int .i64 cas, .int .i64 tas, .int .i64 ground, .int .i64 tick, .int .i64 fuel, .int .i64 gl, .int .i64 gh, .int .i64 tl, .int .i64 th, .int .i64 fl, .int .i64 fh, .int .u8 phase] ∧ (Lit.int .i64 alt).wf = true ∧ (Lit.int .i64 cas).wf = true ∧ (Lit.int .i64 tas).wf = true ∧ (Lit.int .i64 ground).wf = true ∧ (Lit.int .i64 tick).wf = true ∧ (Lit.int .i64 fuel).wf = true ∧ (Lit.int .i64 gl).wf = true ∧ (Lit.int .i64 gh).wf = true ∧ (Lit.int .i64 tl).wf = true ∧ (Lit.int .i64 th).wf = true ∧ (Lit.int .i64 fl).wf = true ∧ (Lit.int .i64 fh).wf = true ∧ (Lit.int .u8 phase).wf = true := by
  obtain ⟨xs, n', _, _, hl, hx, hf⟩ := DataW.trod_struct Try.underlying101 h
  rw [show Try.prog.cellsOf 101 = 13 by kernel_rfl] at hl
  have e0 : DataW.trod enc Try.prog w base spare held n' 2 ((cs.drop 0).take (Try.prog.cellsOf 2)) = xs[0]? := hf 0 _ rfl
  rw [show Try.prog.cellsOf 2 = 1 by kernel_rfl] at e0
  obtain ⟨alt, halt, walt⟩ := int_field (i := 0) Try.underlying2 (by rw [hx]; decide) e0
  have e1 : DataW.trod enc Try.prog w base spare held n' 2 ((cs.drop 1).take (Try.prog.cellsOf 2)) = xs[1]? := hf 1 _ rfl
  rw [show Try.prog.cellsOf 2 = 1 by kernel_rfl] at e1
  obtain ⟨cas, hcas, wcas⟩ := int_field (i := 1) Try.underlying2 (by rw [hx]; decide) e1
  have e2 : DataW.trod enc Try.prog w base spare held n' 2 ((cs.drop 2).take (Try.prog.cellsOf 2)) = xs[2]? := hf 2 _ rfl
  rw [show Try.prog.cellsOf 2 = 1 by kernel_rfl] at e2
  obtain ⟨tas, htas, wtas⟩ := int_field (i := 2) Try.underlying2 (by rw [hx]; decide) e2
  have e3 : DataW.trod enc Try.prog w base spare held n' 2 ((cs.drop 3).take (Try.prog.cellsOf 2)) = xs[3]? := hf 3 _ rfl
  rw [show Try.prog.cellsOf 2 = 1 by kernel_rfl] at e3
  obtain ⟨ground, hground, wground⟩ := int_field (i := 3) Try.underlying2 (by rw [hx]; decide) e3
  have e4 : DataW.trod enc Try.prog w base spare held n' 2 ((cs.drop 4).take (Try.prog.cellsOf 2)) = xs[4]? := hf 4 _ rfl
  rw [show Try.prog.cellsOf 2 = 1 by kernel_rfl] at e4
  obtain ⟨tick, htick, wtick⟩ := int_field (i := 4) Try.underlying2 (by rw [hx]; decide) e4
  have e5 : DataW.trod enc Try.prog w base spare held n' 2 ((cs.drop 5).take (Try.prog.cellsOf 2)) = xs[5]? := hf 5 _ rfl
  rw [show Try.prog.cellsOf 2 = 1 by kernel_rfl] at e5
  obtain ⟨fuel, hfuel, wfuel⟩ := int_field (i := 5) Try.underlying2 (by rw [hx]; decide) e5
  have e6 : DataW.trod enc Try.prog w base spare held n' 99 ((cs.drop 6).take (Try.prog.cellsOf 99)) = xs[6]? := hf 6 _ rfl
  rw [show Try.prog.cellsOf 99 = 2 by kernel_rfl] at e6
  obtain ⟨gl, gh, hgl, wgl, wgh⟩ := two_field (i := 6) Try.underlying99 Try.underlying2 rfl rfl rfl rfl (by kernel_rfl) (by kernel_rfl) (by rw [hx]; decide) e6
  have e7 : DataW.trod enc Try.prog w base spare held n' 99 ((cs.drop 8).take (Try.prog.cellsOf 99)) = xs[7]? := hf 7 _ rfl
  rw [show Try.prog.cellsOf 99 = 2 by kernel_rfl] at e7
  obtain ⟨tl, th, htl, wtl, wth⟩ := two_field (i := 7) Try.underlying99 Try.underlying2 rfl rfl rfl rfl (by kernel_rfl) (by kernel_rfl) (by rw [hx]; decide) e7
  have e8 : DataW.trod enc Try.prog w base spare held n' 99 ((cs.drop 10).take (Try.prog.cellsOf 99)) = xs[8]? := hf 8 _ rfl
  rw [show Try.prog.cellsOf 99 = 2 by kernel_rfl] at e8
  obtain ⟨fl, fh, hfl, wfl, wfh⟩ := two_field (i := 8) Try.underlying99 Try.underlying2 rfl rfl rfl rfl (by kernel_rfl) (by kernel_rfl) (by rw [hx]; decide) e8
  have e9 : DataW.trod enc Try.prog w base spare held n' 5 ((cs.drop 12).take (Try.prog.cellsOf 5)) = xs[9]? := hf 9 _ rfl
  rw [show Try.prog.cellsOf 5 = 1 by kernel_rfl] at e9
  obtain ⟨phase, hphase, wphase⟩ := int_field (i := 9) Try.underlying5 (by rw [hx]; decide) e9
  match cs, hl with
  | [c0, c1, c2, c3, c4, c5, c6, c7, c8, c9, c10, c11, c12], _ =>
    simp at halt hcas htas hground htick hfuel hgl htl hfl hphase
    simp only [halt, hcas, htas, hground, htick, hfuel, hgl, htl, hfl, hphase]
    exact ⟨alt, cas, tas, ground, tick, fuel, gl, gh, tl, th, fl, fh, phase, rfl, walt, wcas, wtas, wground, wtick, wfuel, wgl, wgh, wtl, wth, wfl, wfh, wphase⟩

def Pass.wf (p : Pass) : Prop := I64 p.alt ∧ I64 p.cas ∧ I64 p.ground ∧ I64 p.tick
set_option maxRecDepth 100000 in
theorem open_pred {H : Type} {enc : TypeId × Value → H} {w : World} {base : Nat} {spare : Nat → Bool} {held : Bool} {r : Reach} {b0 : Nat} {v : Value} {d : DataW H} {p : List MemPlace}
    (hv : Value.okWide Try.prog w r b0 69 v) (h : DataW.Trod enc Try.prog w base spare held 69 v d p) (hw : ∀ q ∈ d.weights Try.prog 69, q ≤ reachBytes) :
    ∃ (A : Option Addr) (n c : Nat) (ps : List Pass) (x y z : Value), v = .agg #[.slice A n c, x, y, z] ∧ Passes w A n ps ∧ n * 104 ≤ reachBytes ∧ ∀ q ∈ ps, Pass.wf q := by
  obtain ⟨cs, fu, rfl, h2⟩ := open_agg_list Try.underlying69 hv h
  obtain ⟨xs, n', _, hxx, hl, hx, hf⟩ := DataW.trod_struct Try.underlying69 h2
  rw [show Try.prog.cellsOf 69 = 4 by kernel_rfl] at hl
  match cs, hl with
  | [c0, c1, c2, c3], _ =>
    have e0 : DataW.trod enc Try.prog w base spare held n' 65 (([c0, c1, c2, c3].drop 0).take (Try.prog.cellsOf 65)) = xs[0]? := hf 0 _ rfl
    rw [show Try.prog.cellsOf 65 = 1 by kernel_rfl] at e0
    have hi : 0 < xs.length := by rw [hx]; decide
    rw [List.getElem?_eq_getElem hi] at e0
    obtain ⟨A, n, c, ps, h1, h2, h3, h4, h5, h6⟩ := open_recs Pass.cells 13 (by decide) (fun _ => rfl) Pass.wf Try.underlying65 (by kernel_rfl) (fun n cs y hy => by
      obtain ⟨a0, a1, a2, a3, a4, a5, a6, a7, a8, a9, a10, a11, a12, rfl, w0, w1, w2, w3, w4, w5, _⟩ := el_pass n cs y hy
      exact ⟨⟨a0, a1, a2, a3, a4, a5, a6, a7, a8, a9, a10, a11, a12⟩, rfl, wf_i64_bd w0, wf_i64_bd w1, wf_i64_bd w3, wf_i64_bd w4⟩) e0
    subst h1
    refine ⟨A, n, c, ps, c1, c2, c3, rfl, h4, ?_, h5⟩
    have hd : d = .agg (xs.map (·.1)) := by injection hxx
    rw [hd] at hw
    have := h6 (weights_part (j := 0) Try.underlying69 hw rfl (by rw [List.getElem?_map, List.getElem?_eq_getElem hi]; rfl))
    rwa [show Try.prog.bytesOf 101 = 104 by kernel_rfl] at this
end Go.Proofs.Ytcmdpfdhmbpahaa
