/- The statement VerticalAlong: for every input the law returns true, and every argument reads afterwards as before. No condition. -/
import Derived.Test.YtgclfkgnkohgdaaRows
import Derived.Test.YtgclfkgnkohgdaaLaBase51
import Derived.Test.YtgclfkgnkohgdaaOpenP
import Derived.SizedLaws
import Derived.WalkKit
import Derived.ProofKit
import Derived.OpenShut
import Derived.ShutString
import Derived.ChangeOld
import Derived.Below
namespace Go.Proofs.Ytgclfkgnkohgdaa
set_option linter.unusedSimpArgs false
set_option linter.unusedVariables false
open Go.RowKit
theorem ret_tt {b : Bool} (h : b = true) : Ending.returned (.bool b) = .returned (.bool true) := by rw [h]
theorem el_spot {H : Type} {enc : TypeId × Value → H} {w : World} {base : Nat} {spare : Nat → Bool} {held : Bool} (n : Nat) (cs : List Value) (y : DataW H × List MemPlace) (h : DataW.trod enc Try.prog w base spare held n 45 cs = some y) :
    ∃ s g a l : Int, cs = [.int .i64 s, .int .i64 g, .int .i64 a, .int .i64 l] ∧ (Lit.int .i64 s).wf = true ∧ (Lit.int .i64 g).wf = true ∧ (Lit.int .i64 a).wf = true ∧ (Lit.int .i64 l).wf = true := by
  obtain ⟨xs, n', _, _, hlen, hx, hf⟩ := DataW.trod_struct Try.underlying45 h
  rw [show Try.prog.cellsOf 45 = 4 by kernel_rfl] at hlen
  have e0 : DataW.trod enc Try.prog w base spare held n' 2 ((cs.drop 0).take (Try.prog.cellsOf 2)) = xs[0]? := hf 0 _ rfl
  rw [show Try.prog.cellsOf 2 = 1 by kernel_rfl] at e0
  obtain ⟨s, hs, ws⟩ := int_field (i := 0) Try.underlying2 (by rw [hx]; decide) e0
  have e1 : DataW.trod enc Try.prog w base spare held n' 2 ((cs.drop 1).take (Try.prog.cellsOf 2)) = xs[1]? := hf 1 _ rfl
  rw [show Try.prog.cellsOf 2 = 1 by kernel_rfl] at e1
  obtain ⟨g, hg, wg⟩ := int_field (i := 1) Try.underlying2 (by rw [hx]; decide) e1
  have e2 : DataW.trod enc Try.prog w base spare held n' 2 ((cs.drop 2).take (Try.prog.cellsOf 2)) = xs[2]? := hf 2 _ rfl
  rw [show Try.prog.cellsOf 2 = 1 by kernel_rfl] at e2
  obtain ⟨a, ha, wa⟩ := int_field (i := 2) Try.underlying2 (by rw [hx]; decide) e2
  have e3 : DataW.trod enc Try.prog w base spare held n' 2 ((cs.drop 3).take (Try.prog.cellsOf 2)) = xs[3]? := hf 3 _ rfl
  rw [show Try.prog.cellsOf 2 = 1 by kernel_rfl] at e3
  obtain ⟨l, hl, wl⟩ := int_field (i := 3) Try.underlying2 (by rw [hx]; decide) e3
  match cs, hlen with
  | [c0, c1, c2, c3], _ =>
    simp at hs hg ha hl
    simp only [hs, hg, ha, hl]
    exact ⟨s, g, a, l, rfl, ws, wg, wa, wl⟩
set_option maxRecDepth 100000 in
set_option maxHeartbeats 4000000 in
theorem walk_VerticalAlong (A : Option Addr) (n c : Nat) (ps : List Pass) (x y z : Value) (D : Option Addr) (m cm : Nat) (d : List Int) (s g a l : Int) (w : World) (hp : Passes w A n ps) (hpw : ∀ q ∈ ps, Pass.wf q) (hps : n * 104 ≤ reachBytes)
    (hd : Ints w D m d) (hdw : ∀ x ∈ d, (Lit.int .i64 x).wf = true) (hm : m ≤ maxLen) (hm8 : m * 8 ≤ reachBytes) (ws : (Lit.int .i64 s).wf = true) (wg : (Lit.int .i64 g).wf = true) (wa : (Lit.int .i64 a).wf = true) (wl : (Lit.int .i64 l).wf = true) :
    Calls Try.prog 10 #[.agg #[.slice A n c, x, y, z], .slice D m cm, .agg #[.int .i64 s, .int .i64 g, .int .i64 a, .int .i64 l]] w fun e w' => e = .returned (.bool true) ∧ Below w.heap.size w w' := by
  have hn : n * 8 ≤ 140737488355328 := by unfold reachBytes at hps; omega
  have HP := Lib.hid hp
  have HD := Lib.hid hd
  have IS := Lib.hid (wf_i64_bd ws)
  have IG := Lib.hid (wf_i64_bd wg)
  have IA := Lib.hid (wf_i64_bd wa)
  have IL := Lib.hid (wf_i64_bd wl)
  clear hp hpw hps hd hdw hm8 ws wg wa wl
  go_enter Try.func10, Try.ntmps10
  go_wp2_with fail
  refine (awake_any _).mono ?_; rintro e w1 ⟨rfl, hbx⟩
  have k0 : w1.cell? ⟨w.heap.size, 0, none⟩ = some (.slice A n c) := (hbx.cell (p := ⟨w.heap.size, 0, none⟩) (by simp; try omega)).trans ((two_box w _ _ _ _).1 0)
  have k1 : w1.cell? ⟨w.heap.size, 1, none⟩ = some (x) := (hbx.cell (p := ⟨w.heap.size, 1, none⟩) (by simp; try omega)).trans ((two_box w _ _ _ _).1 1)
  have k2 : w1.cell? ⟨w.heap.size, 2, none⟩ = some (y) := (hbx.cell (p := ⟨w.heap.size, 2, none⟩) (by simp; try omega)).trans ((two_box w _ _ _ _).1 2)
  have k3 : w1.cell? ⟨w.heap.size, 3, none⟩ = some (z) := (hbx.cell (p := ⟨w.heap.size, 3, none⟩) (by simp; try omega)).trans ((two_box w _ _ _ _).1 3)
  have k4 : w1.cell? ⟨w.heap.size + 1, 0, none⟩ = some (.int .i64 s) := (hbx.cell (p := ⟨w.heap.size + 1, 0, none⟩) (by simp; try omega)).trans ((two_box w _ _ _ _).2 0)
  have k5 : w1.cell? ⟨w.heap.size + 1, 1, none⟩ = some (.int .i64 g) := (hbx.cell (p := ⟨w.heap.size + 1, 1, none⟩) (by simp; try omega)).trans ((two_box w _ _ _ _).2 1)
  have k6 : w1.cell? ⟨w.heap.size + 1, 2, none⟩ = some (.int .i64 a) := (hbx.cell (p := ⟨w.heap.size + 1, 2, none⟩) (by simp; try omega)).trans ((two_box w _ _ _ _).2 2)
  have k7 : w1.cell? ⟨w.heap.size + 1, 3, none⟩ = some (.int .i64 l) := (hbx.cell (p := ⟨w.heap.size + 1, 3, none⟩) (by simp; try omega)).trans ((two_box w _ _ _ _).2 3)
  have hlt : w.heap.size + 1 < w1.heap.size := by have := hbx.size; simp at this; omega
  have HW := Lib.hid (bel_alloc2 hbx)
  clear hbx
  go_wp2_with fail
  refine (xTarget A D n c m cm ps d s x y z w1 (HP.out.below HW.out) (HD.out.below HW.out) hn hm IS.out).mono ?_; rintro e w2 ⟨rfl, hbx⟩
  replace k0 : w2.cell? ⟨w.heap.size, 0, none⟩ = some (.slice A n c) := (hbx.cell (p := ⟨w.heap.size, 0, none⟩) (Nat.lt_of_succ_lt hlt)).trans k0
  replace k1 : w2.cell? ⟨w.heap.size, 1, none⟩ = some (x) := (hbx.cell (p := ⟨w.heap.size, 1, none⟩) (Nat.lt_of_succ_lt hlt)).trans k1
  replace k2 : w2.cell? ⟨w.heap.size, 2, none⟩ = some (y) := (hbx.cell (p := ⟨w.heap.size, 2, none⟩) (Nat.lt_of_succ_lt hlt)).trans k2
  replace k3 : w2.cell? ⟨w.heap.size, 3, none⟩ = some (z) := (hbx.cell (p := ⟨w.heap.size, 3, none⟩) (Nat.lt_of_succ_lt hlt)).trans k3
  replace k4 : w2.cell? ⟨w.heap.size + 1, 0, none⟩ = some (.int .i64 s) := (hbx.cell (p := ⟨w.heap.size + 1, 0, none⟩) hlt).trans k4
  replace k5 : w2.cell? ⟨w.heap.size + 1, 1, none⟩ = some (.int .i64 g) := (hbx.cell (p := ⟨w.heap.size + 1, 1, none⟩) hlt).trans k5
  replace k6 : w2.cell? ⟨w.heap.size + 1, 2, none⟩ = some (.int .i64 a) := (hbx.cell (p := ⟨w.heap.size + 1, 2, none⟩) hlt).trans k6
  replace k7 : w2.cell? ⟨w.heap.size + 1, 3, none⟩ = some (.int .i64 l) := (hbx.cell (p := ⟨w.heap.size + 1, 3, none⟩) hlt).trans k7
  replace hlt : w.heap.size + 1 < w2.heap.size := Nat.lt_of_lt_of_le hlt hbx.size
  replace HW := Lib.hid (bel_trans HW.out hbx)
  clear hbx
  go_wp2_with fail
  refine (rTarget A D n c m cm ps d s x y z w2 (HP.out.below HW.out) (HD.out.below HW.out) hn hm IS.out).mono ?_; rintro e w3 ⟨rfl, hbx⟩
  replace k0 : w3.cell? ⟨w.heap.size, 0, none⟩ = some (.slice A n c) := (hbx.cell (p := ⟨w.heap.size, 0, none⟩) (Nat.lt_of_succ_lt hlt)).trans k0
  replace k1 : w3.cell? ⟨w.heap.size, 1, none⟩ = some (x) := (hbx.cell (p := ⟨w.heap.size, 1, none⟩) (Nat.lt_of_succ_lt hlt)).trans k1
  replace k2 : w3.cell? ⟨w.heap.size, 2, none⟩ = some (y) := (hbx.cell (p := ⟨w.heap.size, 2, none⟩) (Nat.lt_of_succ_lt hlt)).trans k2
  replace k3 : w3.cell? ⟨w.heap.size, 3, none⟩ = some (z) := (hbx.cell (p := ⟨w.heap.size, 3, none⟩) (Nat.lt_of_succ_lt hlt)).trans k3
  replace k4 : w3.cell? ⟨w.heap.size + 1, 0, none⟩ = some (.int .i64 s) := (hbx.cell (p := ⟨w.heap.size + 1, 0, none⟩) hlt).trans k4
  replace k5 : w3.cell? ⟨w.heap.size + 1, 1, none⟩ = some (.int .i64 g) := (hbx.cell (p := ⟨w.heap.size + 1, 1, none⟩) hlt).trans k5
  replace k6 : w3.cell? ⟨w.heap.size + 1, 2, none⟩ = some (.int .i64 a) := (hbx.cell (p := ⟨w.heap.size + 1, 2, none⟩) hlt).trans k6
  replace k7 : w3.cell? ⟨w.heap.size + 1, 3, none⟩ = some (.int .i64 l) := (hbx.cell (p := ⟨w.heap.size + 1, 3, none⟩) hlt).trans k7
  replace hlt : w.heap.size + 1 < w3.heap.size := Nat.lt_of_lt_of_le hlt hbx.size
  replace HW := Lib.hid (bel_trans HW.out hbx)
  clear hbx
  generalize Pf.bwV (ps.map Pass.alt) d s = V1 at *
  generalize Pf.bwE (ps.map Pass.alt) d s = E1 at *
  go_wp2_with fail
  refine (xSpeed A D n c m cm ps d s x y z w3 (HP.out.below HW.out) (HD.out.below HW.out) hn hm IS.out).mono ?_; rintro e w4 ⟨rfl, hbx⟩
  replace k0 : w4.cell? ⟨w.heap.size, 0, none⟩ = some (.slice A n c) := (hbx.cell (p := ⟨w.heap.size, 0, none⟩) (Nat.lt_of_succ_lt hlt)).trans k0
  replace k1 : w4.cell? ⟨w.heap.size, 1, none⟩ = some (x) := (hbx.cell (p := ⟨w.heap.size, 1, none⟩) (Nat.lt_of_succ_lt hlt)).trans k1
  replace k2 : w4.cell? ⟨w.heap.size, 2, none⟩ = some (y) := (hbx.cell (p := ⟨w.heap.size, 2, none⟩) (Nat.lt_of_succ_lt hlt)).trans k2
  replace k3 : w4.cell? ⟨w.heap.size, 3, none⟩ = some (z) := (hbx.cell (p := ⟨w.heap.size, 3, none⟩) (Nat.lt_of_succ_lt hlt)).trans k3
  replace k4 : w4.cell? ⟨w.heap.size + 1, 0, none⟩ = some (.int .i64 s) := (hbx.cell (p := ⟨w.heap.size + 1, 0, none⟩) hlt).trans k4
  replace k5 : w4.cell? ⟨w.heap.size + 1, 1, none⟩ = some (.int .i64 g) := (hbx.cell (p := ⟨w.heap.size + 1, 1, none⟩) hlt).trans k5
  replace k6 : w4.cell? ⟨w.heap.size + 1, 2, none⟩ = some (.int .i64 a) := (hbx.cell (p := ⟨w.heap.size + 1, 2, none⟩) hlt).trans k6
  replace k7 : w4.cell? ⟨w.heap.size + 1, 3, none⟩ = some (.int .i64 l) := (hbx.cell (p := ⟨w.heap.size + 1, 3, none⟩) hlt).trans k7
  replace hlt : w.heap.size + 1 < w4.heap.size := Nat.lt_of_lt_of_le hlt hbx.size
  replace HW := Lib.hid (bel_trans HW.out hbx)
  clear hbx
  go_wp2_with fail
  refine (rSpeed A D n c m cm ps d s x y z w4 (HP.out.below HW.out) (HD.out.below HW.out) hn hm IS.out).mono ?_; rintro e w5 ⟨rfl, hbx⟩
  replace k0 : w5.cell? ⟨w.heap.size, 0, none⟩ = some (.slice A n c) := (hbx.cell (p := ⟨w.heap.size, 0, none⟩) (Nat.lt_of_succ_lt hlt)).trans k0
  replace k1 : w5.cell? ⟨w.heap.size, 1, none⟩ = some (x) := (hbx.cell (p := ⟨w.heap.size, 1, none⟩) (Nat.lt_of_succ_lt hlt)).trans k1
  replace k2 : w5.cell? ⟨w.heap.size, 2, none⟩ = some (y) := (hbx.cell (p := ⟨w.heap.size, 2, none⟩) (Nat.lt_of_succ_lt hlt)).trans k2
  replace k3 : w5.cell? ⟨w.heap.size, 3, none⟩ = some (z) := (hbx.cell (p := ⟨w.heap.size, 3, none⟩) (Nat.lt_of_succ_lt hlt)).trans k3
  replace k4 : w5.cell? ⟨w.heap.size + 1, 0, none⟩ = some (.int .i64 s) := (hbx.cell (p := ⟨w.heap.size + 1, 0, none⟩) hlt).trans k4
  replace k5 : w5.cell? ⟨w.heap.size + 1, 1, none⟩ = some (.int .i64 g) := (hbx.cell (p := ⟨w.heap.size + 1, 1, none⟩) hlt).trans k5
  replace k6 : w5.cell? ⟨w.heap.size + 1, 2, none⟩ = some (.int .i64 a) := (hbx.cell (p := ⟨w.heap.size + 1, 2, none⟩) hlt).trans k6
  replace k7 : w5.cell? ⟨w.heap.size + 1, 3, none⟩ = some (.int .i64 l) := (hbx.cell (p := ⟨w.heap.size + 1, 3, none⟩) hlt).trans k7
  replace hlt : w.heap.size + 1 < w5.heap.size := Nat.lt_of_lt_of_le hlt hbx.size
  replace HW := Lib.hid (bel_trans HW.out hbx)
  clear hbx
  generalize Pf.bwV (ps.map Pass.cas) d s = V2 at *
  generalize Pf.bwE (ps.map Pass.cas) d s = E2 at *
  go_wp2_with fail
  refine (xPath A D n c m cm ps d s g x y z w5 (HP.out.below HW.out) (HD.out.below HW.out) hn hm IS.out IG.out).mono ?_; rintro e w6 ⟨rfl, hbx⟩
  replace k0 : w6.cell? ⟨w.heap.size, 0, none⟩ = some (.slice A n c) := (hbx.cell (p := ⟨w.heap.size, 0, none⟩) (Nat.lt_of_succ_lt hlt)).trans k0
  replace k1 : w6.cell? ⟨w.heap.size, 1, none⟩ = some (x) := (hbx.cell (p := ⟨w.heap.size, 1, none⟩) (Nat.lt_of_succ_lt hlt)).trans k1
  replace k2 : w6.cell? ⟨w.heap.size, 2, none⟩ = some (y) := (hbx.cell (p := ⟨w.heap.size, 2, none⟩) (Nat.lt_of_succ_lt hlt)).trans k2
  replace k3 : w6.cell? ⟨w.heap.size, 3, none⟩ = some (z) := (hbx.cell (p := ⟨w.heap.size, 3, none⟩) (Nat.lt_of_succ_lt hlt)).trans k3
  replace k4 : w6.cell? ⟨w.heap.size + 1, 0, none⟩ = some (.int .i64 s) := (hbx.cell (p := ⟨w.heap.size + 1, 0, none⟩) hlt).trans k4
  replace k5 : w6.cell? ⟨w.heap.size + 1, 1, none⟩ = some (.int .i64 g) := (hbx.cell (p := ⟨w.heap.size + 1, 1, none⟩) hlt).trans k5
  replace k6 : w6.cell? ⟨w.heap.size + 1, 2, none⟩ = some (.int .i64 a) := (hbx.cell (p := ⟨w.heap.size + 1, 2, none⟩) hlt).trans k6
  replace k7 : w6.cell? ⟨w.heap.size + 1, 3, none⟩ = some (.int .i64 l) := (hbx.cell (p := ⟨w.heap.size + 1, 3, none⟩) hlt).trans k7
  replace hlt : w.heap.size + 1 < w6.heap.size := Nat.lt_of_lt_of_le hlt hbx.size
  replace HW := Lib.hid (bel_trans HW.out hbx)
  clear hbx
  go_wp2_with fail
  refine (rPath A D n c m cm ps d s g x y z w6 (HP.out.below HW.out) (HD.out.below HW.out) hn hm IS.out IG.out).mono ?_; rintro e w7 ⟨rfl, hbx⟩
  replace k0 : w7.cell? ⟨w.heap.size, 0, none⟩ = some (.slice A n c) := (hbx.cell (p := ⟨w.heap.size, 0, none⟩) (Nat.lt_of_succ_lt hlt)).trans k0
  replace k1 : w7.cell? ⟨w.heap.size, 1, none⟩ = some (x) := (hbx.cell (p := ⟨w.heap.size, 1, none⟩) (Nat.lt_of_succ_lt hlt)).trans k1
  replace k2 : w7.cell? ⟨w.heap.size, 2, none⟩ = some (y) := (hbx.cell (p := ⟨w.heap.size, 2, none⟩) (Nat.lt_of_succ_lt hlt)).trans k2
  replace k3 : w7.cell? ⟨w.heap.size, 3, none⟩ = some (z) := (hbx.cell (p := ⟨w.heap.size, 3, none⟩) (Nat.lt_of_succ_lt hlt)).trans k3
  replace k4 : w7.cell? ⟨w.heap.size + 1, 0, none⟩ = some (.int .i64 s) := (hbx.cell (p := ⟨w.heap.size + 1, 0, none⟩) hlt).trans k4
  replace k5 : w7.cell? ⟨w.heap.size + 1, 1, none⟩ = some (.int .i64 g) := (hbx.cell (p := ⟨w.heap.size + 1, 1, none⟩) hlt).trans k5
  replace k6 : w7.cell? ⟨w.heap.size + 1, 2, none⟩ = some (.int .i64 a) := (hbx.cell (p := ⟨w.heap.size + 1, 2, none⟩) hlt).trans k6
  replace k7 : w7.cell? ⟨w.heap.size + 1, 3, none⟩ = some (.int .i64 l) := (hbx.cell (p := ⟨w.heap.size + 1, 3, none⟩) hlt).trans k7
  replace hlt : w.heap.size + 1 < w7.heap.size := Nat.lt_of_lt_of_le hlt hbx.size
  replace HW := Lib.hid (bel_trans HW.out hbx)
  clear hbx
  generalize Vt.ptV (ps.map Pass.alt) d s g = V3 at *
  generalize Vt.ptE (ps.map Pass.alt) d s g = E3 at *
  go_wp2_with fail
  refine (xSteer A D n c m cm ps d s g a l x y z w7 (HP.out.below HW.out) (HD.out.below HW.out) hn hm IS.out IG.out IA.out IL.out).mono ?_; rintro e w8 ⟨rfl, hbx⟩
  replace k0 : w8.cell? ⟨w.heap.size, 0, none⟩ = some (.slice A n c) := (hbx.cell (p := ⟨w.heap.size, 0, none⟩) (Nat.lt_of_succ_lt hlt)).trans k0
  replace k1 : w8.cell? ⟨w.heap.size, 1, none⟩ = some (x) := (hbx.cell (p := ⟨w.heap.size, 1, none⟩) (Nat.lt_of_succ_lt hlt)).trans k1
  replace k2 : w8.cell? ⟨w.heap.size, 2, none⟩ = some (y) := (hbx.cell (p := ⟨w.heap.size, 2, none⟩) (Nat.lt_of_succ_lt hlt)).trans k2
  replace k3 : w8.cell? ⟨w.heap.size, 3, none⟩ = some (z) := (hbx.cell (p := ⟨w.heap.size, 3, none⟩) (Nat.lt_of_succ_lt hlt)).trans k3
  replace k4 : w8.cell? ⟨w.heap.size + 1, 0, none⟩ = some (.int .i64 s) := (hbx.cell (p := ⟨w.heap.size + 1, 0, none⟩) hlt).trans k4
  replace k5 : w8.cell? ⟨w.heap.size + 1, 1, none⟩ = some (.int .i64 g) := (hbx.cell (p := ⟨w.heap.size + 1, 1, none⟩) hlt).trans k5
  replace k6 : w8.cell? ⟨w.heap.size + 1, 2, none⟩ = some (.int .i64 a) := (hbx.cell (p := ⟨w.heap.size + 1, 2, none⟩) hlt).trans k6
  replace k7 : w8.cell? ⟨w.heap.size + 1, 3, none⟩ = some (.int .i64 l) := (hbx.cell (p := ⟨w.heap.size + 1, 3, none⟩) hlt).trans k7
  replace hlt : w.heap.size + 1 < w8.heap.size := Nat.lt_of_lt_of_le hlt hbx.size
  replace HW := Lib.hid (bel_trans HW.out hbx)
  clear hbx
  go_wp2_with fail
  refine (rSteer A D n c m cm ps d s g a l x y z w8 (HP.out.below HW.out) (HD.out.below HW.out) hn hm IS.out IG.out IA.out IL.out).mono ?_; rintro e w9 ⟨rfl, hbx⟩
  replace k0 : w9.cell? ⟨w.heap.size, 0, none⟩ = some (.slice A n c) := (hbx.cell (p := ⟨w.heap.size, 0, none⟩) (Nat.lt_of_succ_lt hlt)).trans k0
  replace k1 : w9.cell? ⟨w.heap.size, 1, none⟩ = some (x) := (hbx.cell (p := ⟨w.heap.size, 1, none⟩) (Nat.lt_of_succ_lt hlt)).trans k1
  replace k2 : w9.cell? ⟨w.heap.size, 2, none⟩ = some (y) := (hbx.cell (p := ⟨w.heap.size, 2, none⟩) (Nat.lt_of_succ_lt hlt)).trans k2
  replace k3 : w9.cell? ⟨w.heap.size, 3, none⟩ = some (z) := (hbx.cell (p := ⟨w.heap.size, 3, none⟩) (Nat.lt_of_succ_lt hlt)).trans k3
  replace k4 : w9.cell? ⟨w.heap.size + 1, 0, none⟩ = some (.int .i64 s) := (hbx.cell (p := ⟨w.heap.size + 1, 0, none⟩) hlt).trans k4
  replace k5 : w9.cell? ⟨w.heap.size + 1, 1, none⟩ = some (.int .i64 g) := (hbx.cell (p := ⟨w.heap.size + 1, 1, none⟩) hlt).trans k5
  replace k6 : w9.cell? ⟨w.heap.size + 1, 2, none⟩ = some (.int .i64 a) := (hbx.cell (p := ⟨w.heap.size + 1, 2, none⟩) hlt).trans k6
  replace k7 : w9.cell? ⟨w.heap.size + 1, 3, none⟩ = some (.int .i64 l) := (hbx.cell (p := ⟨w.heap.size + 1, 3, none⟩) hlt).trans k7
  replace hlt : w.heap.size + 1 < w9.heap.size := Nat.lt_of_lt_of_le hlt hbx.size
  replace HW := Lib.hid (bel_trans HW.out hbx)
  clear hbx
  generalize Vt.stT (ps.map Pass.alt) (ps.map Pass.cas) d s g a l = V4 at *
  generalize Vt.stW (ps.map Pass.alt) (ps.map Pass.cas) d s g a l = V5 at *
  generalize Vt.stS (ps.map Pass.alt) (ps.map Pass.cas) d s g a l = V6 at *
  generalize Vt.stE (ps.map Pass.alt) (ps.map Pass.cas) d s g a l = E4 at *
  go_wp2_with fail
  go_ret
  exact ⟨ret_tt (by simp), HW.out⟩
end Go.Proofs.Ytgclfkgnkohgdaa
namespace Go.Proofs.Ytgclfkgnkohgdaa.verticalAlong
open Go.ChangeShapes Go.WideShapes Go.ChangeAt Go.RowKit
open Go.ChangeMaps (open_string shut_string)
set_option linter.unusedVariables false
set_option linter.unusedSimpArgs false

theorem own : ownKnob Try.prog.godebug = none := by kernel_rfl
theorem laidOut : laidOutB Try.prog = true := by kernel_rfl

set_option maxRecDepth 100000 in
theorem lifted (os : Os) (started : os.Started) (H : Type) (enc : TypeId × Value → H) :
    ReturnsInHanded {} Try.checked os 10 .any (Rows.verticalAlongSpec.pre6 enc Try.prog Try.f10 Rows.verticalAlongRow.domain false) (Rows.verticalAlongSpec.post enc Try.prog Try.f10 false true false false) := by
  refine returnsInHanded_of_change_sized (C := Try.checked) own started (by kernel_rfl) Try.func10
    (ChangeSpec.witness6 (enc := enc) (C := Try.checked) false ⟨#[], #[.agg #[.slice none 0 0, .int .i64 0, .int .i64 0, .bool false], .slice none 0 0, .agg #[.int .i64 0, .int .i64 0, .int .i64 0, .int .i64 0]], []⟩ 8 (by kernel_rfl) (by kernel_rfl) (by kernel_rfl) (by kernel_rfl)) ?_
  intro W base args ds gs before hval0 hW hcnd hsz0 _
  have hval : ∀ (j : Nat) t v, Try.f10.params[j]? = some t → args[j]? = some v → Value.okWide Try.prog W .any base t v := hval0
  have hW' := hW
  obtain ⟨p, q, hA0, hV, rfl, hfz, hnd⟩ := hW
  have hA : DataW.TrodAll enc Try.prog W 0 (fun _ => true) true Try.f10.params.toList args.toList ds p := hA0
  have hsz : (DataW.weightsEach Try.prog (Try.f10.params.toList ++ Rows.verticalAlongSpec.plain.varTypes Try.prog) (ds ++ gs)).all (· ≤ reachBytes) = true := hsz0
  rw [Try.params10] at hA hval hsz
  obtain ⟨v0, vs0, d0, ds0, p0, q0, hargs, rfl, rfl, h0, r0⟩ := trodAll_cons hA
  obtain ⟨v1, vs1, d1, ds1, p1, q1, rfl, rfl, rfl, h1, r1⟩ := trodAll_cons r0
  obtain ⟨v2, vs2, d2, ds2, p2, q2, rfl, rfl, rfl, h2, r2⟩ := trodAll_cons r1
  obtain ⟨rfl, rfl, rfl⟩ := trodAll_nil r2
  obtain rfl : args = #[v0, v1, v2] := by cases args; simp_all
  obtain ⟨rfl, rfl⟩ := trodVars_none hV
  have k0 := h0
  have lt0 : ∀ x ∈ p0, x.block < W.heap.size := by obtain ⟨m, hm⟩ := k0; exact DataW.trod_lt m _ _ _ hm
  have k1 := h1
  have lt1 : ∀ x ∈ p1, x.block < W.heap.size := by obtain ⟨m, hm⟩ := k1; exact DataW.trod_lt m _ _ _ hm
  have k2 := h2
  have lt2 : ∀ x ∈ p2, x.block < W.heap.size := by obtain ⟨m, hm⟩ := k2; exact DataW.trod_lt m _ _ _ hm
  obtain ⟨A0, n0, c0, z0, x0, y0, t0, rfl, w0, o0, u0⟩ := open_pred (hval 0 36 v0 rfl rfl) h0 (weights_arg hsz (j := 0) rfl rfl)
  obtain ⟨A1, n1, c1, z1, rfl, m1, _, w1, u1, o1⟩ := open_ints_Trod Try.underlying37 Try.underlying2 (by kernel_rfl) (hval 1 37 v1 rfl rfl) h1
  have o1' := o1 (weights_arg hsz (j := 1) rfl rfl)
  rw [show Try.prog.bytesOf 2 = 8 by kernel_rfl] at o1'
  obtain ⟨cs2, fu2, rfl, hh2⟩ := open_agg_list Try.underlying45 (hval 2 45 v2 rfl rfl) h2
  obtain ⟨e2_0, e2_1, e2_2, e2_3, rfl, g2_0, g2_1, g2_2, g2_3⟩ := el_spot _ _ _ hh2
  clear hA0 hval0
  refine (Ytgclfkgnkohgdaa.walk_VerticalAlong A0 n0 c0 z0 x0 y0 t0 A1 n1 c1 z1 e2_0 e2_1 e2_2 e2_3 W w0 u0 o0 w1 u1 m1 o1' g2_0 g2_1 g2_2 g2_3).mono fun e W' ⟨he, bel⟩ => ?_
  subst he
  exact ⟨_, rfl, _, _, _, [], _, [], hW', trodAll_mk1 (shut_bool Try.underlying4 _), (trodAll_cons_mk (Below.trod laidOut (by kernel_rfl) (of_decide_eq_true (by kernel_rfl)) k0 bel lt0) (trodAll_cons_mk (Below.trod laidOut (by kernel_rfl) (of_decide_eq_true (by kernel_rfl)) k1 bel lt1) (trodAll_cons_mk (Below.trod laidOut (by kernel_rfl) (of_decide_eq_true (by kernel_rfl)) k2 bel lt2) trodAll_mk0))), rfl, bel.frame _, fun h => by cases h⟩

theorem over : Rows.verticalAlongRow.holds Try.pinned (OpenSpec.ofChange Rows.verticalAlongSpec) :=
  OpenClaim.holds_of_wide 10 Try.f10 rfl rfl rfl rfl rfl rfl rfl ⟨rfl, rfl, rfl, rfl, rfl⟩ rfl rfl rfl rfl rfl (by kernel_rfl) Try.func10 (by kernel_rfl)
    (of_decide_eq_true (by kernel_rfl)) (by unfold Func.isWrapper; first | (rw [if_pos (by decide +kernel)]; kernel_rfl) | (rw [if_neg (by decide +kernel)]; exact ⟨rfl, rfl⟩))
    (fun os started H enc _ => lifted os started H enc)

/-- the statement -/
theorem proved : Rows.VerticalAlongSaid := over
end Go.Proofs.Ytgclfkgnkohgdaa.verticalAlong
