/- Layer 59: Fly of the reference. -/
import Derived.Test.YtcmdpfdhmbpahaaGreatFlyBase
import Derived.StillTailTactics
import Derived.Deep.DeepCutAuto
import Derived.Deep.RegionHeld3
namespace Go.Proofs.YtcmdpfdhmbpahaaGreat
set_option linter.unusedSimpArgs false
set_option linter.unusedVariables false
open Go.RowKit
open Tr
set_option maxRecDepth 100000 in
set_option maxHeartbeats 8000000 in
theorem rFlyE1 (c : Cr) (p : Prf) (em : Int) (t0 t1 t2 tb ts ta tv we wn : Int) (E : Option Addr) (ne ce : Nat) (er : List (Int × Int)) (se sn si : Int) (th st : Bool) (s0 s1 : ByteArray) (w : World) (hl : p.lies w) (hok : p.ok) (he : Recs er2 2 w E ne er) (hne : ne ≤ maxLen) (hem : I64 em) (hE : c.E ≠ 0) : Calls Tryz.prog 7 #[.agg #[.int .i64 c.tk, .int .i64 c.px, .int .i64 c.py, .int .i64 c.ve, .int .i64 c.vn, .int .i64 c.al, .int .i64 c.vs, .int .i64 c.hd, .int .i64 c.ca, .int .i64 c.fu, .int .i64 c.bk, .bool c.gr], .agg p.cells.toArray, .int .i64 em, .agg #[.int .u8 t0, .int .u8 t1, .int .u8 t2, .int .i64 tb, .int .i64 ts, .int .i64 ta, .int .i64 tv], .agg #[.int .i64 we, .int .i64 wn, .slice E ne ce, .int .i64 se, .int .i64 sn, .int .u16 si, .bool th, .bool st, .string s0, .string s1]] w fun e w' => e = .returned (.tuple #[.agg (flR c p em tb ts tv we wn se sn er s0 s1).cells.toArray, .int .i64 (flE c p em tb ts tv we wn se sn er s0 s1)]) ∧ Below w.heap.size w w' := by
  have HC := Lib.hid (rCraft c.tk c.px c.py c.ve c.vn c.al c.vs c.hd c.ca c.fu c.bk c.gr)
  rw [show crE c.tk c.px c.py c.ve c.vn c.al c.vs c.hd c.ca c.fu c.bk = c.E from rfl] at HC
  have HV := Lib.hid (show flE c p em tb ts tv we wn se sn er s0 s1 = if c.E ≠ 0 then c.E else if moE we wn se sn er s0 s1 ≠ 0 then moE we wn se sn er s0 s1 else if pfE p ≠ 0 then pfE p else if inB em 0 3000000000 = true then (if flOk (flC c p em tb ts tv we wn) = true then 0 else 2) else 2 from rfl)
  replace HV := Lib.hid (HV.out.trans (if_pos hE))
  have HR0 := Lib.hid (show flR c p em tb ts tv we wn se sn er s0 s1 = Cr.zero from if_neg (by rw [HV.out]; exact hE))
  generalize c.E = EE at *
  have e1 : (EE == 0) = false := beq_of hE
  have e2 := bne_of e1
  clear hE
  clear hl hok he hem
  go_enter Tryz.func7, Tryz.ntmps7
  go_wp2_with fail
  refine (HC.out _).mono ?_; rintro e w1 ⟨rfl, hB⟩
  have BC : Hid (Has w1 (w.heap.size) [.int .i64 c.tk, .int .i64 c.px, .int .i64 c.py, .int .i64 c.ve, .int .i64 c.vn, .int .i64 c.al, .int .i64 c.vs, .int .i64 c.hd, .int .i64 c.ca, .int .i64 c.fu, .int .i64 c.bk, .bool c.gr]) := Lib.hid ((((((Has.new w _ _).alloc _).alloc _).alloc _).alloc _).below hB)
  have BP : Hid (Has w1 (w.heap.size + 1) p.cells) := Lib.hid (((((Has.newAt (w.alloc _) _ _ (w.heap.size + 1) (by simp)).alloc _).alloc _).alloc _).below hB)
  have BT : Hid (Has w1 (w.heap.size + 1 + 1) [.int .u8 t0, .int .u8 t1, .int .u8 t2, .int .i64 tb, .int .i64 ts, .int .i64 ta, .int .i64 tv]) := Lib.hid ((((Has.newAt ((w.alloc _).alloc _) _ _ (w.heap.size + 1 + 1) (by simp)).alloc _).alloc _).below hB)
  have BM : Hid (Has w1 (w.heap.size + 1 + 1 + 1) [.int .i64 we, .int .i64 wn, .slice E ne ce, .int .i64 se, .int .i64 sn, .int .u16 si, .bool th, .bool st, .string s0, .string s1]) := Lib.hid (((Has.newAt (((w.alloc _).alloc _).alloc _) _ _ (w.heap.size + 1 + 1 + 1) (by simp)).alloc _).below hB)
  have BR : Hid (Has w1 (w.heap.size + 1 + 1 + 1 + 1) [.int .i64 0, .int .i64 0, .int .i64 0, .int .i64 0, .int .i64 0, .int .i64 0, .int .i64 0, .int .i64 0, .int .i64 0, .int .i64 0, .int .i64 0, .bool false]) := Lib.hid ((Has.newAt ((((w.alloc _).alloc _).alloc _).alloc _) _ _ (w.heap.size + 1 + 1 + 1 + 1) (by simp)).below hB)
  have HB := Lib.hid (((below_alloc4 w _ _ _ _).alloc (by simp; omega) _).trans (hB.mono (by simp; omega)))
  clear hB HC
  have z0 : w1.cell? ⟨w.heap.size + 1 + 1 + 1 + 1, 0, none⟩ = some (.int .i64 0) := BR.out.cell 0 _ rfl
  have z1 : w1.cell? ⟨w.heap.size + 1 + 1 + 1 + 1, 1, none⟩ = some (.int .i64 0) := BR.out.cell 1 _ rfl
  have z2 : w1.cell? ⟨w.heap.size + 1 + 1 + 1 + 1, 2, none⟩ = some (.int .i64 0) := BR.out.cell 2 _ rfl
  have z3 : w1.cell? ⟨w.heap.size + 1 + 1 + 1 + 1, 3, none⟩ = some (.int .i64 0) := BR.out.cell 3 _ rfl
  have z4 : w1.cell? ⟨w.heap.size + 1 + 1 + 1 + 1, 4, none⟩ = some (.int .i64 0) := BR.out.cell 4 _ rfl
  have z5 : w1.cell? ⟨w.heap.size + 1 + 1 + 1 + 1, 5, none⟩ = some (.int .i64 0) := BR.out.cell 5 _ rfl
  have z6 : w1.cell? ⟨w.heap.size + 1 + 1 + 1 + 1, 6, none⟩ = some (.int .i64 0) := BR.out.cell 6 _ rfl
  have z7 : w1.cell? ⟨w.heap.size + 1 + 1 + 1 + 1, 7, none⟩ = some (.int .i64 0) := BR.out.cell 7 _ rfl
  have z8 : w1.cell? ⟨w.heap.size + 1 + 1 + 1 + 1, 8, none⟩ = some (.int .i64 0) := BR.out.cell 8 _ rfl
  have z9 : w1.cell? ⟨w.heap.size + 1 + 1 + 1 + 1, 9, none⟩ = some (.int .i64 0) := BR.out.cell 9 _ rfl
  have z10 : w1.cell? ⟨w.heap.size + 1 + 1 + 1 + 1, 10, none⟩ = some (.int .i64 0) := BR.out.cell 10 _ rfl
  have z11 : w1.cell? ⟨w.heap.size + 1 + 1 + 1 + 1, 11, none⟩ = some (.bool false) := BR.out.cell 11 _ rfl
  have zf : ∀ o, w1.frozen? ⟨w.heap.size + 1 + 1 + 1 + 1, o, none⟩ = false := BR.out.fr
  have zl := BR.out.lt
  go_wp2_with fail
  have HRS : Hid (Has _ (w.heap.size + 1 + 1 + 1 + 1) [.int .i64 0, .int .i64 0, .int .i64 0, .int .i64 0, .int .i64 0, .int .i64 0, .int .i64 0, .int .i64 0, .int .i64 0, .int .i64 0, .int .i64 0, .bool false]) := Lib.hid ((((((((((((BR.out.set 0 (.int .i64 0) (by simp)).set 1 (.int .i64 0) (by simp)).set 2 (.int .i64 0) (by simp)).set 3 (.int .i64 0) (by simp)).set 4 (.int .i64 0) (by simp)).set 5 (.int .i64 0) (by simp)).set 6 (.int .i64 0) (by simp)).set 7 (.int .i64 0) (by simp)).set 8 (.int .i64 0) (by simp)).set 9 (.int .i64 0) (by simp)).set 10 (.int .i64 0) (by simp)).set 11 (.bool false) (by simp))
  have HBR := Lib.hid ((((((((((((HB.out.setCell (p := ⟨w.heap.size + 1 + 1 + 1 + 1, 0, none⟩) (by simp; omega) (.int .i64 0)).setCell (p := ⟨w.heap.size + 1 + 1 + 1 + 1, 1, none⟩) (by simp; omega) (.int .i64 0)).setCell (p := ⟨w.heap.size + 1 + 1 + 1 + 1, 2, none⟩) (by simp; omega) (.int .i64 0)).setCell (p := ⟨w.heap.size + 1 + 1 + 1 + 1, 3, none⟩) (by simp; omega) (.int .i64 0)).setCell (p := ⟨w.heap.size + 1 + 1 + 1 + 1, 4, none⟩) (by simp; omega) (.int .i64 0)).setCell (p := ⟨w.heap.size + 1 + 1 + 1 + 1, 5, none⟩) (by simp; omega) (.int .i64 0)).setCell (p := ⟨w.heap.size + 1 + 1 + 1 + 1, 6, none⟩) (by simp; omega) (.int .i64 0)).setCell (p := ⟨w.heap.size + 1 + 1 + 1 + 1, 7, none⟩) (by simp; omega) (.int .i64 0)).setCell (p := ⟨w.heap.size + 1 + 1 + 1 + 1, 8, none⟩) (by simp; omega) (.int .i64 0)).setCell (p := ⟨w.heap.size + 1 + 1 + 1 + 1, 9, none⟩) (by simp; omega) (.int .i64 0)).setCell (p := ⟨w.heap.size + 1 + 1 + 1 + 1, 10, none⟩) (by simp; omega) (.int .i64 0)).setCell (p := ⟨w.heap.size + 1 + 1 + 1 + 1, 11, none⟩) (by simp; omega) (.bool false))
  have y0 := HRS.out.cell 0 _ rfl
  have y1 := HRS.out.cell 1 _ rfl
  have y2 := HRS.out.cell 2 _ rfl
  have y3 := HRS.out.cell 3 _ rfl
  have y4 := HRS.out.cell 4 _ rfl
  have y5 := HRS.out.cell 5 _ rfl
  have y6 := HRS.out.cell 6 _ rfl
  have y7 := HRS.out.cell 7 _ rfl
  have y8 := HRS.out.cell 8 _ rfl
  have y9 := HRS.out.cell 9 _ rfl
  have y10 := HRS.out.cell 10 _ rfl
  have y11 := HRS.out.cell 11 _ rfl
  exact bodyPost_ret (v := .tuple #[.agg #[.int .i64 0, .int .i64 0, .int .i64 0, .int .i64 0, .int .i64 0, .int .i64 0, .int .i64 0, .int .i64 0, .int .i64 0, .int .i64 0, .int .i64 0, .bool false], .int .i64 EE]) (by simp [results, Tryz.results7, go_sem, y0, y1, y2, y3, y4, y5, y6, y7, y8, y9, y10, y11]) rfl ⟨by rw [HR0.out, HV.out]; rfl, HBR.out⟩
set_option maxRecDepth 100000 in
set_option maxHeartbeats 8000000 in
theorem rFlyE2 (c : Cr) (p : Prf) (em : Int) (t0 t1 t2 tb ts ta tv we wn : Int) (E : Option Addr) (ne ce : Nat) (er : List (Int × Int)) (se sn si : Int) (th st : Bool) (s0 s1 : ByteArray) (w : World) (hl : p.lies w) (hok : p.ok) (he : Recs er2 2 w E ne er) (hne : ne ≤ maxLen) (hem : I64 em) (h1 : c.E = 0) (hE : moE we wn se sn er s0 s1 ≠ 0) : Calls Tryz.prog 7 #[.agg #[.int .i64 c.tk, .int .i64 c.px, .int .i64 c.py, .int .i64 c.ve, .int .i64 c.vn, .int .i64 c.al, .int .i64 c.vs, .int .i64 c.hd, .int .i64 c.ca, .int .i64 c.fu, .int .i64 c.bk, .bool c.gr], .agg p.cells.toArray, .int .i64 em, .agg #[.int .u8 t0, .int .u8 t1, .int .u8 t2, .int .i64 tb, .int .i64 ts, .int .i64 ta, .int .i64 tv], .agg #[.int .i64 we, .int .i64 wn, .slice E ne ce, .int .i64 se, .int .i64 sn, .int .u16 si, .bool th, .bool st, .string s0, .string s1]] w fun e w' => e = .returned (.tuple #[.agg (flR c p em tb ts tv we wn se sn er s0 s1).cells.toArray, .int .i64 (flE c p em tb ts tv we wn se sn er s0 s1)]) ∧ Below w.heap.size w w' := by
  have HC := Lib.hid (rCraft c.tk c.px c.py c.ve c.vn c.al c.vs c.hd c.ca c.fu c.bk c.gr)
  rw [show crE c.tk c.px c.py c.ve c.vn c.al c.vs c.hd c.ca c.fu c.bk = c.E from rfl] at HC
  rw [h1] at HC
  have HM := Lib.hid (fun w' hB => rMoment we wn se sn si th st E ne ce er s0 s1 w' (he.below (w' := w') hB) hne)
  have HV := Lib.hid (show flE c p em tb ts tv we wn se sn er s0 s1 = if c.E ≠ 0 then c.E else if moE we wn se sn er s0 s1 ≠ 0 then moE we wn se sn er s0 s1 else if pfE p ≠ 0 then pfE p else if inB em 0 3000000000 = true then (if flOk (flC c p em tb ts tv we wn) = true then 0 else 2) else 2 from rfl)
  replace HV := Lib.hid ((HV.out.trans (if_neg (by rw [h1]; simp))).trans (if_pos hE))
  have HR0 := Lib.hid (show flR c p em tb ts tv we wn se sn er s0 s1 = Cr.zero from if_neg (by rw [HV.out]; exact hE))
  generalize moE we wn se sn er s0 s1 = EE at *
  have e1 : (EE == 0) = false := beq_of hE
  have e2 := bne_of e1
  clear hE
  clear h1
  clear hl hok he hem
  go_enter Tryz.func7, Tryz.ntmps7
  go_wp2_with fail
  refine (HC.out _).mono ?_; rintro e w1 ⟨rfl, hB⟩
  have BC : Hid (Has w1 (w.heap.size) [.int .i64 c.tk, .int .i64 c.px, .int .i64 c.py, .int .i64 c.ve, .int .i64 c.vn, .int .i64 c.al, .int .i64 c.vs, .int .i64 c.hd, .int .i64 c.ca, .int .i64 c.fu, .int .i64 c.bk, .bool c.gr]) := Lib.hid ((((((Has.new w _ _).alloc _).alloc _).alloc _).alloc _).below hB)
  have BP : Hid (Has w1 (w.heap.size + 1) p.cells) := Lib.hid (((((Has.newAt (w.alloc _) _ _ (w.heap.size + 1) (by simp)).alloc _).alloc _).alloc _).below hB)
  have BT : Hid (Has w1 (w.heap.size + 1 + 1) [.int .u8 t0, .int .u8 t1, .int .u8 t2, .int .i64 tb, .int .i64 ts, .int .i64 ta, .int .i64 tv]) := Lib.hid ((((Has.newAt ((w.alloc _).alloc _) _ _ (w.heap.size + 1 + 1) (by simp)).alloc _).alloc _).below hB)
  have BM : Hid (Has w1 (w.heap.size + 1 + 1 + 1) [.int .i64 we, .int .i64 wn, .slice E ne ce, .int .i64 se, .int .i64 sn, .int .u16 si, .bool th, .bool st, .string s0, .string s1]) := Lib.hid (((Has.newAt (((w.alloc _).alloc _).alloc _) _ _ (w.heap.size + 1 + 1 + 1) (by simp)).alloc _).below hB)
  have BR : Hid (Has w1 (w.heap.size + 1 + 1 + 1 + 1) [.int .i64 0, .int .i64 0, .int .i64 0, .int .i64 0, .int .i64 0, .int .i64 0, .int .i64 0, .int .i64 0, .int .i64 0, .int .i64 0, .int .i64 0, .bool false]) := Lib.hid ((Has.newAt ((((w.alloc _).alloc _).alloc _).alloc _) _ _ (w.heap.size + 1 + 1 + 1 + 1) (by simp)).below hB)
  have HB := Lib.hid (((below_alloc4 w _ _ _ _).alloc (by simp; omega) _).trans (hB.mono (by simp; omega)))
  clear hB HC
  have m0 : w1.cell? ⟨w.heap.size + 1 + 1 + 1, 0, none⟩ = some (.int .i64 we) := BM.out.cell 0 _ rfl
  have m1 : w1.cell? ⟨w.heap.size + 1 + 1 + 1, 1, none⟩ = some (.int .i64 wn) := BM.out.cell 1 _ rfl
  have m2 : w1.cell? ⟨w.heap.size + 1 + 1 + 1, 2, none⟩ = some (.slice E ne ce) := BM.out.cell 2 _ rfl
  have m3 : w1.cell? ⟨w.heap.size + 1 + 1 + 1, 3, none⟩ = some (.int .i64 se) := BM.out.cell 3 _ rfl
  have m4 : w1.cell? ⟨w.heap.size + 1 + 1 + 1, 4, none⟩ = some (.int .i64 sn) := BM.out.cell 4 _ rfl
  have m5 : w1.cell? ⟨w.heap.size + 1 + 1 + 1, 5, none⟩ = some (.int .u16 si) := BM.out.cell 5 _ rfl
  have m6 : w1.cell? ⟨w.heap.size + 1 + 1 + 1, 6, none⟩ = some (.bool th) := BM.out.cell 6 _ rfl
  have m7 : w1.cell? ⟨w.heap.size + 1 + 1 + 1, 7, none⟩ = some (.bool st) := BM.out.cell 7 _ rfl
  have m8 : w1.cell? ⟨w.heap.size + 1 + 1 + 1, 8, none⟩ = some (.string s0) := BM.out.cell 8 _ rfl
  have m9 : w1.cell? ⟨w.heap.size + 1 + 1 + 1, 9, none⟩ = some (.string s1) := BM.out.cell 9 _ rfl
  go_wp2_with fail
  refine (HM.out _ HB.out).mono ?_; rintro e w2 ⟨rfl, hB⟩
  clear m0 m1 m2 m3 m4 m5 m6 m7 m8 m9 HM
  replace BC := Lib.hid (BC.out.below hB)
  replace BP := Lib.hid (BP.out.below hB)
  replace BT := Lib.hid (BT.out.below hB)
  replace BM := Lib.hid (BM.out.below hB)
  replace BR := Lib.hid (BR.out.below hB)
  replace HB := Lib.hid (bel_trans HB.out hB)
  clear hB
  have z0 : w2.cell? ⟨w.heap.size + 1 + 1 + 1 + 1, 0, none⟩ = some (.int .i64 0) := BR.out.cell 0 _ rfl
  have z1 : w2.cell? ⟨w.heap.size + 1 + 1 + 1 + 1, 1, none⟩ = some (.int .i64 0) := BR.out.cell 1 _ rfl
  have z2 : w2.cell? ⟨w.heap.size + 1 + 1 + 1 + 1, 2, none⟩ = some (.int .i64 0) := BR.out.cell 2 _ rfl
  have z3 : w2.cell? ⟨w.heap.size + 1 + 1 + 1 + 1, 3, none⟩ = some (.int .i64 0) := BR.out.cell 3 _ rfl
  have z4 : w2.cell? ⟨w.heap.size + 1 + 1 + 1 + 1, 4, none⟩ = some (.int .i64 0) := BR.out.cell 4 _ rfl
  have z5 : w2.cell? ⟨w.heap.size + 1 + 1 + 1 + 1, 5, none⟩ = some (.int .i64 0) := BR.out.cell 5 _ rfl
  have z6 : w2.cell? ⟨w.heap.size + 1 + 1 + 1 + 1, 6, none⟩ = some (.int .i64 0) := BR.out.cell 6 _ rfl
  have z7 : w2.cell? ⟨w.heap.size + 1 + 1 + 1 + 1, 7, none⟩ = some (.int .i64 0) := BR.out.cell 7 _ rfl
  have z8 : w2.cell? ⟨w.heap.size + 1 + 1 + 1 + 1, 8, none⟩ = some (.int .i64 0) := BR.out.cell 8 _ rfl
  have z9 : w2.cell? ⟨w.heap.size + 1 + 1 + 1 + 1, 9, none⟩ = some (.int .i64 0) := BR.out.cell 9 _ rfl
  have z10 : w2.cell? ⟨w.heap.size + 1 + 1 + 1 + 1, 10, none⟩ = some (.int .i64 0) := BR.out.cell 10 _ rfl
  have z11 : w2.cell? ⟨w.heap.size + 1 + 1 + 1 + 1, 11, none⟩ = some (.bool false) := BR.out.cell 11 _ rfl
  have zf : ∀ o, w2.frozen? ⟨w.heap.size + 1 + 1 + 1 + 1, o, none⟩ = false := BR.out.fr
  have zl := BR.out.lt
  go_wp2_with fail
  have HRS : Hid (Has _ (w.heap.size + 1 + 1 + 1 + 1) [.int .i64 0, .int .i64 0, .int .i64 0, .int .i64 0, .int .i64 0, .int .i64 0, .int .i64 0, .int .i64 0, .int .i64 0, .int .i64 0, .int .i64 0, .bool false]) := Lib.hid ((((((((((((BR.out.set 0 (.int .i64 0) (by simp)).set 1 (.int .i64 0) (by simp)).set 2 (.int .i64 0) (by simp)).set 3 (.int .i64 0) (by simp)).set 4 (.int .i64 0) (by simp)).set 5 (.int .i64 0) (by simp)).set 6 (.int .i64 0) (by simp)).set 7 (.int .i64 0) (by simp)).set 8 (.int .i64 0) (by simp)).set 9 (.int .i64 0) (by simp)).set 10 (.int .i64 0) (by simp)).set 11 (.bool false) (by simp))
  have HBR := Lib.hid ((((((((((((HB.out.setCell (p := ⟨w.heap.size + 1 + 1 + 1 + 1, 0, none⟩) (by simp; omega) (.int .i64 0)).setCell (p := ⟨w.heap.size + 1 + 1 + 1 + 1, 1, none⟩) (by simp; omega) (.int .i64 0)).setCell (p := ⟨w.heap.size + 1 + 1 + 1 + 1, 2, none⟩) (by simp; omega) (.int .i64 0)).setCell (p := ⟨w.heap.size + 1 + 1 + 1 + 1, 3, none⟩) (by simp; omega) (.int .i64 0)).setCell (p := ⟨w.heap.size + 1 + 1 + 1 + 1, 4, none⟩) (by simp; omega) (.int .i64 0)).setCell (p := ⟨w.heap.size + 1 + 1 + 1 + 1, 5, none⟩) (by simp; omega) (.int .i64 0)).setCell (p := ⟨w.heap.size + 1 + 1 + 1 + 1, 6, none⟩) (by simp; omega) (.int .i64 0)).setCell (p := ⟨w.heap.size + 1 + 1 + 1 + 1, 7, none⟩) (by simp; omega) (.int .i64 0)).setCell (p := ⟨w.heap.size + 1 + 1 + 1 + 1, 8, none⟩) (by simp; omega) (.int .i64 0)).setCell (p := ⟨w.heap.size + 1 + 1 + 1 + 1, 9, none⟩) (by simp; omega) (.int .i64 0)).setCell (p := ⟨w.heap.size + 1 + 1 + 1 + 1, 10, none⟩) (by simp; omega) (.int .i64 0)).setCell (p := ⟨w.heap.size + 1 + 1 + 1 + 1, 11, none⟩) (by simp; omega) (.bool false))
  have y0 := HRS.out.cell 0 _ rfl
  have y1 := HRS.out.cell 1 _ rfl
  have y2 := HRS.out.cell 2 _ rfl
  have y3 := HRS.out.cell 3 _ rfl
  have y4 := HRS.out.cell 4 _ rfl
  have y5 := HRS.out.cell 5 _ rfl
  have y6 := HRS.out.cell 6 _ rfl
  have y7 := HRS.out.cell 7 _ rfl
  have y8 := HRS.out.cell 8 _ rfl
  have y9 := HRS.out.cell 9 _ rfl
  have y10 := HRS.out.cell 10 _ rfl
  have y11 := HRS.out.cell 11 _ rfl
  exact bodyPost_ret (v := .tuple #[.agg #[.int .i64 0, .int .i64 0, .int .i64 0, .int .i64 0, .int .i64 0, .int .i64 0, .int .i64 0, .int .i64 0, .int .i64 0, .int .i64 0, .int .i64 0, .bool false], .int .i64 EE]) (by simp [results, Tryz.results7, go_sem, y0, y1, y2, y3, y4, y5, y6, y7, y8, y9, y10, y11]) rfl ⟨by rw [HR0.out, HV.out]; rfl, HBR.out⟩
set_option maxRecDepth 100000 in
set_option maxHeartbeats 8000000 in
theorem rFlyE3 (c : Cr) (p : Prf) (em : Int) (t0 t1 t2 tb ts ta tv we wn : Int) (E : Option Addr) (ne ce : Nat) (er : List (Int × Int)) (se sn si : Int) (th st : Bool) (s0 s1 : ByteArray) (w : World) (hl : p.lies w) (hok : p.ok) (he : Recs er2 2 w E ne er) (hne : ne ≤ maxLen) (hem : I64 em) (h1 : c.E = 0) (h2 : moE we wn se sn er s0 s1 = 0) (hE : pfE p ≠ 0) : Calls Tryz.prog 7 #[.agg #[.int .i64 c.tk, .int .i64 c.px, .int .i64 c.py, .int .i64 c.ve, .int .i64 c.vn, .int .i64 c.al, .int .i64 c.vs, .int .i64 c.hd, .int .i64 c.ca, .int .i64 c.fu, .int .i64 c.bk, .bool c.gr], .agg p.cells.toArray, .int .i64 em, .agg #[.int .u8 t0, .int .u8 t1, .int .u8 t2, .int .i64 tb, .int .i64 ts, .int .i64 ta, .int .i64 tv], .agg #[.int .i64 we, .int .i64 wn, .slice E ne ce, .int .i64 se, .int .i64 sn, .int .u16 si, .bool th, .bool st, .string s0, .string s1]] w fun e w' => e = .returned (.tuple #[.agg (flR c p em tb ts tv we wn se sn er s0 s1).cells.toArray, .int .i64 (flE c p em tb ts tv we wn se sn er s0 s1)]) ∧ Below w.heap.size w w' := by
  have HC := Lib.hid (rCraft c.tk c.px c.py c.ve c.vn c.al c.vs c.hd c.ca c.fu c.bk c.gr)
  rw [show crE c.tk c.px c.py c.ve c.vn c.al c.vs c.hd c.ca c.fu c.bk = c.E from rfl] at HC
  rw [h1] at HC
  have HM := Lib.hid (fun w' hB => rMoment we wn se sn si th st E ne ce er s0 s1 w' (he.below (w' := w') hB) hne)
  rw [h2] at HM
  have HP := Lib.hid (fun w' hB => rPfCheck p w' (hl.below (w' := w') hB) hok)
  have HV := Lib.hid (show flE c p em tb ts tv we wn se sn er s0 s1 = if c.E ≠ 0 then c.E else if moE we wn se sn er s0 s1 ≠ 0 then moE we wn se sn er s0 s1 else if pfE p ≠ 0 then pfE p else if inB em 0 3000000000 = true then (if flOk (flC c p em tb ts tv we wn) = true then 0 else 2) else 2 from rfl)
  replace HV := Lib.hid (((HV.out.trans (if_neg (by rw [h1]; simp))).trans (if_neg (by rw [h2]; simp))).trans (if_pos hE))
  have HR0 := Lib.hid (show flR c p em tb ts tv we wn se sn er s0 s1 = Cr.zero from if_neg (by rw [HV.out]; exact hE))
  generalize pfE p = EE at *
  have e1 : (EE == 0) = false := beq_of hE
  have e2 := bne_of e1
  clear hE
  clear h1 h2
  clear hl hok he hem
  go_enter Tryz.func7, Tryz.ntmps7
  go_wp2_with fail
  refine (HC.out _).mono ?_; rintro e w1 ⟨rfl, hB⟩
  have BC : Hid (Has w1 (w.heap.size) [.int .i64 c.tk, .int .i64 c.px, .int .i64 c.py, .int .i64 c.ve, .int .i64 c.vn, .int .i64 c.al, .int .i64 c.vs, .int .i64 c.hd, .int .i64 c.ca, .int .i64 c.fu, .int .i64 c.bk, .bool c.gr]) := Lib.hid ((((((Has.new w _ _).alloc _).alloc _).alloc _).alloc _).below hB)
  have BP : Hid (Has w1 (w.heap.size + 1) p.cells) := Lib.hid (((((Has.newAt (w.alloc _) _ _ (w.heap.size + 1) (by simp)).alloc _).alloc _).alloc _).below hB)
  have BT : Hid (Has w1 (w.heap.size + 1 + 1) [.int .u8 t0, .int .u8 t1, .int .u8 t2, .int .i64 tb, .int .i64 ts, .int .i64 ta, .int .i64 tv]) := Lib.hid ((((Has.newAt ((w.alloc _).alloc _) _ _ (w.heap.size + 1 + 1) (by simp)).alloc _).alloc _).below hB)
  have BM : Hid (Has w1 (w.heap.size + 1 + 1 + 1) [.int .i64 we, .int .i64 wn, .slice E ne ce, .int .i64 se, .int .i64 sn, .int .u16 si, .bool th, .bool st, .string s0, .string s1]) := Lib.hid (((Has.newAt (((w.alloc _).alloc _).alloc _) _ _ (w.heap.size + 1 + 1 + 1) (by simp)).alloc _).below hB)
  have BR : Hid (Has w1 (w.heap.size + 1 + 1 + 1 + 1) [.int .i64 0, .int .i64 0, .int .i64 0, .int .i64 0, .int .i64 0, .int .i64 0, .int .i64 0, .int .i64 0, .int .i64 0, .int .i64 0, .int .i64 0, .bool false]) := Lib.hid ((Has.newAt ((((w.alloc _).alloc _).alloc _).alloc _) _ _ (w.heap.size + 1 + 1 + 1 + 1) (by simp)).below hB)
  have HB := Lib.hid (((below_alloc4 w _ _ _ _).alloc (by simp; omega) _).trans (hB.mono (by simp; omega)))
  clear hB HC
  have m0 : w1.cell? ⟨w.heap.size + 1 + 1 + 1, 0, none⟩ = some (.int .i64 we) := BM.out.cell 0 _ rfl
  have m1 : w1.cell? ⟨w.heap.size + 1 + 1 + 1, 1, none⟩ = some (.int .i64 wn) := BM.out.cell 1 _ rfl
  have m2 : w1.cell? ⟨w.heap.size + 1 + 1 + 1, 2, none⟩ = some (.slice E ne ce) := BM.out.cell 2 _ rfl
  have m3 : w1.cell? ⟨w.heap.size + 1 + 1 + 1, 3, none⟩ = some (.int .i64 se) := BM.out.cell 3 _ rfl
  have m4 : w1.cell? ⟨w.heap.size + 1 + 1 + 1, 4, none⟩ = some (.int .i64 sn) := BM.out.cell 4 _ rfl
  have m5 : w1.cell? ⟨w.heap.size + 1 + 1 + 1, 5, none⟩ = some (.int .u16 si) := BM.out.cell 5 _ rfl
  have m6 : w1.cell? ⟨w.heap.size + 1 + 1 + 1, 6, none⟩ = some (.bool th) := BM.out.cell 6 _ rfl
  have m7 : w1.cell? ⟨w.heap.size + 1 + 1 + 1, 7, none⟩ = some (.bool st) := BM.out.cell 7 _ rfl
  have m8 : w1.cell? ⟨w.heap.size + 1 + 1 + 1, 8, none⟩ = some (.string s0) := BM.out.cell 8 _ rfl
  have m9 : w1.cell? ⟨w.heap.size + 1 + 1 + 1, 9, none⟩ = some (.string s1) := BM.out.cell 9 _ rfl
  go_wp2_with fail
  refine (HM.out _ HB.out).mono ?_; rintro e w2 ⟨rfl, hB⟩
  clear m0 m1 m2 m3 m4 m5 m6 m7 m8 m9 HM
  replace BC := Lib.hid (BC.out.below hB)
  replace BP := Lib.hid (BP.out.below hB)
  replace BT := Lib.hid (BT.out.below hB)
  replace BM := Lib.hid (BM.out.below hB)
  replace BR := Lib.hid (BR.out.below hB)
  replace HB := Lib.hid (bel_trans HB.out hB)
  clear hB
  go_wp2_with (refine at_prf (.tmp 6) rfl rfl rfl BP.out ?_)
  refine (HP.out _ HB.out).mono ?_; rintro e w3 ⟨rfl, hB⟩
  clear HP
  replace BC := Lib.hid (BC.out.below hB)
  replace BP := Lib.hid (BP.out.below hB)
  replace BT := Lib.hid (BT.out.below hB)
  replace BM := Lib.hid (BM.out.below hB)
  replace BR := Lib.hid (BR.out.below hB)
  replace HB := Lib.hid (bel_trans HB.out hB)
  clear hB
  have z0 : w3.cell? ⟨w.heap.size + 1 + 1 + 1 + 1, 0, none⟩ = some (.int .i64 0) := BR.out.cell 0 _ rfl
  have z1 : w3.cell? ⟨w.heap.size + 1 + 1 + 1 + 1, 1, none⟩ = some (.int .i64 0) := BR.out.cell 1 _ rfl
  have z2 : w3.cell? ⟨w.heap.size + 1 + 1 + 1 + 1, 2, none⟩ = some (.int .i64 0) := BR.out.cell 2 _ rfl
  have z3 : w3.cell? ⟨w.heap.size + 1 + 1 + 1 + 1, 3, none⟩ = some (.int .i64 0) := BR.out.cell 3 _ rfl
  have z4 : w3.cell? ⟨w.heap.size + 1 + 1 + 1 + 1, 4, none⟩ = some (.int .i64 0) := BR.out.cell 4 _ rfl
  have z5 : w3.cell? ⟨w.heap.size + 1 + 1 + 1 + 1, 5, none⟩ = some (.int .i64 0) := BR.out.cell 5 _ rfl
  have z6 : w3.cell? ⟨w.heap.size + 1 + 1 + 1 + 1, 6, none⟩ = some (.int .i64 0) := BR.out.cell 6 _ rfl
  have z7 : w3.cell? ⟨w.heap.size + 1 + 1 + 1 + 1, 7, none⟩ = some (.int .i64 0) := BR.out.cell 7 _ rfl
  have z8 : w3.cell? ⟨w.heap.size + 1 + 1 + 1 + 1, 8, none⟩ = some (.int .i64 0) := BR.out.cell 8 _ rfl
  have z9 : w3.cell? ⟨w.heap.size + 1 + 1 + 1 + 1, 9, none⟩ = some (.int .i64 0) := BR.out.cell 9 _ rfl
  have z10 : w3.cell? ⟨w.heap.size + 1 + 1 + 1 + 1, 10, none⟩ = some (.int .i64 0) := BR.out.cell 10 _ rfl
  have z11 : w3.cell? ⟨w.heap.size + 1 + 1 + 1 + 1, 11, none⟩ = some (.bool false) := BR.out.cell 11 _ rfl
  have zf : ∀ o, w3.frozen? ⟨w.heap.size + 1 + 1 + 1 + 1, o, none⟩ = false := BR.out.fr
  have zl := BR.out.lt
  go_wp2_with fail
  have HRS : Hid (Has _ (w.heap.size + 1 + 1 + 1 + 1) [.int .i64 0, .int .i64 0, .int .i64 0, .int .i64 0, .int .i64 0, .int .i64 0, .int .i64 0, .int .i64 0, .int .i64 0, .int .i64 0, .int .i64 0, .bool false]) := Lib.hid ((((((((((((BR.out.set 0 (.int .i64 0) (by simp)).set 1 (.int .i64 0) (by simp)).set 2 (.int .i64 0) (by simp)).set 3 (.int .i64 0) (by simp)).set 4 (.int .i64 0) (by simp)).set 5 (.int .i64 0) (by simp)).set 6 (.int .i64 0) (by simp)).set 7 (.int .i64 0) (by simp)).set 8 (.int .i64 0) (by simp)).set 9 (.int .i64 0) (by simp)).set 10 (.int .i64 0) (by simp)).set 11 (.bool false) (by simp))
  have HBR := Lib.hid ((((((((((((HB.out.setCell (p := ⟨w.heap.size + 1 + 1 + 1 + 1, 0, none⟩) (by simp; omega) (.int .i64 0)).setCell (p := ⟨w.heap.size + 1 + 1 + 1 + 1, 1, none⟩) (by simp; omega) (.int .i64 0)).setCell (p := ⟨w.heap.size + 1 + 1 + 1 + 1, 2, none⟩) (by simp; omega) (.int .i64 0)).setCell (p := ⟨w.heap.size + 1 + 1 + 1 + 1, 3, none⟩) (by simp; omega) (.int .i64 0)).setCell (p := ⟨w.heap.size + 1 + 1 + 1 + 1, 4, none⟩) (by simp; omega) (.int .i64 0)).setCell (p := ⟨w.heap.size + 1 + 1 + 1 + 1, 5, none⟩) (by simp; omega) (.int .i64 0)).setCell (p := ⟨w.heap.size + 1 + 1 + 1 + 1, 6, none⟩) (by simp; omega) (.int .i64 0)).setCell (p := ⟨w.heap.size + 1 + 1 + 1 + 1, 7, none⟩) (by simp; omega) (.int .i64 0)).setCell (p := ⟨w.heap.size + 1 + 1 + 1 + 1, 8, none⟩) (by simp; omega) (.int .i64 0)).setCell (p := ⟨w.heap.size + 1 + 1 + 1 + 1, 9, none⟩) (by simp; omega) (.int .i64 0)).setCell (p := ⟨w.heap.size + 1 + 1 + 1 + 1, 10, none⟩) (by simp; omega) (.int .i64 0)).setCell (p := ⟨w.heap.size + 1 + 1 + 1 + 1, 11, none⟩) (by simp; omega) (.bool false))
  have y0 := HRS.out.cell 0 _ rfl
  have y1 := HRS.out.cell 1 _ rfl
  have y2 := HRS.out.cell 2 _ rfl
  have y3 := HRS.out.cell 3 _ rfl
  have y4 := HRS.out.cell 4 _ rfl
  have y5 := HRS.out.cell 5 _ rfl
  have y6 := HRS.out.cell 6 _ rfl
  have y7 := HRS.out.cell 7 _ rfl
  have y8 := HRS.out.cell 8 _ rfl
  have y9 := HRS.out.cell 9 _ rfl
  have y10 := HRS.out.cell 10 _ rfl
  have y11 := HRS.out.cell 11 _ rfl
  exact bodyPost_ret (v := .tuple #[.agg #[.int .i64 0, .int .i64 0, .int .i64 0, .int .i64 0, .int .i64 0, .int .i64 0, .int .i64 0, .int .i64 0, .int .i64 0, .int .i64 0, .int .i64 0, .bool false], .int .i64 EE]) (by simp [results, Tryz.results7, go_sem, y0, y1, y2, y3, y4, y5, y6, y7, y8, y9, y10, y11]) rfl ⟨by rw [HR0.out, HV.out]; rfl, HBR.out⟩
set_option maxRecDepth 100000 in
set_option maxHeartbeats 8000000 in
theorem rFlyE4 (c : Cr) (p : Prf) (em : Int) (t0 t1 t2 tb ts ta tv we wn : Int) (E : Option Addr) (ne ce : Nat) (er : List (Int × Int)) (se sn si : Int) (th st : Bool) (s0 s1 : ByteArray) (w : World) (hl : p.lies w) (hok : p.ok) (he : Recs er2 2 w E ne er) (hne : ne ≤ maxLen) (hem : I64 em) (h1 : c.E = 0) (h2 : moE we wn se sn er s0 s1 = 0) (h3 : pfE p = 0) (hem2 : inB em 0 3000000000 = false) : Calls Tryz.prog 7 #[.agg #[.int .i64 c.tk, .int .i64 c.px, .int .i64 c.py, .int .i64 c.ve, .int .i64 c.vn, .int .i64 c.al, .int .i64 c.vs, .int .i64 c.hd, .int .i64 c.ca, .int .i64 c.fu, .int .i64 c.bk, .bool c.gr], .agg p.cells.toArray, .int .i64 em, .agg #[.int .u8 t0, .int .u8 t1, .int .u8 t2, .int .i64 tb, .int .i64 ts, .int .i64 ta, .int .i64 tv], .agg #[.int .i64 we, .int .i64 wn, .slice E ne ce, .int .i64 se, .int .i64 sn, .int .u16 si, .bool th, .bool st, .string s0, .string s1]] w fun e w' => e = .returned (.tuple #[.agg (flR c p em tb ts tv we wn se sn er s0 s1).cells.toArray, .int .i64 (flE c p em tb ts tv we wn se sn er s0 s1)]) ∧ Below w.heap.size w w' := by
  have HC := Lib.hid (rCraft c.tk c.px c.py c.ve c.vn c.al c.vs c.hd c.ca c.fu c.bk c.gr)
  rw [show crE c.tk c.px c.py c.ve c.vn c.al c.vs c.hd c.ca c.fu c.bk = c.E from rfl] at HC
  rw [h1] at HC
  have HM := Lib.hid (fun w' hB => rMoment we wn se sn si th st E ne ce er s0 s1 w' (he.below (w' := w') hB) hne)
  rw [h2] at HM
  have HP := Lib.hid (fun w' hB => rPfCheck p w' (hl.below (w' := w') hB) hok)
  rw [h3] at HP
  have HV := Lib.hid (show flE c p em tb ts tv we wn se sn er s0 s1 = if c.E ≠ 0 then c.E else if moE we wn se sn er s0 s1 ≠ 0 then moE we wn se sn er s0 s1 else if pfE p ≠ 0 then pfE p else if inB em 0 3000000000 = true then (if flOk (flC c p em tb ts tv we wn) = true then 0 else 2) else 2 from rfl)
  replace HV := Lib.hid ((((HV.out.trans (if_neg (by rw [h1]; simp))).trans (if_neg (by rw [h2]; simp))).trans (if_neg (by rw [h3]; simp))).trans (if_neg (by rw [hem2]; decide)))
  have HR0 := Lib.hid (show flR c p em tb ts tv we wn se sn er s0 s1 = Cr.zero from if_neg (by rw [HV.out]; decide))
  have HI := Lib.hid (fun W => show Calls Tryz.prog 30 #[.int .i64 em, .int .i64 0, .int .i64 3000000000] W _ from rOut em 0 3000000000 W)
  rw [hem2, Bool.not_false] at HI
  clear h1 h2 h3 hem2
  clear hl hok he hem
  go_enter Tryz.func7, Tryz.ntmps7
  go_wp2_with fail
  refine (HC.out _).mono ?_; rintro e w1 ⟨rfl, hB⟩
  have BC : Hid (Has w1 (w.heap.size) [.int .i64 c.tk, .int .i64 c.px, .int .i64 c.py, .int .i64 c.ve, .int .i64 c.vn, .int .i64 c.al, .int .i64 c.vs, .int .i64 c.hd, .int .i64 c.ca, .int .i64 c.fu, .int .i64 c.bk, .bool c.gr]) := Lib.hid ((((((Has.new w _ _).alloc _).alloc _).alloc _).alloc _).below hB)
  have BP : Hid (Has w1 (w.heap.size + 1) p.cells) := Lib.hid (((((Has.newAt (w.alloc _) _ _ (w.heap.size + 1) (by simp)).alloc _).alloc _).alloc _).below hB)
  have BT : Hid (Has w1 (w.heap.size + 1 + 1) [.int .u8 t0, .int .u8 t1, .int .u8 t2, .int .i64 tb, .int .i64 ts, .int .i64 ta, .int .i64 tv]) := Lib.hid ((((Has.newAt ((w.alloc _).alloc _) _ _ (w.heap.size + 1 + 1) (by simp)).alloc _).alloc _).below hB)
  have BM : Hid (Has w1 (w.heap.size + 1 + 1 + 1) [.int .i64 we, .int .i64 wn, .slice E ne ce, .int .i64 se, .int .i64 sn, .int .u16 si, .bool th, .bool st, .string s0, .string s1]) := Lib.hid (((Has.newAt (((w.alloc _).alloc _).alloc _) _ _ (w.heap.size + 1 + 1 + 1) (by simp)).alloc _).below hB)
  have BR : Hid (Has w1 (w.heap.size + 1 + 1 + 1 + 1) [.int .i64 0, .int .i64 0, .int .i64 0, .int .i64 0, .int .i64 0, .int .i64 0, .int .i64 0, .int .i64 0, .int .i64 0, .int .i64 0, .int .i64 0, .bool false]) := Lib.hid ((Has.newAt ((((w.alloc _).alloc _).alloc _).alloc _) _ _ (w.heap.size + 1 + 1 + 1 + 1) (by simp)).below hB)
  have HB := Lib.hid (((below_alloc4 w _ _ _ _).alloc (by simp; omega) _).trans (hB.mono (by simp; omega)))
  clear hB HC
  have m0 : w1.cell? ⟨w.heap.size + 1 + 1 + 1, 0, none⟩ = some (.int .i64 we) := BM.out.cell 0 _ rfl
  have m1 : w1.cell? ⟨w.heap.size + 1 + 1 + 1, 1, none⟩ = some (.int .i64 wn) := BM.out.cell 1 _ rfl
  have m2 : w1.cell? ⟨w.heap.size + 1 + 1 + 1, 2, none⟩ = some (.slice E ne ce) := BM.out.cell 2 _ rfl
  have m3 : w1.cell? ⟨w.heap.size + 1 + 1 + 1, 3, none⟩ = some (.int .i64 se) := BM.out.cell 3 _ rfl
  have m4 : w1.cell? ⟨w.heap.size + 1 + 1 + 1, 4, none⟩ = some (.int .i64 sn) := BM.out.cell 4 _ rfl
  have m5 : w1.cell? ⟨w.heap.size + 1 + 1 + 1, 5, none⟩ = some (.int .u16 si) := BM.out.cell 5 _ rfl
  have m6 : w1.cell? ⟨w.heap.size + 1 + 1 + 1, 6, none⟩ = some (.bool th) := BM.out.cell 6 _ rfl
  have m7 : w1.cell? ⟨w.heap.size + 1 + 1 + 1, 7, none⟩ = some (.bool st) := BM.out.cell 7 _ rfl
  have m8 : w1.cell? ⟨w.heap.size + 1 + 1 + 1, 8, none⟩ = some (.string s0) := BM.out.cell 8 _ rfl
  have m9 : w1.cell? ⟨w.heap.size + 1 + 1 + 1, 9, none⟩ = some (.string s1) := BM.out.cell 9 _ rfl
  go_wp2_with fail
  refine (HM.out _ HB.out).mono ?_; rintro e w2 ⟨rfl, hB⟩
  clear m0 m1 m2 m3 m4 m5 m6 m7 m8 m9 HM
  replace BC := Lib.hid (BC.out.below hB)
  replace BP := Lib.hid (BP.out.below hB)
  replace BT := Lib.hid (BT.out.below hB)
  replace BM := Lib.hid (BM.out.below hB)
  replace BR := Lib.hid (BR.out.below hB)
  replace HB := Lib.hid (bel_trans HB.out hB)
  clear hB
  go_wp2_with (refine at_prf (.tmp 6) rfl rfl rfl BP.out ?_)
  refine (HP.out _ HB.out).mono ?_; rintro e w3 ⟨rfl, hB⟩
  clear HP
  replace BC := Lib.hid (BC.out.below hB)
  replace BP := Lib.hid (BP.out.below hB)
  replace BT := Lib.hid (BT.out.below hB)
  replace BM := Lib.hid (BM.out.below hB)
  replace BR := Lib.hid (BR.out.below hB)
  replace HB := Lib.hid (bel_trans HB.out hB)
  clear hB
  go_wp2_with fail
  refine (HI.out _).mono ?_; rintro e wx ⟨rfl, rfl⟩
  clear HI
  have z0 : w3.cell? ⟨w.heap.size + 1 + 1 + 1 + 1, 0, none⟩ = some (.int .i64 0) := BR.out.cell 0 _ rfl
  have z1 : w3.cell? ⟨w.heap.size + 1 + 1 + 1 + 1, 1, none⟩ = some (.int .i64 0) := BR.out.cell 1 _ rfl
  have z2 : w3.cell? ⟨w.heap.size + 1 + 1 + 1 + 1, 2, none⟩ = some (.int .i64 0) := BR.out.cell 2 _ rfl
  have z3 : w3.cell? ⟨w.heap.size + 1 + 1 + 1 + 1, 3, none⟩ = some (.int .i64 0) := BR.out.cell 3 _ rfl
  have z4 : w3.cell? ⟨w.heap.size + 1 + 1 + 1 + 1, 4, none⟩ = some (.int .i64 0) := BR.out.cell 4 _ rfl
  have z5 : w3.cell? ⟨w.heap.size + 1 + 1 + 1 + 1, 5, none⟩ = some (.int .i64 0) := BR.out.cell 5 _ rfl
  have z6 : w3.cell? ⟨w.heap.size + 1 + 1 + 1 + 1, 6, none⟩ = some (.int .i64 0) := BR.out.cell 6 _ rfl
  have z7 : w3.cell? ⟨w.heap.size + 1 + 1 + 1 + 1, 7, none⟩ = some (.int .i64 0) := BR.out.cell 7 _ rfl
  have z8 : w3.cell? ⟨w.heap.size + 1 + 1 + 1 + 1, 8, none⟩ = some (.int .i64 0) := BR.out.cell 8 _ rfl
  have z9 : w3.cell? ⟨w.heap.size + 1 + 1 + 1 + 1, 9, none⟩ = some (.int .i64 0) := BR.out.cell 9 _ rfl
  have z10 : w3.cell? ⟨w.heap.size + 1 + 1 + 1 + 1, 10, none⟩ = some (.int .i64 0) := BR.out.cell 10 _ rfl
  have z11 : w3.cell? ⟨w.heap.size + 1 + 1 + 1 + 1, 11, none⟩ = some (.bool false) := BR.out.cell 11 _ rfl
  have zf : ∀ o, w3.frozen? ⟨w.heap.size + 1 + 1 + 1 + 1, o, none⟩ = false := BR.out.fr
  have zl := BR.out.lt
  go_wp2_with fail
  have HRS : Hid (Has _ (w.heap.size + 1 + 1 + 1 + 1) [.int .i64 0, .int .i64 0, .int .i64 0, .int .i64 0, .int .i64 0, .int .i64 0, .int .i64 0, .int .i64 0, .int .i64 0, .int .i64 0, .int .i64 0, .bool false]) := Lib.hid ((((((((((((BR.out.set 0 (.int .i64 0) (by simp)).set 1 (.int .i64 0) (by simp)).set 2 (.int .i64 0) (by simp)).set 3 (.int .i64 0) (by simp)).set 4 (.int .i64 0) (by simp)).set 5 (.int .i64 0) (by simp)).set 6 (.int .i64 0) (by simp)).set 7 (.int .i64 0) (by simp)).set 8 (.int .i64 0) (by simp)).set 9 (.int .i64 0) (by simp)).set 10 (.int .i64 0) (by simp)).set 11 (.bool false) (by simp))
  have HBR := Lib.hid ((((((((((((HB.out.setCell (p := ⟨w.heap.size + 1 + 1 + 1 + 1, 0, none⟩) (by simp; omega) (.int .i64 0)).setCell (p := ⟨w.heap.size + 1 + 1 + 1 + 1, 1, none⟩) (by simp; omega) (.int .i64 0)).setCell (p := ⟨w.heap.size + 1 + 1 + 1 + 1, 2, none⟩) (by simp; omega) (.int .i64 0)).setCell (p := ⟨w.heap.size + 1 + 1 + 1 + 1, 3, none⟩) (by simp; omega) (.int .i64 0)).setCell (p := ⟨w.heap.size + 1 + 1 + 1 + 1, 4, none⟩) (by simp; omega) (.int .i64 0)).setCell (p := ⟨w.heap.size + 1 + 1 + 1 + 1, 5, none⟩) (by simp; omega) (.int .i64 0)).setCell (p := ⟨w.heap.size + 1 + 1 + 1 + 1, 6, none⟩) (by simp; omega) (.int .i64 0)).setCell (p := ⟨w.heap.size + 1 + 1 + 1 + 1, 7, none⟩) (by simp; omega) (.int .i64 0)).setCell (p := ⟨w.heap.size + 1 + 1 + 1 + 1, 8, none⟩) (by simp; omega) (.int .i64 0)).setCell (p := ⟨w.heap.size + 1 + 1 + 1 + 1, 9, none⟩) (by simp; omega) (.int .i64 0)).setCell (p := ⟨w.heap.size + 1 + 1 + 1 + 1, 10, none⟩) (by simp; omega) (.int .i64 0)).setCell (p := ⟨w.heap.size + 1 + 1 + 1 + 1, 11, none⟩) (by simp; omega) (.bool false))
  have y0 := HRS.out.cell 0 _ rfl
  have y1 := HRS.out.cell 1 _ rfl
  have y2 := HRS.out.cell 2 _ rfl
  have y3 := HRS.out.cell 3 _ rfl
  have y4 := HRS.out.cell 4 _ rfl
  have y5 := HRS.out.cell 5 _ rfl
  have y6 := HRS.out.cell 6 _ rfl
  have y7 := HRS.out.cell 7 _ rfl
  have y8 := HRS.out.cell 8 _ rfl
  have y9 := HRS.out.cell 9 _ rfl
  have y10 := HRS.out.cell 10 _ rfl
  have y11 := HRS.out.cell 11 _ rfl
  exact bodyPost_ret (v := .tuple #[.agg #[.int .i64 0, .int .i64 0, .int .i64 0, .int .i64 0, .int .i64 0, .int .i64 0, .int .i64 0, .int .i64 0, .int .i64 0, .int .i64 0, .int .i64 0, .bool false], .int .i64 2]) (by simp [results, Tryz.results7, go_sem, y0, y1, y2, y3, y4, y5, y6, y7, y8, y9, y10, y11]) rfl ⟨by rw [HR0.out, HV.out]; rfl, HBR.out⟩
set_option maxRecDepth 100000 in
set_option maxHeartbeats 8000000 in
theorem rFlyOk (c : Cr) (p : Prf) (em : Int) (t0 t1 t2 tb ts ta tv we wn : Int) (E : Option Addr) (ne ce : Nat) (er : List (Int × Int)) (se sn si : Int) (th st : Bool) (s0 s1 : ByteArray) (w : World) (hl : p.lies w) (hok : p.ok) (he : Recs er2 2 w E ne er) (hne : ne ≤ maxLen) (hem : I64 em) (h1 : c.E = 0) (h2 : moE we wn se sn er s0 s1 = 0) (h3 : pfE p = 0) (hem2 : inB em 0 3000000000 = true) : Calls Tryz.prog 7 #[.agg #[.int .i64 c.tk, .int .i64 c.px, .int .i64 c.py, .int .i64 c.ve, .int .i64 c.vn, .int .i64 c.al, .int .i64 c.vs, .int .i64 c.hd, .int .i64 c.ca, .int .i64 c.fu, .int .i64 c.bk, .bool c.gr], .agg p.cells.toArray, .int .i64 em, .agg #[.int .u8 t0, .int .u8 t1, .int .u8 t2, .int .i64 tb, .int .i64 ts, .int .i64 ta, .int .i64 tv], .agg #[.int .i64 we, .int .i64 wn, .slice E ne ce, .int .i64 se, .int .i64 sn, .int .u16 si, .bool th, .bool st, .string s0, .string s1]] w fun e w' => e = .returned (.tuple #[.agg (flR c p em tb ts tv we wn se sn er s0 s1).cells.toArray, .int .i64 (flE c p em tb ts tv we wn se sn er s0 s1)]) ∧ Below w.heap.size w w' := by
  have HC := Lib.hid (rCraft c.tk c.px c.py c.ve c.vn c.al c.vs c.hd c.ca c.fu c.bk c.gr)
  rw [show crE c.tk c.px c.py c.ve c.vn c.al c.vs c.hd c.ca c.fu c.bk = c.E from rfl] at HC
  rw [h1] at HC
  have HM := Lib.hid (fun w' hB => rMoment we wn se sn si th st E ne ce er s0 s1 w' (he.below (w' := w') hB) hne)
  rw [h2] at HM
  have HP := Lib.hid (fun w' hB => rPfCheck p w' (hl.below (w' := w') hB) hok)
  rw [h3] at HP
  have HFL := Lib.hid (fun a m s w' hB => rCruiseFlow p a m s w' (hl.below (w' := w') hB) hok)
  have HF0A := Lib.hid (fun a m s => crf_n0 hl a m s)
  have HV := Lib.hid (show flE c p em tb ts tv we wn se sn er s0 s1 = if c.E ≠ 0 then c.E else if moE we wn se sn er s0 s1 ≠ 0 then moE we wn se sn er s0 s1 else if pfE p ≠ 0 then pfE p else if inB em 0 3000000000 = true then (if flOk (flC c p em tb ts tv we wn) = true then 0 else 2) else 2 from rfl)
  replace HV := Lib.hid ((((HV.out.trans (if_neg (by rw [h1]; simp))).trans (if_neg (by rw [h2]; simp))).trans (if_neg (by rw [h3]; simp))).trans (if_pos hem2))
  have HR0 := Lib.hid (fun (h : flE c p em tb ts tv we wn se sn er s0 s1 ≠ 0) => show flR c p em tb ts tv we wn se sn er s0 s1 = Cr.zero from if_neg h)
  have HR1 := Lib.hid (fun (h : flE c p em tb ts tv we wn se sn er s0 s1 = 0) => show flR c p em tb ts tv we wn se sn er s0 s1 = flC c p em tb ts tv we wn from if_pos h)
  have HEM := Lib.hid (inB_iff.1 hem2)
  have HI := Lib.hid (fun W => show Calls Tryz.prog 30 #[.int .i64 em, .int .i64 0, .int .i64 3000000000] W _ from rOut em 0 3000000000 W)
  rw [hem2, Bool.not_true] at HI
  obtain ⟨⟨v0, v1⟩, ⟨v2, v3⟩, ⟨v4, v5⟩, ⟨v6, v7⟩, ⟨v8, v9⟩, ⟨v10, v11⟩, ⟨v12, v13⟩, ⟨v14, v15⟩, ⟨v16, v17⟩, ⟨v18, v19⟩, v20, v21⟩ := cr_zero h1
  obtain ⟨⟨q0, q1⟩, q2, q3⟩ := mo_wind h2
  have H1 := Lib.hid h1
  clear h1 h2 h3 hem2
  clear hl hok he hem
  go_enter Tryz.func7, Tryz.ntmps7
  go_wp2_with fail
  refine (HC.out _).mono ?_; rintro e w1 ⟨rfl, hB⟩
  have BC : Hid (Has w1 (w.heap.size) [.int .i64 c.tk, .int .i64 c.px, .int .i64 c.py, .int .i64 c.ve, .int .i64 c.vn, .int .i64 c.al, .int .i64 c.vs, .int .i64 c.hd, .int .i64 c.ca, .int .i64 c.fu, .int .i64 c.bk, .bool c.gr]) := Lib.hid ((((((Has.new w _ _).alloc _).alloc _).alloc _).alloc _).below hB)
  have BP : Hid (Has w1 (w.heap.size + 1) p.cells) := Lib.hid (((((Has.newAt (w.alloc _) _ _ (w.heap.size + 1) (by simp)).alloc _).alloc _).alloc _).below hB)
  have BT : Hid (Has w1 (w.heap.size + 1 + 1) [.int .u8 t0, .int .u8 t1, .int .u8 t2, .int .i64 tb, .int .i64 ts, .int .i64 ta, .int .i64 tv]) := Lib.hid ((((Has.newAt ((w.alloc _).alloc _) _ _ (w.heap.size + 1 + 1) (by simp)).alloc _).alloc _).below hB)
  have BM : Hid (Has w1 (w.heap.size + 1 + 1 + 1) [.int .i64 we, .int .i64 wn, .slice E ne ce, .int .i64 se, .int .i64 sn, .int .u16 si, .bool th, .bool st, .string s0, .string s1]) := Lib.hid (((Has.newAt (((w.alloc _).alloc _).alloc _) _ _ (w.heap.size + 1 + 1 + 1) (by simp)).alloc _).below hB)
  have BR : Hid (Has w1 (w.heap.size + 1 + 1 + 1 + 1) [.int .i64 0, .int .i64 0, .int .i64 0, .int .i64 0, .int .i64 0, .int .i64 0, .int .i64 0, .int .i64 0, .int .i64 0, .int .i64 0, .int .i64 0, .bool false]) := Lib.hid ((Has.newAt ((((w.alloc _).alloc _).alloc _).alloc _) _ _ (w.heap.size + 1 + 1 + 1 + 1) (by simp)).below hB)
  have HB := Lib.hid (((below_alloc4 w _ _ _ _).alloc (by simp; omega) _).trans (hB.mono (by simp; omega)))
  clear hB HC
  have m0 : w1.cell? ⟨w.heap.size + 1 + 1 + 1, 0, none⟩ = some (.int .i64 we) := BM.out.cell 0 _ rfl
  have m1 : w1.cell? ⟨w.heap.size + 1 + 1 + 1, 1, none⟩ = some (.int .i64 wn) := BM.out.cell 1 _ rfl
  have m2 : w1.cell? ⟨w.heap.size + 1 + 1 + 1, 2, none⟩ = some (.slice E ne ce) := BM.out.cell 2 _ rfl
  have m3 : w1.cell? ⟨w.heap.size + 1 + 1 + 1, 3, none⟩ = some (.int .i64 se) := BM.out.cell 3 _ rfl
  have m4 : w1.cell? ⟨w.heap.size + 1 + 1 + 1, 4, none⟩ = some (.int .i64 sn) := BM.out.cell 4 _ rfl
  have m5 : w1.cell? ⟨w.heap.size + 1 + 1 + 1, 5, none⟩ = some (.int .u16 si) := BM.out.cell 5 _ rfl
  have m6 : w1.cell? ⟨w.heap.size + 1 + 1 + 1, 6, none⟩ = some (.bool th) := BM.out.cell 6 _ rfl
  have m7 : w1.cell? ⟨w.heap.size + 1 + 1 + 1, 7, none⟩ = some (.bool st) := BM.out.cell 7 _ rfl
  have m8 : w1.cell? ⟨w.heap.size + 1 + 1 + 1, 8, none⟩ = some (.string s0) := BM.out.cell 8 _ rfl
  have m9 : w1.cell? ⟨w.heap.size + 1 + 1 + 1, 9, none⟩ = some (.string s1) := BM.out.cell 9 _ rfl
  go_wp2_with fail
  refine (HM.out _ HB.out).mono ?_; rintro e w2 ⟨rfl, hB⟩
  clear m0 m1 m2 m3 m4 m5 m6 m7 m8 m9 HM
  replace BC := Lib.hid (BC.out.below hB)
  replace BP := Lib.hid (BP.out.below hB)
  replace BT := Lib.hid (BT.out.below hB)
  replace BM := Lib.hid (BM.out.below hB)
  replace BR := Lib.hid (BR.out.below hB)
  replace HB := Lib.hid (bel_trans HB.out hB)
  clear hB
  go_wp2_with (refine at_prf (.tmp 6) rfl rfl rfl BP.out ?_)
  refine (HP.out _ HB.out).mono ?_; rintro e w3 ⟨rfl, hB⟩
  clear HP
  replace BC := Lib.hid (BC.out.below hB)
  replace BP := Lib.hid (BP.out.below hB)
  replace BT := Lib.hid (BT.out.below hB)
  replace BM := Lib.hid (BM.out.below hB)
  replace BR := Lib.hid (BR.out.below hB)
  replace HB := Lib.hid (bel_trans HB.out hB)
  clear hB
  go_wp2_with fail
  refine (HI.out _).mono ?_; rintro e wx ⟨rfl, rfl⟩
  clear HI
  have HS : Hid (FlS w [.int .i64 c.tk, .int .i64 c.px, .int .i64 c.py, .int .i64 c.ve, .int .i64 c.vn, .int .i64 c.al, .int .i64 c.vs, .int .i64 c.hd, .int .i64 c.ca, .int .i64 c.fu, .int .i64 c.bk, .bool c.gr] p [.int .u8 t0, .int .u8 t1, .int .u8 t2, .int .i64 tb, .int .i64 ts, .int .i64 ta, .int .i64 tv] [.int .i64 we, .int .i64 wn, .slice E ne ce, .int .i64 se, .int .i64 sn, .int .u16 si, .bool th, .bool st, .string s0, .string s1] w3) := Lib.hid ⟨BC.out, BP.out, BT.out, BM.out, BR.out, HB.out⟩
  clear BC BP BT BM BR HB
  have HBK := Lib.hid (clamp_bd (x := tb) (lo := -3000) (hi := 3000) (by decide))
  have HVS := Lib.hid (clamp_bd (x := tv) (lo := -10000) (hi := 10000) (by decide))
  have HCA := Lib.hid (fCa_bd (sp := ts) v8 v9)
  have HGN := Lib.hid (show fGn c.gr (clampV tv (-10000) 10000) = (c.gr && decide (clampV tv (-10000) 10000 ≤ 0)) from rfl)
  have HFC := Lib.hid (show flC c p em tb ts tv we wn = ⟨c.tk + 10, c.px + 10 * (rnd (fSp (fCa c.ca ts) (fAl (fGn c.gr (clampV tv (-10000) 10000)) c.al (clampV tv (-10000) 10000)) * sinV (fHd c.hd (fZr (fGn c.gr (clampV tv (-10000) 10000)) (clampV tb (-3000) 3000)) (fSp (fCa c.ca ts) (fAl (fGn c.gr (clampV tv (-10000) 10000)) c.al (clampV tv (-10000) 10000))))) + fZr (fGn c.gr (clampV tv (-10000) 10000)) we), c.py + 10 * (rnd (fSp (fCa c.ca ts) (fAl (fGn c.gr (clampV tv (-10000) 10000)) c.al (clampV tv (-10000) 10000)) * cosV (fHd c.hd (fZr (fGn c.gr (clampV tv (-10000) 10000)) (clampV tb (-3000) 3000)) (fSp (fCa c.ca ts) (fAl (fGn c.gr (clampV tv (-10000) 10000)) c.al (clampV tv (-10000) 10000))))) + fZr (fGn c.gr (clampV tv (-10000) 10000)) wn), (rnd (fSp (fCa c.ca ts) (fAl (fGn c.gr (clampV tv (-10000) 10000)) c.al (clampV tv (-10000) 10000)) * sinV (fHd c.hd (fZr (fGn c.gr (clampV tv (-10000) 10000)) (clampV tb (-3000) 3000)) (fSp (fCa c.ca ts) (fAl (fGn c.gr (clampV tv (-10000) 10000)) c.al (clampV tv (-10000) 10000))))) + fZr (fGn c.gr (clampV tv (-10000) 10000)) we), (rnd (fSp (fCa c.ca ts) (fAl (fGn c.gr (clampV tv (-10000) 10000)) c.al (clampV tv (-10000) 10000)) * cosV (fHd c.hd (fZr (fGn c.gr (clampV tv (-10000) 10000)) (clampV tb (-3000) 3000)) (fSp (fCa c.ca ts) (fAl (fGn c.gr (clampV tv (-10000) 10000)) c.al (clampV tv (-10000) 10000))))) + fZr (fGn c.gr (clampV tv (-10000) 10000)) wn), fAl (fGn c.gr (clampV tv (-10000) 10000)) c.al (clampV tv (-10000) 10000), fZr (fGn c.gr (clampV tv (-10000) 10000)) (clampV tv (-10000) 10000), fHd c.hd (fZr (fGn c.gr (clampV tv (-10000) 10000)) (clampV tb (-3000) 3000)) (fSp (fCa c.ca ts) (fAl (fGn c.gr (clampV tv (-10000) 10000)) c.al (clampV tv (-10000) 10000))), fCa c.ca ts, fFu p (fAl (fGn c.gr (clampV tv (-10000) 10000)) c.al (clampV tv (-10000) 10000)) em c.fu (fSp (fCa c.ca ts) (fAl (fGn c.gr (clampV tv (-10000) 10000)) c.al (clampV tv (-10000) 10000))), fZr (fGn c.gr (clampV tv (-10000) 10000)) (clampV tb (-3000) 3000), fGn c.gr (clampV tv (-10000) 10000)⟩ from rfl)
  have HOK0 := Lib.hid (show flOk (flC c p em tb ts tv we wn) = (decide (c.tk + 10 ≤ 1099511627776) && ptB (flC c p em tb ts tv we wn).px (flC c p em tb ts tv we wn).py) from rfl)
  have k0 := HS.out.C.cell 0 (.int .i64 c.tk) rfl
  have kf := HS.out.C.fr
  have kl := HS.out.C.lt
  go_upto_region 13 with (fail)
  replace HS := Lib.hid (show FlS w [.int .i64 (c.tk + 10), .int .i64 c.px, .int .i64 c.py, .int .i64 c.ve, .int .i64 c.vn, .int .i64 c.al, .int .i64 c.vs, .int .i64 c.hd, .int .i64 c.ca, .int .i64 c.fu, .int .i64 c.bk, .bool c.gr] p [.int .u8 t0, .int .u8 t1, .int .u8 t2, .int .i64 tb, .int .i64 ts, .int .i64 ta, .int .i64 tv] [.int .i64 we, .int .i64 wn, .slice E ne ce, .int .i64 se, .int .i64 sn, .int .u16 si, .bool th, .bool st, .string s0, .string s1] _ from (HS.out.set 0 (.int .i64 (c.tk + 10)) (by simp)))
  clear k0 kf kl
  generalize ((w3).setCell ⟨w.heap.size, 0, none⟩ (.int .i64 (c.tk + 10))) = w4 at *
  have x0 := HS.out.C.cell 0 (.int .i64 (c.tk + 10)) rfl
  by_cases hT : c.tk + 10 ≤ 1099511627776
  rotate_left
  · have hT2 : 1099511627776 < c.tk + 10 := by omega
    have HV2 := Lib.hid (HV.out.trans (if_neg (by rw [HOK0.out, decide_eq_false hT]; simp)))
    clear hT
    have z0 := HS.out.R.cell 0 (.int .i64 0) rfl
    have z1 := HS.out.R.cell 1 (.int .i64 0) rfl
    have z2 := HS.out.R.cell 2 (.int .i64 0) rfl
    have z3 := HS.out.R.cell 3 (.int .i64 0) rfl
    have z4 := HS.out.R.cell 4 (.int .i64 0) rfl
    have z5 := HS.out.R.cell 5 (.int .i64 0) rfl
    have z6 := HS.out.R.cell 6 (.int .i64 0) rfl
    have z7 := HS.out.R.cell 7 (.int .i64 0) rfl
    have z8 := HS.out.R.cell 8 (.int .i64 0) rfl
    have z9 := HS.out.R.cell 9 (.int .i64 0) rfl
    have z10 := HS.out.R.cell 10 (.int .i64 0) rfl
    have z11 := HS.out.R.cell 11 (.bool false) rfl
    have zf := HS.out.R.fr
    have zl := HS.out.R.lt
    go_wp2_with fail
    have HRX := Lib.hid HS.out.R
    have HBX := Lib.hid HS.out.B
    have HRS := Lib.hid ((((((((((((HRX.out.set 0 (.int .i64 0) (by simp)).set 1 (.int .i64 0) (by simp)).set 2 (.int .i64 0) (by simp)).set 3 (.int .i64 0) (by simp)).set 4 (.int .i64 0) (by simp)).set 5 (.int .i64 0) (by simp)).set 6 (.int .i64 0) (by simp)).set 7 (.int .i64 0) (by simp)).set 8 (.int .i64 0) (by simp)).set 9 (.int .i64 0) (by simp)).set 10 (.int .i64 0) (by simp)).set 11 (.bool false) (by simp))
    have HBR := Lib.hid ((((((((((((HBX.out.setCell (p := ⟨w.heap.size + 1 + 1 + 1 + 1, 0, none⟩) (by simp; omega) (.int .i64 0)).setCell (p := ⟨w.heap.size + 1 + 1 + 1 + 1, 1, none⟩) (by simp; omega) (.int .i64 0)).setCell (p := ⟨w.heap.size + 1 + 1 + 1 + 1, 2, none⟩) (by simp; omega) (.int .i64 0)).setCell (p := ⟨w.heap.size + 1 + 1 + 1 + 1, 3, none⟩) (by simp; omega) (.int .i64 0)).setCell (p := ⟨w.heap.size + 1 + 1 + 1 + 1, 4, none⟩) (by simp; omega) (.int .i64 0)).setCell (p := ⟨w.heap.size + 1 + 1 + 1 + 1, 5, none⟩) (by simp; omega) (.int .i64 0)).setCell (p := ⟨w.heap.size + 1 + 1 + 1 + 1, 6, none⟩) (by simp; omega) (.int .i64 0)).setCell (p := ⟨w.heap.size + 1 + 1 + 1 + 1, 7, none⟩) (by simp; omega) (.int .i64 0)).setCell (p := ⟨w.heap.size + 1 + 1 + 1 + 1, 8, none⟩) (by simp; omega) (.int .i64 0)).setCell (p := ⟨w.heap.size + 1 + 1 + 1 + 1, 9, none⟩) (by simp; omega) (.int .i64 0)).setCell (p := ⟨w.heap.size + 1 + 1 + 1 + 1, 10, none⟩) (by simp; omega) (.int .i64 0)).setCell (p := ⟨w.heap.size + 1 + 1 + 1 + 1, 11, none⟩) (by simp; omega) (.bool false))
    have y0 := HRS.out.cell 0 (.int .i64 0) rfl
    have y1 := HRS.out.cell 1 (.int .i64 0) rfl
    have y2 := HRS.out.cell 2 (.int .i64 0) rfl
    have y3 := HRS.out.cell 3 (.int .i64 0) rfl
    have y4 := HRS.out.cell 4 (.int .i64 0) rfl
    have y5 := HRS.out.cell 5 (.int .i64 0) rfl
    have y6 := HRS.out.cell 6 (.int .i64 0) rfl
    have y7 := HRS.out.cell 7 (.int .i64 0) rfl
    have y8 := HRS.out.cell 8 (.int .i64 0) rfl
    have y9 := HRS.out.cell 9 (.int .i64 0) rfl
    have y10 := HRS.out.cell 10 (.int .i64 0) rfl
    have y11 := HRS.out.cell 11 (.bool false) rfl
    exact bodyPost_ret (v := .tuple #[.agg #[.int .i64 0, .int .i64 0, .int .i64 0, .int .i64 0, .int .i64 0, .int .i64 0, .int .i64 0, .int .i64 0, .int .i64 0, .int .i64 0, .int .i64 0, .bool false], .int .i64 2]) (by simp [results, Tryz.results7, go_sem, y0, y1, y2, y3, y4, y5, y6, y7, y8, y9, y10, y11]) rfl ⟨by rw [HR0.out (by rw [HV2.out]; decide), HV2.out]; rfl, HBR.out⟩
  have hT2 : ¬ 1099511627776 < c.tk + 10 := by omega
  have HTT := Lib.hid hT
  clear hT HOK0
  have r1 : min (max tb (-3000)) 3000 = clampV tb (-3000) 3000 := cl_mm (by decide)
  have r2 : min (max tv (-10000)) 10000 = clampV tv (-10000) 10000 := cl_mm (by decide)
  have r4 : min (max (min (max ts 0) 1000) (c.ca - 10)) (c.ca + 10) = fCa c.ca ts := by rw [cl_mm (x := ts) (by decide), cl_mm (by omega)]; rfl
  generalize fCa c.ca ts = CA at *
  generalize clampV tb (-3000) 3000 = BK0 at *
  generalize clampV tv (-10000) 10000 = VS0 at *
  have k6 := HS.out.C.cell 6 (.int .i64 c.vs) rfl
  have k8 := HS.out.C.cell 8 (.int .i64 c.ca) rfl
  have k10 := HS.out.C.cell 10 (.int .i64 c.bk) rfl
  have t3t := HS.out.T.cell 3 (.int .i64 tb) rfl
  have t4t := HS.out.T.cell 4 (.int .i64 ts) rfl
  have t6t := HS.out.T.cell 6 (.int .i64 tv) rfl
  have kf := HS.out.C.fr
  have kl := HS.out.C.lt
  go_upto_region 19 with (fail)
  clear k6 k8 k10 t3t t4t t6t kf kl
  clear x0 hT2 r1 r2 r4
  replace HS := Lib.hid (show FlS w [.int .i64 (c.tk + 10), .int .i64 c.px, .int .i64 c.py, .int .i64 c.ve, .int .i64 c.vn, .int .i64 c.al, .int .i64 (VS0), .int .i64 c.hd, .int .i64 (CA), .int .i64 c.fu, .int .i64 (BK0), .bool c.gr] p [.int .u8 t0, .int .u8 t1, .int .u8 t2, .int .i64 tb, .int .i64 ts, .int .i64 ta, .int .i64 tv] [.int .i64 we, .int .i64 wn, .slice E ne ce, .int .i64 se, .int .i64 sn, .int .u16 si, .bool th, .bool st, .string s0, .string s1] _ from (((HS.out.set 10 (.int .i64 (BK0)) (by simp)).set 6 (.int .i64 (VS0)) (by simp)).set 8 (.int .i64 (CA)) (by simp)))
  generalize ((((((w4).setCell ⟨w.heap.size, 10, none⟩ (.int .i64 (BK0)))).setCell ⟨w.heap.size, 6, none⟩ (.int .i64 (VS0)))).setCell ⟨w.heap.size, 8, none⟩ (.int .i64 (CA))) = w5 at *
  have k11 := HS.out.C.cell 11 (.bool c.gr) rfl
  have k6 := HS.out.C.cell 6 (.int .i64 (VS0)) rfl
  go_cut [84] (fun s84 wx => s84 = .bool (fGn c.gr VS0) ∧ FlS w [.int .i64 (c.tk + 10), .int .i64 c.px, .int .i64 c.py, .int .i64 c.ve, .int .i64 c.vn, .int .i64 c.al, .int .i64 (VS0), .int .i64 c.hd, .int .i64 (CA), .int .i64 c.fu, .int .i64 (BK0), .bool c.gr] p [.int .u8 t0, .int .u8 t1, .int .u8 t2, .int .i64 tb, .int .i64 ts, .int .i64 ta, .int .i64 tv] [.int .i64 we, .int .i64 wn, .slice E ne ce, .int .i64 se, .int .i64 sn, .int .u16 si, .bool th, .bool st, .string s0, .string s1] wx)
  case first =>
    as_aux_lemma =>
    by_cases hg : c.gr = true
    · rw [hg] at k11
      have HG := Lib.hid hg
      clear hg
      go_wp2_with fail
      go_meet
      exact ⟨by simp [fGn, HG.out], HS.out⟩
    · have hg' : c.gr = false := by simpa using hg
      rw [hg'] at k11
      have HG := Lib.hid hg'
      clear hg hg'
      go_wp2_with fail
      go_meet
      exact ⟨by simp [fGn, HG.out], HS.out⟩
  case rest =>
    obtain ⟨rfl, hS⟩ := hcut
    replace HS := Lib.hid hS
    clear hS
    clear k11 k6
    generalize hgn : fGn c.gr VS0 = GN at *
    have HGT := Lib.hid (show GN = true → c.gr = true from fun h => by have := HGN.out; rw [h] at this; simp at this; exact this.1)
    have HAL := Lib.hid (al_mm (al := c.al) (vs := VS0) GN ⟨v2, v3⟩)
    have HAB := Lib.hid (al_bd (vs := VS0) GN (al := c.al) ⟨v2, v3⟩)
    go_upto_if 84 with (fail)
    go_cut [] (fun wx => FlS w [.int .i64 (c.tk + 10), .int .i64 c.px, .int .i64 c.py, .int .i64 c.ve, .int .i64 c.vn, .int .i64 c.al, .int .i64 (fZr GN VS0), .int .i64 c.hd, .int .i64 (CA), .int .i64 c.fu, .int .i64 (fZr GN BK0), .bool GN] p [.int .u8 t0, .int .u8 t1, .int .u8 t2, .int .i64 tb, .int .i64 ts, .int .i64 ta, .int .i64 tv] [.int .i64 we, .int .i64 wn, .slice E ne ce, .int .i64 se, .int .i64 sn, .int .u16 si, .bool th, .bool st, .string s0, .string s1] wx)
    case first =>
      cases hg : GN
      · as_aux_lemma =>
        have HG := Lib.hid hg
        clear hg
        have x11 := HS.out.C.cell 11 (.bool c.gr) rfl
        have kf := HS.out.C.fr
        have kl := HS.out.C.lt
        go_wp2_with fail
        go_meet
        rw [HG.out, fZr_no, fZr_no]
        exact HS.out.set 11 (.bool false) (by simp)
      · as_aux_lemma =>
        have HG := Lib.hid hg
        clear hg
        have x6 := HS.out.C.cell 6 (.int .i64 (VS0)) rfl
        have x10 := HS.out.C.cell 10 (.int .i64 (BK0)) rfl
        have kf := HS.out.C.fr
        have kl := HS.out.C.lt
        go_wp2_with fail
        go_meet
        have hgr := HGT.out HG.out
        rw [HG.out, fZr_yes, fZr_yes]
        have H2 := (HS.out.set 6 (.int .i64 0) (by simp)).set 10 (.int .i64 0) (by simp)
        rw [hgr] at H2
        exact H2
    case rest =>
      replace HS := Lib.hid hcut
      clear hcut
      have HTS := Lib.hid (fTs_ok HCA.out HAB.out)
      have HSB := Lib.hid (fSp_bd (al := fAl GN c.al VS0) HCA.out.1)
      have HSP := Lib.hid (show fSp CA (fAl GN c.al VS0) = min (tsV CA (fAl GN c.al VS0) 0) 1000 from rfl)
      have HBKB := Lib.hid (fZr_bd (x := BK0) GN HBK.out (by decide) (by decide))
      have HVSB := Lib.hid (fZr_bd (x := VS0) GN HVS.out (by decide) (by decide))
      generalize fAl GN c.al VS0 = AL at *
      generalize fZr GN BK0 = BK at *
      generalize fZr GN VS0 = VS at *
      have r5 := HAL.out
      obtain ⟨b0, b1⟩ := HVSB.out
      have x5 := HS.out.C.cell 5 (.int .i64 c.al) rfl
      have x6 := HS.out.C.cell 6 (.int .i64 VS) rfl
      have kf := HS.out.C.fr
      have kl := HS.out.C.lt
      go_upto_region 23 with (fail)
      clear x5 x6 kf kl r5 b0 b1
      replace HS := Lib.hid (show FlS w [.int .i64 (c.tk + 10), .int .i64 c.px, .int .i64 c.py, .int .i64 c.ve, .int .i64 c.vn, .int .i64 (AL), .int .i64 (VS), .int .i64 c.hd, .int .i64 (CA), .int .i64 c.fu, .int .i64 (BK), .bool GN] p [.int .u8 t0, .int .u8 t1, .int .u8 t2, .int .i64 tb, .int .i64 ts, .int .i64 ta, .int .i64 tv] [.int .i64 we, .int .i64 wn, .slice E ne ce, .int .i64 se, .int .i64 sn, .int .u16 si, .bool th, .bool st, .string s0, .string s1] _ from HS.out.set 5 (.int .i64 (AL)) (by simp))
      have HTA := Lib.hid (fun w => rTAS CA AL 0 w)
      rw [HTS.out] at HTA
      have HRT := Lib.hid (fun w => rRate (fSp CA AL) (max BK (-BK)) w ⟨by have := HSB.out; omega, by have := HSB.out; omega⟩ ⟨by have := HBKB.out; omega, by have := HBKB.out; omega⟩)
      have HHD := Lib.hid (show fHd c.hd BK (fSp CA AL) = nrm (c.hd + (if BK < 0 then -(10 * rrV (fSp CA AL) (max BK (-BK))) else 10 * rrV (fSp CA AL) (max BK (-BK)))) from rfl)
      have HRE := Lib.hid (show rrE (fSp CA AL) (max BK (-BK)) = if rtB (fSp CA AL) (max BK (-BK)) = true then 0 else 2 from rfl)
      have HRN := Lib.hid (fun h => rr_no (s := fSp CA AL) (b := max BK (-BK)) h)
      have HRB := Lib.hid (rr_bd (fSp CA AL) (max BK (-BK)))
      have HHB := Lib.hid (fHd_bd c.hd BK (fSp CA AL))
      generalize fSp CA AL = SP at *
      generalize fHd c.hd BK SP = HD at *
      have x8 := HS.out.C.cell 8 (.int .i64 CA) rfl
      have x5 := HS.out.C.cell 5 (.int .i64 AL) rfl
      have r6 := HSP.out.symm
      obtain ⟨b0, b1⟩ := HBKB.out
      go_wp2_with fail
      clear x8 x5
      refine (HTA.out _).mono ?_; rintro e w6 ⟨rfl, hB⟩
      replace HS := Lib.hid (HS.out.below hB)
      clear hB
      have x10 := HS.out.C.cell 10 (.int .i64 BK) rfl
      go_wp2_with fail
      refine (HRT.out _).mono ?_; rintro e wx ⟨rfl, q, rfl⟩
      clear x10 r6
      replace HS := Lib.hid (HS.out.drewN q)
      generalize w6.drewN q = w7 at *
      generalize hre : rrE SP (max BK (-BK)) = RE at *
      have HRE2 := Lib.hid hre
      clear hre
      go_upto_if 123 with (fail)
      go_cut [18] (fun s18 wx => s18 = .int .i64 (rrV SP (max BK (-BK))) ∧ FlS w [.int .i64 (c.tk + 10), .int .i64 c.px, .int .i64 c.py, .int .i64 c.ve, .int .i64 c.vn, .int .i64 (AL), .int .i64 (VS), .int .i64 c.hd, .int .i64 (CA), .int .i64 c.fu, .int .i64 (BK), .bool GN] p [.int .u8 t0, .int .u8 t1, .int .u8 t2, .int .i64 tb, .int .i64 ts, .int .i64 ta, .int .i64 tv] [.int .i64 we, .int .i64 wn, .slice E ne ce, .int .i64 se, .int .i64 sn, .int .u16 si, .bool th, .bool st, .string s0, .string s1] wx)
      case first =>
        cases hr : rtB SP (max BK (-BK))
        · as_aux_lemma =>
          have hr2 := HRE.out
          rw [hr, if_neg (by decide)] at hr2
          have e3 : (RE == 0) = false := by rw [hr2]; decide
          have e4 := bne_of e3
          have HR0 := Lib.hid (HRN.out hr)
          clear hr hr2
          go_wp2_with fail
          go_meet
          exact ⟨by rw [HR0.out], HS.out⟩
        · as_aux_lemma =>
          have hr2 := HRE.out
          rw [hr, if_pos rfl] at hr2
          have e3 : (RE == 0) = true := by rw [hr2]; decide
          have e4 : (RE != 0) = false := by rw [hr2]; decide
          clear hr hr2
          go_wp2_with fail
          go_meet
          exact ⟨rfl, HS.out⟩
      case rest =>
        obtain ⟨rfl, hS⟩ := hcut
        replace HS := Lib.hid hS
        clear hS HRE HRE2 HRN HRT
        obtain ⟨r0, r1⟩ := HRB.out
        generalize rrV SP (max BK (-BK)) = RR at *
        have x10 := HS.out.C.cell 10 (.int .i64 BK) rfl
        go_upto_if 126 with (fail)
        clear x10
        go_cut [18] (fun s18 wx => s18 = .int .i64 (if BK < 0 then -RR else RR) ∧ FlS w [.int .i64 (c.tk + 10), .int .i64 c.px, .int .i64 c.py, .int .i64 c.ve, .int .i64 c.vn, .int .i64 (AL), .int .i64 (VS), .int .i64 c.hd, .int .i64 (CA), .int .i64 c.fu, .int .i64 (BK), .bool GN] p [.int .u8 t0, .int .u8 t1, .int .u8 t2, .int .i64 tb, .int .i64 ts, .int .i64 ta, .int .i64 tv] [.int .i64 we, .int .i64 wn, .slice E ne ce, .int .i64 se, .int .i64 sn, .int .u16 si, .bool th, .bool st, .string s0, .string s1] wx)
        case first =>
          as_aux_lemma =>
          by_cases hneg : BK < 0
          · have HX := Lib.hid (show (if BK < 0 then -RR else RR) = -RR from if_pos hneg)
            go_wp2_with fail
            go_meet
            exact ⟨by rw [HX.out], HS.out⟩
          · have HX := Lib.hid (show (if BK < 0 then -RR else RR) = RR from if_neg hneg)
            go_wp2_with fail
            go_meet
            exact ⟨by rw [HX.out], HS.out⟩
        case rest =>
          obtain ⟨rfl, hS⟩ := hcut
          replace HS := Lib.hid hS
          clear hS
          have HX := Lib.hid (HHD.out.trans (hd_md (hd := c.hd) (b := BK) (r := RR)))
          have HRTB := Lib.hid (md_bd (if BK < 0 then -RR else RR))
          generalize (if BK < 0 then -RR else RR) = RT at *
          clear r0 r1
          obtain ⟨r0, r1⟩ := HRTB.out
          clear HHD HRB
          generalize hmd : RT.tmod 129600000 = TM at *
          have x7 := HS.out.C.cell 7 (.int .i64 c.hd) rfl
          have kf := HS.out.C.fr
          have kl := HS.out.C.lt
          go_wp2_with fail
          refine (rNorm (c.hd + 10 * TM) ⟨by omega, by omega⟩ _).mono ?_; rintro e wx ⟨rfl, rfl⟩
          rw [← HX.out]
          go_upto_region 33 with (fail)
          clear x7 kf kl hmd r0 r1
          replace HS := Lib.hid (show FlS w [.int .i64 (c.tk + 10), .int .i64 c.px, .int .i64 c.py, .int .i64 c.ve, .int .i64 c.vn, .int .i64 (AL), .int .i64 (VS), .int .i64 (HD), .int .i64 (CA), .int .i64 c.fu, .int .i64 (BK), .bool GN] p [.int .u8 t0, .int .u8 t1, .int .u8 t2, .int .i64 tb, .int .i64 ts, .int .i64 ta, .int .i64 tv] [.int .i64 we, .int .i64 wn, .slice E ne ce, .int .i64 se, .int .i64 sn, .int .u16 si, .bool th, .bool st, .string s0, .string s1] _ from HS.out.set 7 (.int .i64 (HD)) (by simp))
          have HSN := Lib.hid (fun w => rSin HD ⟨by have := HHB.out; omega, by have := HHB.out; omega⟩ w)
          have HCN := Lib.hid (fun w => rCos HD ⟨by have := HHB.out; omega, by have := HHB.out; omega⟩ w)
          have HSNB := Lib.hid (sinV_bd HD)
          have HCNB := Lib.hid (cosV_bd HD)
          have HR1B := Lib.hid (rnd_bd (s := SP) HSB.out (sinV_bd HD))
          have HR2B := Lib.hid (rnd_bd (s := SP) HSB.out (cosV_bd HD))
          generalize sinV HD = SN at *
          generalize cosV HD = CN at *
          have HV1 := Lib.hid (fun w => rRnd SP SN ⟨by have := HSB.out; omega, by have := HSB.out; omega⟩ ⟨by have := HSNB.out; omega, by have := HSNB.out; omega⟩ HR1B.out.1.1 HR1B.out.1.2 w)
          have HV2 := Lib.hid (fun w => rRnd SP CN ⟨by have := HSB.out; omega, by have := HSB.out; omega⟩ ⟨by have := HCNB.out; omega, by have := HCNB.out; omega⟩ HR2B.out.1.1 HR2B.out.1.2 w)
          obtain ⟨⟨z0, z1⟩, z2, z3⟩ := HR1B.out
          obtain ⟨⟨z4, z5⟩, z6, z7⟩ := HR2B.out
          generalize rnd (SP * SN) = RV1 at *
          generalize rnd (SP * CN) = RV2 at *
          have x7 := HS.out.C.cell 7 (.int .i64 HD) rfl
          go_wp2_with fail
          refine (HSN.out _).mono ?_; rintro e wx ⟨rfl, rfl⟩
          go_wp2_with fail
          refine (HV1.out _).mono ?_; rintro e wx ⟨rfl, rfl⟩
          go_wp2_with fail
          refine (HCN.out _).mono ?_; rintro e wx ⟨rfl, rfl⟩
          go_wp2_with fail
          refine (HV2.out _).mono ?_; rintro e wx ⟨rfl, rfl⟩
          have x11 := HS.out.C.cell 11 (.bool GN) rfl
          go_upto_if 155 with (fail)
          clear x7 x11
          go_cut [19, 21] (fun s19 s21 wx => s19 = .int .i64 (RV1 + fZr GN we) ∧ s21 = .int .i64 (RV2 + fZr GN wn) ∧ FlS w [.int .i64 (c.tk + 10), .int .i64 c.px, .int .i64 c.py, .int .i64 c.ve, .int .i64 c.vn, .int .i64 (AL), .int .i64 (VS), .int .i64 (HD), .int .i64 (CA), .int .i64 c.fu, .int .i64 (BK), .bool GN] p [.int .u8 t0, .int .u8 t1, .int .u8 t2, .int .i64 tb, .int .i64 ts, .int .i64 ta, .int .i64 tv] [.int .i64 we, .int .i64 wn, .slice E ne ce, .int .i64 se, .int .i64 sn, .int .u16 si, .bool th, .bool st, .string s0, .string s1] wx)
          case first =>
            as_aux_lemma =>
            have y0 := HS.out.M.cell 0 (.int .i64 we) rfl
            have y1 := HS.out.M.cell 1 (.int .i64 wn) rfl
            cases hg : GN
            · have HG := Lib.hid hg
              clear hg
              go_wp2_with fail
              go_quiet (fail)
              go_wp2_with fail
              go_meet
              rw [HG.out, fZr_no, fZr_no]
              have H2 := HS.out
              rw [HG.out] at H2
              exact ⟨rfl, rfl, H2.drewN _⟩
            · have HG := Lib.hid hg
              clear hg
              go_wp2_with fail
              go_meet
              rw [HG.out, fZr_yes, fZr_yes, Int.add_zero, Int.add_zero]
              have H2 := HS.out
              rw [HG.out] at H2
              exact ⟨rfl, rfl, H2⟩
          case rest =>
            obtain ⟨rfl, rfl, hS⟩ := hcut
            replace HS := Lib.hid hS
            clear hS
            have HWB := Lib.hid (show (-200 ≤ fZr GN we ∧ fZr GN we ≤ 200) ∧ -200 ≤ fZr GN wn ∧ fZr GN wn ≤ 200 by unfold fZr; split <;> omega)
            obtain ⟨⟨g0, g1⟩, g2, g3⟩ := HWB.out
            have HVB := Lib.hid (show (-1200 ≤ RV1 + fZr GN we ∧ RV1 + fZr GN we ≤ 1200) ∧ -1200 ≤ RV2 + fZr GN wn ∧ RV2 + fZr GN wn ≤ 1200 by omega)
            generalize fZr GN we = WE at *
            generalize fZr GN wn = WN at *
            clear g0 g1 g2 g3 z2 z3 z6 z7
            obtain ⟨⟨g0, g1⟩, g2, g3⟩ := HVB.out
            generalize RV1 + WE = VE at *
            generalize RV2 + WN = VN at *
            have kf := HS.out.C.fr
            have kl := HS.out.C.lt
            have x1 := HS.out.C.cell 1 (.int .i64 c.px) rfl
            have x2 := HS.out.C.cell 2 (.int .i64 c.py) rfl
            have x3 := HS.out.C.cell 3 (.int .i64 c.ve) rfl
            have x4 := HS.out.C.cell 4 (.int .i64 c.vn) rfl
            have HOK := Lib.hid (show flOk (flC c p em tb ts tv we wn) = (decide (c.tk + 10 ≤ 1099511627776) && ptB (c.px + 10 * VE) (c.py + 10 * VN)) by rw [HFC.out]; rfl)
            go_wp2_with fail
            refine (rValid _ _ _).mono ?_; rintro e w8 ⟨rfl, hB⟩
            replace HS := Lib.hid (((((HS.out.set 3 (.int .i64 (VE)) (by simp)).set 4 (.int .i64 (VN)) (by simp)).set 1 (.int .i64 (c.px + 10 * VE)) (by simp)).set 2 (.int .i64 (c.py + 10 * VN)) (by simp)).below hB)
            clear hB x1 x2 x3 x4 kf kl
            cases hpt : ptB (c.px + 10 * VE) (c.py + 10 * VN)
            · have HV2 := Lib.hid (HV.out.trans (if_neg (by rw [HOK.out, hpt]; simp)))
              clear hpt
              have z0 := HS.out.R.cell 0 (.int .i64 0) rfl
              have z1 := HS.out.R.cell 1 (.int .i64 0) rfl
              have z2 := HS.out.R.cell 2 (.int .i64 0) rfl
              have z3 := HS.out.R.cell 3 (.int .i64 0) rfl
              have z4 := HS.out.R.cell 4 (.int .i64 0) rfl
              have z5 := HS.out.R.cell 5 (.int .i64 0) rfl
              have z6 := HS.out.R.cell 6 (.int .i64 0) rfl
              have z7 := HS.out.R.cell 7 (.int .i64 0) rfl
              have z8 := HS.out.R.cell 8 (.int .i64 0) rfl
              have z9 := HS.out.R.cell 9 (.int .i64 0) rfl
              have z10 := HS.out.R.cell 10 (.int .i64 0) rfl
              have z11 := HS.out.R.cell 11 (.bool false) rfl
              have zf := HS.out.R.fr
              have zl := HS.out.R.lt
              go_wp2_with fail
              have HRX := Lib.hid HS.out.R
              have HBX := Lib.hid HS.out.B
              have HRS := Lib.hid ((((((((((((HRX.out.set 0 (.int .i64 0) (by simp)).set 1 (.int .i64 0) (by simp)).set 2 (.int .i64 0) (by simp)).set 3 (.int .i64 0) (by simp)).set 4 (.int .i64 0) (by simp)).set 5 (.int .i64 0) (by simp)).set 6 (.int .i64 0) (by simp)).set 7 (.int .i64 0) (by simp)).set 8 (.int .i64 0) (by simp)).set 9 (.int .i64 0) (by simp)).set 10 (.int .i64 0) (by simp)).set 11 (.bool false) (by simp))
              have HBR := Lib.hid ((((((((((((HBX.out.setCell (p := ⟨w.heap.size + 1 + 1 + 1 + 1, 0, none⟩) (by simp; omega) (.int .i64 0)).setCell (p := ⟨w.heap.size + 1 + 1 + 1 + 1, 1, none⟩) (by simp; omega) (.int .i64 0)).setCell (p := ⟨w.heap.size + 1 + 1 + 1 + 1, 2, none⟩) (by simp; omega) (.int .i64 0)).setCell (p := ⟨w.heap.size + 1 + 1 + 1 + 1, 3, none⟩) (by simp; omega) (.int .i64 0)).setCell (p := ⟨w.heap.size + 1 + 1 + 1 + 1, 4, none⟩) (by simp; omega) (.int .i64 0)).setCell (p := ⟨w.heap.size + 1 + 1 + 1 + 1, 5, none⟩) (by simp; omega) (.int .i64 0)).setCell (p := ⟨w.heap.size + 1 + 1 + 1 + 1, 6, none⟩) (by simp; omega) (.int .i64 0)).setCell (p := ⟨w.heap.size + 1 + 1 + 1 + 1, 7, none⟩) (by simp; omega) (.int .i64 0)).setCell (p := ⟨w.heap.size + 1 + 1 + 1 + 1, 8, none⟩) (by simp; omega) (.int .i64 0)).setCell (p := ⟨w.heap.size + 1 + 1 + 1 + 1, 9, none⟩) (by simp; omega) (.int .i64 0)).setCell (p := ⟨w.heap.size + 1 + 1 + 1 + 1, 10, none⟩) (by simp; omega) (.int .i64 0)).setCell (p := ⟨w.heap.size + 1 + 1 + 1 + 1, 11, none⟩) (by simp; omega) (.bool false))
              have y0 := HRS.out.cell 0 (.int .i64 0) rfl
              have y1 := HRS.out.cell 1 (.int .i64 0) rfl
              have y2 := HRS.out.cell 2 (.int .i64 0) rfl
              have y3 := HRS.out.cell 3 (.int .i64 0) rfl
              have y4 := HRS.out.cell 4 (.int .i64 0) rfl
              have y5 := HRS.out.cell 5 (.int .i64 0) rfl
              have y6 := HRS.out.cell 6 (.int .i64 0) rfl
              have y7 := HRS.out.cell 7 (.int .i64 0) rfl
              have y8 := HRS.out.cell 8 (.int .i64 0) rfl
              have y9 := HRS.out.cell 9 (.int .i64 0) rfl
              have y10 := HRS.out.cell 10 (.int .i64 0) rfl
              have y11 := HRS.out.cell 11 (.bool false) rfl
              exact bodyPost_ret (v := .tuple #[.agg #[.int .i64 0, .int .i64 0, .int .i64 0, .int .i64 0, .int .i64 0, .int .i64 0, .int .i64 0, .int .i64 0, .int .i64 0, .int .i64 0, .int .i64 0, .bool false], .int .i64 2]) (by simp [results, Tryz.results7, go_sem, y0, y1, y2, y3, y4, y5, y6, y7, y8, y9, y10, y11]) rfl ⟨by rw [HR0.out (by rw [HV2.out]; decide), HV2.out]; rfl, HBR.out⟩
            have HV2 := Lib.hid (HV.out.trans (if_pos (by rw [HOK.out, hpt, decide_eq_true HTT.out]; rfl)))
            clear hpt
            have HFU := Lib.hid (show fFu p AL em c.fu SP = if crfE p AL (em + c.fu) SP = 0 then max (c.fu - 10 * crfV p AL (em + c.fu) SP) 0 else c.fu from rfl)
            have HF0 := Lib.hid (HF0A.out AL (em + c.fu) SP)
            have HFF := Lib.hid (fun w' hB => HFL.out AL (em + c.fu) SP w' hB)
            generalize fFu p AL em c.fu SP = FU at *
            generalize crfE p AL (em + c.fu) SP = CE at *
            generalize crfV p AL (em + c.fu) SP = CV at *
            have x5 := HS.out.C.cell 5 (.int .i64 AL) rfl
            have x9 := HS.out.C.cell 9 (.int .i64 c.fu) rfl
            obtain ⟨e0, e1⟩ := HEM.out
            go_wp2_with (refine at_prf (.tmp 6) rfl rfl rfl HS.out.P ?_)
            refine (HFF.out _ HS.out.B).mono ?_; rintro e w9 ⟨rfl, hB⟩
            replace HS := Lib.hid (HS.out.below hB)
            clear hB x5 x9
            go_upto_if 202 with (fail)
            go_cut [] (fun wx => FlS w [.int .i64 (c.tk + 10), .int .i64 (c.px + 10 * VE), .int .i64 (c.py + 10 * VN), .int .i64 (VE), .int .i64 (VN), .int .i64 (AL), .int .i64 (VS), .int .i64 (HD), .int .i64 (CA), .int .i64 (FU), .int .i64 (BK), .bool GN] p [.int .u8 t0, .int .u8 t1, .int .u8 t2, .int .i64 tb, .int .i64 ts, .int .i64 ta, .int .i64 tv] [.int .i64 we, .int .i64 wn, .slice E ne ce, .int .i64 se, .int .i64 sn, .int .u16 si, .bool th, .bool st, .string s0, .string s1] wx)
            case first =>
              as_aux_lemma =>
              have kf := HS.out.C.fr
              have kl := HS.out.C.lt
              have x9 := HS.out.C.cell 9 (.int .i64 c.fu) rfl
              obtain ⟨f0, f1⟩ := HF0.out
              by_cases hce : CE = 0
              · have HX := Lib.hid (HFU.out.trans (if_pos hce))
                have e2 : (CE == 0) = true := by rw [beq_iff_eq]; exact hce
                clear hce
                go_wp2_with fail
                go_meet
                rw [HX.out]
                exact HS.out.set 9 _ (by simp)
              · have HX := Lib.hid (HFU.out.trans (if_neg hce))
                have e2 := beq_of hce
                clear hce
                go_wp2_with fail
                go_meet
                rw [HX.out]
                exact HS.out
            case rest =>
              replace HS := Lib.hid hcut
              clear hcut
              have x0 := HS.out.C.cell 0 (.int .i64 (c.tk + 10)) rfl
              have x1 := HS.out.C.cell 1 (.int .i64 (c.px + 10 * VE)) rfl
              have x2 := HS.out.C.cell 2 (.int .i64 (c.py + 10 * VN)) rfl
              have x3 := HS.out.C.cell 3 (.int .i64 (VE)) rfl
              have x4 := HS.out.C.cell 4 (.int .i64 (VN)) rfl
              have x5 := HS.out.C.cell 5 (.int .i64 (AL)) rfl
              have x6 := HS.out.C.cell 6 (.int .i64 (VS)) rfl
              have x7 := HS.out.C.cell 7 (.int .i64 (HD)) rfl
              have x8 := HS.out.C.cell 8 (.int .i64 (CA)) rfl
              have x9 := HS.out.C.cell 9 (.int .i64 (FU)) rfl
              have x10 := HS.out.C.cell 10 (.int .i64 (BK)) rfl
              have x11 := HS.out.C.cell 11 (.bool GN) rfl
              have z0 := HS.out.R.cell 0 (.int .i64 0) rfl
              have z1 := HS.out.R.cell 1 (.int .i64 0) rfl
              have z2 := HS.out.R.cell 2 (.int .i64 0) rfl
              have z3 := HS.out.R.cell 3 (.int .i64 0) rfl
              have z4 := HS.out.R.cell 4 (.int .i64 0) rfl
              have z5 := HS.out.R.cell 5 (.int .i64 0) rfl
              have z6 := HS.out.R.cell 6 (.int .i64 0) rfl
              have z7 := HS.out.R.cell 7 (.int .i64 0) rfl
              have z8 := HS.out.R.cell 8 (.int .i64 0) rfl
              have z9 := HS.out.R.cell 9 (.int .i64 0) rfl
              have z10 := HS.out.R.cell 10 (.int .i64 0) rfl
              have z11 := HS.out.R.cell 11 (.bool false) rfl
              have zf := HS.out.R.fr
              have zl := HS.out.R.lt
              go_wp2_with fail
              have HRX := Lib.hid HS.out.R
              have HBX := Lib.hid HS.out.B
              have HRS := Lib.hid ((((((((((((HRX.out.set 0 (.int .i64 (c.tk + 10)) (by simp)).set 1 (.int .i64 (c.px + 10 * VE)) (by simp)).set 2 (.int .i64 (c.py + 10 * VN)) (by simp)).set 3 (.int .i64 (VE)) (by simp)).set 4 (.int .i64 (VN)) (by simp)).set 5 (.int .i64 (AL)) (by simp)).set 6 (.int .i64 (VS)) (by simp)).set 7 (.int .i64 (HD)) (by simp)).set 8 (.int .i64 (CA)) (by simp)).set 9 (.int .i64 (FU)) (by simp)).set 10 (.int .i64 (BK)) (by simp)).set 11 (.bool GN) (by simp))
              have HBR := Lib.hid ((((((((((((HBX.out.setCell (p := ⟨w.heap.size + 1 + 1 + 1 + 1, 0, none⟩) (by simp; omega) (.int .i64 (c.tk + 10))).setCell (p := ⟨w.heap.size + 1 + 1 + 1 + 1, 1, none⟩) (by simp; omega) (.int .i64 (c.px + 10 * VE))).setCell (p := ⟨w.heap.size + 1 + 1 + 1 + 1, 2, none⟩) (by simp; omega) (.int .i64 (c.py + 10 * VN))).setCell (p := ⟨w.heap.size + 1 + 1 + 1 + 1, 3, none⟩) (by simp; omega) (.int .i64 (VE))).setCell (p := ⟨w.heap.size + 1 + 1 + 1 + 1, 4, none⟩) (by simp; omega) (.int .i64 (VN))).setCell (p := ⟨w.heap.size + 1 + 1 + 1 + 1, 5, none⟩) (by simp; omega) (.int .i64 (AL))).setCell (p := ⟨w.heap.size + 1 + 1 + 1 + 1, 6, none⟩) (by simp; omega) (.int .i64 (VS))).setCell (p := ⟨w.heap.size + 1 + 1 + 1 + 1, 7, none⟩) (by simp; omega) (.int .i64 (HD))).setCell (p := ⟨w.heap.size + 1 + 1 + 1 + 1, 8, none⟩) (by simp; omega) (.int .i64 (CA))).setCell (p := ⟨w.heap.size + 1 + 1 + 1 + 1, 9, none⟩) (by simp; omega) (.int .i64 (FU))).setCell (p := ⟨w.heap.size + 1 + 1 + 1 + 1, 10, none⟩) (by simp; omega) (.int .i64 (BK))).setCell (p := ⟨w.heap.size + 1 + 1 + 1 + 1, 11, none⟩) (by simp; omega) (.bool GN))
              have y0 := HRS.out.cell 0 (.int .i64 (c.tk + 10)) rfl
              have y1 := HRS.out.cell 1 (.int .i64 (c.px + 10 * VE)) rfl
              have y2 := HRS.out.cell 2 (.int .i64 (c.py + 10 * VN)) rfl
              have y3 := HRS.out.cell 3 (.int .i64 (VE)) rfl
              have y4 := HRS.out.cell 4 (.int .i64 (VN)) rfl
              have y5 := HRS.out.cell 5 (.int .i64 (AL)) rfl
              have y6 := HRS.out.cell 6 (.int .i64 (VS)) rfl
              have y7 := HRS.out.cell 7 (.int .i64 (HD)) rfl
              have y8 := HRS.out.cell 8 (.int .i64 (CA)) rfl
              have y9 := HRS.out.cell 9 (.int .i64 (FU)) rfl
              have y10 := HRS.out.cell 10 (.int .i64 (BK)) rfl
              have y11 := HRS.out.cell 11 (.bool GN) rfl
              exact bodyPost_ret (v := .tuple #[.agg #[.int .i64 (c.tk + 10), .int .i64 (c.px + 10 * VE), .int .i64 (c.py + 10 * VN), .int .i64 (VE), .int .i64 (VN), .int .i64 (AL), .int .i64 (VS), .int .i64 (HD), .int .i64 (CA), .int .i64 (FU), .int .i64 (BK), .bool GN], .int .i64 0]) (by simp [results, Tryz.results7, go_sem, y0, y1, y2, y3, y4, y5, y6, y7, y8, y9, y10, y11]) rfl ⟨by rw [HR1.out HV2.out, HV2.out, HFC.out]; rfl, HBR.out⟩
set_option maxRecDepth 100000 in
set_option maxHeartbeats 2000000 in
theorem rFly (c : Cr) (p : Prf) (em : Int) (t0 t1 t2 tb ts ta tv we wn : Int) (E : Option Addr) (ne ce : Nat) (er : List (Int × Int)) (se sn si : Int) (th st : Bool) (s0 s1 : ByteArray) (w : World) (hl : p.lies w) (hok : p.ok) (he : Recs er2 2 w E ne er) (hne : ne ≤ maxLen) (hem : I64 em) : Calls Tryz.prog 7 #[.agg #[.int .i64 c.tk, .int .i64 c.px, .int .i64 c.py, .int .i64 c.ve, .int .i64 c.vn, .int .i64 c.al, .int .i64 c.vs, .int .i64 c.hd, .int .i64 c.ca, .int .i64 c.fu, .int .i64 c.bk, .bool c.gr], .agg p.cells.toArray, .int .i64 em, .agg #[.int .u8 t0, .int .u8 t1, .int .u8 t2, .int .i64 tb, .int .i64 ts, .int .i64 ta, .int .i64 tv], .agg #[.int .i64 we, .int .i64 wn, .slice E ne ce, .int .i64 se, .int .i64 sn, .int .u16 si, .bool th, .bool st, .string s0, .string s1]] w fun e w' => e = .returned (.tuple #[.agg (flR c p em tb ts tv we wn se sn er s0 s1).cells.toArray, .int .i64 (flE c p em tb ts tv we wn se sn er s0 s1)]) ∧ Below w.heap.size w w' := by
  by_cases h1 : c.E = 0
  rotate_left
  · exact rFlyE1 c p em t0 t1 t2 tb ts ta tv we wn E ne ce er se sn si th st s0 s1 w hl hok he hne hem h1
  by_cases h2 : moE we wn se sn er s0 s1 = 0
  rotate_left
  · exact rFlyE2 c p em t0 t1 t2 tb ts ta tv we wn E ne ce er se sn si th st s0 s1 w hl hok he hne hem h1 h2
  by_cases h3 : pfE p = 0
  rotate_left
  · exact rFlyE3 c p em t0 t1 t2 tb ts ta tv we wn E ne ce er se sn si th st s0 s1 w hl hok he hne hem h1 h2 h3
  cases hem2 : inB em 0 3000000000
  · exact rFlyE4 c p em t0 t1 t2 tb ts ta tv we wn E ne ce er se sn si th st s0 s1 w hl hok he hne hem h1 h2 h3 hem2
  · exact rFlyOk c p em t0 t1 t2 tb ts ta tv we wn E ne ce er se sn si th st s0 s1 w hl hok he hne hem h1 h2 h3 hem2
end Go.Proofs.YtcmdpfdhmbpahaaGreat
