/- Layer 59: Fly of the program. -/
import Derived.Test.YtcmdpfdhmbpahaaFlyBase
import Derived.StillTailTactics
import Derived.Deep.DeepCutAuto
import Derived.Deep.RegionHeld3
namespace Go.Proofs.Ytcmdpfdhmbpahaa
set_option linter.unusedSimpArgs false
set_option linter.unusedVariables false
open Go.RowKit
open Tr
set_option maxRecDepth 100000 in
set_option maxHeartbeats 8000000 in
theorem xFlyE1 (c : Cr) (p : Prf) (em : Int) (t0 t1 t2 tb ts ta tv we wn : Int) (E : Option Addr) (ne ce : Nat) (er : List (Int × Int)) (se sn si : Int) (th st : Bool) (s0 s1 : ByteArray) (w : World) (hl : p.lies w) (hok : p.ok) (he : Recs er2 2 w E ne er) (hne : ne ≤ maxLen) (hem : I64 em) (hE : c.E ≠ 0) : Calls Try.prog 10 #[.agg #[.int .i64 c.tk, .int .i64 c.px, .int .i64 c.py, .int .i64 c.ve, .int .i64 c.vn, .int .i64 c.al, .int .i64 c.vs, .int .i64 c.hd, .int .i64 c.ca, .int .i64 c.fu, .int .i64 c.bk, .bool c.gr], .agg p.cells.toArray, .int .i64 em, .agg #[.int .u8 t0, .int .u8 t1, .int .u8 t2, .int .i64 tb, .int .i64 ts, .int .i64 ta, .int .i64 tv], .agg #[.int .i64 we, .int .i64 wn, .slice E ne ce, .int .i64 se, .int .i64 sn, .int .u16 si, .bool th, .bool st, .string s0, .string s1]] w fun e w' => e = .returned (.tuple #[.agg (flR c p em tb ts tv we wn se sn er s0 s1).cells.toArray, .int .i64 (flE c p em tb ts tv we wn se sn er s0 s1)]) ∧ Below w.heap.size w w' := by
  have HC := Lib.hid (xCraft c.tk c.px c.py c.ve c.vn c.al c.vs c.hd c.ca c.fu c.bk c.gr)
  rw [show crE c.tk c.px c.py c.ve c.vn c.al c.vs c.hd c.ca c.fu c.bk = c.E from rfl] at HC
  have HV := Lib.hid (show flE c p em tb ts tv we wn se sn er s0 s1 = if c.E ≠ 0 then c.E else if moE we wn se sn er s0 s1 ≠ 0 then moE we wn se sn er s0 s1 else if pfE p ≠ 0 then pfE p else if inB em 0 3000000000 = true then (if flOk (flC c p em tb ts tv we wn) = true then 0 else 2) else 2 from rfl)
  replace HV := Lib.hid (HV.out.trans (if_pos hE))
  have HR0 := Lib.hid (show flR c p em tb ts tv we wn se sn er s0 s1 = Cr.zero from if_neg (by rw [HV.out]; exact hE))
  generalize c.E = EE at *
  have e1 : (EE == 0) = false := beq_of hE
  have e2 := bne_of e1
  clear hE
  clear hl hok he hem
  go_enter Try.func10, Try.ntmps10
  go_wp2_with fail
  refine (HC.out _).mono ?_; rintro e w1 ⟨rfl, hB⟩
  have BC : Hid (Has w1 (w.heap.size) [.int .i64 c.tk, .int .i64 c.px, .int .i64 c.py, .int .i64 c.ve, .int .i64 c.vn, .int .i64 c.al, .int .i64 c.vs, .int .i64 c.hd, .int .i64 c.ca, .int .i64 c.fu, .int .i64 c.bk, .bool c.gr]) := Lib.hid ((((((Has.new w _ _).alloc _).alloc _).alloc _).alloc _).below hB)
  have BP : Hid (Has w1 (w.heap.size + 1) p.cells) := Lib.hid (((((Has.newAt (w.alloc _) _ _ (w.heap.size + 1) (by simp)).alloc _).alloc _).alloc _).below hB)
  have BT : Hid (Has w1 (w.heap.size + 1 + 1) [.int .u8 t0, .int .u8 t1, .int .u8 t2, .int .i64 tb, .int .i64 ts, .int .i64 ta, .int .i64 tv]) := Lib.hid ((((Has.newAt ((w.alloc _).alloc _) _ _ (w.heap.size + 1 + 1) (by simp)).alloc _).alloc _).below hB)
  have BM : Hid (Has w1 (w.heap.size + 1 + 1 + 1) [.int .i64 we, .int .i64 wn, .slice E ne ce, .int .i64 se, .int .i64 sn, .int .u16 si, .bool th, .bool st, .string s0, .string s1]) := Lib.hid (((Has.newAt (((w.alloc _).alloc _).alloc _) _ _ (w.heap.size + 1 + 1 + 1) (by simp)).alloc _).below hB)
  have BR : Hid (Has w1 (w.heap.size + 1 + 1 + 1 + 1) [.int .i64 0, .int .i64 0, .int .i64 0, .int .i64 0, .int .i64 0, .int .i64 0, .int .i64 0, .int .i64 0, .int .i64 0, .int .i64 0, .int .i64 0, .bool false]) := Lib.hid ((Has.newAt ((((w.alloc _).alloc _).alloc _).alloc _) _ _ (w.heap.size + 1 + 1 + 1 + 1) (by simp)).below hB)
  have HB := Lib.hid (((below_alloc4 w _ _ _ _).alloc (by simp; omega) _).trans (hB.mono (by simp; omega)))
  clear hB HC
  have z0 : w1.cell? ⟨w.heap.size + 1 + 1 + 1 + 1, 0, none⟩ = some (.int .i64 0) := BR.out.cell 0 _ rfl
  have z1 : w1.cell? ⟨w.heap.size + 1 + 1 + 1 + 1, 1, none⟩ = some (.int .i64 0) := BR.out.cell 1 _ rfl
  have z2 : w1.cell? ⟨w.heap.size + 1 + 1 + 1 + 1, 2, none⟩ = some (.int .i64 0) := BR.out.cell 2 _ rfl
  have z3 : w1.cell? ⟨w.heap.size + 1 + 1 + 1 + 1, 3, none⟩ = some (.int .i64 0) := BR.out.cell 3 _ rfl
  have z4 : w1.cell? ⟨w.heap.size + 1 + 1 + 1 + 1, 4, none⟩ = some (.int .i64 0) := BR.out.cell 4 _ rfl
  have z5 : w1.cell? ⟨w.heap.size + 1 + 1 + 1 + 1, 5, none⟩ = some (.int .i64 0) := BR.out.cell 5 _ rfl
  have z6 : w1.cell? ⟨w.heap.size + 1 + 1 + 1 + 1, 6, none⟩ = some (.int .i64 0) := BR.out.cell 6 _ rfl
  have z7 : w1.cell? ⟨w.heap.size + 1 + 1 + 1 + 1, 7, none⟩ = some (.int .i64 0) := BR.out.cell 7 _ rfl
  have z8 : w1.cell? ⟨w.heap.size + 1 + 1 + 1 + 1, 8, none⟩ = some (.int .i64 0) := BR.out.cell 8 _ rfl
  have z9 : w1.cell? ⟨w.heap.size + 1 + 1 + 1 + 1, 9, none⟩ = some (.int .i64 0) := BR.out.cell 9 _ rfl
  have z10 : w1.cell? ⟨w.heap.size + 1 + 1 + 1 + 1, 10, none⟩ = some (.int .i64 0) := BR.out.cell 10 _ rfl
  have z11 : w1.cell? ⟨w.heap.size + 1 + 1 + 1 + 1, 11, none⟩ = some (.bool false) := BR.out.cell 11 _ rfl
  have zf : ∀ o, w1.frozen? ⟨w.heap.size + 1 + 1 + 1 + 1, o, none⟩ = false := BR.out.fr
  have zl := BR.out.lt
  go_wp2_with fail
  have HRS : Hid (Has _ (w.heap.size + 1 + 1 + 1 + 1) [.int .i64 0, .int .i64 0, .int .i64 0, .int .i64 0, .int .i64 0, .int .i64 0, .int .i64 0, .int .i64 0, .int .i64 0, .int .i64 0, .int .i64 0, .bool false]) := Lib.hid ((((((((((((BR.out.set 0 (.int .i64 0) (by simp)).set 1 (.int .i64 0) (by simp)).set 2 (.int .i64 0) (by simp)).set 3 (.int .i64 0) (by simp)).set 4 (.int .i64 0) (by simp)).set 5 (.int .i64 0) (by simp)).set 6 (.int .i64 0) (by simp)).set 7 (.int .i64 0) (by simp)).set 8 (.int .i64 0) (by simp)).set 9 (.int .i64 0) (by simp)).set 10 (.int .i64 0) (by simp)).set 11 (.bool false) (by simp))
  have HBR := Lib.hid ((((((((((((HB.out.setCell (p := ⟨w.heap.size + 1 + 1 + 1 + 1, 0, none⟩) (by simp; omega) (.int .i64 0)).setCell (p := ⟨w.heap.size + 1 + 1 + 1 + 1, 1, none⟩) (by simp; omega) (.int .i64 0)).setCell (p := ⟨w.heap.size + 1 + 1 + 1 + 1, 2, none⟩) (by simp; omega) (.int .i64 0)).setCell (p := ⟨w.heap.size + 1 + 1 + 1 + 1, 3, none⟩) (by simp; omega) (.int .i64 0)).setCell (p := ⟨w.heap.size + 1 + 1 + 1 + 1, 4, none⟩) (by simp; omega) (.int .i64 0)).setCell (p := ⟨w.heap.size + 1 + 1 + 1 + 1, 5, none⟩) (by simp; omega) (.int .i64 0)).setCell (p := ⟨w.heap.size + 1 + 1 + 1 + 1, 6, none⟩) (by simp; omega) (.int .i64 0)).setCell (p := ⟨w.heap.size + 1 + 1 + 1 + 1, 7, none⟩) (by simp; omega) (.int .i64 0)).setCell (p := ⟨w.heap.size + 1 + 1 + 1 + 1, 8, none⟩) (by simp; omega) (.int .i64 0)).setCell (p := ⟨w.heap.size + 1 + 1 + 1 + 1, 9, none⟩) (by simp; omega) (.int .i64 0)).setCell (p := ⟨w.heap.size + 1 + 1 + 1 + 1, 10, none⟩) (by simp; omega) (.int .i64 0)).setCell (p := ⟨w.heap.size + 1 + 1 + 1 + 1, 11, none⟩) (by simp; omega) (.bool false))
  have y0 := HRS.out.cell 0 _ rfl
  have y1 := HRS.out.cell 1 _ rfl
  have y2 := HRS.out.cell 2 _ rfl
  have y3 := HRS.out.cell 3 _ rfl
  have y4 := HRS.out.cell 4 _ rfl
  have y5 := HRS.out.cell 5 _ rfl
  have y6 := HRS.out.cell 6 _ rfl
  have y7 := HRS.out.cell 7 _ rfl
  have y8 := HRS.out.cell 8 _ rfl
  have y9 := HRS.out.cell 9 _ rfl
  have y10 := HRS.out.cell 10 _ rfl
  have y11 := HRS.out.cell 11 _ rfl
  exact bodyPost_ret (v := .tuple #[.agg #[.int .i64 0, .int .i64 0, .int .i64 0, .int .i64 0, .int .i64 0, .int .i64 0, .int .i64 0, .int .i64 0, .int .i64 0, .int .i64 0, .int .i64 0, .bool false], .int .i64 EE]) (by simp [results, Try.results10, go_sem, y0, y1, y2, y3, y4, y5, y6, y7, y8, y9, y10, y11]) rfl ⟨by rw [HR0.out, HV.out]; rfl, HBR.out⟩
set_option maxRecDepth 100000 in
set_option maxHeartbeats 8000000 in
theorem xFlyE2 (c : Cr) (p : Prf) (em : Int) (t0 t1 t2 tb ts ta tv we wn : Int) (E : Option Addr) (ne ce : Nat) (er : List (Int × Int)) (se sn si : Int) (th st : Bool) (s0 s1 : ByteArray) (w : World) (hl : p.lies w) (hok : p.ok) (he : Recs er2 2 w E ne er) (hne : ne ≤ maxLen) (hem : I64 em) (h1 : c.E = 0) (hE : moE we wn se sn er s0 s1 ≠ 0) : Calls Try.prog 10 #[.agg #[.int .i64 c.tk, .int .i64 c.px, .int .i64 c.py, .int .i64 c.ve, .int .i64 c.vn, .int .i64 c.al, .int .i64 c.vs, .int .i64 c.hd, .int .i64 c.ca, .int .i64 c.fu, .int .i64 c.bk, .bool c.gr], .agg p.cells.toArray, .int .i64 em, .agg #[.int .u8 t0, .int .u8 t1, .int .u8 t2, .int .i64 tb, .int .i64 ts, .int .i64 ta, .int .i64 tv], .agg #[.int .i64 we, .int .i64 wn, .slice E ne ce, .int .i64 se, .int .i64 sn, .int .u16 si, .bool th, .bool st, .string s0, .string s1]] w fun e w' => e = .returned (.tuple #[.agg (flR c p em tb ts tv we wn se sn er s0 s1).cells.toArray, .int .i64 (flE c p em tb ts tv we wn se sn er s0 s1)]) ∧ Below w.heap.size w w' := by
  have HC := Lib.hid (xCraft c.tk c.px c.py c.ve c.vn c.al c.vs c.hd c.ca c.fu c.bk c.gr)
  rw [show crE c.tk c.px c.py c.ve c.vn c.al c.vs c.hd c.ca c.fu c.bk = c.E from rfl] at HC
  rw [h1] at HC
  have HM := Lib.hid (fun w' hB => xMoment we wn se sn si th st E ne ce er s0 s1 w' (he.below (w' := w') hB) hne)
  have HV := Lib.hid (show flE c p em tb ts tv we wn se sn er s0 s1 = if c.E ≠ 0 then c.E else if moE we wn se sn er s0 s1 ≠ 0 then moE we wn se sn er s0 s1 else if pfE p ≠ 0 then pfE p else if inB em 0 3000000000 = true then (if flOk (flC c p em tb ts tv we wn) = true then 0 else 2) else 2 from rfl)
  replace HV := Lib.hid ((HV.out.trans (if_neg (by rw [h1]; simp))).trans (if_pos hE))
  have HR0 := Lib.hid (show flR c p em tb ts tv we wn se sn er s0 s1 = Cr.zero from if_neg (by rw [HV.out]; exact hE))
  generalize moE we wn se sn er s0 s1 = EE at *
  have e1 : (EE == 0) = false := beq_of hE
  have e2 := bne_of e1
  clear hE
  clear h1
  clear hl hok he hem
  go_enter Try.func10, Try.ntmps10
  go_wp2_with fail
  refine (HC.out _).mono ?_; rintro e w1 ⟨rfl, hB⟩
  have BC : Hid (Has w1 (w.heap.size) [.int .i64 c.tk, .int .i64 c.px, .int .i64 c.py, .int .i64 c.ve, .int .i64 c.vn, .int .i64 c.al, .int .i64 c.vs, .int .i64 c.hd, .int .i64 c.ca, .int .i64 c.fu, .int .i64 c.bk, .bool c.gr]) := Lib.hid ((((((Has.new w _ _).alloc _).alloc _).alloc _).alloc _).below hB)
  have BP : Hid (Has w1 (w.heap.size + 1) p.cells) := Lib.hid (((((Has.newAt (w.alloc _) _ _ (w.heap.size + 1) (by simp)).alloc _).alloc _).alloc _).below hB)
  have BT : Hid (Has w1 (w.heap.size + 1 + 1) [.int .u8 t0, .int .u8 t1, .int .u8 t2, .int .i64 tb, .int .i64 ts, .int .i64 ta, .int .i64 tv]) := Lib.hid ((((Has.newAt ((w.alloc _).alloc _) _ _ (w.heap.size + 1 + 1) (by simp)).alloc _).alloc _).below hB)
  have BM : Hid (Has w1 (w.heap.size + 1 + 1 + 1) [.int .i64 we, .int .i64 wn, .slice E ne ce, .int .i64 se, .int .i64 sn, .int .u16 si, .bool th, .bool st, .string s0, .string s1]) := Lib.hid (((Has.newAt (((w.alloc _).alloc _).alloc _) _ _ (w.heap.size + 1 + 1 + 1) (by simp)).alloc _).below hB)
  have BR : Hid (Has w1 (w.heap.size + 1 + 1 + 1 + 1) [.int .i64 0, .int .i64 0, .int .i64 0, .int .i64 0, .int .i64 0, .int .i64 0, .int .i64 0, .int .i64 0, .int .i64 0, .int .i64 0, .int .i64 0, .bool false]) := Lib.hid ((Has.newAt ((((w.alloc _).alloc _).alloc _).alloc _) _ _ (w.heap.size + 1 + 1 + 1 + 1) (by simp)).below hB)
  have HB := Lib.hid (((below_alloc4 w _ _ _ _).alloc (by simp; omega) _).trans (hB.mono (by simp; omega)))
  clear hB HC
  have m0 : w1.cell? ⟨w.heap.size + 1 + 1 + 1, 0, none⟩ = some (.int .i64 we) := BM.out.cell 0 _ rfl
  have m1 : w1.cell? ⟨w.heap.size + 1 + 1 + 1, 1, none⟩ = some (.int .i64 wn) := BM.out.cell 1 _ rfl
  have m2 : w1.cell? ⟨w.heap.size + 1 + 1 + 1, 2, none⟩ = some (.slice E ne ce) := BM.out.cell 2 _ rfl
  have m3 : w1.cell? ⟨w.heap.size + 1 + 1 + 1, 3, none⟩ = some (.int .i64 se) := BM.out.cell 3 _ rfl
  have m4 : w1.cell? ⟨w.heap.size + 1 + 1 + 1, 4, none⟩ = some (.int .i64 sn) := BM.out.cell 4 _ rfl
  have m5 : w1.cell? ⟨w.heap.size + 1 + 1 + 1, 5, none⟩ = some (.int .u16 si) := BM.out.cell 5 _ rfl
  have m6 : w1.cell? ⟨w.heap.size + 1 + 1 + 1, 6, none⟩ = some (.bool th) := BM.out.cell 6 _ rfl
  have m7 : w1.cell? ⟨w.heap.size + 1 + 1 + 1, 7, none⟩ = some (.bool st) := BM.out.cell 7 _ rfl
  have m8 : w1.cell? ⟨w.heap.size + 1 + 1 + 1, 8, none⟩ = some (.string s0) := BM.out.cell 8 _ rfl
  have m9 : w1.cell? ⟨w.heap.size + 1 + 1 + 1, 9, none⟩ = some (.string s1) := BM.out.cell 9 _ rfl
  go_wp2_with fail
  refine (HM.out _ HB.out).mono ?_; rintro e w2 ⟨rfl, hB⟩
  clear m0 m1 m2 m3 m4 m5 m6 m7 m8 m9 HM
  replace BC := Lib.hid (BC.out.below hB)
  replace BP := Lib.hid (BP.out.below hB)
  replace BT := Lib.hid (BT.out.below hB)
  replace BM := Lib.hid (BM.out.below hB)
  replace BR := Lib.hid (BR.out.below hB)
  replace HB := Lib.hid (bel_trans HB.out hB)
  clear hB
  have z0 : w2.cell? ⟨w.heap.size + 1 + 1 + 1 + 1, 0, none⟩ = some (.int .i64 0) := BR.out.cell 0 _ rfl
  have z1 : w2.cell? ⟨w.heap.size + 1 + 1 + 1 + 1, 1, none⟩ = some (.int .i64 0) := BR.out.cell 1 _ rfl
  have z2 : w2.cell? ⟨w.heap.size + 1 + 1 + 1 + 1, 2, none⟩ = some (.int .i64 0) := BR.out.cell 2 _ rfl
  have z3 : w2.cell? ⟨w.heap.size + 1 + 1 + 1 + 1, 3, none⟩ = some (.int .i64 0) := BR.out.cell 3 _ rfl
  have z4 : w2.cell? ⟨w.heap.size + 1 + 1 + 1 + 1, 4, none⟩ = some (.int .i64 0) := BR.out.cell 4 _ rfl
  have z5 : w2.cell? ⟨w.heap.size + 1 + 1 + 1 + 1, 5, none⟩ = some (.int .i64 0) := BR.out.cell 5 _ rfl
  have z6 : w2.cell? ⟨w.heap.size + 1 + 1 + 1 + 1, 6, none⟩ = some (.int .i64 0) := BR.out.cell 6 _ rfl
  have z7 : w2.cell? ⟨w.heap.size + 1 + 1 + 1 + 1, 7, none⟩ = some (.int .i64 0) := BR.out.cell 7 _ rfl
  have z8 : w2.cell? ⟨w.heap.size + 1 + 1 + 1 + 1, 8, none⟩ = some (.int .i64 0) := BR.out.cell 8 _ rfl
  have z9 : w2.cell? ⟨w.heap.size + 1 + 1 + 1 + 1, 9, none⟩ = some (.int .i64 0) := BR.out.cell 9 _ rfl
  have z10 : w2.cell? ⟨w.heap.size + 1 + 1 + 1 + 1, 10, none⟩ = some (.int .i64 0) := BR.out.cell 10 _ rfl
  have z11 : w2.cell? ⟨w.heap.size + 1 + 1 + 1 + 1, 11, none⟩ = some (.bool false) := BR.out.cell 11 _ rfl
  have zf : ∀ o, w2.frozen? ⟨w.heap.size + 1 + 1 + 1 + 1, o, none⟩ = false := BR.out.fr
  have zl := BR.out.lt
  go_wp2_with fail
  have HRS : Hid (Has _ (w.heap.size + 1 + 1 + 1 + 1) [.int .i64 0, .int .i64 0, .int .i64 0, .int .i64 0, .int .i64 0, .int .i64 0, .int .i64 0, .int .i64 0, .int .i64 0, .int .i64 0, .int .i64 0, .bool false]) := Lib.hid ((((((((((((BR.out.set 0 (.int .i64 0) (by simp)).set 1 (.int .i64 0) (by simp)).set 2 (.int .i64 0) (by simp)).set 3 (.int .i64 0) (by simp)).set 4 (.int .i64 0) (by simp)).set 5 (.int .i64 0) (by simp)).set 6 (.int .i64 0) (by simp)).set 7 (.int .i64 0) (by simp)).set 8 (.int .i64 0) (by simp)).set 9 (.int .i64 0) (by simp)).set 10 (.int .i64 0) (by simp)).set 11 (.bool false) (by simp))
  have HBR := Lib.hid ((((((((((((HB.out.setCell (p := ⟨w.heap.size + 1 + 1 + 1 + 1, 0, none⟩) (by simp; omega) (.int .i64 0)).setCell (p := ⟨w.heap.size + 1 + 1 + 1 + 1, 1, none⟩) (by simp; omega) (.int .i64 0)).setCell (p := ⟨w.heap.size + 1 + 1 + 1 + 1, 2, none⟩) (by simp; omega) (.int .i64 0)).setCell (p := ⟨w.heap.size + 1 + 1 + 1 + 1, 3, none⟩) (by simp; omega) (.int .i64 0)).setCell (p := ⟨w.heap.size + 1 + 1 + 1 + 1, 4, none⟩) (by simp; omega) (.int .i64 0)).setCell (p := ⟨w.heap.size + 1 + 1 + 1 + 1, 5, none⟩) (by simp; omega) (.int .i64 0)).setCell (p := ⟨w.heap.size + 1 + 1 + 1 + 1, 6, none⟩) (by simp; omega) (.int .i64 0)).setCell (p := ⟨w.heap.size + 1 + 1 + 1 + 1, 7, none⟩) (by simp; omega) (.int .i64 0)).setCell (p := ⟨w.heap.size + 1 + 1 + 1 + 1, 8, none⟩) (by simp; omega) (.int .i64 0)).setCell (p := ⟨w.heap.size + 1 + 1 + 1 + 1, 9, none⟩) (by simp; omega) (.int .i64 0)).setCell (p := ⟨w.heap.size + 1 + 1 + 1 + 1, 10, none⟩) (by simp; omega) (.int .i64 0)).setCell (p := ⟨w.heap.size + 1 + 1 + 1 + 1, 11, none⟩) (by simp; omega) (.bool false))
  have y0 := HRS.out.cell 0 _ rfl
  have y1 := HRS.out.cell 1 _ rfl
  have y2 := HRS.out.cell 2 _ rfl
  have y3 := HRS.out.cell 3 _ rfl
  have y4 := HRS.out.cell 4 _ rfl
  have y5 := HRS.out.cell 5 _ rfl
  have y6 := HRS.out.cell 6 _ rfl
  have y7 := HRS.out.cell 7 _ rfl
  have y8 := HRS.out.cell 8 _ rfl
  have y9 := HRS.out.cell 9 _ rfl
  have y10 := HRS.out.cell 10 _ rfl
  have y11 := HRS.out.cell 11 _ rfl
  exact bodyPost_ret (v := .tuple #[.agg #[.int .i64 0, .int .i64 0, .int .i64 0, .int .i64 0, .int .i64 0, .int .i64 0, .int .i64 0, .int .i64 0, .int .i64 0, .int .i64 0, .int .i64 0, .bool false], .int .i64 EE]) (by simp [results, Try.results10, go_sem, y0, y1, y2, y3, y4, y5, y6, y7, y8, y9, y10, y11]) rfl ⟨by rw [HR0.out, HV.out]; rfl, HBR.out⟩
set_option maxRecDepth 100000 in
set_option maxHeartbeats 8000000 in
theorem xFlyE3 (c : Cr) (p : Prf) (em : Int) (t0 t1 t2 tb ts ta tv we wn : Int) (E : Option Addr) (ne ce : Nat) (er : List (Int × Int)) (se sn si : Int) (th st : Bool) (s0 s1 : ByteArray) (w : World) (hl : p.lies w) (hok : p.ok) (he : Recs er2 2 w E ne er) (hne : ne ≤ maxLen) (hem : I64 em) (h1 : c.E = 0) (h2 : moE we wn se sn er s0 s1 = 0) (hE : pfE p ≠ 0) : Calls Try.prog 10 #[.agg #[.int .i64 c.tk, .int .i64 c.px, .int .i64 c.py, .int .i64 c.ve, .int .i64 c.vn, .int .i64 c.al, .int .i64 c.vs, .int .i64 c.hd, .int .i64 c.ca, .int .i64 c.fu, .int .i64 c.bk, .bool c.gr], .agg p.cells.toArray, .int .i64 em, .agg #[.int .u8 t0, .int .u8 t1, .int .u8 t2, .int .i64 tb, .int .i64 ts, .int .i64 ta, .int .i64 tv], .agg #[.int .i64 we, .int .i64 wn, .slice E ne ce, .int .i64 se, .int .i64 sn, .int .u16 si, .bool th, .bool st, .string s0, .string s1]] w fun e w' => e = .returned (.tuple #[.agg (flR c p em tb ts tv we wn se sn er s0 s1).cells.toArray, .int .i64 (flE c p em tb ts tv we wn se sn er s0 s1)]) ∧ Below w.heap.size w w' := by
  have HC := Lib.hid (xCraft c.tk c.px c.py c.ve c.vn c.al c.vs c.hd c.ca c.fu c.bk c.gr)
  rw [show crE c.tk c.px c.py c.ve c.vn c.al c.vs c.hd c.ca c.fu c.bk = c.E from rfl] at HC
  rw [h1] at HC
  have HM := Lib.hid (fun w' hB => xMoment we wn se sn si th st E ne ce er s0 s1 w' (he.below (w' := w') hB) hne)
  rw [h2] at HM
  have HP := Lib.hid (fun w' hB => xPfCheck p w' (hl.below (w' := w') hB) hok)
  have HV := Lib.hid (show flE c p em tb ts tv we wn se sn er s0 s1 = if c.E ≠ 0 then c.E else if moE we wn se sn er s0 s1 ≠ 0 then moE we wn se sn er s0 s1 else if pfE p ≠ 0 then pfE p else if inB em 0 3000000000 = true then (if flOk (flC c p em tb ts tv we wn) = true then 0 else 2) else 2 from rfl)
  replace HV := Lib.hid (((HV.out.trans (if_neg (by rw [h1]; simp))).trans (if_neg (by rw [h2]; simp))).trans (if_pos hE))
  have HR0 := Lib.hid (show flR c p em tb ts tv we wn se sn er s0 s1 = Cr.zero from if_neg (by rw [HV.out]; exact hE))
  generalize pfE p = EE at *
  have e1 : (EE == 0) = false := beq_of hE
  have e2 := bne_of e1
  clear hE
  clear h1 h2
  clear hl hok he hem
  go_enter Try.func10, Try.ntmps10
  go_wp2_with fail
  refine (HC.out _).mono ?_; rintro e w1 ⟨rfl, hB⟩
  have BC : Hid (Has w1 (w.heap.size) [.int .i64 c.tk, .int .i64 c.px, .int .i64 c.py, .int .i64 c.ve, .int .i64 c.vn, .int .i64 c.al, .int .i64 c.vs, .int .i64 c.hd, .int .i64 c.ca, .int .i64 c.fu, .int .i64 c.bk, .bool c.gr]) := Lib.hid ((((((Has.new w _ _).alloc _).alloc _).alloc _).alloc _).below hB)
  have BP : Hid (Has w1 (w.heap.size + 1) p.cells) := Lib.hid (((((Has.newAt (w.alloc _) _ _ (w.heap.size + 1) (by simp)).alloc _).alloc _).alloc _).below hB)
  have BT : Hid (Has w1 (w.heap.size + 1 + 1) [.int .u8 t0, .int .u8 t1, .int .u8 t2, .int .i64 tb, .int .i64 ts, .int .i64 ta, .int .i64 tv]) := Lib.hid ((((Has.newAt ((w.alloc _).alloc _) _ _ (w.heap.size + 1 + 1) (by simp)).alloc _).alloc _).below hB)
  have BM : Hid (Has w1 (w.heap.size + 1 + 1 + 1) [.int .i64 we, .int .i64 wn, .slice E ne ce, .int .i64 se, .int .i64 sn, .int .u16 si, .bool th, .bool st, .string s0, .string s1]) := Lib.hid (((Has.newAt (((w.alloc _).alloc _).alloc _) _ _ (w.heap.size + 1 + 1 + 1) (by simp)).alloc _).below hB)
  have BR : Hid (Has w1 (w.heap.size + 1 + 1 + 1 + 1) [.int .i64 0, .int .i64 0, .int .i64 0, .int .i64 0, .int .i64 0, .int .i64 0, .int .i64 0, .int .i64 0, .int .i64 0, .int .i64 0, .int .i64 0, .bool false]) := Lib.hid ((Has.newAt ((((w.alloc _).alloc _).alloc _).alloc _) _ _ (w.heap.size + 1 + 1 + 1 + 1) (by simp)).below hB)
  have HB := Lib.hid (((below_alloc4 w _ _ _ _).alloc (by simp; omega) _).trans (hB.mono (by simp; omega)))
  clear hB HC
  have m0 : w1.cell? ⟨w.heap.size + 1 + 1 + 1, 0, none⟩ = some (.int .i64 we) := BM.out.cell 0 _ rfl
  have m1 : w1.cell? ⟨w.heap.size + 1 + 1 + 1, 1, none⟩ = some (.int .i64 wn) := BM.out.cell 1 _ rfl
  have m2 : w1.cell? ⟨w.heap.size + 1 + 1 + 1, 2, none⟩ = some (.slice E ne ce) := BM.out.cell 2 _ rfl
  have m3 : w1.cell? ⟨w.heap.size + 1 + 1 + 1, 3, none⟩ = some (.int .i64 se) := BM.out.cell 3 _ rfl
  have m4 : w1.cell? ⟨w.heap.size + 1 + 1 + 1, 4, none⟩ = some (.int .i64 sn) := BM.out.cell 4 _ rfl
  have m5 : w1.cell? ⟨w.heap.size + 1 + 1 + 1, 5, none⟩ = some (.int .u16 si) := BM.out.cell 5 _ rfl
  have m6 : w1.cell? ⟨w.heap.size + 1 + 1 + 1, 6, none⟩ = some (.bool th) := BM.out.cell 6 _ rfl
  have m7 : w1.cell? ⟨w.heap.size + 1 + 1 + 1, 7, none⟩ = some (.bool st) := BM.out.cell 7 _ rfl
  have m8 : w1.cell? ⟨w.heap.size + 1 + 1 + 1, 8, none⟩ = some (.string s0) := BM.out.cell 8 _ rfl
  have m9 : w1.cell? ⟨w.heap.size + 1 + 1 + 1, 9, none⟩ = some (.string s1) := BM.out.cell 9 _ rfl
  go_wp2_with fail
  refine (HM.out _ HB.out).mono ?_; rintro e w2 ⟨rfl, hB⟩
  clear m0 m1 m2 m3 m4 m5 m6 m7 m8 m9 HM
  replace BC := Lib.hid (BC.out.below hB)
  replace BP := Lib.hid (BP.out.below hB)
  replace BT := Lib.hid (BT.out.below hB)
  replace BM := Lib.hid (BM.out.below hB)
  replace BR := Lib.hid (BR.out.below hB)
  replace HB := Lib.hid (bel_trans HB.out hB)
  clear hB
  go_wp2_with (refine at_prf (.tmp 6) rfl rfl rfl BP.out ?_)
  refine (HP.out _ HB.out).mono ?_; rintro e w3 ⟨rfl, hB⟩
  clear HP
  replace BC := Lib.hid (BC.out.below hB)
  replace BP := Lib.hid (BP.out.below hB)
  replace BT := Lib.hid (BT.out.below hB)
  replace BM := Lib.hid (BM.out.below hB)
  replace BR := Lib.hid (BR.out.below hB)
  replace HB := Lib.hid (bel_trans HB.out hB)
  clear hB
  have z0 : w3.cell? ⟨w.heap.size + 1 + 1 + 1 + 1, 0, none⟩ = some (.int .i64 0) := BR.out.cell 0 _ rfl
  have z1 : w3.cell? ⟨w.heap.size + 1 + 1 + 1 + 1, 1, none⟩ = some (.int .i64 0) := BR.out.cell 1 _ rfl
  have z2 : w3.cell? ⟨w.heap.size + 1 + 1 + 1 + 1, 2, none⟩ = some (.int .i64 0) := BR.out.cell 2 _ rfl
  have z3 : w3.cell? ⟨w.heap.size + 1 + 1 + 1 + 1, 3, none⟩ = some (.int .i64 0) := BR.out.cell 3 _ rfl
  have z4 : w3.cell? ⟨w.heap.size + 1 + 1 + 1 + 1, 4, none⟩ = some (.int .i64 0) := BR.out.cell 4 _ rfl
  have z5 : w3.cell? ⟨w.heap.size + 1 + 1 + 1 + 1, 5, none⟩ = some (.int .i64 0) := BR.out.cell 5 _ rfl
  have z6 : w3.cell? ⟨w.heap.size + 1 + 1 + 1 + 1, 6, none⟩ = some (.int .i64 0) := BR.out.cell 6 _ rfl
  have z7 : w3.cell? ⟨w.heap.size + 1 + 1 + 1 + 1, 7, none⟩ = some (.int .i64 0) := BR.out.cell 7 _ rfl
  have z8 : w3.cell? ⟨w.heap.size + 1 + 1 + 1 + 1, 8, none⟩ = some (.int .i64 0) := BR.out.cell 8 _ rfl
  have z9 : w3.cell? ⟨w.heap.size + 1 + 1 + 1 + 1, 9, none⟩ = some (.int .i64 0) := BR.out.cell 9 _ rfl
  have z10 : w3.cell? ⟨w.heap.size + 1 + 1 + 1 + 1, 10, none⟩ = some (.int .i64 0) := BR.out.cell 10 _ rfl
  have z11 : w3.cell? ⟨w.heap.size + 1 + 1 + 1 + 1, 11, none⟩ = some (.bool false) := BR.out.cell 11 _ rfl
  have zf : ∀ o, w3.frozen? ⟨w.heap.size + 1 + 1 + 1 + 1, o, none⟩ = false := BR.out.fr
  have zl := BR.out.lt
  go_wp2_with fail
  have HRS : Hid (Has _ (w.heap.size + 1 + 1 + 1 + 1) [.int .i64 0, .int .i64 0, .int .i64 0, .int .i64 0, .int .i64 0, .int .i64 0, .int .i64 0, .int .i64 0, .int .i64 0, .int .i64 0, .int .i64 0, .bool false]) := Lib.hid ((((((((((((BR.out.set 0 (.int .i64 0) (by simp)).set 1 (.int .i64 0) (by simp)).set 2 (.int .i64 0) (by simp)).set 3 (.int .i64 0) (by simp)).set 4 (.int .i64 0) (by simp)).set 5 (.int .i64 0) (by simp)).set 6 (.int .i64 0) (by simp)).set 7 (.int .i64 0) (by simp)).set 8 (.int .i64 0) (by simp)).set 9 (.int .i64 0) (by simp)).set 10 (.int .i64 0) (by simp)).set 11 (.bool false) (by simp))
  have HBR := Lib.hid ((((((((((((HB.out.setCell (p := ⟨w.heap.size + 1 + 1 + 1 + 1, 0, none⟩) (by simp; omega) (.int .i64 0)).setCell (p := ⟨w.heap.size + 1 + 1 + 1 + 1, 1, none⟩) (by simp; omega) (.int .i64 0)).setCell (p := ⟨w.heap.size + 1 + 1 + 1 + 1, 2, none⟩) (by simp; omega) (.int .i64 0)).setCell (p := ⟨w.heap.size + 1 + 1 + 1 + 1, 3, none⟩) (by simp; omega) (.int .i64 0)).setCell (p := ⟨w.heap.size + 1 + 1 + 1 + 1, 4, none⟩) (by simp; omega) (.int .i64 0)).setCell (p := ⟨w.heap.size + 1 + 1 + 1 + 1, 5, none⟩) (by simp; omega) (.int .i64 0)).setCell (p := ⟨w.heap.size + 1 + 1 + 1 + 1, 6, none⟩) (by simp; omega) (.int .i64 0)).setCell (p := ⟨w.heap.size + 1 + 1 + 1 + 1, 7, none⟩) (by simp; omega) (.int .i64 0)).setCell (p := ⟨w.heap.size + 1 + 1 + 1 + 1, 8, none⟩) (by simp; omega) (.int .i64 0)).setCell (p := ⟨w.heap.size + 1 + 1 + 1 + 1, 9, none⟩) (by simp; omega) (.int .i64 0)).setCell (p := ⟨w.heap.size + 1 + 1 + 1 + 1, 10, none⟩) (by simp; omega) (.int .i64 0)).setCell (p := ⟨w.heap.size + 1 + 1 + 1 + 1, 11, none⟩) (by simp; omega) (.bool false))
  have y0 := HRS.out.cell 0 _ rfl
  have y1 := HRS.out.cell 1 _ rfl
  have y2 := HRS.out.cell 2 _ rfl
  have y3 := HRS.out.cell 3 _ rfl
  have y4 := HRS.out.cell 4 _ rfl
  have y5 := HRS.out.cell 5 _ rfl
  have y6 := HRS.out.cell 6 _ rfl
  have y7 := HRS.out.cell 7 _ rfl
  have y8 := HRS.out.cell 8 _ rfl
  have y9 := HRS.out.cell 9 _ rfl
  have y10 := HRS.out.cell 10 _ rfl
  have y11 := HRS.out.cell 11 _ rfl
  exact bodyPost_ret (v := .tuple #[.agg #[.int .i64 0, .int .i64 0, .int .i64 0, .int .i64 0, .int .i64 0, .int .i64 0, .int .i64 0, .int .i64 0, .int .i64 0, .int .i64 0, .int .i64 0, .bool false], .int .i64 EE]) (by simp [results, Try.results10, go_sem, y0, y1, y2, y3, y4, y5, y6, y7, y8, y9, y10, y11]) rfl ⟨by rw [HR0.out, HV.out]; rfl, HBR.out⟩
set_option maxRecDepth 100000 in
set_option maxHeartbeats 8000000 in
theorem xFlyE4 (c : Cr) (p : Prf) (em : Int) (t0 t1 t2 tb ts ta tv we wn : Int) (E : Option Addr) (ne ce : Nat) (er : List (Int × Int)) (se sn si : Int) (th st : Bool) (s0 s1 : ByteArray) (w : World) (hl : p.lies w) (hok : p.ok) (he : Recs er2 2 w E ne er) (hne : ne ≤ maxLen) (hem : I64 em) (h1 : c.E = 0) (h2 : moE we wn se sn er s0 s1 = 0) (h3 : pfE p = 0) (hem2 : inB em 0 3000000000 = false) : Calls Try.prog 10 #[.agg #[.int .i64 c.tk, .int .i64 c.px, .int .i64 c.py, .int .i64 c.ve, .int .i64 c.vn, .int .i64 c.al, .int .i64 c.vs, .int .i64 c.hd, .int .i64 c.ca, .int .i64 c.fu, .int .i64 c.bk, .bool c.gr], .agg p.cells.toArray, .int .i64 em, .agg #[.int .u8 t0, .int .u8 t1, .int .u8 t2, .int .i64 tb, .int .i64 ts, .int .i64 ta, .int .i64 tv], .agg #[.int .i64 we, .int .i64 wn, .slice E ne ce, .int .i64 se, .int .i64 sn, .int .u16 si, .bool th, .bool st, .string s0, .string s1]] w fun e w' => e = .returned (.tuple #[.agg (flR c p em tb ts tv we wn se sn er s0 s1).cells.toArray, .int .i64 (flE c p em tb ts tv we wn se sn er s0 s1)]) ∧ Below w.heap.size w w' := by
  have HC := Lib.hid (xCraft c.tk c.px c.py c.ve c.vn c.al c.vs c.hd c.ca c.fu c.bk c.gr)
  rw [show crE c.tk c.px c.py c.ve c.vn c.al c.vs c.hd c.ca c.fu c.bk = c.E from rfl] at HC
  rw [h1] at HC
  have HM := Lib.hid (fun w' hB => xMoment we wn se sn si th st E ne ce er s0 s1 w' (he.below (w' := w') hB) hne)
  rw [h2] at HM
  have HP := Lib.hid (fun w' hB => xPfCheck p w' (hl.below (w' := w') hB) hok)
  rw [h3] at HP
  have HV := Lib.hid (show flE c p em tb ts tv we wn se sn er s0 s1 = if c.E ≠ 0 then c.E else if moE we wn se sn er s0 s1 ≠ 0 then moE we wn se sn er s0 s1 else if pfE p ≠ 0 then pfE p else if inB em 0 3000000000 = true then (if flOk (flC c p em tb ts tv we wn) = true then 0 else 2) else 2 from rfl)
  replace HV := Lib.hid ((((HV.out.trans (if_neg (by rw [h1]; simp))).trans (if_neg (by rw [h2]; simp))).trans (if_neg (by rw [h3]; simp))).trans (if_neg (by rw [hem2]; decide)))
  have HR0 := Lib.hid (show flR c p em tb ts tv we wn se sn er s0 s1 = Cr.zero from if_neg (by rw [HV.out]; decide))
  have HI := Lib.hid (fun W => show Calls Try.prog 30 #[.int .i64 em, .int .i64 0, .int .i64 3000000000] W _ from xIn em 0 3000000000 W)
  rw [hem2] at HI
  clear h1 h2 h3 hem2
  clear hl hok he hem
  go_enter Try.func10, Try.ntmps10
  go_wp2_with fail
  refine (HC.out _).mono ?_; rintro e w1 ⟨rfl, hB⟩
  have BC : Hid (Has w1 (w.heap.size) [.int .i64 c.tk, .int .i64 c.px, .int .i64 c.py, .int .i64 c.ve, .int .i64 c.vn, .int .i64 c.al, .int .i64 c.vs, .int .i64 c.hd, .int .i64 c.ca, .int .i64 c.fu, .int .i64 c.bk, .bool c.gr]) := Lib.hid ((((((Has.new w _ _).alloc _).alloc _).alloc _).alloc _).below hB)
  have BP : Hid (Has w1 (w.heap.size + 1) p.cells) := Lib.hid (((((Has.newAt (w.alloc _) _ _ (w.heap.size + 1) (by simp)).alloc _).alloc _).alloc _).below hB)
  have BT : Hid (Has w1 (w.heap.size + 1 + 1) [.int .u8 t0, .int .u8 t1, .int .u8 t2, .int .i64 tb, .int .i64 ts, .int .i64 ta, .int .i64 tv]) := Lib.hid ((((Has.newAt ((w.alloc _).alloc _) _ _ (w.heap.size + 1 + 1) (by simp)).alloc _).alloc _).below hB)
  have BM : Hid (Has w1 (w.heap.size + 1 + 1 + 1) [.int .i64 we, .int .i64 wn, .slice E ne ce, .int .i64 se, .int .i64 sn, .int .u16 si, .bool th, .bool st, .string s0, .string s1]) := Lib.hid (((Has.newAt (((w.alloc _).alloc _).alloc _) _ _ (w.heap.size + 1 + 1 + 1) (by simp)).alloc _).below hB)
  have BR : Hid (Has w1 (w.heap.size + 1 + 1 + 1 + 1) [.int .i64 0, .int .i64 0, .int .i64 0, .int .i64 0, .int .i64 0, .int .i64 0, .int .i64 0, .int .i64 0, .int .i64 0, .int .i64 0, .int .i64 0, .bool false]) := Lib.hid ((Has.newAt ((((w.alloc _).alloc _).alloc _).alloc _) _ _ (w.heap.size + 1 + 1 + 1 + 1) (by simp)).below hB)
  have HB := Lib.hid (((below_alloc4 w _ _ _ _).alloc (by simp; omega) _).trans (hB.mono (by simp; omega)))
  clear hB HC
  have m0 : w1.cell? ⟨w.heap.size + 1 + 1 + 1, 0, none⟩ = some (.int .i64 we) := BM.out.cell 0 _ rfl
  have m1 : w1.cell? ⟨w.heap.size + 1 + 1 + 1, 1, none⟩ = some (.int .i64 wn) := BM.out.cell 1 _ rfl
  have m2 : w1.cell? ⟨w.heap.size + 1 + 1 + 1, 2, none⟩ = some (.slice E ne ce) := BM.out.cell 2 _ rfl
  have m3 : w1.cell? ⟨w.heap.size + 1 + 1 + 1, 3, none⟩ = some (.int .i64 se) := BM.out.cell 3 _ rfl
  have m4 : w1.cell? ⟨w.heap.size + 1 + 1 + 1, 4, none⟩ = some (.int .i64 sn) := BM.out.cell 4 _ rfl
  have m5 : w1.cell? ⟨w.heap.size + 1 + 1 + 1, 5, none⟩ = some (.int .u16 si) := BM.out.cell 5 _ rfl
  have m6 : w1.cell? ⟨w.heap.size + 1 + 1 + 1, 6, none⟩ = some (.bool th) := BM.out.cell 6 _ rfl
  have m7 : w1.cell? ⟨w.heap.size + 1 + 1 + 1, 7, none⟩ = some (.bool st) := BM.out.cell 7 _ rfl
  have m8 : w1.cell? ⟨w.heap.size + 1 + 1 + 1, 8, none⟩ = some (.string s0) := BM.out.cell 8 _ rfl
  have m9 : w1.cell? ⟨w.heap.size + 1 + 1 + 1, 9, none⟩ = some (.string s1) := BM.out.cell 9 _ rfl
  go_wp2_with fail
  refine (HM.out _ HB.out).mono ?_; rintro e w2 ⟨rfl, hB⟩
  clear m0 m1 m2 m3 m4 m5 m6 m7 m8 m9 HM
  replace BC := Lib.hid (BC.out.below hB)
  replace BP := Lib.hid (BP.out.below hB)
  replace BT := Lib.hid (BT.out.below hB)
  replace BM := Lib.hid (BM.out.below hB)
  replace BR := Lib.hid (BR.out.below hB)
  replace HB := Lib.hid (bel_trans HB.out hB)
  clear hB
  go_wp2_with (refine at_prf (.tmp 6) rfl rfl rfl BP.out ?_)
  refine (HP.out _ HB.out).mono ?_; rintro e w3 ⟨rfl, hB⟩
  clear HP
  replace BC := Lib.hid (BC.out.below hB)
  replace BP := Lib.hid (BP.out.below hB)
  replace BT := Lib.hid (BT.out.below hB)
  replace BM := Lib.hid (BM.out.below hB)
  replace BR := Lib.hid (BR.out.below hB)
  replace HB := Lib.hid (bel_trans HB.out hB)
  clear hB
  go_wp2_with fail
  refine (HI.out _).mono ?_; rintro e wx ⟨rfl, rfl⟩
  clear HI
  have z0 : w3.cell? ⟨w.heap.size + 1 + 1 + 1 + 1, 0, none⟩ = some (.int .i64 0) := BR.out.cell 0 _ rfl
  have z1 : w3.cell? ⟨w.heap.size + 1 + 1 + 1 + 1, 1, none⟩ = some (.int .i64 0) := BR.out.cell 1 _ rfl
  have z2 : w3.cell? ⟨w.heap.size + 1 + 1 + 1 + 1, 2, none⟩ = some (.int .i64 0) := BR.out.cell 2 _ rfl
  have z3 : w3.cell? ⟨w.heap.size + 1 + 1 + 1 + 1, 3, none⟩ = some (.int .i64 0) := BR.out.cell 3 _ rfl
  have z4 : w3.cell? ⟨w.heap.size + 1 + 1 + 1 + 1, 4, none⟩ = some (.int .i64 0) := BR.out.cell 4 _ rfl
  have z5 : w3.cell? ⟨w.heap.size + 1 + 1 + 1 + 1, 5, none⟩ = some (.int .i64 0) := BR.out.cell 5 _ rfl
  have z6 : w3.cell? ⟨w.heap.size + 1 + 1 + 1 + 1, 6, none⟩ = some (.int .i64 0) := BR.out.cell 6 _ rfl
  have z7 : w3.cell? ⟨w.heap.size + 1 + 1 + 1 + 1, 7, none⟩ = some (.int .i64 0) := BR.out.cell 7 _ rfl
  have z8 : w3.cell? ⟨w.heap.size + 1 + 1 + 1 + 1, 8, none⟩ = some (.int .i64 0) := BR.out.cell 8 _ rfl
  have z9 : w3.cell? ⟨w.heap.size + 1 + 1 + 1 + 1, 9, none⟩ = some (.int .i64 0) := BR.out.cell 9 _ rfl
  have z10 : w3.cell? ⟨w.heap.size + 1 + 1 + 1 + 1, 10, none⟩ = some (.int .i64 0) := BR.out.cell 10 _ rfl
  have z11 : w3.cell? ⟨w.heap.size + 1 + 1 + 1 + 1, 11, none⟩ = some (.bool false) := BR.out.cell 11 _ rfl
  have zf : ∀ o, w3.frozen? ⟨w.heap.size + 1 + 1 + 1 + 1, o, none⟩ = false := BR.out.fr
  have zl := BR.out.lt
  go_wp2_with fail
  have HRS : Hid (Has _ (w.heap.size + 1 + 1 + 1 + 1) [.int .i64 0, .int .i64 0, .int .i64 0, .int .i64 0, .int .i64 0, .int .i64 0, .int .i64 0, .int .i64 0, .int .i64 0, .int .i64 0, .int .i64 0, .bool false]) := Lib.hid ((((((((((((BR.out.set 0 (.int .i64 0) (by simp)).set 1 (.int .i64 0) (by simp)).set 2 (.int .i64 0) (by simp)).set 3 (.int .i64 0) (by simp)).set 4 (.int .i64 0) (by simp)).set 5 (.int .i64 0) (by simp)).set 6 (.int .i64 0) (by simp)).set 7 (.int .i64 0) (by simp)).set 8 (.int .i64 0) (by simp)).set 9 (.int .i64 0) (by simp)).set 10 (.int .i64 0) (by simp)).set 11 (.bool false) (by simp))
  have HBR := Lib.hid ((((((((((((HB.out.setCell (p := ⟨w.heap.size + 1 + 1 + 1 + 1, 0, none⟩) (by simp; omega) (.int .i64 0)).setCell (p := ⟨w.heap.size + 1 + 1 + 1 + 1, 1, none⟩) (by simp; omega) (.int .i64 0)).setCell (p := ⟨w.heap.size + 1 + 1 + 1 + 1, 2, none⟩) (by simp; omega) (.int .i64 0)).setCell (p := ⟨w.heap.size + 1 + 1 + 1 + 1, 3, none⟩) (by simp; omega) (.int .i64 0)).setCell (p := ⟨w.heap.size + 1 + 1 + 1 + 1, 4, none⟩) (by simp; omega) (.int .i64 0)).setCell (p := ⟨w.heap.size + 1 + 1 + 1 + 1, 5, none⟩) (by simp; omega) (.int .i64 0)).setCell (p := ⟨w.heap.size + 1 + 1 + 1 + 1, 6, none⟩) (by simp; omega) (.int .i64 0)).setCell (p := ⟨w.heap.size + 1 + 1 + 1 + 1, 7, none⟩) (by simp; omega) (.int .i64 0)).setCell (p := ⟨w.heap.size + 1 + 1 + 1 + 1, 8, none⟩) (by simp; omega) (.int .i64 0)).setCell (p := ⟨w.heap.size + 1 + 1 + 1 + 1, 9, none⟩) (by simp; omega) (.int .i64 0)).setCell (p := ⟨w.heap.size + 1 + 1 + 1 + 1, 10, none⟩) (by simp; omega) (.int .i64 0)).setCell (p := ⟨w.heap.size + 1 + 1 + 1 + 1, 11, none⟩) (by simp; omega) (.bool false))
  have y0 := HRS.out.cell 0 _ rfl
  have y1 := HRS.out.cell 1 _ rfl
  have y2 := HRS.out.cell 2 _ rfl
  have y3 := HRS.out.cell 3 _ rfl
  have y4 := HRS.out.cell 4 _ rfl
  have y5 := HRS.out.cell 5 _ rfl
  have y6 := HRS.out.cell 6 _ rfl
  have y7 := HRS.out.cell 7 _ rfl
  have y8 := HRS.out.cell 8 _ rfl
  have y9 := HRS.out.cell 9 _ rfl
  have y10 := HRS.out.cell 10 _ rfl
  have y11 := HRS.out.cell 11 _ rfl
  exact bodyPost_ret (v := .tuple #[.agg #[.int .i64 0, .int .i64 0, .int .i64 0, .int .i64 0, .int .i64 0, .int .i64 0, .int .i64 0, .int .i64 0, .int .i64 0, .int .i64 0, .int .i64 0, .bool false], .int .i64 2]) (by simp [results, Try.results10, go_sem, y0, y1, y2, y3, y4, y5, y6, y7, y8, y9, y10, y11]) rfl ⟨by rw [HR0.out, HV.out]; rfl, HBR.out⟩
set_option maxRecDepth 100000 in
set_option maxHeartbeats 8000000 in
theorem xFlyOk (c : Cr) (p : Prf) (em : Int) (t0 t1 t2 tb ts ta tv we wn : Int) (E : Option Addr) (ne ce : Nat) (er : List (Int × Int)) (se sn si : Int) (th st : Bool) (s0 s1 : ByteArray) (w : World) (hl : p.lies w) (hok : p.ok) (he : Recs er2 2 w E ne er) (hne : ne ≤ maxLen) (hem : I64 em) (h1 : c.E = 0) (h2 : moE we wn se sn er s0 s1 = 0) (h3 : pfE p = 0) (hem2 : inB em 0 3000000000 = true) : Calls Try.prog 10 #[.agg #[.int .i64 c.tk, .int .i64 c.px, .int .i64 c.py, .int .i64 c.ve, .int .i64 c.vn, .int .i64 c.al, .int .i64 c.vs, .int .i64 c.hd, .int .i64 c.ca, .int .i64 c.fu, .int .i64 c.bk, .bool c.gr], .agg p.cells.toArray, .int .i64 em, .agg #[.int .u8 t0, .int .u8 t1, .int .u8 t2, .int .i64 tb, .int .i64 ts, .int .i64 ta, .int .i64 tv], .agg #[.int .i64 we, .int .i64 wn, .slice E ne ce, .int .i64 se, .int .i64 sn, .int .u16 si, .bool th, .bool st, .string s0, .string s1]] w fun e w' => e = .returned (.tuple #[.agg (flR c p em tb ts tv we wn se sn er s0 s1).cells.toArray, .int .i64 (flE c p em tb ts tv we wn se sn er s0 s1)]) ∧ Below w.heap.size w w' := by
  have HC := Lib.hid (xCraft c.tk c.px c.py c.ve c.vn c.al c.vs c.hd c.ca c.fu c.bk c.gr)
  rw [show crE c.tk c.px c.py c.ve c.vn c.al c.vs c.hd c.ca c.fu c.bk = c.E from rfl] at HC
  rw [h1] at HC
  have HM := Lib.hid (fun w' hB => xMoment we wn se sn si th st E ne ce er s0 s1 w' (he.below (w' := w') hB) hne)
  rw [h2] at HM
  have HP := Lib.hid (fun w' hB => xPfCheck p w' (hl.below (w' := w') hB) hok)
  rw [h3] at HP
  have HFL := Lib.hid (fun a m s w' hB => xCruiseFlow p a m s w' (hl.below (w' := w') hB) hok)
  have HF0A := Lib.hid (fun a m s => crf_n0 hl a m s)
  have HV := Lib.hid (show flE c p em tb ts tv we wn se sn er s0 s1 = if c.E ≠ 0 then c.E else if moE we wn se sn er s0 s1 ≠ 0 then moE we wn se sn er s0 s1 else if pfE p ≠ 0 then pfE p else if inB em 0 3000000000 = true then (if flOk (flC c p em tb ts tv we wn) = true then 0 else 2) else 2 from rfl)
  replace HV := Lib.hid ((((HV.out.trans (if_neg (by rw [h1]; simp))).trans (if_neg (by rw [h2]; simp))).trans (if_neg (by rw [h3]; simp))).trans (if_pos hem2))
  have HR0 := Lib.hid (fun (h : flE c p em tb ts tv we wn se sn er s0 s1 ≠ 0) => show flR c p em tb ts tv we wn se sn er s0 s1 = Cr.zero from if_neg h)
  have HR1 := Lib.hid (fun (h : flE c p em tb ts tv we wn se sn er s0 s1 = 0) => show flR c p em tb ts tv we wn se sn er s0 s1 = flC c p em tb ts tv we wn from if_pos h)
  have HEM := Lib.hid (inB_iff.1 hem2)
  have HI := Lib.hid (fun W => show Calls Try.prog 30 #[.int .i64 em, .int .i64 0, .int .i64 3000000000] W _ from xIn em 0 3000000000 W)
  rw [hem2] at HI
  obtain ⟨⟨v0, v1⟩, ⟨v2, v3⟩, ⟨v4, v5⟩, ⟨v6, v7⟩, ⟨v8, v9⟩, ⟨v10, v11⟩, ⟨v12, v13⟩, ⟨v14, v15⟩, ⟨v16, v17⟩, ⟨v18, v19⟩, v20, v21⟩ := cr_zero h1
  obtain ⟨⟨q0, q1⟩, q2, q3⟩ := mo_wind h2
  have H1 := Lib.hid h1
  clear h1 h2 h3 hem2
  clear hl hok he hem
  go_enter Try.func10, Try.ntmps10
  go_wp2_with fail
  refine (HC.out _).mono ?_; rintro e w1 ⟨rfl, hB⟩
  have BC : Hid (Has w1 (w.heap.size) [.int .i64 c.tk, .int .i64 c.px, .int .i64 c.py, .int .i64 c.ve, .int .i64 c.vn, .int .i64 c.al, .int .i64 c.vs, .int .i64 c.hd, .int .i64 c.ca, .int .i64 c.fu, .int .i64 c.bk, .bool c.gr]) := Lib.hid ((((((Has.new w _ _).alloc _).alloc _).alloc _).alloc _).below hB)
  have BP : Hid (Has w1 (w.heap.size + 1) p.cells) := Lib.hid (((((Has.newAt (w.alloc _) _ _ (w.heap.size + 1) (by simp)).alloc _).alloc _).alloc _).below hB)
  have BT : Hid (Has w1 (w.heap.size + 1 + 1) [.int .u8 t0, .int .u8 t1, .int .u8 t2, .int .i64 tb, .int .i64 ts, .int .i64 ta, .int .i64 tv]) := Lib.hid ((((Has.newAt ((w.alloc _).alloc _) _ _ (w.heap.size + 1 + 1) (by simp)).alloc _).alloc _).below hB)
  have BM : Hid (Has w1 (w.heap.size + 1 + 1 + 1) [.int .i64 we, .int .i64 wn, .slice E ne ce, .int .i64 se, .int .i64 sn, .int .u16 si, .bool th, .bool st, .string s0, .string s1]) := Lib.hid (((Has.newAt (((w.alloc _).alloc _).alloc _) _ _ (w.heap.size + 1 + 1 + 1) (by simp)).alloc _).below hB)
  have BR : Hid (Has w1 (w.heap.size + 1 + 1 + 1 + 1) [.int .i64 0, .int .i64 0, .int .i64 0, .int .i64 0, .int .i64 0, .int .i64 0, .int .i64 0, .int .i64 0, .int .i64 0, .int .i64 0, .int .i64 0, .bool false]) := Lib.hid ((Has.newAt ((((w.alloc _).alloc _).alloc _).alloc _) _ _ (w.heap.size + 1 + 1 + 1 + 1) (by simp)).below hB)
  have HB := Lib.hid (((below_alloc4 w _ _ _ _).alloc (by simp; omega) _).trans (hB.mono (by simp; omega)))
  clear hB HC
  have m0 : w1.cell? ⟨w.heap.size + 1 + 1 + 1, 0, none⟩ = some (.int .i64 we) := BM.out.cell 0 _ rfl
  have m1 : w1.cell? ⟨w.heap.size + 1 + 1 + 1, 1, none⟩ = some (.int .i64 wn) := BM.out.cell 1 _ rfl
  have m2 : w1.cell? ⟨w.heap.size + 1 + 1 + 1, 2, none⟩ = some (.slice E ne ce) := BM.out.cell 2 _ rfl
  have m3 : w1.cell? ⟨w.heap.size + 1 + 1 + 1, 3, none⟩ = some (.int .i64 se) := BM.out.cell 3 _ rfl
  have m4 : w1.cell? ⟨w.heap.size + 1 + 1 + 1, 4, none⟩ = some (.int .i64 sn) := BM.out.cell 4 _ rfl
  have m5 : w1.cell? ⟨w.heap.size + 1 + 1 + 1, 5, none⟩ = some (.int .u16 si) := BM.out.cell 5 _ rfl
  have m6 : w1.cell? ⟨w.heap.size + 1 + 1 + 1, 6, none⟩ = some (.bool th) := BM.out.cell 6 _ rfl
  have m7 : w1.cell? ⟨w.heap.size + 1 + 1 + 1, 7, none⟩ = some (.bool st) := BM.out.cell 7 _ rfl
  have m8 : w1.cell? ⟨w.heap.size + 1 + 1 + 1, 8, none⟩ = some (.string s0) := BM.out.cell 8 _ rfl
  have m9 : w1.cell? ⟨w.heap.size + 1 + 1 + 1, 9, none⟩ = some (.string s1) := BM.out.cell 9 _ rfl
  go_wp2_with fail
  refine (HM.out _ HB.out).mono ?_; rintro e w2 ⟨rfl, hB⟩
  clear m0 m1 m2 m3 m4 m5 m6 m7 m8 m9 HM
  replace BC := Lib.hid (BC.out.below hB)
  replace BP := Lib.hid (BP.out.below hB)
  replace BT := Lib.hid (BT.out.below hB)
  replace BM := Lib.hid (BM.out.below hB)
  replace BR := Lib.hid (BR.out.below hB)
  replace HB := Lib.hid (bel_trans HB.out hB)
  clear hB
  go_wp2_with (refine at_prf (.tmp 6) rfl rfl rfl BP.out ?_)
  refine (HP.out _ HB.out).mono ?_; rintro e w3 ⟨rfl, hB⟩
  clear HP
  replace BC := Lib.hid (BC.out.below hB)
  replace BP := Lib.hid (BP.out.below hB)
  replace BT := Lib.hid (BT.out.below hB)
  replace BM := Lib.hid (BM.out.below hB)
  replace BR := Lib.hid (BR.out.below hB)
  replace HB := Lib.hid (bel_trans HB.out hB)
  clear hB
  go_wp2_with fail
  refine (HI.out _).mono ?_; rintro e wx ⟨rfl, rfl⟩
  clear HI
  have HS : Hid (FlS w [.int .i64 c.tk, .int .i64 c.px, .int .i64 c.py, .int .i64 c.ve, .int .i64 c.vn, .int .i64 c.al, .int .i64 c.vs, .int .i64 c.hd, .int .i64 c.ca, .int .i64 c.fu, .int .i64 c.bk, .bool c.gr] p [.int .u8 t0, .int .u8 t1, .int .u8 t2, .int .i64 tb, .int .i64 ts, .int .i64 ta, .int .i64 tv] [.int .i64 we, .int .i64 wn, .slice E ne ce, .int .i64 se, .int .i64 sn, .int .u16 si, .bool th, .bool st, .string s0, .string s1] w3) := Lib.hid ⟨BC.out, BP.out, BT.out, BM.out, BR.out, HB.out⟩
  clear BC BP BT BM BR HB
  have HBK := Lib.hid (clamp_bd (x := tb) (lo := -3000) (hi := 3000) (by decide))
  have HVS := Lib.hid (clamp_bd (x := tv) (lo := -10000) (hi := 10000) (by decide))
  have HCA := Lib.hid (fCa_bd (sp := ts) v8 v9)
  have HGN := Lib.hid (show fGn c.gr (clampV tv (-10000) 10000) = (c.gr && decide (clampV tv (-10000) 10000 ≤ 0)) from rfl)
  have HAL := Lib.hid (show fAl (fGn c.gr (clampV tv (-10000) 10000)) c.al (clampV tv (-10000) 10000) = if fGn c.gr (clampV tv (-10000) 10000) = true then c.al else clampV (c.al + 10 * clampV tv (-10000) 10000) (-200000) 6000000 from rfl)
  have HFC := Lib.hid (show flC c p em tb ts tv we wn = ⟨c.tk + 10, c.px + 10 * (rnd (fSp (fCa c.ca ts) (fAl (fGn c.gr (clampV tv (-10000) 10000)) c.al (clampV tv (-10000) 10000)) * sinV (fHd c.hd (fZr (fGn c.gr (clampV tv (-10000) 10000)) (clampV tb (-3000) 3000)) (fSp (fCa c.ca ts) (fAl (fGn c.gr (clampV tv (-10000) 10000)) c.al (clampV tv (-10000) 10000))))) + fZr (fGn c.gr (clampV tv (-10000) 10000)) we), c.py + 10 * (rnd (fSp (fCa c.ca ts) (fAl (fGn c.gr (clampV tv (-10000) 10000)) c.al (clampV tv (-10000) 10000)) * cosV (fHd c.hd (fZr (fGn c.gr (clampV tv (-10000) 10000)) (clampV tb (-3000) 3000)) (fSp (fCa c.ca ts) (fAl (fGn c.gr (clampV tv (-10000) 10000)) c.al (clampV tv (-10000) 10000))))) + fZr (fGn c.gr (clampV tv (-10000) 10000)) wn), (rnd (fSp (fCa c.ca ts) (fAl (fGn c.gr (clampV tv (-10000) 10000)) c.al (clampV tv (-10000) 10000)) * sinV (fHd c.hd (fZr (fGn c.gr (clampV tv (-10000) 10000)) (clampV tb (-3000) 3000)) (fSp (fCa c.ca ts) (fAl (fGn c.gr (clampV tv (-10000) 10000)) c.al (clampV tv (-10000) 10000))))) + fZr (fGn c.gr (clampV tv (-10000) 10000)) we), (rnd (fSp (fCa c.ca ts) (fAl (fGn c.gr (clampV tv (-10000) 10000)) c.al (clampV tv (-10000) 10000)) * cosV (fHd c.hd (fZr (fGn c.gr (clampV tv (-10000) 10000)) (clampV tb (-3000) 3000)) (fSp (fCa c.ca ts) (fAl (fGn c.gr (clampV tv (-10000) 10000)) c.al (clampV tv (-10000) 10000))))) + fZr (fGn c.gr (clampV tv (-10000) 10000)) wn), fAl (fGn c.gr (clampV tv (-10000) 10000)) c.al (clampV tv (-10000) 10000), fZr (fGn c.gr (clampV tv (-10000) 10000)) (clampV tv (-10000) 10000), fHd c.hd (fZr (fGn c.gr (clampV tv (-10000) 10000)) (clampV tb (-3000) 3000)) (fSp (fCa c.ca ts) (fAl (fGn c.gr (clampV tv (-10000) 10000)) c.al (clampV tv (-10000) 10000))), fCa c.ca ts, fFu p (fAl (fGn c.gr (clampV tv (-10000) 10000)) c.al (clampV tv (-10000) 10000)) em c.fu (fSp (fCa c.ca ts) (fAl (fGn c.gr (clampV tv (-10000) 10000)) c.al (clampV tv (-10000) 10000))), fZr (fGn c.gr (clampV tv (-10000) 10000)) (clampV tb (-3000) 3000), fGn c.gr (clampV tv (-10000) 10000)⟩ from rfl)
  have k0 := HS.out.C.cell 0 (.int .i64 c.tk) rfl
  have k1 := HS.out.C.cell 1 (.int .i64 c.px) rfl
  have k2 := HS.out.C.cell 2 (.int .i64 c.py) rfl
  have k3 := HS.out.C.cell 3 (.int .i64 c.ve) rfl
  have k4 := HS.out.C.cell 4 (.int .i64 c.vn) rfl
  have k5 := HS.out.C.cell 5 (.int .i64 c.al) rfl
  have k6 := HS.out.C.cell 6 (.int .i64 c.vs) rfl
  have k7 := HS.out.C.cell 7 (.int .i64 c.hd) rfl
  have k8 := HS.out.C.cell 8 (.int .i64 c.ca) rfl
  have k9 := HS.out.C.cell 9 (.int .i64 c.fu) rfl
  have k10 := HS.out.C.cell 10 (.int .i64 c.bk) rfl
  have k11 := HS.out.C.cell 11 (.bool c.gr) rfl
  have t3t := HS.out.T.cell 3 (.int .i64 tb) rfl
  have t6t := HS.out.T.cell 6 (.int .i64 tv) rfl
  have kf := HS.out.C.fr
  have kl := HS.out.C.lt
  go_wp2_with fail
  refine (xClamp _ _ _ _).mono ?_; rintro e wx ⟨rfl, rfl⟩
  go_wp2_with fail
  refine (xClamp _ _ _ _).mono ?_; rintro e wx ⟨rfl, rfl⟩
  go_upto_region 15 with (fail)
  clear k0 k1 k2 k3 k4 k5 k6 k7 k8 k9 k10 k11 t3t t6t kf kl
  replace HS := Lib.hid (show FlS w [.int .i64 (c.tk + 10), .int .i64 c.px, .int .i64 c.py, .int .i64 c.ve, .int .i64 c.vn, .int .i64 c.al, .int .i64 (clampV tv (-10000) 10000), .int .i64 c.hd, .int .i64 c.ca, .int .i64 c.fu, .int .i64 (clampV tb (-3000) 3000), .bool c.gr] p [.int .u8 t0, .int .u8 t1, .int .u8 t2, .int .i64 tb, .int .i64 ts, .int .i64 ta, .int .i64 tv] [.int .i64 we, .int .i64 wn, .slice E ne ce, .int .i64 se, .int .i64 sn, .int .u16 si, .bool th, .bool st, .string s0, .string s1] _ from ((HS.out.set 0 (.int .i64 (c.tk + 10)) (by simp)).set 10 (.int .i64 (clampV tb (-3000) 3000)) (by simp)).set 6 (.int .i64 (clampV tv (-10000) 10000)) (by simp))
  generalize ((w3.setCell ⟨w.heap.size, 0, none⟩ (.int .i64 (c.tk + 10))).setCell ⟨w.heap.size, 10, none⟩ (.int .i64 (clampV tb (-3000) 3000))).setCell ⟨w.heap.size, 6, none⟩ (.int .i64 (clampV tv (-10000) 10000)) = w4 at *
  go_cut [] (fun wx => FlS w [.int .i64 (c.tk + 10), .int .i64 c.px, .int .i64 c.py, .int .i64 c.ve, .int .i64 c.vn, .int .i64 c.al, .int .i64 (clampV tv (-10000) 10000), .int .i64 c.hd, .int .i64 (fCa c.ca ts), .int .i64 c.fu, .int .i64 (clampV tb (-3000) 3000), .bool c.gr] p [.int .u8 t0, .int .u8 t1, .int .u8 t2, .int .i64 tb, .int .i64 ts, .int .i64 ta, .int .i64 tv] [.int .i64 we, .int .i64 wn, .slice E ne ce, .int .i64 se, .int .i64 sn, .int .u16 si, .bool th, .bool st, .string s0, .string s1] wx)
  case first =>
    as_aux_lemma =>
    have HD1 : Hid (FlS w [.int .i64 (c.tk + 10), .int .i64 c.px, .int .i64 c.py, .int .i64 c.ve, .int .i64 c.vn, .int .i64 c.al, .int .i64 (clampV tv (-10000) 10000), .int .i64 c.hd, .int .i64 c.ca, .int .i64 c.fu, .int .i64 (clampV tb (-3000) 3000), .bool c.gr] p [.int .u8 t0, .int .u8 t1, .int .u8 t2, .int .i64 tb, .int .i64 ts, .int .i64 ta, .int .i64 tv] [.int .i64 we, .int .i64 wn, .slice E ne ce, .int .i64 se, .int .i64 sn, .int .u16 si, .bool th, .bool st, .string s0, .string s1] w4.drew) := Lib.hid (HS.out.drewN 1)
    have k8 := HD1.out.C.cell 8 (.int .i64 c.ca) rfl
    have m4 := HD1.out.T.cell 4 (.int .i64 ts) rfl
    refine wp_region_still_tail 11 (by kernel_rfl) (by kernel_rfl) ?_
    simp only [List.take_succ_cons, List.take_zero, List.drop_succ_cons, List.drop_zero]
    change wpStill _ _ w4.drew _ _ _
    refine st_val rfl (op_fa rfl rfl (k := 4) (by go_simp)) ?_
    simp only [Act.put, List.setIfInBounds_toArray, List.set_cons_zero, List.set_cons_succ]
    refine st_val rfl (op_load rfl rfl m4) ?_
    simp only [Act.put, List.setIfInBounds_toArray, List.set_cons_zero, List.set_cons_succ]
    refine st_call rfl (op_call3 (u := .int .i64 ts) (v := .int .i64 0) (t := .int .i64 1000) rfl rfl rfl rfl (by go_simp)) ((xClamp ts 0 1000 _).mono fun e w' h => ⟨h.1, h.2.symm⟩) ?_
    simp only [Act.put, List.setIfInBounds_toArray, List.set_cons_zero, List.set_cons_succ]
    refine st_val rfl (op_fa rfl rfl (k := 8) (by go_simp)) ?_
    simp only [Act.put, List.setIfInBounds_toArray, List.set_cons_zero, List.set_cons_succ]
    refine st_val rfl (op_load rfl rfl k8) ?_
    simp only [Act.put, List.setIfInBounds_toArray, List.set_cons_zero, List.set_cons_succ]
    refine st_val rfl (op_sub rfl rfl rfl rfl ⟨by omega, by omega⟩) ?_
    simp only [Act.put, List.setIfInBounds_toArray, List.set_cons_zero, List.set_cons_succ]
    refine st_val rfl (op_fa rfl rfl (k := 8) (by go_simp)) ?_
    simp only [Act.put, List.setIfInBounds_toArray, List.set_cons_zero, List.set_cons_succ]
    refine st_val rfl (op_load rfl rfl k8) ?_
    simp only [Act.put, List.setIfInBounds_toArray, List.set_cons_zero, List.set_cons_succ]
    refine st_val rfl (op_add rfl rfl rfl rfl ⟨by omega, by omega⟩) ?_
    simp only [Act.put, List.setIfInBounds_toArray, List.set_cons_zero, List.set_cons_succ]
    refine st_call rfl (op_call3 (u := .int .i64 (clampV ts 0 1000)) (v := .int .i64 (c.ca - 10)) (t := .int .i64 (c.ca + 10)) rfl rfl rfl rfl (by go_simp)) ((xClamp (clampV ts 0 1000) (c.ca - 10) (c.ca + 10) _).mono fun e w' h => ⟨h.1, h.2.symm⟩) ?_
    simp only [Act.put, List.setIfInBounds_toArray, List.set_cons_zero, List.set_cons_succ]
    refine st_val rfl (op_fa rfl rfl (k := 8) (by go_simp)) ?_
    simp only [Act.put, List.setIfInBounds_toArray, List.set_cons_zero, List.set_cons_succ]
    refine wpStill_nil ?_
    clear m4
    have kf := HD1.out.C.fr
    have kl := HD1.out.C.lt
    go_wp2_with fail
    go_meet
    exact HD1.out.set 8 (.int .i64 (fCa c.ca ts)) (by simp)
  case rest =>
    replace HS := Lib.hid hcut
    clear hcut
    generalize fCa c.ca ts = CA at *
    generalize clampV tb (-3000) 3000 = BK0 at *
    generalize clampV tv (-10000) 10000 = VS0 at *
    have k11 := HS.out.C.cell 11 (.bool c.gr) rfl
    have k6 := HS.out.C.cell 6 (.int .i64 (VS0)) rfl
    have kf := HS.out.C.fr
    have kl := HS.out.C.lt
    go_upto_region 16 with (fail)
    go_cut [73] (fun s73 wx => s73 = .bool (fGn c.gr VS0) ∧ FlS w [.int .i64 (c.tk + 10), .int .i64 c.px, .int .i64 c.py, .int .i64 c.ve, .int .i64 c.vn, .int .i64 c.al, .int .i64 (VS0), .int .i64 c.hd, .int .i64 (CA), .int .i64 c.fu, .int .i64 (BK0), .bool c.gr] p [.int .u8 t0, .int .u8 t1, .int .u8 t2, .int .i64 tb, .int .i64 ts, .int .i64 ta, .int .i64 tv] [.int .i64 we, .int .i64 wn, .slice E ne ce, .int .i64 se, .int .i64 sn, .int .u16 si, .bool th, .bool st, .string s0, .string s1] wx)
    case first =>
      as_aux_lemma =>
      by_cases hg : c.gr = true
      · rw [hg] at k11
        have HG := Lib.hid hg
        clear hg
        go_wp2_with fail
        go_meet
        exact ⟨by simp [fGn, HG.out], HS.out⟩
      · have hg' : c.gr = false := by simpa using hg
        rw [hg'] at k11
        have HG := Lib.hid hg'
        clear hg hg'
        go_wp2_with fail
        go_meet
        exact ⟨by simp [fGn, HG.out], HS.out⟩
    case rest =>
      obtain ⟨rfl, hS⟩ := hcut
      replace HS := Lib.hid hS
      clear hS
      clear k11 k6 kf kl
      generalize hgn : fGn c.gr VS0 = GN at *
      have HGC := Lib.hid (show GN = true → VS0 ≤ 0 from fun h => by have := HGN.out; rw [h] at this; simp at this; exact this.2)
      have HGT := Lib.hid (show GN = true → c.gr = true from fun h => by have := HGN.out; rw [h] at this; simp at this; exact this.1)
      have HAB := Lib.hid (show -200000 ≤ fAl GN c.al VS0 ∧ fAl GN c.al VS0 ≤ 6000000 by rw [HAL.out]; split <;> first | exact ⟨v2, v3⟩ | exact clamp_bd (by decide))
      go_upto_if 73 with (fail)
      go_cut [] (fun wx => FlS w [.int .i64 (c.tk + 10), .int .i64 c.px, .int .i64 c.py, .int .i64 c.ve, .int .i64 c.vn, .int .i64 (fAl GN c.al VS0), .int .i64 (fZr GN VS0), .int .i64 c.hd, .int .i64 (CA), .int .i64 c.fu, .int .i64 (fZr GN BK0), .bool GN] p [.int .u8 t0, .int .u8 t1, .int .u8 t2, .int .i64 tb, .int .i64 ts, .int .i64 ta, .int .i64 tv] [.int .i64 we, .int .i64 wn, .slice E ne ce, .int .i64 se, .int .i64 sn, .int .u16 si, .bool th, .bool st, .string s0, .string s1] wx)
      case first =>
        cases hg : GN
        · as_aux_lemma =>
          have HG := Lib.hid hg
          clear hg
          have x11 := HS.out.C.cell 11 (.bool c.gr) rfl
          have x6 := HS.out.C.cell 6 (.int .i64 (VS0)) rfl
          have x5 := HS.out.C.cell 5 (.int .i64 c.al) rfl
          have kf := HS.out.C.fr
          have kl := HS.out.C.lt
          have y1 := HVS.out.1
          have y2 := HVS.out.2
          go_wp2_with fail
          refine (xClamp _ _ _ _).mono ?_; rintro e wx ⟨rfl, rfl⟩
          go_wp2_with fail
          go_meet
          rw [HG.out, fAl_no, fZr_no, fZr_no]
          exact (HS.out.set 11 (.bool false) (by simp)).set 5 (.int .i64 (clampV (c.al + 10 * VS0) (-200000) 6000000)) (by simp)
        · as_aux_lemma =>
          have HG := Lib.hid hg
          clear hg
          have x6 := HS.out.C.cell 6 (.int .i64 (VS0)) rfl
          have x10 := HS.out.C.cell 10 (.int .i64 (BK0)) rfl
          have kf := HS.out.C.fr
          have kl := HS.out.C.lt
          go_wp2_with fail
          go_meet
          have hgr := HGT.out HG.out
          rw [HG.out, fAl_yes, fZr_yes, fZr_yes]
          have H2 := (HS.out.set 6 (.int .i64 0) (by simp)).set 10 (.int .i64 0) (by simp)
          rw [hgr] at H2
          exact H2
      case rest =>
        replace HS := Lib.hid hcut
        clear hcut
        have HTS := Lib.hid (fTs_ok HCA.out HAB.out)
        have HSB := Lib.hid (fSp_bd (al := fAl GN c.al VS0) HCA.out.1)
        have HSP := Lib.hid (show fSp CA (fAl GN c.al VS0) = min (tsV CA (fAl GN c.al VS0) 0) 1000 from rfl)
        have HBKB := Lib.hid (show -3000 ≤ fZr GN BK0 ∧ fZr GN BK0 ≤ 3000 by unfold fZr; split <;> first | exact HBK.out | decide)
        have HVSB := Lib.hid (show -10000 ≤ fZr GN VS0 ∧ fZr GN VS0 ≤ 10000 by unfold fZr; split <;> first | exact HVS.out | decide)
        generalize fAl GN c.al VS0 = AL at *
        generalize fZr GN BK0 = BK at *
        generalize fZr GN VS0 = VS at *
        have HTA := Lib.hid (fun w => xTAS CA AL 0 w)
        rw [HTS.out] at HTA
        have HABS := Lib.hid (fun w => xAbsM BK HBKB.out w)
        have HRT := Lib.hid (fun w => xRate (fSp CA AL) (max BK (-BK)) w ⟨by have := HSB.out; omega, by have := HSB.out; omega⟩ ⟨by have := HBKB.out; omega, by have := HBKB.out; omega⟩)
        have HHD := Lib.hid (show fHd c.hd BK (fSp CA AL) = nrm (c.hd + (if BK < 0 then -(10 * rrV (fSp CA AL) (max BK (-BK))) else 10 * rrV (fSp CA AL) (max BK (-BK)))) from rfl)
        have HHN := Lib.hid (fun h => fHd_no (hd := c.hd) (bk := BK) (s := fSp CA AL) ⟨v6, v7⟩ h)
        have HRE := Lib.hid (show rrE (fSp CA AL) (max BK (-BK)) = if rtB (fSp CA AL) (max BK (-BK)) = true then 0 else 2 from rfl)
        have HRB := Lib.hid (rr_bd (fSp CA AL) (max BK (-BK)))
        have HHB := Lib.hid (fHd_bd c.hd BK (fSp CA AL))
        generalize fSp CA AL = SP at *
        generalize fHd c.hd BK SP = HD at *
        have x8 := HS.out.C.cell 8 (.int .i64 CA) rfl
        have x5 := HS.out.C.cell 5 (.int .i64 AL) rfl
        go_wp2_with fail
        clear x8 x5
        refine (HTA.out _).mono ?_; rintro e w6 ⟨rfl, hB⟩
        replace HS := Lib.hid (HS.out.below hB)
        clear hB
        have x10 := HS.out.C.cell 10 (.int .i64 BK) rfl
        go_wp2_with fail
        rw [← HSP.out]
        refine (HABS.out _).mono ?_; rintro e wx ⟨rfl, rfl⟩
        go_wp2_with fail
        refine (HRT.out _).mono ?_; rintro e wx ⟨rfl, q, rfl⟩
        clear x10
        replace HS := Lib.hid (HS.out.drewN q)
        generalize w6.drewN q = w7 at *
        have x10 := HS.out.C.cell 10 (.int .i64 BK) rfl
        go_upto_region 25 with (fail)
        generalize hre : rrE SP (max BK (-BK)) = RE at *
        have HRE2 := Lib.hid hre
        clear hre
        go_cut [113] (fun s113 wx => s113 = .bool (decide (BK ≠ 0) && rtB SP (max BK (-BK))) ∧ FlS w [.int .i64 (c.tk + 10), .int .i64 c.px, .int .i64 c.py, .int .i64 c.ve, .int .i64 c.vn, .int .i64 (AL), .int .i64 (VS), .int .i64 c.hd, .int .i64 (CA), .int .i64 c.fu, .int .i64 (BK), .bool GN] p [.int .u8 t0, .int .u8 t1, .int .u8 t2, .int .i64 tb, .int .i64 ts, .int .i64 ta, .int .i64 tv] [.int .i64 we, .int .i64 wn, .slice E ne ce, .int .i64 se, .int .i64 sn, .int .u16 si, .bool th, .bool st, .string s0, .string s1] wx)
        case first =>
          as_aux_lemma =>
          by_cases hb : BK = 0
          · have e1 : (BK == 0) = true := by rw [beq_iff_eq]; exact hb
            have e2 : (BK != 0) = false := by rw [bne, e1]; rfl
            have HB0 := Lib.hid hb
            clear hb
            go_wp2_with fail
            go_meet
            exact ⟨by simp [HB0.out], HS.out⟩
          · have e1 := beq_of hb
            have e2 := bne_of e1
            cases hr : rtB SP (max BK (-BK))
            · have hr2 := HRE.out
              rw [hr] at hr2
              have e3 : (RE == 0) = false := by rw [hr2]; decide
              have HRR := Lib.hid hr
              have HB0 := Lib.hid hb
              clear hr hr2 hb
              go_wp2_with fail
              go_meet
              exact ⟨by simp [HRR.out], HS.out⟩
            · have hr2 := HRE.out
              rw [hr] at hr2
              have e3 : (RE == 0) = true := by rw [hr2]; decide
              have HRR := Lib.hid hr
              have HB0 := Lib.hid hb
              clear hr hr2 hb
              go_wp2_with fail
              go_meet
              exact ⟨by simp [HRR.out, HB0.out], HS.out⟩
        case rest =>
          obtain ⟨rfl, hS⟩ := hcut
          replace HS := Lib.hid hS
          clear hS x10
          generalize htb : (decide (BK ≠ 0) && rtB SP (max BK (-BK))) = TB at *
          have HTB := Lib.hid htb
          clear htb
          go_upto_if 113 with (fail)
          go_cut [] (fun wx => FlS w [.int .i64 (c.tk + 10), .int .i64 c.px, .int .i64 c.py, .int .i64 c.ve, .int .i64 c.vn, .int .i64 (AL), .int .i64 (VS), .int .i64 (HD), .int .i64 (CA), .int .i64 c.fu, .int .i64 (BK), .bool GN] p [.int .u8 t0, .int .u8 t1, .int .u8 t2, .int .i64 tb, .int .i64 ts, .int .i64 ta, .int .i64 tv] [.int .i64 we, .int .i64 wn, .slice E ne ce, .int .i64 se, .int .i64 sn, .int .u16 si, .bool th, .bool st, .string s0, .string s1] wx)
          case first =>
            as_aux_lemma =>
            cases htb : TB
            · have HX := Lib.hid (show HD = c.hd by
                have h1 := HTB.out
                rw [htb, Bool.and_eq_false_iff] at h1
                rcases h1 with h1 | h1
                · have h2 : BK = 0 := by simpa using h1
                  have h3 := HHD.out
                  rw [h2] at h3
                  rw [h3]
                  have h4 : rrV SP (max 0 (-0)) = 0 := rr_no (by unfold rtB; rw [show inB (max 0 (-0)) 1 3000 = false from rfl, Bool.and_false])
                  rw [h4]; unfold nrm; simp; omega
                · exact HHN.out h1)
              clear htb
              go_wp2_with fail
              go_meet
              rw [HX.out]
              exact HS.out
            · clear htb
              have x10 := HS.out.C.cell 10 (.int .i64 BK) rfl
              have x7 := HS.out.C.cell 7 (.int .i64 c.hd) rfl
              have kf := HS.out.C.fr
              have kl := HS.out.C.lt
              obtain ⟨r0, r1⟩ := HRB.out
              generalize rrV SP (max BK (-BK)) = RR at *
              by_cases hneg : BK < 0
              · have HX := Lib.hid (show HD = nrm (c.hd + -(10 * RR)) by have := HHD.out; rw [if_pos hneg] at this; exact this)
                go_wp2_with fail
                refine (xNorm _ ⟨by omega, by omega⟩ _).mono ?_; rintro e wx ⟨rfl, rfl⟩
                go_wp2_with fail
                go_meet
                rw [HX.out]
                exact HS.out.set 7 _ (by simp)
              · have HX := Lib.hid (show HD = nrm (c.hd + 10 * RR) by have := HHD.out; rw [if_neg hneg] at this; exact this)
                go_wp2_with fail
                refine (xNorm _ ⟨by omega, by omega⟩ _).mono ?_; rintro e wx ⟨rfl, rfl⟩
                go_wp2_with fail
                go_meet
                rw [HX.out]
                exact HS.out.set 7 _ (by simp)
          case rest =>
            replace HS := Lib.hid hcut
            clear hcut HTB HRE HRE2 HHN HHD HRB
            have HSN := Lib.hid (fun w => xSin HD ⟨by have := HHB.out; omega, by have := HHB.out; omega⟩ w)
            have HCN := Lib.hid (fun w => xCos HD ⟨by have := HHB.out; omega, by have := HHB.out; omega⟩ w)
            have HR1B := Lib.hid (rnd_bd (s := SP) HSB.out (sinV_bd HD))
            have HR2B := Lib.hid (rnd_bd (s := SP) HSB.out (cosV_bd HD))
            generalize sinV HD = SN at *
            generalize cosV HD = CN at *
            have HV1 := Lib.hid (fun w => xRnd (SP * SN) HR1B.out.1.1 HR1B.out.1.2 w)
            have HV2 := Lib.hid (fun w => xRnd (SP * CN) HR2B.out.1.1 HR2B.out.1.2 w)
            obtain ⟨⟨z0, z1⟩, z2, z3⟩ := HR1B.out
            obtain ⟨⟨z4, z5⟩, z6, z7⟩ := HR2B.out
            generalize rnd (SP * SN) = RV1 at *
            generalize rnd (SP * CN) = RV2 at *
            have x7 := HS.out.C.cell 7 (.int .i64 HD) rfl
            go_wp2_with fail
            refine (HSN.out _).mono ?_; rintro e wx ⟨rfl, rfl⟩
            go_wp2_with fail
            refine (HV1.out _).mono ?_; rintro e wx ⟨rfl, q, rfl⟩
            replace HS := Lib.hid (HS.out.drewN q)
            have kf := HS.out.C.fr
            have kl := HS.out.C.lt
            have x3 := HS.out.C.cell 3 (.int .i64 c.ve) rfl
            have x7 := HS.out.C.cell 7 (.int .i64 HD) rfl
            go_wp2_with fail
            refine (HCN.out _).mono ?_; rintro e wx ⟨rfl, rfl⟩
            replace HS := Lib.hid (HS.out.set 3 (.int .i64 RV1) (by simp))
            go_wp2_with fail
            refine (HV2.out _).mono ?_; rintro e wx ⟨rfl, q2, rfl⟩
            replace HS := Lib.hid (HS.out.drewN q2)
            clear kf kl x3 x7
            have kf := HS.out.C.fr
            have kl := HS.out.C.lt
            have x4 := HS.out.C.cell 4 (.int .i64 c.vn) rfl
            have x11 := HS.out.C.cell 11 (.bool GN) rfl
            go_upto_if 151 with (fail)
            replace HS := Lib.hid (HS.out.set 4 (.int .i64 RV2) (by simp))
            clear kf kl x4 x11
            go_cut [] (fun wx => FlS w [.int .i64 (c.tk + 10), .int .i64 c.px, .int .i64 c.py, .int .i64 (RV1 + fZr GN we), .int .i64 (RV2 + fZr GN wn), .int .i64 (AL), .int .i64 (VS), .int .i64 (HD), .int .i64 (CA), .int .i64 c.fu, .int .i64 (BK), .bool GN] p [.int .u8 t0, .int .u8 t1, .int .u8 t2, .int .i64 tb, .int .i64 ts, .int .i64 ta, .int .i64 tv] [.int .i64 we, .int .i64 wn, .slice E ne ce, .int .i64 se, .int .i64 sn, .int .u16 si, .bool th, .bool st, .string s0, .string s1] wx)
            case first =>
              as_aux_lemma =>
              have kf := HS.out.C.fr
              have kl := HS.out.C.lt
              have x3 := HS.out.C.cell 3 (.int .i64 RV1) rfl
              have x4 := HS.out.C.cell 4 (.int .i64 RV2) rfl
              have y0 := HS.out.M.cell 0 (.int .i64 we) rfl
              have y1 := HS.out.M.cell 1 (.int .i64 wn) rfl
              cases hg : GN
              · have HG := Lib.hid hg
                clear hg
                go_wp2_with fail
                go_meet
                rw [HG.out]
                have H2 := (HS.out.set 3 (.int .i64 (RV1 + we)) (by simp)).set 4 (.int .i64 (RV2 + wn)) (by simp)
                rw [HG.out] at H2
                exact H2
              · have HG := Lib.hid hg
                clear hg
                go_wp2_with fail
                go_meet
                rw [HG.out]
                have H2 := HS.out
                rw [HG.out] at H2
                rw [show RV1 + fZr true we = RV1 from Int.add_zero _, show RV2 + fZr true wn = RV2 from Int.add_zero _]
                exact H2
            case rest =>
              replace HS := Lib.hid hcut
              clear hcut
              have HWB := Lib.hid (show (-200 ≤ fZr GN we ∧ fZr GN we ≤ 200) ∧ -200 ≤ fZr GN wn ∧ fZr GN wn ≤ 200 by unfold fZr; split <;> omega)
              obtain ⟨⟨g0, g1⟩, g2, g3⟩ := HWB.out
              have HVB := Lib.hid (show (-1200 ≤ RV1 + fZr GN we ∧ RV1 + fZr GN we ≤ 1200) ∧ -1200 ≤ RV2 + fZr GN wn ∧ RV2 + fZr GN wn ≤ 1200 by omega)
              generalize fZr GN we = WE at *
              generalize fZr GN wn = WN at *
              clear g0 g1 g2 g3 z2 z3 z6 z7
              obtain ⟨⟨g0, g1⟩, g2, g3⟩ := HVB.out
              generalize RV1 + WE = VE at *
              generalize RV2 + WN = VN at *
              have kf := HS.out.C.fr
              have kl := HS.out.C.lt
              have x1 := HS.out.C.cell 1 (.int .i64 c.px) rfl
              have x2 := HS.out.C.cell 2 (.int .i64 c.py) rfl
              have x3 := HS.out.C.cell 3 (.int .i64 VE) rfl
              have x4 := HS.out.C.cell 4 (.int .i64 VN) rfl
              have x0 := HS.out.C.cell 0 (.int .i64 (c.tk + 10)) rfl
              have HOK := Lib.hid (show flOk (flC c p em tb ts tv we wn) = (decide (c.tk + 10 ≤ 1099511627776) && ptB (c.px + 10 * VE) (c.py + 10 * VN)) by rw [HFC.out]; rfl)
              by_cases hT : c.tk + 10 ≤ 1099511627776
              rotate_left
              · have hT2 : 1099511627776 < c.tk + 10 := by omega
                have HV2 := Lib.hid (HV.out.trans (if_neg (by rw [HOK.out, decide_eq_false hT]; simp)))
                clear hT
                go_upto_region 37 with (fail)
                replace HS := Lib.hid ((HS.out.set 1 (.int .i64 (c.px + 10 * VE)) (by simp)).set 2 (.int .i64 (c.py + 10 * VN)) (by simp))
                have z0 := HS.out.R.cell 0 (.int .i64 0) rfl
                have z1 := HS.out.R.cell 1 (.int .i64 0) rfl
                have z2 := HS.out.R.cell 2 (.int .i64 0) rfl
                have z3 := HS.out.R.cell 3 (.int .i64 0) rfl
                have z4 := HS.out.R.cell 4 (.int .i64 0) rfl
                have z5 := HS.out.R.cell 5 (.int .i64 0) rfl
                have z6 := HS.out.R.cell 6 (.int .i64 0) rfl
                have z7 := HS.out.R.cell 7 (.int .i64 0) rfl
                have z8 := HS.out.R.cell 8 (.int .i64 0) rfl
                have z9 := HS.out.R.cell 9 (.int .i64 0) rfl
                have z10 := HS.out.R.cell 10 (.int .i64 0) rfl
                have z11 := HS.out.R.cell 11 (.bool false) rfl
                have zf := HS.out.R.fr
                have zl := HS.out.R.lt
                go_wp2_with fail
                have HRX := Lib.hid HS.out.R
                have HBX := Lib.hid HS.out.B
                have HRS := Lib.hid ((((((((((((HRX.out.set 0 (.int .i64 0) (by simp)).set 1 (.int .i64 0) (by simp)).set 2 (.int .i64 0) (by simp)).set 3 (.int .i64 0) (by simp)).set 4 (.int .i64 0) (by simp)).set 5 (.int .i64 0) (by simp)).set 6 (.int .i64 0) (by simp)).set 7 (.int .i64 0) (by simp)).set 8 (.int .i64 0) (by simp)).set 9 (.int .i64 0) (by simp)).set 10 (.int .i64 0) (by simp)).set 11 (.bool false) (by simp))
                have HBR := Lib.hid ((((((((((((HBX.out.setCell (p := ⟨w.heap.size + 1 + 1 + 1 + 1, 0, none⟩) (by simp; omega) (.int .i64 0)).setCell (p := ⟨w.heap.size + 1 + 1 + 1 + 1, 1, none⟩) (by simp; omega) (.int .i64 0)).setCell (p := ⟨w.heap.size + 1 + 1 + 1 + 1, 2, none⟩) (by simp; omega) (.int .i64 0)).setCell (p := ⟨w.heap.size + 1 + 1 + 1 + 1, 3, none⟩) (by simp; omega) (.int .i64 0)).setCell (p := ⟨w.heap.size + 1 + 1 + 1 + 1, 4, none⟩) (by simp; omega) (.int .i64 0)).setCell (p := ⟨w.heap.size + 1 + 1 + 1 + 1, 5, none⟩) (by simp; omega) (.int .i64 0)).setCell (p := ⟨w.heap.size + 1 + 1 + 1 + 1, 6, none⟩) (by simp; omega) (.int .i64 0)).setCell (p := ⟨w.heap.size + 1 + 1 + 1 + 1, 7, none⟩) (by simp; omega) (.int .i64 0)).setCell (p := ⟨w.heap.size + 1 + 1 + 1 + 1, 8, none⟩) (by simp; omega) (.int .i64 0)).setCell (p := ⟨w.heap.size + 1 + 1 + 1 + 1, 9, none⟩) (by simp; omega) (.int .i64 0)).setCell (p := ⟨w.heap.size + 1 + 1 + 1 + 1, 10, none⟩) (by simp; omega) (.int .i64 0)).setCell (p := ⟨w.heap.size + 1 + 1 + 1 + 1, 11, none⟩) (by simp; omega) (.bool false))
                have y0 := HRS.out.cell 0 (.int .i64 0) rfl
                have y1 := HRS.out.cell 1 (.int .i64 0) rfl
                have y2 := HRS.out.cell 2 (.int .i64 0) rfl
                have y3 := HRS.out.cell 3 (.int .i64 0) rfl
                have y4 := HRS.out.cell 4 (.int .i64 0) rfl
                have y5 := HRS.out.cell 5 (.int .i64 0) rfl
                have y6 := HRS.out.cell 6 (.int .i64 0) rfl
                have y7 := HRS.out.cell 7 (.int .i64 0) rfl
                have y8 := HRS.out.cell 8 (.int .i64 0) rfl
                have y9 := HRS.out.cell 9 (.int .i64 0) rfl
                have y10 := HRS.out.cell 10 (.int .i64 0) rfl
                have y11 := HRS.out.cell 11 (.bool false) rfl
                exact bodyPost_ret (v := .tuple #[.agg #[.int .i64 0, .int .i64 0, .int .i64 0, .int .i64 0, .int .i64 0, .int .i64 0, .int .i64 0, .int .i64 0, .int .i64 0, .int .i64 0, .int .i64 0, .bool false], .int .i64 2]) (by simp [results, Try.results10, go_sem, y0, y1, y2, y3, y4, y5, y6, y7, y8, y9, y10, y11]) rfl ⟨by rw [HR0.out (by rw [HV2.out]; decide), HV2.out]; rfl, HBR.out⟩
              have hT2 : ¬ 1099511627776 < c.tk + 10 := by omega
              have HTT := Lib.hid hT
              clear hT
              go_wp2_with fail
              refine (xValid _ _ _).mono ?_; rintro e w8 ⟨rfl, hB⟩
              replace HS := Lib.hid (((HS.out.set 1 (.int .i64 (c.px + 10 * VE)) (by simp)).set 2 (.int .i64 (c.py + 10 * VN)) (by simp)).below hB)
              clear hB x0 x1 x2 x3 x4 kf kl hT2
              cases hpt : ptB (c.px + 10 * VE) (c.py + 10 * VN)
              · have HV2 := Lib.hid (HV.out.trans (if_neg (by rw [HOK.out, hpt]; simp)))
                clear hpt
                have z0 := HS.out.R.cell 0 (.int .i64 0) rfl
                have z1 := HS.out.R.cell 1 (.int .i64 0) rfl
                have z2 := HS.out.R.cell 2 (.int .i64 0) rfl
                have z3 := HS.out.R.cell 3 (.int .i64 0) rfl
                have z4 := HS.out.R.cell 4 (.int .i64 0) rfl
                have z5 := HS.out.R.cell 5 (.int .i64 0) rfl
                have z6 := HS.out.R.cell 6 (.int .i64 0) rfl
                have z7 := HS.out.R.cell 7 (.int .i64 0) rfl
                have z8 := HS.out.R.cell 8 (.int .i64 0) rfl
                have z9 := HS.out.R.cell 9 (.int .i64 0) rfl
                have z10 := HS.out.R.cell 10 (.int .i64 0) rfl
                have z11 := HS.out.R.cell 11 (.bool false) rfl
                have zf := HS.out.R.fr
                have zl := HS.out.R.lt
                go_wp2_with fail
                have HRX := Lib.hid HS.out.R
                have HBX := Lib.hid HS.out.B
                have HRS := Lib.hid ((((((((((((HRX.out.set 0 (.int .i64 0) (by simp)).set 1 (.int .i64 0) (by simp)).set 2 (.int .i64 0) (by simp)).set 3 (.int .i64 0) (by simp)).set 4 (.int .i64 0) (by simp)).set 5 (.int .i64 0) (by simp)).set 6 (.int .i64 0) (by simp)).set 7 (.int .i64 0) (by simp)).set 8 (.int .i64 0) (by simp)).set 9 (.int .i64 0) (by simp)).set 10 (.int .i64 0) (by simp)).set 11 (.bool false) (by simp))
                have HBR := Lib.hid ((((((((((((HBX.out.setCell (p := ⟨w.heap.size + 1 + 1 + 1 + 1, 0, none⟩) (by simp; omega) (.int .i64 0)).setCell (p := ⟨w.heap.size + 1 + 1 + 1 + 1, 1, none⟩) (by simp; omega) (.int .i64 0)).setCell (p := ⟨w.heap.size + 1 + 1 + 1 + 1, 2, none⟩) (by simp; omega) (.int .i64 0)).setCell (p := ⟨w.heap.size + 1 + 1 + 1 + 1, 3, none⟩) (by simp; omega) (.int .i64 0)).setCell (p := ⟨w.heap.size + 1 + 1 + 1 + 1, 4, none⟩) (by simp; omega) (.int .i64 0)).setCell (p := ⟨w.heap.size + 1 + 1 + 1 + 1, 5, none⟩) (by simp; omega) (.int .i64 0)).setCell (p := ⟨w.heap.size + 1 + 1 + 1 + 1, 6, none⟩) (by simp; omega) (.int .i64 0)).setCell (p := ⟨w.heap.size + 1 + 1 + 1 + 1, 7, none⟩) (by simp; omega) (.int .i64 0)).setCell (p := ⟨w.heap.size + 1 + 1 + 1 + 1, 8, none⟩) (by simp; omega) (.int .i64 0)).setCell (p := ⟨w.heap.size + 1 + 1 + 1 + 1, 9, none⟩) (by simp; omega) (.int .i64 0)).setCell (p := ⟨w.heap.size + 1 + 1 + 1 + 1, 10, none⟩) (by simp; omega) (.int .i64 0)).setCell (p := ⟨w.heap.size + 1 + 1 + 1 + 1, 11, none⟩) (by simp; omega) (.bool false))
                have y0 := HRS.out.cell 0 (.int .i64 0) rfl
                have y1 := HRS.out.cell 1 (.int .i64 0) rfl
                have y2 := HRS.out.cell 2 (.int .i64 0) rfl
                have y3 := HRS.out.cell 3 (.int .i64 0) rfl
                have y4 := HRS.out.cell 4 (.int .i64 0) rfl
                have y5 := HRS.out.cell 5 (.int .i64 0) rfl
                have y6 := HRS.out.cell 6 (.int .i64 0) rfl
                have y7 := HRS.out.cell 7 (.int .i64 0) rfl
                have y8 := HRS.out.cell 8 (.int .i64 0) rfl
                have y9 := HRS.out.cell 9 (.int .i64 0) rfl
                have y10 := HRS.out.cell 10 (.int .i64 0) rfl
                have y11 := HRS.out.cell 11 (.bool false) rfl
                exact bodyPost_ret (v := .tuple #[.agg #[.int .i64 0, .int .i64 0, .int .i64 0, .int .i64 0, .int .i64 0, .int .i64 0, .int .i64 0, .int .i64 0, .int .i64 0, .int .i64 0, .int .i64 0, .bool false], .int .i64 2]) (by simp [results, Try.results10, go_sem, y0, y1, y2, y3, y4, y5, y6, y7, y8, y9, y10, y11]) rfl ⟨by rw [HR0.out (by rw [HV2.out]; decide), HV2.out]; rfl, HBR.out⟩
              have HV2 := Lib.hid (HV.out.trans (if_pos (by rw [HOK.out, hpt, decide_eq_true HTT.out]; rfl)))
              clear hpt
              have HFU := Lib.hid (show fFu p AL em c.fu SP = if crfE p AL (em + c.fu) SP = 0 then max (c.fu - 10 * crfV p AL (em + c.fu) SP) 0 else c.fu from rfl)
              have HF0 := Lib.hid (HF0A.out AL (em + c.fu) SP)
              have HFF := Lib.hid (fun w' hB => HFL.out AL (em + c.fu) SP w' hB)
              generalize fFu p AL em c.fu SP = FU at *
              generalize crfE p AL (em + c.fu) SP = CE at *
              generalize crfV p AL (em + c.fu) SP = CV at *
              have x5 := HS.out.C.cell 5 (.int .i64 AL) rfl
              have x9 := HS.out.C.cell 9 (.int .i64 c.fu) rfl
              obtain ⟨e0, e1⟩ := HEM.out
              go_wp2_with (refine at_prf (.tmp 6) rfl rfl rfl HS.out.P ?_)
              refine (HFF.out _ HS.out.B).mono ?_; rintro e w9 ⟨rfl, hB⟩
              replace HS := Lib.hid (HS.out.below hB)
              clear hB x5 x9
              go_upto_if 213 with (fail)
              go_cut [] (fun wx => FlS w [.int .i64 (c.tk + 10), .int .i64 (c.px + 10 * VE), .int .i64 (c.py + 10 * VN), .int .i64 (VE), .int .i64 (VN), .int .i64 (AL), .int .i64 (VS), .int .i64 (HD), .int .i64 (CA), .int .i64 (FU), .int .i64 (BK), .bool GN] p [.int .u8 t0, .int .u8 t1, .int .u8 t2, .int .i64 tb, .int .i64 ts, .int .i64 ta, .int .i64 tv] [.int .i64 we, .int .i64 wn, .slice E ne ce, .int .i64 se, .int .i64 sn, .int .u16 si, .bool th, .bool st, .string s0, .string s1] wx)
              case first =>
                as_aux_lemma =>
                have kf := HS.out.C.fr
                have kl := HS.out.C.lt
                have x9 := HS.out.C.cell 9 (.int .i64 c.fu) rfl
                obtain ⟨f0, f1⟩ := HF0.out
                by_cases hce : CE = 0
                · have HX := Lib.hid (HFU.out.trans (if_pos hce))
                  have e2 : (CE == 0) = true := by rw [beq_iff_eq]; exact hce
                  clear hce
                  go_wp2_with fail
                  go_meet
                  rw [HX.out]
                  exact HS.out.set 9 _ (by simp)
                · have HX := Lib.hid (HFU.out.trans (if_neg hce))
                  have e2 := beq_of hce
                  clear hce
                  go_wp2_with fail
                  go_meet
                  rw [HX.out]
                  exact HS.out
              case rest =>
                replace HS := Lib.hid hcut
                clear hcut
                have x0 := HS.out.C.cell 0 (.int .i64 (c.tk + 10)) rfl
                have x1 := HS.out.C.cell 1 (.int .i64 (c.px + 10 * VE)) rfl
                have x2 := HS.out.C.cell 2 (.int .i64 (c.py + 10 * VN)) rfl
                have x3 := HS.out.C.cell 3 (.int .i64 (VE)) rfl
                have x4 := HS.out.C.cell 4 (.int .i64 (VN)) rfl
                have x5 := HS.out.C.cell 5 (.int .i64 (AL)) rfl
                have x6 := HS.out.C.cell 6 (.int .i64 (VS)) rfl
                have x7 := HS.out.C.cell 7 (.int .i64 (HD)) rfl
                have x8 := HS.out.C.cell 8 (.int .i64 (CA)) rfl
                have x9 := HS.out.C.cell 9 (.int .i64 (FU)) rfl
                have x10 := HS.out.C.cell 10 (.int .i64 (BK)) rfl
                have x11 := HS.out.C.cell 11 (.bool GN) rfl
                have z0 := HS.out.R.cell 0 (.int .i64 0) rfl
                have z1 := HS.out.R.cell 1 (.int .i64 0) rfl
                have z2 := HS.out.R.cell 2 (.int .i64 0) rfl
                have z3 := HS.out.R.cell 3 (.int .i64 0) rfl
                have z4 := HS.out.R.cell 4 (.int .i64 0) rfl
                have z5 := HS.out.R.cell 5 (.int .i64 0) rfl
                have z6 := HS.out.R.cell 6 (.int .i64 0) rfl
                have z7 := HS.out.R.cell 7 (.int .i64 0) rfl
                have z8 := HS.out.R.cell 8 (.int .i64 0) rfl
                have z9 := HS.out.R.cell 9 (.int .i64 0) rfl
                have z10 := HS.out.R.cell 10 (.int .i64 0) rfl
                have z11 := HS.out.R.cell 11 (.bool false) rfl
                have zf := HS.out.R.fr
                have zl := HS.out.R.lt
                go_wp2_with fail
                have HRX := Lib.hid HS.out.R
                have HBX := Lib.hid HS.out.B
                have HRS := Lib.hid ((((((((((((HRX.out.set 0 (.int .i64 (c.tk + 10)) (by simp)).set 1 (.int .i64 (c.px + 10 * VE)) (by simp)).set 2 (.int .i64 (c.py + 10 * VN)) (by simp)).set 3 (.int .i64 (VE)) (by simp)).set 4 (.int .i64 (VN)) (by simp)).set 5 (.int .i64 (AL)) (by simp)).set 6 (.int .i64 (VS)) (by simp)).set 7 (.int .i64 (HD)) (by simp)).set 8 (.int .i64 (CA)) (by simp)).set 9 (.int .i64 (FU)) (by simp)).set 10 (.int .i64 (BK)) (by simp)).set 11 (.bool GN) (by simp))
                have HBR := Lib.hid ((((((((((((HBX.out.setCell (p := ⟨w.heap.size + 1 + 1 + 1 + 1, 0, none⟩) (by simp; omega) (.int .i64 (c.tk + 10))).setCell (p := ⟨w.heap.size + 1 + 1 + 1 + 1, 1, none⟩) (by simp; omega) (.int .i64 (c.px + 10 * VE))).setCell (p := ⟨w.heap.size + 1 + 1 + 1 + 1, 2, none⟩) (by simp; omega) (.int .i64 (c.py + 10 * VN))).setCell (p := ⟨w.heap.size + 1 + 1 + 1 + 1, 3, none⟩) (by simp; omega) (.int .i64 (VE))).setCell (p := ⟨w.heap.size + 1 + 1 + 1 + 1, 4, none⟩) (by simp; omega) (.int .i64 (VN))).setCell (p := ⟨w.heap.size + 1 + 1 + 1 + 1, 5, none⟩) (by simp; omega) (.int .i64 (AL))).setCell (p := ⟨w.heap.size + 1 + 1 + 1 + 1, 6, none⟩) (by simp; omega) (.int .i64 (VS))).setCell (p := ⟨w.heap.size + 1 + 1 + 1 + 1, 7, none⟩) (by simp; omega) (.int .i64 (HD))).setCell (p := ⟨w.heap.size + 1 + 1 + 1 + 1, 8, none⟩) (by simp; omega) (.int .i64 (CA))).setCell (p := ⟨w.heap.size + 1 + 1 + 1 + 1, 9, none⟩) (by simp; omega) (.int .i64 (FU))).setCell (p := ⟨w.heap.size + 1 + 1 + 1 + 1, 10, none⟩) (by simp; omega) (.int .i64 (BK))).setCell (p := ⟨w.heap.size + 1 + 1 + 1 + 1, 11, none⟩) (by simp; omega) (.bool GN))
                have y0 := HRS.out.cell 0 (.int .i64 (c.tk + 10)) rfl
                have y1 := HRS.out.cell 1 (.int .i64 (c.px + 10 * VE)) rfl
                have y2 := HRS.out.cell 2 (.int .i64 (c.py + 10 * VN)) rfl
                have y3 := HRS.out.cell 3 (.int .i64 (VE)) rfl
                have y4 := HRS.out.cell 4 (.int .i64 (VN)) rfl
                have y5 := HRS.out.cell 5 (.int .i64 (AL)) rfl
                have y6 := HRS.out.cell 6 (.int .i64 (VS)) rfl
                have y7 := HRS.out.cell 7 (.int .i64 (HD)) rfl
                have y8 := HRS.out.cell 8 (.int .i64 (CA)) rfl
                have y9 := HRS.out.cell 9 (.int .i64 (FU)) rfl
                have y10 := HRS.out.cell 10 (.int .i64 (BK)) rfl
                have y11 := HRS.out.cell 11 (.bool GN) rfl
                exact bodyPost_ret (v := .tuple #[.agg #[.int .i64 (c.tk + 10), .int .i64 (c.px + 10 * VE), .int .i64 (c.py + 10 * VN), .int .i64 (VE), .int .i64 (VN), .int .i64 (AL), .int .i64 (VS), .int .i64 (HD), .int .i64 (CA), .int .i64 (FU), .int .i64 (BK), .bool GN], .int .i64 0]) (by simp [results, Try.results10, go_sem, y0, y1, y2, y3, y4, y5, y6, y7, y8, y9, y10, y11]) rfl ⟨by rw [HR1.out HV2.out, HV2.out, HFC.out]; rfl, HBR.out⟩
set_option maxRecDepth 100000 in
set_option maxHeartbeats 2000000 in
theorem xFly (c : Cr) (p : Prf) (em : Int) (t0 t1 t2 tb ts ta tv we wn : Int) (E : Option Addr) (ne ce : Nat) (er : List (Int × Int)) (se sn si : Int) (th st : Bool) (s0 s1 : ByteArray) (w : World) (hl : p.lies w) (hok : p.ok) (he : Recs er2 2 w E ne er) (hne : ne ≤ maxLen) (hem : I64 em) : Calls Try.prog 10 #[.agg #[.int .i64 c.tk, .int .i64 c.px, .int .i64 c.py, .int .i64 c.ve, .int .i64 c.vn, .int .i64 c.al, .int .i64 c.vs, .int .i64 c.hd, .int .i64 c.ca, .int .i64 c.fu, .int .i64 c.bk, .bool c.gr], .agg p.cells.toArray, .int .i64 em, .agg #[.int .u8 t0, .int .u8 t1, .int .u8 t2, .int .i64 tb, .int .i64 ts, .int .i64 ta, .int .i64 tv], .agg #[.int .i64 we, .int .i64 wn, .slice E ne ce, .int .i64 se, .int .i64 sn, .int .u16 si, .bool th, .bool st, .string s0, .string s1]] w fun e w' => e = .returned (.tuple #[.agg (flR c p em tb ts tv we wn se sn er s0 s1).cells.toArray, .int .i64 (flE c p em tb ts tv we wn se sn er s0 s1)]) ∧ Below w.heap.size w w' := by
  by_cases h1 : c.E = 0
  rotate_left
  · exact xFlyE1 c p em t0 t1 t2 tb ts ta tv we wn E ne ce er se sn si th st s0 s1 w hl hok he hne hem h1
  by_cases h2 : moE we wn se sn er s0 s1 = 0
  rotate_left
  · exact xFlyE2 c p em t0 t1 t2 tb ts ta tv we wn E ne ce er se sn si th st s0 s1 w hl hok he hne hem h1 h2
  by_cases h3 : pfE p = 0
  rotate_left
  · exact xFlyE3 c p em t0 t1 t2 tb ts ta tv we wn E ne ce er se sn si th st s0 s1 w hl hok he hne hem h1 h2 h3
  cases hem2 : inB em 0 3000000000
  · exact xFlyE4 c p em t0 t1 t2 tb ts ta tv we wn E ne ce er se sn si th st s0 s1 w hl hok he hne hem h1 h2 h3 hem2
  · exact xFlyOk c p em t0 t1 t2 tb ts ta tv we wn E ne ce er se sn si th st s0 s1 w hl hok he hne hem h1 h2 h3 hem2
end Go.Proofs.Ytcmdpfdhmbpahaa
