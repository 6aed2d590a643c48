/- The statement SimulatorMoves: for every input the law returns true, and every argument reads afterwards as before. No condition. -/
import Derived.Test.YtcmdpfdhmbpahaaRows
import Derived.Test.YtcmdpfdhmbpahaaLaBase59
import Derived.Test.YtcmdpfdhmbpahaaOpenFly
import Derived.Test.YtcmdpfdhmbpahaaFly
import Derived.Test.YtcmdpfdhmbpahaaFlyBase
import Derived.WalkKit
import Derived.ProofKit
import Derived.OpenShut
import Derived.ShutString
import Derived.ChangeOld
import Derived.Below
namespace Go.Proofs.Ytcmdpfdhmbpahaa
set_option linter.unusedSimpArgs false
set_option linter.unusedVariables false
open Go.RowKit
set_option maxRecDepth 100000 in
set_option maxHeartbeats 4000000 in
theorem walk_SimulatorMoves (c : Cr) (em t0 t1 t2 tb ts ta tv we wn : Int) (E : Option Addr) (ne ce : Nat) (er : List (Int × Int)) (se sn si : Int) (th st : Bool) (s0 s1 : ByteArray) (p : Prf) (w : World) (hem : I64 em) (hne : ne ≤ maxLen) (he : Recs er2 2 w E ne er) (hl : p.lies w) (hok : p.ok) :
    Calls Try.prog 3 #[.agg #[.int .i64 c.tk, .int .i64 c.px, .int .i64 c.py, .int .i64 c.ve, .int .i64 c.vn, .int .i64 c.al, .int .i64 c.vs, .int .i64 c.hd, .int .i64 c.ca, .int .i64 c.fu, .int .i64 c.bk, .bool c.gr, .int .i64 em, .int .u8 t0, .int .u8 t1, .int .u8 t2, .int .i64 tb, .int .i64 ts, .int .i64 ta, .int .i64 tv, .int .i64 we, .int .i64 wn, .slice E ne ce, .int .i64 se, .int .i64 sn, .int .u16 si, .bool th, .bool st, .string s0, .string s1], .agg p.cells.toArray] w fun e w' => e = .returned (.bool true) ∧ Below w.heap.size w w' := by
  have HX := Lib.hid (fun w' hB => xFly c p em t0 t1 t2 tb ts ta tv we wn E ne ce er se sn si th st s0 s1 w' (hl.below (w' := w') hB) hok (he.below (w' := w') hB) hne hem)
  have HMV := Lib.hid (fun h => fly_mv (c := c) (p := p) (em := em) (tb := tb) (ts := ts) (tv := tv) (we := we) (wn := wn) (se := se) (sn := sn) (er := er) (s0 := s0) (s1 := s1) hl h)
  have HR0 := Lib.hid (fun (h : flE c p em tb ts tv we wn se sn er s0 s1 ≠ 0) => show flR c p em tb ts tv we wn se sn er s0 s1 = Cr.zero from if_neg h)
  have HR1 := Lib.hid (fun (h : flE c p em tb ts tv we wn se sn er s0 s1 = 0) => show flR c p em tb ts tv we wn se sn er s0 s1 = flC c p em tb ts tv we wn from if_pos h)
  clear hl hok he
  by_cases hE : flE c p em tb ts tv we wn se sn er s0 s1 = 0
  rotate_left
  · rw [HR0.out hE] at HX
    generalize flE c p em tb ts tv we wn se sn er s0 s1 = RE at *
    have e1 : (RE == 0) = false := beq_of hE
    have e2 := bne_of e1
    clear hE HR0 HR1 HMV
    simp only [Cr.cells, Cr.zero] at HX
    go_enter Try.func3, Try.ntmps3
    go_wp2_with fail
    refine (awake_any _).mono ?_; rintro e w1 ⟨rfl, hB⟩
    have KS : Hid (Has w1 w.heap.size [.int .i64 c.tk, .int .i64 c.px, .int .i64 c.py, .int .i64 c.ve, .int .i64 c.vn, .int .i64 c.al, .int .i64 c.vs, .int .i64 c.hd, .int .i64 c.ca, .int .i64 c.fu, .int .i64 c.bk, .bool c.gr, .int .i64 em, .int .u8 t0, .int .u8 t1, .int .u8 t2, .int .i64 tb, .int .i64 ts, .int .i64 ta, .int .i64 tv, .int .i64 we, .int .i64 wn, .slice E ne ce, .int .i64 se, .int .i64 sn, .int .u16 si, .bool th, .bool st, .string s0, .string s1]) := Lib.hid (((Has.new w _ _).alloc _).below hB)
    have KP : Hid (Has w1 (w.heap.size + 1) p.cells) := Lib.hid ((Has.newAt (w.alloc _) _ _ (w.heap.size + 1) (by simp)).below hB)
    have HB := Lib.hid (bel_alloc2 hB)
    clear hB
    have k0 : w1.cell? ⟨w.heap.size, 0, none⟩ = some (.int .i64 c.tk) := KS.out.cell 0 _ rfl
    have k1 : w1.cell? ⟨w.heap.size, 1, none⟩ = some (.int .i64 c.px) := KS.out.cell 1 _ rfl
    have k2 : w1.cell? ⟨w.heap.size, 2, none⟩ = some (.int .i64 c.py) := KS.out.cell 2 _ rfl
    have k3 : w1.cell? ⟨w.heap.size, 3, none⟩ = some (.int .i64 c.ve) := KS.out.cell 3 _ rfl
    have k4 : w1.cell? ⟨w.heap.size, 4, none⟩ = some (.int .i64 c.vn) := KS.out.cell 4 _ rfl
    have k5 : w1.cell? ⟨w.heap.size, 5, none⟩ = some (.int .i64 c.al) := KS.out.cell 5 _ rfl
    have k6 : w1.cell? ⟨w.heap.size, 6, none⟩ = some (.int .i64 c.vs) := KS.out.cell 6 _ rfl
    have k7 : w1.cell? ⟨w.heap.size, 7, none⟩ = some (.int .i64 c.hd) := KS.out.cell 7 _ rfl
    have k8 : w1.cell? ⟨w.heap.size, 8, none⟩ = some (.int .i64 c.ca) := KS.out.cell 8 _ rfl
    have k9 : w1.cell? ⟨w.heap.size, 9, none⟩ = some (.int .i64 c.fu) := KS.out.cell 9 _ rfl
    have k10 : w1.cell? ⟨w.heap.size, 10, none⟩ = some (.int .i64 c.bk) := KS.out.cell 10 _ rfl
    have k11 : w1.cell? ⟨w.heap.size, 11, none⟩ = some (.bool c.gr) := KS.out.cell 11 _ rfl
    have k12 : w1.cell? ⟨w.heap.size, 12, none⟩ = some (.int .i64 em) := KS.out.cell 12 _ rfl
    have k13 : w1.cell? ⟨w.heap.size, 13, none⟩ = some (.int .u8 t0) := KS.out.cell 13 _ rfl
    have k14 : w1.cell? ⟨w.heap.size, 14, none⟩ = some (.int .u8 t1) := KS.out.cell 14 _ rfl
    have k15 : w1.cell? ⟨w.heap.size, 15, none⟩ = some (.int .u8 t2) := KS.out.cell 15 _ rfl
    have k16 : w1.cell? ⟨w.heap.size, 16, none⟩ = some (.int .i64 tb) := KS.out.cell 16 _ rfl
    have k17 : w1.cell? ⟨w.heap.size, 17, none⟩ = some (.int .i64 ts) := KS.out.cell 17 _ rfl
    have k18 : w1.cell? ⟨w.heap.size, 18, none⟩ = some (.int .i64 ta) := KS.out.cell 18 _ rfl
    have k19 : w1.cell? ⟨w.heap.size, 19, none⟩ = some (.int .i64 tv) := KS.out.cell 19 _ rfl
    have k20 : w1.cell? ⟨w.heap.size, 20, none⟩ = some (.int .i64 we) := KS.out.cell 20 _ rfl
    have k21 : w1.cell? ⟨w.heap.size, 21, none⟩ = some (.int .i64 wn) := KS.out.cell 21 _ rfl
    have k22 : w1.cell? ⟨w.heap.size, 22, none⟩ = some (.slice E ne ce) := KS.out.cell 22 _ rfl
    have k23 : w1.cell? ⟨w.heap.size, 23, none⟩ = some (.int .i64 se) := KS.out.cell 23 _ rfl
    have k24 : w1.cell? ⟨w.heap.size, 24, none⟩ = some (.int .i64 sn) := KS.out.cell 24 _ rfl
    have k25 : w1.cell? ⟨w.heap.size, 25, none⟩ = some (.int .u16 si) := KS.out.cell 25 _ rfl
    have k26 : w1.cell? ⟨w.heap.size, 26, none⟩ = some (.bool th) := KS.out.cell 26 _ rfl
    have k27 : w1.cell? ⟨w.heap.size, 27, none⟩ = some (.bool st) := KS.out.cell 27 _ rfl
    have k28 : w1.cell? ⟨w.heap.size, 28, none⟩ = some (.string s0) := KS.out.cell 28 _ rfl
    have k29 : w1.cell? ⟨w.heap.size, 29, none⟩ = some (.string s1) := KS.out.cell 29 _ rfl
    go_wp2_with (refine at_prf (.tmp 3) rfl rfl rfl KP.out ?_)
    refine (HX.out _ HB.out).mono ?_; rintro e w2 ⟨rfl, hB⟩
    clear k0 k1 k2 k3 k4 k5 k6 k7 k8 k9 k10 k11 k12 k13 k14 k15 k16 k17 k18 k19 k20 k21 k22 k23 k24 k25 k26 k27 k28 k29
    replace KS := Lib.hid (KS.out.below hB)
    replace HB := Lib.hid (bel_trans HB.out hB)
    clear hB KP
    have KR2 : Hid (Has (w2.alloc (.cells #[.int .i64 0, .int .i64 0, .int .i64 0, .int .i64 0, .int .i64 0, .int .i64 0, .int .i64 0, .int .i64 0, .int .i64 0, .int .i64 0, .int .i64 0, .bool false] 27)) w2.heap.size [.int .i64 0, .int .i64 0, .int .i64 0, .int .i64 0, .int .i64 0, .int .i64 0, .int .i64 0, .int .i64 0, .int .i64 0, .int .i64 0, .int .i64 0, .bool false]) := Lib.hid (Has.new w2 _ _)
    have kr0 : (w2.alloc (.cells #[.int .i64 0, .int .i64 0, .int .i64 0, .int .i64 0, .int .i64 0, .int .i64 0, .int .i64 0, .int .i64 0, .int .i64 0, .int .i64 0, .int .i64 0, .bool false] 27)).cell? ⟨w2.heap.size, 0, none⟩ = some (.int .i64 0) := KR2.out.cell 0 _ rfl
    have kr1 : (w2.alloc (.cells #[.int .i64 0, .int .i64 0, .int .i64 0, .int .i64 0, .int .i64 0, .int .i64 0, .int .i64 0, .int .i64 0, .int .i64 0, .int .i64 0, .int .i64 0, .bool false] 27)).cell? ⟨w2.heap.size, 1, none⟩ = some (.int .i64 0) := KR2.out.cell 1 _ rfl
    have kr2 : (w2.alloc (.cells #[.int .i64 0, .int .i64 0, .int .i64 0, .int .i64 0, .int .i64 0, .int .i64 0, .int .i64 0, .int .i64 0, .int .i64 0, .int .i64 0, .int .i64 0, .bool false] 27)).cell? ⟨w2.heap.size, 2, none⟩ = some (.int .i64 0) := KR2.out.cell 2 _ rfl
    have kr3 : (w2.alloc (.cells #[.int .i64 0, .int .i64 0, .int .i64 0, .int .i64 0, .int .i64 0, .int .i64 0, .int .i64 0, .int .i64 0, .int .i64 0, .int .i64 0, .int .i64 0, .bool false] 27)).cell? ⟨w2.heap.size, 3, none⟩ = some (.int .i64 0) := KR2.out.cell 3 _ rfl
    have kr4 : (w2.alloc (.cells #[.int .i64 0, .int .i64 0, .int .i64 0, .int .i64 0, .int .i64 0, .int .i64 0, .int .i64 0, .int .i64 0, .int .i64 0, .int .i64 0, .int .i64 0, .bool false] 27)).cell? ⟨w2.heap.size, 4, none⟩ = some (.int .i64 0) := KR2.out.cell 4 _ rfl
    have kr5 : (w2.alloc (.cells #[.int .i64 0, .int .i64 0, .int .i64 0, .int .i64 0, .int .i64 0, .int .i64 0, .int .i64 0, .int .i64 0, .int .i64 0, .int .i64 0, .int .i64 0, .bool false] 27)).cell? ⟨w2.heap.size, 5, none⟩ = some (.int .i64 0) := KR2.out.cell 5 _ rfl
    have kr6 : (w2.alloc (.cells #[.int .i64 0, .int .i64 0, .int .i64 0, .int .i64 0, .int .i64 0, .int .i64 0, .int .i64 0, .int .i64 0, .int .i64 0, .int .i64 0, .int .i64 0, .bool false] 27)).cell? ⟨w2.heap.size, 6, none⟩ = some (.int .i64 0) := KR2.out.cell 6 _ rfl
    have kr7 : (w2.alloc (.cells #[.int .i64 0, .int .i64 0, .int .i64 0, .int .i64 0, .int .i64 0, .int .i64 0, .int .i64 0, .int .i64 0, .int .i64 0, .int .i64 0, .int .i64 0, .bool false] 27)).cell? ⟨w2.heap.size, 7, none⟩ = some (.int .i64 0) := KR2.out.cell 7 _ rfl
    have kr8 : (w2.alloc (.cells #[.int .i64 0, .int .i64 0, .int .i64 0, .int .i64 0, .int .i64 0, .int .i64 0, .int .i64 0, .int .i64 0, .int .i64 0, .int .i64 0, .int .i64 0, .bool false] 27)).cell? ⟨w2.heap.size, 8, none⟩ = some (.int .i64 0) := KR2.out.cell 8 _ rfl
    have kr9 : (w2.alloc (.cells #[.int .i64 0, .int .i64 0, .int .i64 0, .int .i64 0, .int .i64 0, .int .i64 0, .int .i64 0, .int .i64 0, .int .i64 0, .int .i64 0, .int .i64 0, .bool false] 27)).cell? ⟨w2.heap.size, 9, none⟩ = some (.int .i64 0) := KR2.out.cell 9 _ rfl
    have kr10 : (w2.alloc (.cells #[.int .i64 0, .int .i64 0, .int .i64 0, .int .i64 0, .int .i64 0, .int .i64 0, .int .i64 0, .int .i64 0, .int .i64 0, .int .i64 0, .int .i64 0, .bool false] 27)).cell? ⟨w2.heap.size, 10, none⟩ = some (.int .i64 0) := KR2.out.cell 10 _ rfl
    have kr11 : (w2.alloc (.cells #[.int .i64 0, .int .i64 0, .int .i64 0, .int .i64 0, .int .i64 0, .int .i64 0, .int .i64 0, .int .i64 0, .int .i64 0, .int .i64 0, .int .i64 0, .bool false] 27)).cell? ⟨w2.heap.size, 11, none⟩ = some (.bool false) := KR2.out.cell 11 _ rfl
    go_wp2_with fail
    go_ret
    exact ⟨ret_bool (by simp), bel_alloc1 HB.out _⟩
  obtain ⟨hcz, mv⟩ := HMV.out hE
  rw [HR1.out hE, hE] at HX
  clear HR0 HR1 HMV hE
  generalize flC c p em tb ts tv we wn = k at *
  obtain ⟨⟨u0, u1⟩, ⟨u2, u3⟩, ⟨u4, u5⟩, ⟨u6, u7⟩, ⟨u8, u9⟩, ⟨u10, u11⟩, ⟨u12, u13⟩, ⟨u14, u15⟩, ⟨u16, u17⟩, ⟨u18, u19⟩, u20, u21⟩ := cr_zero mv.z
  obtain ⟨⟨v0, v1⟩, ⟨v2, v3⟩, ⟨v4, v5⟩, ⟨v6, v7⟩, ⟨v8, v9⟩, ⟨v10, v11⟩, ⟨v12, v13⟩, ⟨v14, v15⟩, ⟨v16, v17⟩, ⟨v18, v19⟩, v20, v21⟩ := cr_zero hcz
  obtain ⟨a0, a1, a2, a3, a4, a5, a6, a7, a8, a9, a10, a11⟩ := k
  have HCR := Lib.hid (fun W => xCraft a0 a1 a2 a3 a4 a5 a6 a7 a8 a9 a10 a11 W)
  rw [show crE a0 a1 a2 a3 a4 a5 a6 a7 a8 a9 a10 = 0 from mv.z] at HCR
  have HVA := Lib.hid (fun W => xValid a1 a2 W)
  rw [show ptB a1 a2 = true from mv.pt] at HVA
  simp only [Cr.cells] at HX
  have x0 : c.tk + 10 = a0 := mv.tk.symm
  have x1 : a1 - c.px = 10 * a3 := by have := mv.px; dsimp only at this; omega
  have x2 : a2 - c.py = 10 * a4 := by have := mv.py; dsimp only at this; omega
  obtain ⟨x3, x4⟩ : c.ca - 10 ≤ a8 ∧ a8 ≤ c.ca + 10 := mv.ca
  obtain ⟨x5, x6⟩ : 0 ≤ a9 ∧ a9 ≤ c.fu := mv.fu
  have hal : a5 = c.al + 10 * a6 ∨ a5 = -200000 ∨ a5 = 6000000 := mv.al
  have hgr : a11 = true → c.gr = true ∧ a5 = c.al ∧ a6 = 0 ∧ a10 = 0 := mv.gr
  clear mv hcz
  dsimp only at u0 u1 u2 u3 u4 u5 u6 u7 u8 u9 u10 u11 u12 u13 u14 u15 u16 u17 u18 u19 u20 u21
  have y1 : ¬ 10 < a8 - c.ca := by omega
  have y2 : ¬ 10 < -(a8 - c.ca) := by omega
  cases hb : a11
  · clear hgr
    subst hb
    by_cases h1 : a5 = c.al + 10 * a6
    · have y3 : c.al + 10 * a6 = a5 := h1.symm
      clear h1 hal
      go_enter Try.func3, Try.ntmps3
      go_wp2_with fail
      refine (awake_any _).mono ?_; rintro e w1 ⟨rfl, hB⟩
      have KS : Hid (Has w1 w.heap.size [.int .i64 c.tk, .int .i64 c.px, .int .i64 c.py, .int .i64 c.ve, .int .i64 c.vn, .int .i64 c.al, .int .i64 c.vs, .int .i64 c.hd, .int .i64 c.ca, .int .i64 c.fu, .int .i64 c.bk, .bool c.gr, .int .i64 em, .int .u8 t0, .int .u8 t1, .int .u8 t2, .int .i64 tb, .int .i64 ts, .int .i64 ta, .int .i64 tv, .int .i64 we, .int .i64 wn, .slice E ne ce, .int .i64 se, .int .i64 sn, .int .u16 si, .bool th, .bool st, .string s0, .string s1]) := Lib.hid (((Has.new w _ _).alloc _).below hB)
      have KP : Hid (Has w1 (w.heap.size + 1) p.cells) := Lib.hid ((Has.newAt (w.alloc _) _ _ (w.heap.size + 1) (by simp)).below hB)
      have HB := Lib.hid (bel_alloc2 hB)
      clear hB
      have k0 : w1.cell? ⟨w.heap.size, 0, none⟩ = some (.int .i64 c.tk) := KS.out.cell 0 _ rfl
      have k1 : w1.cell? ⟨w.heap.size, 1, none⟩ = some (.int .i64 c.px) := KS.out.cell 1 _ rfl
      have k2 : w1.cell? ⟨w.heap.size, 2, none⟩ = some (.int .i64 c.py) := KS.out.cell 2 _ rfl
      have k3 : w1.cell? ⟨w.heap.size, 3, none⟩ = some (.int .i64 c.ve) := KS.out.cell 3 _ rfl
      have k4 : w1.cell? ⟨w.heap.size, 4, none⟩ = some (.int .i64 c.vn) := KS.out.cell 4 _ rfl
      have k5 : w1.cell? ⟨w.heap.size, 5, none⟩ = some (.int .i64 c.al) := KS.out.cell 5 _ rfl
      have k6 : w1.cell? ⟨w.heap.size, 6, none⟩ = some (.int .i64 c.vs) := KS.out.cell 6 _ rfl
      have k7 : w1.cell? ⟨w.heap.size, 7, none⟩ = some (.int .i64 c.hd) := KS.out.cell 7 _ rfl
      have k8 : w1.cell? ⟨w.heap.size, 8, none⟩ = some (.int .i64 c.ca) := KS.out.cell 8 _ rfl
      have k9 : w1.cell? ⟨w.heap.size, 9, none⟩ = some (.int .i64 c.fu) := KS.out.cell 9 _ rfl
      have k10 : w1.cell? ⟨w.heap.size, 10, none⟩ = some (.int .i64 c.bk) := KS.out.cell 10 _ rfl
      have k11 : w1.cell? ⟨w.heap.size, 11, none⟩ = some (.bool c.gr) := KS.out.cell 11 _ rfl
      have k12 : w1.cell? ⟨w.heap.size, 12, none⟩ = some (.int .i64 em) := KS.out.cell 12 _ rfl
      have k13 : w1.cell? ⟨w.heap.size, 13, none⟩ = some (.int .u8 t0) := KS.out.cell 13 _ rfl
      have k14 : w1.cell? ⟨w.heap.size, 14, none⟩ = some (.int .u8 t1) := KS.out.cell 14 _ rfl
      have k15 : w1.cell? ⟨w.heap.size, 15, none⟩ = some (.int .u8 t2) := KS.out.cell 15 _ rfl
      have k16 : w1.cell? ⟨w.heap.size, 16, none⟩ = some (.int .i64 tb) := KS.out.cell 16 _ rfl
      have k17 : w1.cell? ⟨w.heap.size, 17, none⟩ = some (.int .i64 ts) := KS.out.cell 17 _ rfl
      have k18 : w1.cell? ⟨w.heap.size, 18, none⟩ = some (.int .i64 ta) := KS.out.cell 18 _ rfl
      have k19 : w1.cell? ⟨w.heap.size, 19, none⟩ = some (.int .i64 tv) := KS.out.cell 19 _ rfl
      have k20 : w1.cell? ⟨w.heap.size, 20, none⟩ = some (.int .i64 we) := KS.out.cell 20 _ rfl
      have k21 : w1.cell? ⟨w.heap.size, 21, none⟩ = some (.int .i64 wn) := KS.out.cell 21 _ rfl
      have k22 : w1.cell? ⟨w.heap.size, 22, none⟩ = some (.slice E ne ce) := KS.out.cell 22 _ rfl
      have k23 : w1.cell? ⟨w.heap.size, 23, none⟩ = some (.int .i64 se) := KS.out.cell 23 _ rfl
      have k24 : w1.cell? ⟨w.heap.size, 24, none⟩ = some (.int .i64 sn) := KS.out.cell 24 _ rfl
      have k25 : w1.cell? ⟨w.heap.size, 25, none⟩ = some (.int .u16 si) := KS.out.cell 25 _ rfl
      have k26 : w1.cell? ⟨w.heap.size, 26, none⟩ = some (.bool th) := KS.out.cell 26 _ rfl
      have k27 : w1.cell? ⟨w.heap.size, 27, none⟩ = some (.bool st) := KS.out.cell 27 _ rfl
      have k28 : w1.cell? ⟨w.heap.size, 28, none⟩ = some (.string s0) := KS.out.cell 28 _ rfl
      have k29 : w1.cell? ⟨w.heap.size, 29, none⟩ = some (.string s1) := KS.out.cell 29 _ rfl
      go_wp2_with (refine at_prf (.tmp 3) rfl rfl rfl KP.out ?_)
      refine (HX.out _ HB.out).mono ?_; rintro e w2 ⟨rfl, hB⟩
      clear k0 k1 k2 k3 k4 k5 k6 k7 k8 k9 k10 k11 k12 k13 k14 k15 k16 k17 k18 k19 k20 k21 k22 k23 k24 k25 k26 k27 k28 k29
      replace KS := Lib.hid (KS.out.below hB)
      replace HB := Lib.hid (bel_trans HB.out hB)
      clear hB KP
      have KR2 : Hid (Has ((w2.alloc (.cells #[.int .i64 a0, .int .i64 a1, .int .i64 a2, .int .i64 a3, .int .i64 a4, .int .i64 a5, .int .i64 a6, .int .i64 a7, .int .i64 a8, .int .i64 a9, .int .i64 a10, .bool false] 27)).alloc (.cells #[.int .i64 c.tk, .int .i64 c.px, .int .i64 c.py, .int .i64 c.ve, .int .i64 c.vn, .int .i64 c.al, .int .i64 c.vs, .int .i64 c.hd, .int .i64 c.ca, .int .i64 c.fu, .int .i64 c.bk, .bool c.gr] 27)) w2.heap.size [.int .i64 a0, .int .i64 a1, .int .i64 a2, .int .i64 a3, .int .i64 a4, .int .i64 a5, .int .i64 a6, .int .i64 a7, .int .i64 a8, .int .i64 a9, .int .i64 a10, .bool false]) := Lib.hid ((Has.new w2 _ _).alloc _)
      have KO2 : Hid (Has ((w2.alloc (.cells #[.int .i64 a0, .int .i64 a1, .int .i64 a2, .int .i64 a3, .int .i64 a4, .int .i64 a5, .int .i64 a6, .int .i64 a7, .int .i64 a8, .int .i64 a9, .int .i64 a10, .bool false] 27)).alloc (.cells #[.int .i64 c.tk, .int .i64 c.px, .int .i64 c.py, .int .i64 c.ve, .int .i64 c.vn, .int .i64 c.al, .int .i64 c.vs, .int .i64 c.hd, .int .i64 c.ca, .int .i64 c.fu, .int .i64 c.bk, .bool c.gr] 27)) (w2.heap.size + 1) [.int .i64 c.tk, .int .i64 c.px, .int .i64 c.py, .int .i64 c.ve, .int .i64 c.vn, .int .i64 c.al, .int .i64 c.vs, .int .i64 c.hd, .int .i64 c.ca, .int .i64 c.fu, .int .i64 c.bk, .bool c.gr]) := Lib.hid (Has.newAt (w2.alloc (.cells #[.int .i64 a0, .int .i64 a1, .int .i64 a2, .int .i64 a3, .int .i64 a4, .int .i64 a5, .int .i64 a6, .int .i64 a7, .int .i64 a8, .int .i64 a9, .int .i64 a10, .bool false] 27)) _ _ (w2.heap.size + 1) (by simp))
      have KS2 : Hid (Has (w2.alloc (.cells #[.int .i64 a0, .int .i64 a1, .int .i64 a2, .int .i64 a3, .int .i64 a4, .int .i64 a5, .int .i64 a6, .int .i64 a7, .int .i64 a8, .int .i64 a9, .int .i64 a10, .bool false] 27)) w.heap.size [.int .i64 c.tk, .int .i64 c.px, .int .i64 c.py, .int .i64 c.ve, .int .i64 c.vn, .int .i64 c.al, .int .i64 c.vs, .int .i64 c.hd, .int .i64 c.ca, .int .i64 c.fu, .int .i64 c.bk, .bool c.gr, .int .i64 em, .int .u8 t0, .int .u8 t1, .int .u8 t2, .int .i64 tb, .int .i64 ts, .int .i64 ta, .int .i64 tv, .int .i64 we, .int .i64 wn, .slice E ne ce, .int .i64 se, .int .i64 sn, .int .u16 si, .bool th, .bool st, .string s0, .string s1]) := Lib.hid (KS.out.alloc _)
      have HB2 : Hid (Below w.heap.size w ((w2.alloc (.cells #[.int .i64 a0, .int .i64 a1, .int .i64 a2, .int .i64 a3, .int .i64 a4, .int .i64 a5, .int .i64 a6, .int .i64 a7, .int .i64 a8, .int .i64 a9, .int .i64 a10, .bool false] 27)).alloc (.cells #[.int .i64 c.tk, .int .i64 c.px, .int .i64 c.py, .int .i64 c.ve, .int .i64 c.vn, .int .i64 c.al, .int .i64 c.vs, .int .i64 c.hd, .int .i64 c.ca, .int .i64 c.fu, .int .i64 c.bk, .bool c.gr] 27))) := Lib.hid (bel_alloc1 (bel_alloc1 HB.out _) _)
      have k0 : (w2.alloc (.cells #[.int .i64 a0, .int .i64 a1, .int .i64 a2, .int .i64 a3, .int .i64 a4, .int .i64 a5, .int .i64 a6, .int .i64 a7, .int .i64 a8, .int .i64 a9, .int .i64 a10, .bool false] 27)).cell? ⟨w.heap.size, 0, none⟩ = some (.int .i64 c.tk) := KS2.out.cell 0 _ rfl
      have k1 : (w2.alloc (.cells #[.int .i64 a0, .int .i64 a1, .int .i64 a2, .int .i64 a3, .int .i64 a4, .int .i64 a5, .int .i64 a6, .int .i64 a7, .int .i64 a8, .int .i64 a9, .int .i64 a10, .bool false] 27)).cell? ⟨w.heap.size, 1, none⟩ = some (.int .i64 c.px) := KS2.out.cell 1 _ rfl
      have k2 : (w2.alloc (.cells #[.int .i64 a0, .int .i64 a1, .int .i64 a2, .int .i64 a3, .int .i64 a4, .int .i64 a5, .int .i64 a6, .int .i64 a7, .int .i64 a8, .int .i64 a9, .int .i64 a10, .bool false] 27)).cell? ⟨w.heap.size, 2, none⟩ = some (.int .i64 c.py) := KS2.out.cell 2 _ rfl
      have k3 : (w2.alloc (.cells #[.int .i64 a0, .int .i64 a1, .int .i64 a2, .int .i64 a3, .int .i64 a4, .int .i64 a5, .int .i64 a6, .int .i64 a7, .int .i64 a8, .int .i64 a9, .int .i64 a10, .bool false] 27)).cell? ⟨w.heap.size, 3, none⟩ = some (.int .i64 c.ve) := KS2.out.cell 3 _ rfl
      have k4 : (w2.alloc (.cells #[.int .i64 a0, .int .i64 a1, .int .i64 a2, .int .i64 a3, .int .i64 a4, .int .i64 a5, .int .i64 a6, .int .i64 a7, .int .i64 a8, .int .i64 a9, .int .i64 a10, .bool false] 27)).cell? ⟨w.heap.size, 4, none⟩ = some (.int .i64 c.vn) := KS2.out.cell 4 _ rfl
      have k5 : (w2.alloc (.cells #[.int .i64 a0, .int .i64 a1, .int .i64 a2, .int .i64 a3, .int .i64 a4, .int .i64 a5, .int .i64 a6, .int .i64 a7, .int .i64 a8, .int .i64 a9, .int .i64 a10, .bool false] 27)).cell? ⟨w.heap.size, 5, none⟩ = some (.int .i64 c.al) := KS2.out.cell 5 _ rfl
      have k6 : (w2.alloc (.cells #[.int .i64 a0, .int .i64 a1, .int .i64 a2, .int .i64 a3, .int .i64 a4, .int .i64 a5, .int .i64 a6, .int .i64 a7, .int .i64 a8, .int .i64 a9, .int .i64 a10, .bool false] 27)).cell? ⟨w.heap.size, 6, none⟩ = some (.int .i64 c.vs) := KS2.out.cell 6 _ rfl
      have k7 : (w2.alloc (.cells #[.int .i64 a0, .int .i64 a1, .int .i64 a2, .int .i64 a3, .int .i64 a4, .int .i64 a5, .int .i64 a6, .int .i64 a7, .int .i64 a8, .int .i64 a9, .int .i64 a10, .bool false] 27)).cell? ⟨w.heap.size, 7, none⟩ = some (.int .i64 c.hd) := KS2.out.cell 7 _ rfl
      have k8 : (w2.alloc (.cells #[.int .i64 a0, .int .i64 a1, .int .i64 a2, .int .i64 a3, .int .i64 a4, .int .i64 a5, .int .i64 a6, .int .i64 a7, .int .i64 a8, .int .i64 a9, .int .i64 a10, .bool false] 27)).cell? ⟨w.heap.size, 8, none⟩ = some (.int .i64 c.ca) := KS2.out.cell 8 _ rfl
      have k9 : (w2.alloc (.cells #[.int .i64 a0, .int .i64 a1, .int .i64 a2, .int .i64 a3, .int .i64 a4, .int .i64 a5, .int .i64 a6, .int .i64 a7, .int .i64 a8, .int .i64 a9, .int .i64 a10, .bool false] 27)).cell? ⟨w.heap.size, 9, none⟩ = some (.int .i64 c.fu) := KS2.out.cell 9 _ rfl
      have k10 : (w2.alloc (.cells #[.int .i64 a0, .int .i64 a1, .int .i64 a2, .int .i64 a3, .int .i64 a4, .int .i64 a5, .int .i64 a6, .int .i64 a7, .int .i64 a8, .int .i64 a9, .int .i64 a10, .bool false] 27)).cell? ⟨w.heap.size, 10, none⟩ = some (.int .i64 c.bk) := KS2.out.cell 10 _ rfl
      have k11 : (w2.alloc (.cells #[.int .i64 a0, .int .i64 a1, .int .i64 a2, .int .i64 a3, .int .i64 a4, .int .i64 a5, .int .i64 a6, .int .i64 a7, .int .i64 a8, .int .i64 a9, .int .i64 a10, .bool false] 27)).cell? ⟨w.heap.size, 11, none⟩ = some (.bool c.gr) := KS2.out.cell 11 _ rfl
      have kr0 : ((w2.alloc (.cells #[.int .i64 a0, .int .i64 a1, .int .i64 a2, .int .i64 a3, .int .i64 a4, .int .i64 a5, .int .i64 a6, .int .i64 a7, .int .i64 a8, .int .i64 a9, .int .i64 a10, .bool false] 27)).alloc (.cells #[.int .i64 c.tk, .int .i64 c.px, .int .i64 c.py, .int .i64 c.ve, .int .i64 c.vn, .int .i64 c.al, .int .i64 c.vs, .int .i64 c.hd, .int .i64 c.ca, .int .i64 c.fu, .int .i64 c.bk, .bool c.gr] 27)).cell? ⟨w2.heap.size, 0, none⟩ = some (.int .i64 a0) := KR2.out.cell 0 _ rfl
      have kr1 : ((w2.alloc (.cells #[.int .i64 a0, .int .i64 a1, .int .i64 a2, .int .i64 a3, .int .i64 a4, .int .i64 a5, .int .i64 a6, .int .i64 a7, .int .i64 a8, .int .i64 a9, .int .i64 a10, .bool false] 27)).alloc (.cells #[.int .i64 c.tk, .int .i64 c.px, .int .i64 c.py, .int .i64 c.ve, .int .i64 c.vn, .int .i64 c.al, .int .i64 c.vs, .int .i64 c.hd, .int .i64 c.ca, .int .i64 c.fu, .int .i64 c.bk, .bool c.gr] 27)).cell? ⟨w2.heap.size, 1, none⟩ = some (.int .i64 a1) := KR2.out.cell 1 _ rfl
      have kr2 : ((w2.alloc (.cells #[.int .i64 a0, .int .i64 a1, .int .i64 a2, .int .i64 a3, .int .i64 a4, .int .i64 a5, .int .i64 a6, .int .i64 a7, .int .i64 a8, .int .i64 a9, .int .i64 a10, .bool false] 27)).alloc (.cells #[.int .i64 c.tk, .int .i64 c.px, .int .i64 c.py, .int .i64 c.ve, .int .i64 c.vn, .int .i64 c.al, .int .i64 c.vs, .int .i64 c.hd, .int .i64 c.ca, .int .i64 c.fu, .int .i64 c.bk, .bool c.gr] 27)).cell? ⟨w2.heap.size, 2, none⟩ = some (.int .i64 a2) := KR2.out.cell 2 _ rfl
      have kr3 : ((w2.alloc (.cells #[.int .i64 a0, .int .i64 a1, .int .i64 a2, .int .i64 a3, .int .i64 a4, .int .i64 a5, .int .i64 a6, .int .i64 a7, .int .i64 a8, .int .i64 a9, .int .i64 a10, .bool false] 27)).alloc (.cells #[.int .i64 c.tk, .int .i64 c.px, .int .i64 c.py, .int .i64 c.ve, .int .i64 c.vn, .int .i64 c.al, .int .i64 c.vs, .int .i64 c.hd, .int .i64 c.ca, .int .i64 c.fu, .int .i64 c.bk, .bool c.gr] 27)).cell? ⟨w2.heap.size, 3, none⟩ = some (.int .i64 a3) := KR2.out.cell 3 _ rfl
      have kr4 : ((w2.alloc (.cells #[.int .i64 a0, .int .i64 a1, .int .i64 a2, .int .i64 a3, .int .i64 a4, .int .i64 a5, .int .i64 a6, .int .i64 a7, .int .i64 a8, .int .i64 a9, .int .i64 a10, .bool false] 27)).alloc (.cells #[.int .i64 c.tk, .int .i64 c.px, .int .i64 c.py, .int .i64 c.ve, .int .i64 c.vn, .int .i64 c.al, .int .i64 c.vs, .int .i64 c.hd, .int .i64 c.ca, .int .i64 c.fu, .int .i64 c.bk, .bool c.gr] 27)).cell? ⟨w2.heap.size, 4, none⟩ = some (.int .i64 a4) := KR2.out.cell 4 _ rfl
      have kr5 : ((w2.alloc (.cells #[.int .i64 a0, .int .i64 a1, .int .i64 a2, .int .i64 a3, .int .i64 a4, .int .i64 a5, .int .i64 a6, .int .i64 a7, .int .i64 a8, .int .i64 a9, .int .i64 a10, .bool false] 27)).alloc (.cells #[.int .i64 c.tk, .int .i64 c.px, .int .i64 c.py, .int .i64 c.ve, .int .i64 c.vn, .int .i64 c.al, .int .i64 c.vs, .int .i64 c.hd, .int .i64 c.ca, .int .i64 c.fu, .int .i64 c.bk, .bool c.gr] 27)).cell? ⟨w2.heap.size, 5, none⟩ = some (.int .i64 a5) := KR2.out.cell 5 _ rfl
      have kr6 : ((w2.alloc (.cells #[.int .i64 a0, .int .i64 a1, .int .i64 a2, .int .i64 a3, .int .i64 a4, .int .i64 a5, .int .i64 a6, .int .i64 a7, .int .i64 a8, .int .i64 a9, .int .i64 a10, .bool false] 27)).alloc (.cells #[.int .i64 c.tk, .int .i64 c.px, .int .i64 c.py, .int .i64 c.ve, .int .i64 c.vn, .int .i64 c.al, .int .i64 c.vs, .int .i64 c.hd, .int .i64 c.ca, .int .i64 c.fu, .int .i64 c.bk, .bool c.gr] 27)).cell? ⟨w2.heap.size, 6, none⟩ = some (.int .i64 a6) := KR2.out.cell 6 _ rfl
      have kr7 : ((w2.alloc (.cells #[.int .i64 a0, .int .i64 a1, .int .i64 a2, .int .i64 a3, .int .i64 a4, .int .i64 a5, .int .i64 a6, .int .i64 a7, .int .i64 a8, .int .i64 a9, .int .i64 a10, .bool false] 27)).alloc (.cells #[.int .i64 c.tk, .int .i64 c.px, .int .i64 c.py, .int .i64 c.ve, .int .i64 c.vn, .int .i64 c.al, .int .i64 c.vs, .int .i64 c.hd, .int .i64 c.ca, .int .i64 c.fu, .int .i64 c.bk, .bool c.gr] 27)).cell? ⟨w2.heap.size, 7, none⟩ = some (.int .i64 a7) := KR2.out.cell 7 _ rfl
      have kr8 : ((w2.alloc (.cells #[.int .i64 a0, .int .i64 a1, .int .i64 a2, .int .i64 a3, .int .i64 a4, .int .i64 a5, .int .i64 a6, .int .i64 a7, .int .i64 a8, .int .i64 a9, .int .i64 a10, .bool false] 27)).alloc (.cells #[.int .i64 c.tk, .int .i64 c.px, .int .i64 c.py, .int .i64 c.ve, .int .i64 c.vn, .int .i64 c.al, .int .i64 c.vs, .int .i64 c.hd, .int .i64 c.ca, .int .i64 c.fu, .int .i64 c.bk, .bool c.gr] 27)).cell? ⟨w2.heap.size, 8, none⟩ = some (.int .i64 a8) := KR2.out.cell 8 _ rfl
      have kr9 : ((w2.alloc (.cells #[.int .i64 a0, .int .i64 a1, .int .i64 a2, .int .i64 a3, .int .i64 a4, .int .i64 a5, .int .i64 a6, .int .i64 a7, .int .i64 a8, .int .i64 a9, .int .i64 a10, .bool false] 27)).alloc (.cells #[.int .i64 c.tk, .int .i64 c.px, .int .i64 c.py, .int .i64 c.ve, .int .i64 c.vn, .int .i64 c.al, .int .i64 c.vs, .int .i64 c.hd, .int .i64 c.ca, .int .i64 c.fu, .int .i64 c.bk, .bool c.gr] 27)).cell? ⟨w2.heap.size, 9, none⟩ = some (.int .i64 a9) := KR2.out.cell 9 _ rfl
      have kr10 : ((w2.alloc (.cells #[.int .i64 a0, .int .i64 a1, .int .i64 a2, .int .i64 a3, .int .i64 a4, .int .i64 a5, .int .i64 a6, .int .i64 a7, .int .i64 a8, .int .i64 a9, .int .i64 a10, .bool false] 27)).alloc (.cells #[.int .i64 c.tk, .int .i64 c.px, .int .i64 c.py, .int .i64 c.ve, .int .i64 c.vn, .int .i64 c.al, .int .i64 c.vs, .int .i64 c.hd, .int .i64 c.ca, .int .i64 c.fu, .int .i64 c.bk, .bool c.gr] 27)).cell? ⟨w2.heap.size, 10, none⟩ = some (.int .i64 a10) := KR2.out.cell 10 _ rfl
      have kr11 : ((w2.alloc (.cells #[.int .i64 a0, .int .i64 a1, .int .i64 a2, .int .i64 a3, .int .i64 a4, .int .i64 a5, .int .i64 a6, .int .i64 a7, .int .i64 a8, .int .i64 a9, .int .i64 a10, .bool false] 27)).alloc (.cells #[.int .i64 c.tk, .int .i64 c.px, .int .i64 c.py, .int .i64 c.ve, .int .i64 c.vn, .int .i64 c.al, .int .i64 c.vs, .int .i64 c.hd, .int .i64 c.ca, .int .i64 c.fu, .int .i64 c.bk, .bool c.gr] 27)).cell? ⟨w2.heap.size, 11, none⟩ = some (.bool false) := KR2.out.cell 11 _ rfl
      have ko0 : ((w2.alloc (.cells #[.int .i64 a0, .int .i64 a1, .int .i64 a2, .int .i64 a3, .int .i64 a4, .int .i64 a5, .int .i64 a6, .int .i64 a7, .int .i64 a8, .int .i64 a9, .int .i64 a10, .bool false] 27)).alloc (.cells #[.int .i64 c.tk, .int .i64 c.px, .int .i64 c.py, .int .i64 c.ve, .int .i64 c.vn, .int .i64 c.al, .int .i64 c.vs, .int .i64 c.hd, .int .i64 c.ca, .int .i64 c.fu, .int .i64 c.bk, .bool c.gr] 27)).cell? ⟨w2.heap.size + 1, 0, none⟩ = some (.int .i64 c.tk) := KO2.out.cell 0 _ rfl
      have ko1 : ((w2.alloc (.cells #[.int .i64 a0, .int .i64 a1, .int .i64 a2, .int .i64 a3, .int .i64 a4, .int .i64 a5, .int .i64 a6, .int .i64 a7, .int .i64 a8, .int .i64 a9, .int .i64 a10, .bool false] 27)).alloc (.cells #[.int .i64 c.tk, .int .i64 c.px, .int .i64 c.py, .int .i64 c.ve, .int .i64 c.vn, .int .i64 c.al, .int .i64 c.vs, .int .i64 c.hd, .int .i64 c.ca, .int .i64 c.fu, .int .i64 c.bk, .bool c.gr] 27)).cell? ⟨w2.heap.size + 1, 1, none⟩ = some (.int .i64 c.px) := KO2.out.cell 1 _ rfl
      have ko2 : ((w2.alloc (.cells #[.int .i64 a0, .int .i64 a1, .int .i64 a2, .int .i64 a3, .int .i64 a4, .int .i64 a5, .int .i64 a6, .int .i64 a7, .int .i64 a8, .int .i64 a9, .int .i64 a10, .bool false] 27)).alloc (.cells #[.int .i64 c.tk, .int .i64 c.px, .int .i64 c.py, .int .i64 c.ve, .int .i64 c.vn, .int .i64 c.al, .int .i64 c.vs, .int .i64 c.hd, .int .i64 c.ca, .int .i64 c.fu, .int .i64 c.bk, .bool c.gr] 27)).cell? ⟨w2.heap.size + 1, 2, none⟩ = some (.int .i64 c.py) := KO2.out.cell 2 _ rfl
      have ko5 : ((w2.alloc (.cells #[.int .i64 a0, .int .i64 a1, .int .i64 a2, .int .i64 a3, .int .i64 a4, .int .i64 a5, .int .i64 a6, .int .i64 a7, .int .i64 a8, .int .i64 a9, .int .i64 a10, .bool false] 27)).alloc (.cells #[.int .i64 c.tk, .int .i64 c.px, .int .i64 c.py, .int .i64 c.ve, .int .i64 c.vn, .int .i64 c.al, .int .i64 c.vs, .int .i64 c.hd, .int .i64 c.ca, .int .i64 c.fu, .int .i64 c.bk, .bool c.gr] 27)).cell? ⟨w2.heap.size + 1, 5, none⟩ = some (.int .i64 c.al) := KO2.out.cell 5 _ rfl
      have ko8 : ((w2.alloc (.cells #[.int .i64 a0, .int .i64 a1, .int .i64 a2, .int .i64 a3, .int .i64 a4, .int .i64 a5, .int .i64 a6, .int .i64 a7, .int .i64 a8, .int .i64 a9, .int .i64 a10, .bool false] 27)).alloc (.cells #[.int .i64 c.tk, .int .i64 c.px, .int .i64 c.py, .int .i64 c.ve, .int .i64 c.vn, .int .i64 c.al, .int .i64 c.vs, .int .i64 c.hd, .int .i64 c.ca, .int .i64 c.fu, .int .i64 c.bk, .bool c.gr] 27)).cell? ⟨w2.heap.size + 1, 8, none⟩ = some (.int .i64 c.ca) := KO2.out.cell 8 _ rfl
      have ko9 : ((w2.alloc (.cells #[.int .i64 a0, .int .i64 a1, .int .i64 a2, .int .i64 a3, .int .i64 a4, .int .i64 a5, .int .i64 a6, .int .i64 a7, .int .i64 a8, .int .i64 a9, .int .i64 a10, .bool false] 27)).alloc (.cells #[.int .i64 c.tk, .int .i64 c.px, .int .i64 c.py, .int .i64 c.ve, .int .i64 c.vn, .int .i64 c.al, .int .i64 c.vs, .int .i64 c.hd, .int .i64 c.ca, .int .i64 c.fu, .int .i64 c.bk, .bool c.gr] 27)).cell? ⟨w2.heap.size + 1, 9, none⟩ = some (.int .i64 c.fu) := KO2.out.cell 9 _ rfl
      have ko11 : ((w2.alloc (.cells #[.int .i64 a0, .int .i64 a1, .int .i64 a2, .int .i64 a3, .int .i64 a4, .int .i64 a5, .int .i64 a6, .int .i64 a7, .int .i64 a8, .int .i64 a9, .int .i64 a10, .bool false] 27)).alloc (.cells #[.int .i64 c.tk, .int .i64 c.px, .int .i64 c.py, .int .i64 c.ve, .int .i64 c.vn, .int .i64 c.al, .int .i64 c.vs, .int .i64 c.hd, .int .i64 c.ca, .int .i64 c.fu, .int .i64 c.bk, .bool c.gr] 27)).cell? ⟨w2.heap.size + 1, 11, none⟩ = some (.bool c.gr) := KO2.out.cell 11 _ rfl
      go_wp2_with fail
      refine (HVA.out _).mono ?_; rintro e w3 ⟨rfl, hB⟩
      clear k0 k1 k2 k3 k4 k5 k6 k7 k8 k9 k10 k11 kr0 kr1 kr2 kr3 kr4 kr5 kr6 kr7 kr8 kr9 kr10 kr11 ko0 ko1 ko2 ko5 ko8 ko9 ko11
      replace KR2 := Lib.hid (KR2.out.below hB)
      replace KO2 := Lib.hid (KO2.out.below hB)
      replace HB2 := Lib.hid (bel_trans HB2.out hB)
      clear hB KS2
      have kr0 : w3.cell? ⟨w2.heap.size, 0, none⟩ = some (.int .i64 a0) := KR2.out.cell 0 _ rfl
      have kr1 : w3.cell? ⟨w2.heap.size, 1, none⟩ = some (.int .i64 a1) := KR2.out.cell 1 _ rfl
      have kr2 : w3.cell? ⟨w2.heap.size, 2, none⟩ = some (.int .i64 a2) := KR2.out.cell 2 _ rfl
      have kr3 : w3.cell? ⟨w2.heap.size, 3, none⟩ = some (.int .i64 a3) := KR2.out.cell 3 _ rfl
      have kr4 : w3.cell? ⟨w2.heap.size, 4, none⟩ = some (.int .i64 a4) := KR2.out.cell 4 _ rfl
      have kr5 : w3.cell? ⟨w2.heap.size, 5, none⟩ = some (.int .i64 a5) := KR2.out.cell 5 _ rfl
      have kr6 : w3.cell? ⟨w2.heap.size, 6, none⟩ = some (.int .i64 a6) := KR2.out.cell 6 _ rfl
      have kr7 : w3.cell? ⟨w2.heap.size, 7, none⟩ = some (.int .i64 a7) := KR2.out.cell 7 _ rfl
      have kr8 : w3.cell? ⟨w2.heap.size, 8, none⟩ = some (.int .i64 a8) := KR2.out.cell 8 _ rfl
      have kr9 : w3.cell? ⟨w2.heap.size, 9, none⟩ = some (.int .i64 a9) := KR2.out.cell 9 _ rfl
      have kr10 : w3.cell? ⟨w2.heap.size, 10, none⟩ = some (.int .i64 a10) := KR2.out.cell 10 _ rfl
      have kr11 : w3.cell? ⟨w2.heap.size, 11, none⟩ = some (.bool false) := KR2.out.cell 11 _ rfl
      have ko0 : w3.cell? ⟨w2.heap.size + 1, 0, none⟩ = some (.int .i64 c.tk) := KO2.out.cell 0 _ rfl
      have ko1 : w3.cell? ⟨w2.heap.size + 1, 1, none⟩ = some (.int .i64 c.px) := KO2.out.cell 1 _ rfl
      have ko2 : w3.cell? ⟨w2.heap.size + 1, 2, none⟩ = some (.int .i64 c.py) := KO2.out.cell 2 _ rfl
      have ko5 : w3.cell? ⟨w2.heap.size + 1, 5, none⟩ = some (.int .i64 c.al) := KO2.out.cell 5 _ rfl
      have ko8 : w3.cell? ⟨w2.heap.size + 1, 8, none⟩ = some (.int .i64 c.ca) := KO2.out.cell 8 _ rfl
      have ko9 : w3.cell? ⟨w2.heap.size + 1, 9, none⟩ = some (.int .i64 c.fu) := KO2.out.cell 9 _ rfl
      have ko11 : w3.cell? ⟨w2.heap.size + 1, 11, none⟩ = some (.bool c.gr) := KO2.out.cell 11 _ rfl
      go_wp2_with fail
      refine (HCR.out _).mono ?_; rintro e w4 ⟨rfl, hB⟩
      replace HB2 := Lib.hid (bel_trans HB2.out hB)
      clear hB
      go_wp2_with fail
      go_ret
      exact ⟨ret_bool (by simp), HB2.out⟩
    have y4 : (a5 == c.al + 10 * a6) = false := beq_of h1
    have y5 : (a5 != c.al + 10 * a6) = true := bne_of y4
    rcases hal with h2 | h2 | h2
    · exact absurd h2 h1
    · have y6 : (a5 != -200000) = false := by rw [h2]; decide
      clear h1 h2
      go_enter Try.func3, Try.ntmps3
      go_wp2_with fail
      refine (awake_any _).mono ?_; rintro e w1 ⟨rfl, hB⟩
      have KS : Hid (Has w1 w.heap.size [.int .i64 c.tk, .int .i64 c.px, .int .i64 c.py, .int .i64 c.ve, .int .i64 c.vn, .int .i64 c.al, .int .i64 c.vs, .int .i64 c.hd, .int .i64 c.ca, .int .i64 c.fu, .int .i64 c.bk, .bool c.gr, .int .i64 em, .int .u8 t0, .int .u8 t1, .int .u8 t2, .int .i64 tb, .int .i64 ts, .int .i64 ta, .int .i64 tv, .int .i64 we, .int .i64 wn, .slice E ne ce, .int .i64 se, .int .i64 sn, .int .u16 si, .bool th, .bool st, .string s0, .string s1]) := Lib.hid (((Has.new w _ _).alloc _).below hB)
      have KP : Hid (Has w1 (w.heap.size + 1) p.cells) := Lib.hid ((Has.newAt (w.alloc _) _ _ (w.heap.size + 1) (by simp)).below hB)
      have HB := Lib.hid (bel_alloc2 hB)
      clear hB
      have k0 : w1.cell? ⟨w.heap.size, 0, none⟩ = some (.int .i64 c.tk) := KS.out.cell 0 _ rfl
      have k1 : w1.cell? ⟨w.heap.size, 1, none⟩ = some (.int .i64 c.px) := KS.out.cell 1 _ rfl
      have k2 : w1.cell? ⟨w.heap.size, 2, none⟩ = some (.int .i64 c.py) := KS.out.cell 2 _ rfl
      have k3 : w1.cell? ⟨w.heap.size, 3, none⟩ = some (.int .i64 c.ve) := KS.out.cell 3 _ rfl
      have k4 : w1.cell? ⟨w.heap.size, 4, none⟩ = some (.int .i64 c.vn) := KS.out.cell 4 _ rfl
      have k5 : w1.cell? ⟨w.heap.size, 5, none⟩ = some (.int .i64 c.al) := KS.out.cell 5 _ rfl
      have k6 : w1.cell? ⟨w.heap.size, 6, none⟩ = some (.int .i64 c.vs) := KS.out.cell 6 _ rfl
      have k7 : w1.cell? ⟨w.heap.size, 7, none⟩ = some (.int .i64 c.hd) := KS.out.cell 7 _ rfl
      have k8 : w1.cell? ⟨w.heap.size, 8, none⟩ = some (.int .i64 c.ca) := KS.out.cell 8 _ rfl
      have k9 : w1.cell? ⟨w.heap.size, 9, none⟩ = some (.int .i64 c.fu) := KS.out.cell 9 _ rfl
      have k10 : w1.cell? ⟨w.heap.size, 10, none⟩ = some (.int .i64 c.bk) := KS.out.cell 10 _ rfl
      have k11 : w1.cell? ⟨w.heap.size, 11, none⟩ = some (.bool c.gr) := KS.out.cell 11 _ rfl
      have k12 : w1.cell? ⟨w.heap.size, 12, none⟩ = some (.int .i64 em) := KS.out.cell 12 _ rfl
      have k13 : w1.cell? ⟨w.heap.size, 13, none⟩ = some (.int .u8 t0) := KS.out.cell 13 _ rfl
      have k14 : w1.cell? ⟨w.heap.size, 14, none⟩ = some (.int .u8 t1) := KS.out.cell 14 _ rfl
      have k15 : w1.cell? ⟨w.heap.size, 15, none⟩ = some (.int .u8 t2) := KS.out.cell 15 _ rfl
      have k16 : w1.cell? ⟨w.heap.size, 16, none⟩ = some (.int .i64 tb) := KS.out.cell 16 _ rfl
      have k17 : w1.cell? ⟨w.heap.size, 17, none⟩ = some (.int .i64 ts) := KS.out.cell 17 _ rfl
      have k18 : w1.cell? ⟨w.heap.size, 18, none⟩ = some (.int .i64 ta) := KS.out.cell 18 _ rfl
      have k19 : w1.cell? ⟨w.heap.size, 19, none⟩ = some (.int .i64 tv) := KS.out.cell 19 _ rfl
      have k20 : w1.cell? ⟨w.heap.size, 20, none⟩ = some (.int .i64 we) := KS.out.cell 20 _ rfl
      have k21 : w1.cell? ⟨w.heap.size, 21, none⟩ = some (.int .i64 wn) := KS.out.cell 21 _ rfl
      have k22 : w1.cell? ⟨w.heap.size, 22, none⟩ = some (.slice E ne ce) := KS.out.cell 22 _ rfl
      have k23 : w1.cell? ⟨w.heap.size, 23, none⟩ = some (.int .i64 se) := KS.out.cell 23 _ rfl
      have k24 : w1.cell? ⟨w.heap.size, 24, none⟩ = some (.int .i64 sn) := KS.out.cell 24 _ rfl
      have k25 : w1.cell? ⟨w.heap.size, 25, none⟩ = some (.int .u16 si) := KS.out.cell 25 _ rfl
      have k26 : w1.cell? ⟨w.heap.size, 26, none⟩ = some (.bool th) := KS.out.cell 26 _ rfl
      have k27 : w1.cell? ⟨w.heap.size, 27, none⟩ = some (.bool st) := KS.out.cell 27 _ rfl
      have k28 : w1.cell? ⟨w.heap.size, 28, none⟩ = some (.string s0) := KS.out.cell 28 _ rfl
      have k29 : w1.cell? ⟨w.heap.size, 29, none⟩ = some (.string s1) := KS.out.cell 29 _ rfl
      go_wp2_with (refine at_prf (.tmp 3) rfl rfl rfl KP.out ?_)
      refine (HX.out _ HB.out).mono ?_; rintro e w2 ⟨rfl, hB⟩
      clear k0 k1 k2 k3 k4 k5 k6 k7 k8 k9 k10 k11 k12 k13 k14 k15 k16 k17 k18 k19 k20 k21 k22 k23 k24 k25 k26 k27 k28 k29
      replace KS := Lib.hid (KS.out.below hB)
      replace HB := Lib.hid (bel_trans HB.out hB)
      clear hB KP
      have KR2 : Hid (Has ((w2.alloc (.cells #[.int .i64 a0, .int .i64 a1, .int .i64 a2, .int .i64 a3, .int .i64 a4, .int .i64 a5, .int .i64 a6, .int .i64 a7, .int .i64 a8, .int .i64 a9, .int .i64 a10, .bool false] 27)).alloc (.cells #[.int .i64 c.tk, .int .i64 c.px, .int .i64 c.py, .int .i64 c.ve, .int .i64 c.vn, .int .i64 c.al, .int .i64 c.vs, .int .i64 c.hd, .int .i64 c.ca, .int .i64 c.fu, .int .i64 c.bk, .bool c.gr] 27)) w2.heap.size [.int .i64 a0, .int .i64 a1, .int .i64 a2, .int .i64 a3, .int .i64 a4, .int .i64 a5, .int .i64 a6, .int .i64 a7, .int .i64 a8, .int .i64 a9, .int .i64 a10, .bool false]) := Lib.hid ((Has.new w2 _ _).alloc _)
      have KO2 : Hid (Has ((w2.alloc (.cells #[.int .i64 a0, .int .i64 a1, .int .i64 a2, .int .i64 a3, .int .i64 a4, .int .i64 a5, .int .i64 a6, .int .i64 a7, .int .i64 a8, .int .i64 a9, .int .i64 a10, .bool false] 27)).alloc (.cells #[.int .i64 c.tk, .int .i64 c.px, .int .i64 c.py, .int .i64 c.ve, .int .i64 c.vn, .int .i64 c.al, .int .i64 c.vs, .int .i64 c.hd, .int .i64 c.ca, .int .i64 c.fu, .int .i64 c.bk, .bool c.gr] 27)) (w2.heap.size + 1) [.int .i64 c.tk, .int .i64 c.px, .int .i64 c.py, .int .i64 c.ve, .int .i64 c.vn, .int .i64 c.al, .int .i64 c.vs, .int .i64 c.hd, .int .i64 c.ca, .int .i64 c.fu, .int .i64 c.bk, .bool c.gr]) := Lib.hid (Has.newAt (w2.alloc (.cells #[.int .i64 a0, .int .i64 a1, .int .i64 a2, .int .i64 a3, .int .i64 a4, .int .i64 a5, .int .i64 a6, .int .i64 a7, .int .i64 a8, .int .i64 a9, .int .i64 a10, .bool false] 27)) _ _ (w2.heap.size + 1) (by simp))
      have KS2 : Hid (Has (w2.alloc (.cells #[.int .i64 a0, .int .i64 a1, .int .i64 a2, .int .i64 a3, .int .i64 a4, .int .i64 a5, .int .i64 a6, .int .i64 a7, .int .i64 a8, .int .i64 a9, .int .i64 a10, .bool false] 27)) w.heap.size [.int .i64 c.tk, .int .i64 c.px, .int .i64 c.py, .int .i64 c.ve, .int .i64 c.vn, .int .i64 c.al, .int .i64 c.vs, .int .i64 c.hd, .int .i64 c.ca, .int .i64 c.fu, .int .i64 c.bk, .bool c.gr, .int .i64 em, .int .u8 t0, .int .u8 t1, .int .u8 t2, .int .i64 tb, .int .i64 ts, .int .i64 ta, .int .i64 tv, .int .i64 we, .int .i64 wn, .slice E ne ce, .int .i64 se, .int .i64 sn, .int .u16 si, .bool th, .bool st, .string s0, .string s1]) := Lib.hid (KS.out.alloc _)
      have HB2 : Hid (Below w.heap.size w ((w2.alloc (.cells #[.int .i64 a0, .int .i64 a1, .int .i64 a2, .int .i64 a3, .int .i64 a4, .int .i64 a5, .int .i64 a6, .int .i64 a7, .int .i64 a8, .int .i64 a9, .int .i64 a10, .bool false] 27)).alloc (.cells #[.int .i64 c.tk, .int .i64 c.px, .int .i64 c.py, .int .i64 c.ve, .int .i64 c.vn, .int .i64 c.al, .int .i64 c.vs, .int .i64 c.hd, .int .i64 c.ca, .int .i64 c.fu, .int .i64 c.bk, .bool c.gr] 27))) := Lib.hid (bel_alloc1 (bel_alloc1 HB.out _) _)
      have k0 : (w2.alloc (.cells #[.int .i64 a0, .int .i64 a1, .int .i64 a2, .int .i64 a3, .int .i64 a4, .int .i64 a5, .int .i64 a6, .int .i64 a7, .int .i64 a8, .int .i64 a9, .int .i64 a10, .bool false] 27)).cell? ⟨w.heap.size, 0, none⟩ = some (.int .i64 c.tk) := KS2.out.cell 0 _ rfl
      have k1 : (w2.alloc (.cells #[.int .i64 a0, .int .i64 a1, .int .i64 a2, .int .i64 a3, .int .i64 a4, .int .i64 a5, .int .i64 a6, .int .i64 a7, .int .i64 a8, .int .i64 a9, .int .i64 a10, .bool false] 27)).cell? ⟨w.heap.size, 1, none⟩ = some (.int .i64 c.px) := KS2.out.cell 1 _ rfl
      have k2 : (w2.alloc (.cells #[.int .i64 a0, .int .i64 a1, .int .i64 a2, .int .i64 a3, .int .i64 a4, .int .i64 a5, .int .i64 a6, .int .i64 a7, .int .i64 a8, .int .i64 a9, .int .i64 a10, .bool false] 27)).cell? ⟨w.heap.size, 2, none⟩ = some (.int .i64 c.py) := KS2.out.cell 2 _ rfl
      have k3 : (w2.alloc (.cells #[.int .i64 a0, .int .i64 a1, .int .i64 a2, .int .i64 a3, .int .i64 a4, .int .i64 a5, .int .i64 a6, .int .i64 a7, .int .i64 a8, .int .i64 a9, .int .i64 a10, .bool false] 27)).cell? ⟨w.heap.size, 3, none⟩ = some (.int .i64 c.ve) := KS2.out.cell 3 _ rfl
      have k4 : (w2.alloc (.cells #[.int .i64 a0, .int .i64 a1, .int .i64 a2, .int .i64 a3, .int .i64 a4, .int .i64 a5, .int .i64 a6, .int .i64 a7, .int .i64 a8, .int .i64 a9, .int .i64 a10, .bool false] 27)).cell? ⟨w.heap.size, 4, none⟩ = some (.int .i64 c.vn) := KS2.out.cell 4 _ rfl
      have k5 : (w2.alloc (.cells #[.int .i64 a0, .int .i64 a1, .int .i64 a2, .int .i64 a3, .int .i64 a4, .int .i64 a5, .int .i64 a6, .int .i64 a7, .int .i64 a8, .int .i64 a9, .int .i64 a10, .bool false] 27)).cell? ⟨w.heap.size, 5, none⟩ = some (.int .i64 c.al) := KS2.out.cell 5 _ rfl
      have k6 : (w2.alloc (.cells #[.int .i64 a0, .int .i64 a1, .int .i64 a2, .int .i64 a3, .int .i64 a4, .int .i64 a5, .int .i64 a6, .int .i64 a7, .int .i64 a8, .int .i64 a9, .int .i64 a10, .bool false] 27)).cell? ⟨w.heap.size, 6, none⟩ = some (.int .i64 c.vs) := KS2.out.cell 6 _ rfl
      have k7 : (w2.alloc (.cells #[.int .i64 a0, .int .i64 a1, .int .i64 a2, .int .i64 a3, .int .i64 a4, .int .i64 a5, .int .i64 a6, .int .i64 a7, .int .i64 a8, .int .i64 a9, .int .i64 a10, .bool false] 27)).cell? ⟨w.heap.size, 7, none⟩ = some (.int .i64 c.hd) := KS2.out.cell 7 _ rfl
      have k8 : (w2.alloc (.cells #[.int .i64 a0, .int .i64 a1, .int .i64 a2, .int .i64 a3, .int .i64 a4, .int .i64 a5, .int .i64 a6, .int .i64 a7, .int .i64 a8, .int .i64 a9, .int .i64 a10, .bool false] 27)).cell? ⟨w.heap.size, 8, none⟩ = some (.int .i64 c.ca) := KS2.out.cell 8 _ rfl
      have k9 : (w2.alloc (.cells #[.int .i64 a0, .int .i64 a1, .int .i64 a2, .int .i64 a3, .int .i64 a4, .int .i64 a5, .int .i64 a6, .int .i64 a7, .int .i64 a8, .int .i64 a9, .int .i64 a10, .bool false] 27)).cell? ⟨w.heap.size, 9, none⟩ = some (.int .i64 c.fu) := KS2.out.cell 9 _ rfl
      have k10 : (w2.alloc (.cells #[.int .i64 a0, .int .i64 a1, .int .i64 a2, .int .i64 a3, .int .i64 a4, .int .i64 a5, .int .i64 a6, .int .i64 a7, .int .i64 a8, .int .i64 a9, .int .i64 a10, .bool false] 27)).cell? ⟨w.heap.size, 10, none⟩ = some (.int .i64 c.bk) := KS2.out.cell 10 _ rfl
      have k11 : (w2.alloc (.cells #[.int .i64 a0, .int .i64 a1, .int .i64 a2, .int .i64 a3, .int .i64 a4, .int .i64 a5, .int .i64 a6, .int .i64 a7, .int .i64 a8, .int .i64 a9, .int .i64 a10, .bool false] 27)).cell? ⟨w.heap.size, 11, none⟩ = some (.bool c.gr) := KS2.out.cell 11 _ rfl
      have kr0 : ((w2.alloc (.cells #[.int .i64 a0, .int .i64 a1, .int .i64 a2, .int .i64 a3, .int .i64 a4, .int .i64 a5, .int .i64 a6, .int .i64 a7, .int .i64 a8, .int .i64 a9, .int .i64 a10, .bool false] 27)).alloc (.cells #[.int .i64 c.tk, .int .i64 c.px, .int .i64 c.py, .int .i64 c.ve, .int .i64 c.vn, .int .i64 c.al, .int .i64 c.vs, .int .i64 c.hd, .int .i64 c.ca, .int .i64 c.fu, .int .i64 c.bk, .bool c.gr] 27)).cell? ⟨w2.heap.size, 0, none⟩ = some (.int .i64 a0) := KR2.out.cell 0 _ rfl
      have kr1 : ((w2.alloc (.cells #[.int .i64 a0, .int .i64 a1, .int .i64 a2, .int .i64 a3, .int .i64 a4, .int .i64 a5, .int .i64 a6, .int .i64 a7, .int .i64 a8, .int .i64 a9, .int .i64 a10, .bool false] 27)).alloc (.cells #[.int .i64 c.tk, .int .i64 c.px, .int .i64 c.py, .int .i64 c.ve, .int .i64 c.vn, .int .i64 c.al, .int .i64 c.vs, .int .i64 c.hd, .int .i64 c.ca, .int .i64 c.fu, .int .i64 c.bk, .bool c.gr] 27)).cell? ⟨w2.heap.size, 1, none⟩ = some (.int .i64 a1) := KR2.out.cell 1 _ rfl
      have kr2 : ((w2.alloc (.cells #[.int .i64 a0, .int .i64 a1, .int .i64 a2, .int .i64 a3, .int .i64 a4, .int .i64 a5, .int .i64 a6, .int .i64 a7, .int .i64 a8, .int .i64 a9, .int .i64 a10, .bool false] 27)).alloc (.cells #[.int .i64 c.tk, .int .i64 c.px, .int .i64 c.py, .int .i64 c.ve, .int .i64 c.vn, .int .i64 c.al, .int .i64 c.vs, .int .i64 c.hd, .int .i64 c.ca, .int .i64 c.fu, .int .i64 c.bk, .bool c.gr] 27)).cell? ⟨w2.heap.size, 2, none⟩ = some (.int .i64 a2) := KR2.out.cell 2 _ rfl
      have kr3 : ((w2.alloc (.cells #[.int .i64 a0, .int .i64 a1, .int .i64 a2, .int .i64 a3, .int .i64 a4, .int .i64 a5, .int .i64 a6, .int .i64 a7, .int .i64 a8, .int .i64 a9, .int .i64 a10, .bool false] 27)).alloc (.cells #[.int .i64 c.tk, .int .i64 c.px, .int .i64 c.py, .int .i64 c.ve, .int .i64 c.vn, .int .i64 c.al, .int .i64 c.vs, .int .i64 c.hd, .int .i64 c.ca, .int .i64 c.fu, .int .i64 c.bk, .bool c.gr] 27)).cell? ⟨w2.heap.size, 3, none⟩ = some (.int .i64 a3) := KR2.out.cell 3 _ rfl
      have kr4 : ((w2.alloc (.cells #[.int .i64 a0, .int .i64 a1, .int .i64 a2, .int .i64 a3, .int .i64 a4, .int .i64 a5, .int .i64 a6, .int .i64 a7, .int .i64 a8, .int .i64 a9, .int .i64 a10, .bool false] 27)).alloc (.cells #[.int .i64 c.tk, .int .i64 c.px, .int .i64 c.py, .int .i64 c.ve, .int .i64 c.vn, .int .i64 c.al, .int .i64 c.vs, .int .i64 c.hd, .int .i64 c.ca, .int .i64 c.fu, .int .i64 c.bk, .bool c.gr] 27)).cell? ⟨w2.heap.size, 4, none⟩ = some (.int .i64 a4) := KR2.out.cell 4 _ rfl
      have kr5 : ((w2.alloc (.cells #[.int .i64 a0, .int .i64 a1, .int .i64 a2, .int .i64 a3, .int .i64 a4, .int .i64 a5, .int .i64 a6, .int .i64 a7, .int .i64 a8, .int .i64 a9, .int .i64 a10, .bool false] 27)).alloc (.cells #[.int .i64 c.tk, .int .i64 c.px, .int .i64 c.py, .int .i64 c.ve, .int .i64 c.vn, .int .i64 c.al, .int .i64 c.vs, .int .i64 c.hd, .int .i64 c.ca, .int .i64 c.fu, .int .i64 c.bk, .bool c.gr] 27)).cell? ⟨w2.heap.size, 5, none⟩ = some (.int .i64 a5) := KR2.out.cell 5 _ rfl
      have kr6 : ((w2.alloc (.cells #[.int .i64 a0, .int .i64 a1, .int .i64 a2, .int .i64 a3, .int .i64 a4, .int .i64 a5, .int .i64 a6, .int .i64 a7, .int .i64 a8, .int .i64 a9, .int .i64 a10, .bool false] 27)).alloc (.cells #[.int .i64 c.tk, .int .i64 c.px, .int .i64 c.py, .int .i64 c.ve, .int .i64 c.vn, .int .i64 c.al, .int .i64 c.vs, .int .i64 c.hd, .int .i64 c.ca, .int .i64 c.fu, .int .i64 c.bk, .bool c.gr] 27)).cell? ⟨w2.heap.size, 6, none⟩ = some (.int .i64 a6) := KR2.out.cell 6 _ rfl
      have kr7 : ((w2.alloc (.cells #[.int .i64 a0, .int .i64 a1, .int .i64 a2, .int .i64 a3, .int .i64 a4, .int .i64 a5, .int .i64 a6, .int .i64 a7, .int .i64 a8, .int .i64 a9, .int .i64 a10, .bool false] 27)).alloc (.cells #[.int .i64 c.tk, .int .i64 c.px, .int .i64 c.py, .int .i64 c.ve, .int .i64 c.vn, .int .i64 c.al, .int .i64 c.vs, .int .i64 c.hd, .int .i64 c.ca, .int .i64 c.fu, .int .i64 c.bk, .bool c.gr] 27)).cell? ⟨w2.heap.size, 7, none⟩ = some (.int .i64 a7) := KR2.out.cell 7 _ rfl
      have kr8 : ((w2.alloc (.cells #[.int .i64 a0, .int .i64 a1, .int .i64 a2, .int .i64 a3, .int .i64 a4, .int .i64 a5, .int .i64 a6, .int .i64 a7, .int .i64 a8, .int .i64 a9, .int .i64 a10, .bool false] 27)).alloc (.cells #[.int .i64 c.tk, .int .i64 c.px, .int .i64 c.py, .int .i64 c.ve, .int .i64 c.vn, .int .i64 c.al, .int .i64 c.vs, .int .i64 c.hd, .int .i64 c.ca, .int .i64 c.fu, .int .i64 c.bk, .bool c.gr] 27)).cell? ⟨w2.heap.size, 8, none⟩ = some (.int .i64 a8) := KR2.out.cell 8 _ rfl
      have kr9 : ((w2.alloc (.cells #[.int .i64 a0, .int .i64 a1, .int .i64 a2, .int .i64 a3, .int .i64 a4, .int .i64 a5, .int .i64 a6, .int .i64 a7, .int .i64 a8, .int .i64 a9, .int .i64 a10, .bool false] 27)).alloc (.cells #[.int .i64 c.tk, .int .i64 c.px, .int .i64 c.py, .int .i64 c.ve, .int .i64 c.vn, .int .i64 c.al, .int .i64 c.vs, .int .i64 c.hd, .int .i64 c.ca, .int .i64 c.fu, .int .i64 c.bk, .bool c.gr] 27)).cell? ⟨w2.heap.size, 9, none⟩ = some (.int .i64 a9) := KR2.out.cell 9 _ rfl
      have kr10 : ((w2.alloc (.cells #[.int .i64 a0, .int .i64 a1, .int .i64 a2, .int .i64 a3, .int .i64 a4, .int .i64 a5, .int .i64 a6, .int .i64 a7, .int .i64 a8, .int .i64 a9, .int .i64 a10, .bool false] 27)).alloc (.cells #[.int .i64 c.tk, .int .i64 c.px, .int .i64 c.py, .int .i64 c.ve, .int .i64 c.vn, .int .i64 c.al, .int .i64 c.vs, .int .i64 c.hd, .int .i64 c.ca, .int .i64 c.fu, .int .i64 c.bk, .bool c.gr] 27)).cell? ⟨w2.heap.size, 10, none⟩ = some (.int .i64 a10) := KR2.out.cell 10 _ rfl
      have kr11 : ((w2.alloc (.cells #[.int .i64 a0, .int .i64 a1, .int .i64 a2, .int .i64 a3, .int .i64 a4, .int .i64 a5, .int .i64 a6, .int .i64 a7, .int .i64 a8, .int .i64 a9, .int .i64 a10, .bool false] 27)).alloc (.cells #[.int .i64 c.tk, .int .i64 c.px, .int .i64 c.py, .int .i64 c.ve, .int .i64 c.vn, .int .i64 c.al, .int .i64 c.vs, .int .i64 c.hd, .int .i64 c.ca, .int .i64 c.fu, .int .i64 c.bk, .bool c.gr] 27)).cell? ⟨w2.heap.size, 11, none⟩ = some (.bool false) := KR2.out.cell 11 _ rfl
      have ko0 : ((w2.alloc (.cells #[.int .i64 a0, .int .i64 a1, .int .i64 a2, .int .i64 a3, .int .i64 a4, .int .i64 a5, .int .i64 a6, .int .i64 a7, .int .i64 a8, .int .i64 a9, .int .i64 a10, .bool false] 27)).alloc (.cells #[.int .i64 c.tk, .int .i64 c.px, .int .i64 c.py, .int .i64 c.ve, .int .i64 c.vn, .int .i64 c.al, .int .i64 c.vs, .int .i64 c.hd, .int .i64 c.ca, .int .i64 c.fu, .int .i64 c.bk, .bool c.gr] 27)).cell? ⟨w2.heap.size + 1, 0, none⟩ = some (.int .i64 c.tk) := KO2.out.cell 0 _ rfl
      have ko1 : ((w2.alloc (.cells #[.int .i64 a0, .int .i64 a1, .int .i64 a2, .int .i64 a3, .int .i64 a4, .int .i64 a5, .int .i64 a6, .int .i64 a7, .int .i64 a8, .int .i64 a9, .int .i64 a10, .bool false] 27)).alloc (.cells #[.int .i64 c.tk, .int .i64 c.px, .int .i64 c.py, .int .i64 c.ve, .int .i64 c.vn, .int .i64 c.al, .int .i64 c.vs, .int .i64 c.hd, .int .i64 c.ca, .int .i64 c.fu, .int .i64 c.bk, .bool c.gr] 27)).cell? ⟨w2.heap.size + 1, 1, none⟩ = some (.int .i64 c.px) := KO2.out.cell 1 _ rfl
      have ko2 : ((w2.alloc (.cells #[.int .i64 a0, .int .i64 a1, .int .i64 a2, .int .i64 a3, .int .i64 a4, .int .i64 a5, .int .i64 a6, .int .i64 a7, .int .i64 a8, .int .i64 a9, .int .i64 a10, .bool false] 27)).alloc (.cells #[.int .i64 c.tk, .int .i64 c.px, .int .i64 c.py, .int .i64 c.ve, .int .i64 c.vn, .int .i64 c.al, .int .i64 c.vs, .int .i64 c.hd, .int .i64 c.ca, .int .i64 c.fu, .int .i64 c.bk, .bool c.gr] 27)).cell? ⟨w2.heap.size + 1, 2, none⟩ = some (.int .i64 c.py) := KO2.out.cell 2 _ rfl
      have ko5 : ((w2.alloc (.cells #[.int .i64 a0, .int .i64 a1, .int .i64 a2, .int .i64 a3, .int .i64 a4, .int .i64 a5, .int .i64 a6, .int .i64 a7, .int .i64 a8, .int .i64 a9, .int .i64 a10, .bool false] 27)).alloc (.cells #[.int .i64 c.tk, .int .i64 c.px, .int .i64 c.py, .int .i64 c.ve, .int .i64 c.vn, .int .i64 c.al, .int .i64 c.vs, .int .i64 c.hd, .int .i64 c.ca, .int .i64 c.fu, .int .i64 c.bk, .bool c.gr] 27)).cell? ⟨w2.heap.size + 1, 5, none⟩ = some (.int .i64 c.al) := KO2.out.cell 5 _ rfl
      have ko8 : ((w2.alloc (.cells #[.int .i64 a0, .int .i64 a1, .int .i64 a2, .int .i64 a3, .int .i64 a4, .int .i64 a5, .int .i64 a6, .int .i64 a7, .int .i64 a8, .int .i64 a9, .int .i64 a10, .bool false] 27)).alloc (.cells #[.int .i64 c.tk, .int .i64 c.px, .int .i64 c.py, .int .i64 c.ve, .int .i64 c.vn, .int .i64 c.al, .int .i64 c.vs, .int .i64 c.hd, .int .i64 c.ca, .int .i64 c.fu, .int .i64 c.bk, .bool c.gr] 27)).cell? ⟨w2.heap.size + 1, 8, none⟩ = some (.int .i64 c.ca) := KO2.out.cell 8 _ rfl
      have ko9 : ((w2.alloc (.cells #[.int .i64 a0, .int .i64 a1, .int .i64 a2, .int .i64 a3, .int .i64 a4, .int .i64 a5, .int .i64 a6, .int .i64 a7, .int .i64 a8, .int .i64 a9, .int .i64 a10, .bool false] 27)).alloc (.cells #[.int .i64 c.tk, .int .i64 c.px, .int .i64 c.py, .int .i64 c.ve, .int .i64 c.vn, .int .i64 c.al, .int .i64 c.vs, .int .i64 c.hd, .int .i64 c.ca, .int .i64 c.fu, .int .i64 c.bk, .bool c.gr] 27)).cell? ⟨w2.heap.size + 1, 9, none⟩ = some (.int .i64 c.fu) := KO2.out.cell 9 _ rfl
      have ko11 : ((w2.alloc (.cells #[.int .i64 a0, .int .i64 a1, .int .i64 a2, .int .i64 a3, .int .i64 a4, .int .i64 a5, .int .i64 a6, .int .i64 a7, .int .i64 a8, .int .i64 a9, .int .i64 a10, .bool false] 27)).alloc (.cells #[.int .i64 c.tk, .int .i64 c.px, .int .i64 c.py, .int .i64 c.ve, .int .i64 c.vn, .int .i64 c.al, .int .i64 c.vs, .int .i64 c.hd, .int .i64 c.ca, .int .i64 c.fu, .int .i64 c.bk, .bool c.gr] 27)).cell? ⟨w2.heap.size + 1, 11, none⟩ = some (.bool c.gr) := KO2.out.cell 11 _ rfl
      go_wp2_with fail
      refine (HVA.out _).mono ?_; rintro e w3 ⟨rfl, hB⟩
      clear k0 k1 k2 k3 k4 k5 k6 k7 k8 k9 k10 k11 kr0 kr1 kr2 kr3 kr4 kr5 kr6 kr7 kr8 kr9 kr10 kr11 ko0 ko1 ko2 ko5 ko8 ko9 ko11
      replace KR2 := Lib.hid (KR2.out.below hB)
      replace KO2 := Lib.hid (KO2.out.below hB)
      replace HB2 := Lib.hid (bel_trans HB2.out hB)
      clear hB KS2
      have kr0 : w3.cell? ⟨w2.heap.size, 0, none⟩ = some (.int .i64 a0) := KR2.out.cell 0 _ rfl
      have kr1 : w3.cell? ⟨w2.heap.size, 1, none⟩ = some (.int .i64 a1) := KR2.out.cell 1 _ rfl
      have kr2 : w3.cell? ⟨w2.heap.size, 2, none⟩ = some (.int .i64 a2) := KR2.out.cell 2 _ rfl
      have kr3 : w3.cell? ⟨w2.heap.size, 3, none⟩ = some (.int .i64 a3) := KR2.out.cell 3 _ rfl
      have kr4 : w3.cell? ⟨w2.heap.size, 4, none⟩ = some (.int .i64 a4) := KR2.out.cell 4 _ rfl
      have kr5 : w3.cell? ⟨w2.heap.size, 5, none⟩ = some (.int .i64 a5) := KR2.out.cell 5 _ rfl
      have kr6 : w3.cell? ⟨w2.heap.size, 6, none⟩ = some (.int .i64 a6) := KR2.out.cell 6 _ rfl
      have kr7 : w3.cell? ⟨w2.heap.size, 7, none⟩ = some (.int .i64 a7) := KR2.out.cell 7 _ rfl
      have kr8 : w3.cell? ⟨w2.heap.size, 8, none⟩ = some (.int .i64 a8) := KR2.out.cell 8 _ rfl
      have kr9 : w3.cell? ⟨w2.heap.size, 9, none⟩ = some (.int .i64 a9) := KR2.out.cell 9 _ rfl
      have kr10 : w3.cell? ⟨w2.heap.size, 10, none⟩ = some (.int .i64 a10) := KR2.out.cell 10 _ rfl
      have kr11 : w3.cell? ⟨w2.heap.size, 11, none⟩ = some (.bool false) := KR2.out.cell 11 _ rfl
      have ko0 : w3.cell? ⟨w2.heap.size + 1, 0, none⟩ = some (.int .i64 c.tk) := KO2.out.cell 0 _ rfl
      have ko1 : w3.cell? ⟨w2.heap.size + 1, 1, none⟩ = some (.int .i64 c.px) := KO2.out.cell 1 _ rfl
      have ko2 : w3.cell? ⟨w2.heap.size + 1, 2, none⟩ = some (.int .i64 c.py) := KO2.out.cell 2 _ rfl
      have ko5 : w3.cell? ⟨w2.heap.size + 1, 5, none⟩ = some (.int .i64 c.al) := KO2.out.cell 5 _ rfl
      have ko8 : w3.cell? ⟨w2.heap.size + 1, 8, none⟩ = some (.int .i64 c.ca) := KO2.out.cell 8 _ rfl
      have ko9 : w3.cell? ⟨w2.heap.size + 1, 9, none⟩ = some (.int .i64 c.fu) := KO2.out.cell 9 _ rfl
      have ko11 : w3.cell? ⟨w2.heap.size + 1, 11, none⟩ = some (.bool c.gr) := KO2.out.cell 11 _ rfl
      go_wp2_with fail
      refine (HCR.out _).mono ?_; rintro e w4 ⟨rfl, hB⟩
      replace HB2 := Lib.hid (bel_trans HB2.out hB)
      clear hB
      go_wp2_with fail
      go_ret
      exact ⟨ret_bool (by simp), HB2.out⟩
    · have y6 : (a5 != -200000) = true := by rw [h2]; decide
      have y7 : (a5 != 6000000) = false := by rw [h2]; decide
      clear h1 h2
      go_enter Try.func3, Try.ntmps3
      go_wp2_with fail
      refine (awake_any _).mono ?_; rintro e w1 ⟨rfl, hB⟩
      have KS : Hid (Has w1 w.heap.size [.int .i64 c.tk, .int .i64 c.px, .int .i64 c.py, .int .i64 c.ve, .int .i64 c.vn, .int .i64 c.al, .int .i64 c.vs, .int .i64 c.hd, .int .i64 c.ca, .int .i64 c.fu, .int .i64 c.bk, .bool c.gr, .int .i64 em, .int .u8 t0, .int .u8 t1, .int .u8 t2, .int .i64 tb, .int .i64 ts, .int .i64 ta, .int .i64 tv, .int .i64 we, .int .i64 wn, .slice E ne ce, .int .i64 se, .int .i64 sn, .int .u16 si, .bool th, .bool st, .string s0, .string s1]) := Lib.hid (((Has.new w _ _).alloc _).below hB)
      have KP : Hid (Has w1 (w.heap.size + 1) p.cells) := Lib.hid ((Has.newAt (w.alloc _) _ _ (w.heap.size + 1) (by simp)).below hB)
      have HB := Lib.hid (bel_alloc2 hB)
      clear hB
      have k0 : w1.cell? ⟨w.heap.size, 0, none⟩ = some (.int .i64 c.tk) := KS.out.cell 0 _ rfl
      have k1 : w1.cell? ⟨w.heap.size, 1, none⟩ = some (.int .i64 c.px) := KS.out.cell 1 _ rfl
      have k2 : w1.cell? ⟨w.heap.size, 2, none⟩ = some (.int .i64 c.py) := KS.out.cell 2 _ rfl
      have k3 : w1.cell? ⟨w.heap.size, 3, none⟩ = some (.int .i64 c.ve) := KS.out.cell 3 _ rfl
      have k4 : w1.cell? ⟨w.heap.size, 4, none⟩ = some (.int .i64 c.vn) := KS.out.cell 4 _ rfl
      have k5 : w1.cell? ⟨w.heap.size, 5, none⟩ = some (.int .i64 c.al) := KS.out.cell 5 _ rfl
      have k6 : w1.cell? ⟨w.heap.size, 6, none⟩ = some (.int .i64 c.vs) := KS.out.cell 6 _ rfl
      have k7 : w1.cell? ⟨w.heap.size, 7, none⟩ = some (.int .i64 c.hd) := KS.out.cell 7 _ rfl
      have k8 : w1.cell? ⟨w.heap.size, 8, none⟩ = some (.int .i64 c.ca) := KS.out.cell 8 _ rfl
      have k9 : w1.cell? ⟨w.heap.size, 9, none⟩ = some (.int .i64 c.fu) := KS.out.cell 9 _ rfl
      have k10 : w1.cell? ⟨w.heap.size, 10, none⟩ = some (.int .i64 c.bk) := KS.out.cell 10 _ rfl
      have k11 : w1.cell? ⟨w.heap.size, 11, none⟩ = some (.bool c.gr) := KS.out.cell 11 _ rfl
      have k12 : w1.cell? ⟨w.heap.size, 12, none⟩ = some (.int .i64 em) := KS.out.cell 12 _ rfl
      have k13 : w1.cell? ⟨w.heap.size, 13, none⟩ = some (.int .u8 t0) := KS.out.cell 13 _ rfl
      have k14 : w1.cell? ⟨w.heap.size, 14, none⟩ = some (.int .u8 t1) := KS.out.cell 14 _ rfl
      have k15 : w1.cell? ⟨w.heap.size, 15, none⟩ = some (.int .u8 t2) := KS.out.cell 15 _ rfl
      have k16 : w1.cell? ⟨w.heap.size, 16, none⟩ = some (.int .i64 tb) := KS.out.cell 16 _ rfl
      have k17 : w1.cell? ⟨w.heap.size, 17, none⟩ = some (.int .i64 ts) := KS.out.cell 17 _ rfl
      have k18 : w1.cell? ⟨w.heap.size, 18, none⟩ = some (.int .i64 ta) := KS.out.cell 18 _ rfl
      have k19 : w1.cell? ⟨w.heap.size, 19, none⟩ = some (.int .i64 tv) := KS.out.cell 19 _ rfl
      have k20 : w1.cell? ⟨w.heap.size, 20, none⟩ = some (.int .i64 we) := KS.out.cell 20 _ rfl
      have k21 : w1.cell? ⟨w.heap.size, 21, none⟩ = some (.int .i64 wn) := KS.out.cell 21 _ rfl
      have k22 : w1.cell? ⟨w.heap.size, 22, none⟩ = some (.slice E ne ce) := KS.out.cell 22 _ rfl
      have k23 : w1.cell? ⟨w.heap.size, 23, none⟩ = some (.int .i64 se) := KS.out.cell 23 _ rfl
      have k24 : w1.cell? ⟨w.heap.size, 24, none⟩ = some (.int .i64 sn) := KS.out.cell 24 _ rfl
      have k25 : w1.cell? ⟨w.heap.size, 25, none⟩ = some (.int .u16 si) := KS.out.cell 25 _ rfl
      have k26 : w1.cell? ⟨w.heap.size, 26, none⟩ = some (.bool th) := KS.out.cell 26 _ rfl
      have k27 : w1.cell? ⟨w.heap.size, 27, none⟩ = some (.bool st) := KS.out.cell 27 _ rfl
      have k28 : w1.cell? ⟨w.heap.size, 28, none⟩ = some (.string s0) := KS.out.cell 28 _ rfl
      have k29 : w1.cell? ⟨w.heap.size, 29, none⟩ = some (.string s1) := KS.out.cell 29 _ rfl
      go_wp2_with (refine at_prf (.tmp 3) rfl rfl rfl KP.out ?_)
      refine (HX.out _ HB.out).mono ?_; rintro e w2 ⟨rfl, hB⟩
      clear k0 k1 k2 k3 k4 k5 k6 k7 k8 k9 k10 k11 k12 k13 k14 k15 k16 k17 k18 k19 k20 k21 k22 k23 k24 k25 k26 k27 k28 k29
      replace KS := Lib.hid (KS.out.below hB)
      replace HB := Lib.hid (bel_trans HB.out hB)
      clear hB KP
      have KR2 : Hid (Has ((w2.alloc (.cells #[.int .i64 a0, .int .i64 a1, .int .i64 a2, .int .i64 a3, .int .i64 a4, .int .i64 a5, .int .i64 a6, .int .i64 a7, .int .i64 a8, .int .i64 a9, .int .i64 a10, .bool false] 27)).alloc (.cells #[.int .i64 c.tk, .int .i64 c.px, .int .i64 c.py, .int .i64 c.ve, .int .i64 c.vn, .int .i64 c.al, .int .i64 c.vs, .int .i64 c.hd, .int .i64 c.ca, .int .i64 c.fu, .int .i64 c.bk, .bool c.gr] 27)) w2.heap.size [.int .i64 a0, .int .i64 a1, .int .i64 a2, .int .i64 a3, .int .i64 a4, .int .i64 a5, .int .i64 a6, .int .i64 a7, .int .i64 a8, .int .i64 a9, .int .i64 a10, .bool false]) := Lib.hid ((Has.new w2 _ _).alloc _)
      have KO2 : Hid (Has ((w2.alloc (.cells #[.int .i64 a0, .int .i64 a1, .int .i64 a2, .int .i64 a3, .int .i64 a4, .int .i64 a5, .int .i64 a6, .int .i64 a7, .int .i64 a8, .int .i64 a9, .int .i64 a10, .bool false] 27)).alloc (.cells #[.int .i64 c.tk, .int .i64 c.px, .int .i64 c.py, .int .i64 c.ve, .int .i64 c.vn, .int .i64 c.al, .int .i64 c.vs, .int .i64 c.hd, .int .i64 c.ca, .int .i64 c.fu, .int .i64 c.bk, .bool c.gr] 27)) (w2.heap.size + 1) [.int .i64 c.tk, .int .i64 c.px, .int .i64 c.py, .int .i64 c.ve, .int .i64 c.vn, .int .i64 c.al, .int .i64 c.vs, .int .i64 c.hd, .int .i64 c.ca, .int .i64 c.fu, .int .i64 c.bk, .bool c.gr]) := Lib.hid (Has.newAt (w2.alloc (.cells #[.int .i64 a0, .int .i64 a1, .int .i64 a2, .int .i64 a3, .int .i64 a4, .int .i64 a5, .int .i64 a6, .int .i64 a7, .int .i64 a8, .int .i64 a9, .int .i64 a10, .bool false] 27)) _ _ (w2.heap.size + 1) (by simp))
      have KS2 : Hid (Has (w2.alloc (.cells #[.int .i64 a0, .int .i64 a1, .int .i64 a2, .int .i64 a3, .int .i64 a4, .int .i64 a5, .int .i64 a6, .int .i64 a7, .int .i64 a8, .int .i64 a9, .int .i64 a10, .bool false] 27)) w.heap.size [.int .i64 c.tk, .int .i64 c.px, .int .i64 c.py, .int .i64 c.ve, .int .i64 c.vn, .int .i64 c.al, .int .i64 c.vs, .int .i64 c.hd, .int .i64 c.ca, .int .i64 c.fu, .int .i64 c.bk, .bool c.gr, .int .i64 em, .int .u8 t0, .int .u8 t1, .int .u8 t2, .int .i64 tb, .int .i64 ts, .int .i64 ta, .int .i64 tv, .int .i64 we, .int .i64 wn, .slice E ne ce, .int .i64 se, .int .i64 sn, .int .u16 si, .bool th, .bool st, .string s0, .string s1]) := Lib.hid (KS.out.alloc _)
      have HB2 : Hid (Below w.heap.size w ((w2.alloc (.cells #[.int .i64 a0, .int .i64 a1, .int .i64 a2, .int .i64 a3, .int .i64 a4, .int .i64 a5, .int .i64 a6, .int .i64 a7, .int .i64 a8, .int .i64 a9, .int .i64 a10, .bool false] 27)).alloc (.cells #[.int .i64 c.tk, .int .i64 c.px, .int .i64 c.py, .int .i64 c.ve, .int .i64 c.vn, .int .i64 c.al, .int .i64 c.vs, .int .i64 c.hd, .int .i64 c.ca, .int .i64 c.fu, .int .i64 c.bk, .bool c.gr] 27))) := Lib.hid (bel_alloc1 (bel_alloc1 HB.out _) _)
      have k0 : (w2.alloc (.cells #[.int .i64 a0, .int .i64 a1, .int .i64 a2, .int .i64 a3, .int .i64 a4, .int .i64 a5, .int .i64 a6, .int .i64 a7, .int .i64 a8, .int .i64 a9, .int .i64 a10, .bool false] 27)).cell? ⟨w.heap.size, 0, none⟩ = some (.int .i64 c.tk) := KS2.out.cell 0 _ rfl
      have k1 : (w2.alloc (.cells #[.int .i64 a0, .int .i64 a1, .int .i64 a2, .int .i64 a3, .int .i64 a4, .int .i64 a5, .int .i64 a6, .int .i64 a7, .int .i64 a8, .int .i64 a9, .int .i64 a10, .bool false] 27)).cell? ⟨w.heap.size, 1, none⟩ = some (.int .i64 c.px) := KS2.out.cell 1 _ rfl
      have k2 : (w2.alloc (.cells #[.int .i64 a0, .int .i64 a1, .int .i64 a2, .int .i64 a3, .int .i64 a4, .int .i64 a5, .int .i64 a6, .int .i64 a7, .int .i64 a8, .int .i64 a9, .int .i64 a10, .bool false] 27)).cell? ⟨w.heap.size, 2, none⟩ = some (.int .i64 c.py) := KS2.out.cell 2 _ rfl
      have k3 : (w2.alloc (.cells #[.int .i64 a0, .int .i64 a1, .int .i64 a2, .int .i64 a3, .int .i64 a4, .int .i64 a5, .int .i64 a6, .int .i64 a7, .int .i64 a8, .int .i64 a9, .int .i64 a10, .bool false] 27)).cell? ⟨w.heap.size, 3, none⟩ = some (.int .i64 c.ve) := KS2.out.cell 3 _ rfl
      have k4 : (w2.alloc (.cells #[.int .i64 a0, .int .i64 a1, .int .i64 a2, .int .i64 a3, .int .i64 a4, .int .i64 a5, .int .i64 a6, .int .i64 a7, .int .i64 a8, .int .i64 a9, .int .i64 a10, .bool false] 27)).cell? ⟨w.heap.size, 4, none⟩ = some (.int .i64 c.vn) := KS2.out.cell 4 _ rfl
      have k5 : (w2.alloc (.cells #[.int .i64 a0, .int .i64 a1, .int .i64 a2, .int .i64 a3, .int .i64 a4, .int .i64 a5, .int .i64 a6, .int .i64 a7, .int .i64 a8, .int .i64 a9, .int .i64 a10, .bool false] 27)).cell? ⟨w.heap.size, 5, none⟩ = some (.int .i64 c.al) := KS2.out.cell 5 _ rfl
      have k6 : (w2.alloc (.cells #[.int .i64 a0, .int .i64 a1, .int .i64 a2, .int .i64 a3, .int .i64 a4, .int .i64 a5, .int .i64 a6, .int .i64 a7, .int .i64 a8, .int .i64 a9, .int .i64 a10, .bool false] 27)).cell? ⟨w.heap.size, 6, none⟩ = some (.int .i64 c.vs) := KS2.out.cell 6 _ rfl
      have k7 : (w2.alloc (.cells #[.int .i64 a0, .int .i64 a1, .int .i64 a2, .int .i64 a3, .int .i64 a4, .int .i64 a5, .int .i64 a6, .int .i64 a7, .int .i64 a8, .int .i64 a9, .int .i64 a10, .bool false] 27)).cell? ⟨w.heap.size, 7, none⟩ = some (.int .i64 c.hd) := KS2.out.cell 7 _ rfl
      have k8 : (w2.alloc (.cells #[.int .i64 a0, .int .i64 a1, .int .i64 a2, .int .i64 a3, .int .i64 a4, .int .i64 a5, .int .i64 a6, .int .i64 a7, .int .i64 a8, .int .i64 a9, .int .i64 a10, .bool false] 27)).cell? ⟨w.heap.size, 8, none⟩ = some (.int .i64 c.ca) := KS2.out.cell 8 _ rfl
      have k9 : (w2.alloc (.cells #[.int .i64 a0, .int .i64 a1, .int .i64 a2, .int .i64 a3, .int .i64 a4, .int .i64 a5, .int .i64 a6, .int .i64 a7, .int .i64 a8, .int .i64 a9, .int .i64 a10, .bool false] 27)).cell? ⟨w.heap.size, 9, none⟩ = some (.int .i64 c.fu) := KS2.out.cell 9 _ rfl
      have k10 : (w2.alloc (.cells #[.int .i64 a0, .int .i64 a1, .int .i64 a2, .int .i64 a3, .int .i64 a4, .int .i64 a5, .int .i64 a6, .int .i64 a7, .int .i64 a8, .int .i64 a9, .int .i64 a10, .bool false] 27)).cell? ⟨w.heap.size, 10, none⟩ = some (.int .i64 c.bk) := KS2.out.cell 10 _ rfl
      have k11 : (w2.alloc (.cells #[.int .i64 a0, .int .i64 a1, .int .i64 a2, .int .i64 a3, .int .i64 a4, .int .i64 a5, .int .i64 a6, .int .i64 a7, .int .i64 a8, .int .i64 a9, .int .i64 a10, .bool false] 27)).cell? ⟨w.heap.size, 11, none⟩ = some (.bool c.gr) := KS2.out.cell 11 _ rfl
      have kr0 : ((w2.alloc (.cells #[.int .i64 a0, .int .i64 a1, .int .i64 a2, .int .i64 a3, .int .i64 a4, .int .i64 a5, .int .i64 a6, .int .i64 a7, .int .i64 a8, .int .i64 a9, .int .i64 a10, .bool false] 27)).alloc (.cells #[.int .i64 c.tk, .int .i64 c.px, .int .i64 c.py, .int .i64 c.ve, .int .i64 c.vn, .int .i64 c.al, .int .i64 c.vs, .int .i64 c.hd, .int .i64 c.ca, .int .i64 c.fu, .int .i64 c.bk, .bool c.gr] 27)).cell? ⟨w2.heap.size, 0, none⟩ = some (.int .i64 a0) := KR2.out.cell 0 _ rfl
      have kr1 : ((w2.alloc (.cells #[.int .i64 a0, .int .i64 a1, .int .i64 a2, .int .i64 a3, .int .i64 a4, .int .i64 a5, .int .i64 a6, .int .i64 a7, .int .i64 a8, .int .i64 a9, .int .i64 a10, .bool false] 27)).alloc (.cells #[.int .i64 c.tk, .int .i64 c.px, .int .i64 c.py, .int .i64 c.ve, .int .i64 c.vn, .int .i64 c.al, .int .i64 c.vs, .int .i64 c.hd, .int .i64 c.ca, .int .i64 c.fu, .int .i64 c.bk, .bool c.gr] 27)).cell? ⟨w2.heap.size, 1, none⟩ = some (.int .i64 a1) := KR2.out.cell 1 _ rfl
      have kr2 : ((w2.alloc (.cells #[.int .i64 a0, .int .i64 a1, .int .i64 a2, .int .i64 a3, .int .i64 a4, .int .i64 a5, .int .i64 a6, .int .i64 a7, .int .i64 a8, .int .i64 a9, .int .i64 a10, .bool false] 27)).alloc (.cells #[.int .i64 c.tk, .int .i64 c.px, .int .i64 c.py, .int .i64 c.ve, .int .i64 c.vn, .int .i64 c.al, .int .i64 c.vs, .int .i64 c.hd, .int .i64 c.ca, .int .i64 c.fu, .int .i64 c.bk, .bool c.gr] 27)).cell? ⟨w2.heap.size, 2, none⟩ = some (.int .i64 a2) := KR2.out.cell 2 _ rfl
      have kr3 : ((w2.alloc (.cells #[.int .i64 a0, .int .i64 a1, .int .i64 a2, .int .i64 a3, .int .i64 a4, .int .i64 a5, .int .i64 a6, .int .i64 a7, .int .i64 a8, .int .i64 a9, .int .i64 a10, .bool false] 27)).alloc (.cells #[.int .i64 c.tk, .int .i64 c.px, .int .i64 c.py, .int .i64 c.ve, .int .i64 c.vn, .int .i64 c.al, .int .i64 c.vs, .int .i64 c.hd, .int .i64 c.ca, .int .i64 c.fu, .int .i64 c.bk, .bool c.gr] 27)).cell? ⟨w2.heap.size, 3, none⟩ = some (.int .i64 a3) := KR2.out.cell 3 _ rfl
      have kr4 : ((w2.alloc (.cells #[.int .i64 a0, .int .i64 a1, .int .i64 a2, .int .i64 a3, .int .i64 a4, .int .i64 a5, .int .i64 a6, .int .i64 a7, .int .i64 a8, .int .i64 a9, .int .i64 a10, .bool false] 27)).alloc (.cells #[.int .i64 c.tk, .int .i64 c.px, .int .i64 c.py, .int .i64 c.ve, .int .i64 c.vn, .int .i64 c.al, .int .i64 c.vs, .int .i64 c.hd, .int .i64 c.ca, .int .i64 c.fu, .int .i64 c.bk, .bool c.gr] 27)).cell? ⟨w2.heap.size, 4, none⟩ = some (.int .i64 a4) := KR2.out.cell 4 _ rfl
      have kr5 : ((w2.alloc (.cells #[.int .i64 a0, .int .i64 a1, .int .i64 a2, .int .i64 a3, .int .i64 a4, .int .i64 a5, .int .i64 a6, .int .i64 a7, .int .i64 a8, .int .i64 a9, .int .i64 a10, .bool false] 27)).alloc (.cells #[.int .i64 c.tk, .int .i64 c.px, .int .i64 c.py, .int .i64 c.ve, .int .i64 c.vn, .int .i64 c.al, .int .i64 c.vs, .int .i64 c.hd, .int .i64 c.ca, .int .i64 c.fu, .int .i64 c.bk, .bool c.gr] 27)).cell? ⟨w2.heap.size, 5, none⟩ = some (.int .i64 a5) := KR2.out.cell 5 _ rfl
      have kr6 : ((w2.alloc (.cells #[.int .i64 a0, .int .i64 a1, .int .i64 a2, .int .i64 a3, .int .i64 a4, .int .i64 a5, .int .i64 a6, .int .i64 a7, .int .i64 a8, .int .i64 a9, .int .i64 a10, .bool false] 27)).alloc (.cells #[.int .i64 c.tk, .int .i64 c.px, .int .i64 c.py, .int .i64 c.ve, .int .i64 c.vn, .int .i64 c.al, .int .i64 c.vs, .int .i64 c.hd, .int .i64 c.ca, .int .i64 c.fu, .int .i64 c.bk, .bool c.gr] 27)).cell? ⟨w2.heap.size, 6, none⟩ = some (.int .i64 a6) := KR2.out.cell 6 _ rfl
      have kr7 : ((w2.alloc (.cells #[.int .i64 a0, .int .i64 a1, .int .i64 a2, .int .i64 a3, .int .i64 a4, .int .i64 a5, .int .i64 a6, .int .i64 a7, .int .i64 a8, .int .i64 a9, .int .i64 a10, .bool false] 27)).alloc (.cells #[.int .i64 c.tk, .int .i64 c.px, .int .i64 c.py, .int .i64 c.ve, .int .i64 c.vn, .int .i64 c.al, .int .i64 c.vs, .int .i64 c.hd, .int .i64 c.ca, .int .i64 c.fu, .int .i64 c.bk, .bool c.gr] 27)).cell? ⟨w2.heap.size, 7, none⟩ = some (.int .i64 a7) := KR2.out.cell 7 _ rfl
      have kr8 : ((w2.alloc (.cells #[.int .i64 a0, .int .i64 a1, .int .i64 a2, .int .i64 a3, .int .i64 a4, .int .i64 a5, .int .i64 a6, .int .i64 a7, .int .i64 a8, .int .i64 a9, .int .i64 a10, .bool false] 27)).alloc (.cells #[.int .i64 c.tk, .int .i64 c.px, .int .i64 c.py, .int .i64 c.ve, .int .i64 c.vn, .int .i64 c.al, .int .i64 c.vs, .int .i64 c.hd, .int .i64 c.ca, .int .i64 c.fu, .int .i64 c.bk, .bool c.gr] 27)).cell? ⟨w2.heap.size, 8, none⟩ = some (.int .i64 a8) := KR2.out.cell 8 _ rfl
      have kr9 : ((w2.alloc (.cells #[.int .i64 a0, .int .i64 a1, .int .i64 a2, .int .i64 a3, .int .i64 a4, .int .i64 a5, .int .i64 a6, .int .i64 a7, .int .i64 a8, .int .i64 a9, .int .i64 a10, .bool false] 27)).alloc (.cells #[.int .i64 c.tk, .int .i64 c.px, .int .i64 c.py, .int .i64 c.ve, .int .i64 c.vn, .int .i64 c.al, .int .i64 c.vs, .int .i64 c.hd, .int .i64 c.ca, .int .i64 c.fu, .int .i64 c.bk, .bool c.gr] 27)).cell? ⟨w2.heap.size, 9, none⟩ = some (.int .i64 a9) := KR2.out.cell 9 _ rfl
      have kr10 : ((w2.alloc (.cells #[.int .i64 a0, .int .i64 a1, .int .i64 a2, .int .i64 a3, .int .i64 a4, .int .i64 a5, .int .i64 a6, .int .i64 a7, .int .i64 a8, .int .i64 a9, .int .i64 a10, .bool false] 27)).alloc (.cells #[.int .i64 c.tk, .int .i64 c.px, .int .i64 c.py, .int .i64 c.ve, .int .i64 c.vn, .int .i64 c.al, .int .i64 c.vs, .int .i64 c.hd, .int .i64 c.ca, .int .i64 c.fu, .int .i64 c.bk, .bool c.gr] 27)).cell? ⟨w2.heap.size, 10, none⟩ = some (.int .i64 a10) := KR2.out.cell 10 _ rfl
      have kr11 : ((w2.alloc (.cells #[.int .i64 a0, .int .i64 a1, .int .i64 a2, .int .i64 a3, .int .i64 a4, .int .i64 a5, .int .i64 a6, .int .i64 a7, .int .i64 a8, .int .i64 a9, .int .i64 a10, .bool false] 27)).alloc (.cells #[.int .i64 c.tk, .int .i64 c.px, .int .i64 c.py, .int .i64 c.ve, .int .i64 c.vn, .int .i64 c.al, .int .i64 c.vs, .int .i64 c.hd, .int .i64 c.ca, .int .i64 c.fu, .int .i64 c.bk, .bool c.gr] 27)).cell? ⟨w2.heap.size, 11, none⟩ = some (.bool false) := KR2.out.cell 11 _ rfl
      have ko0 : ((w2.alloc (.cells #[.int .i64 a0, .int .i64 a1, .int .i64 a2, .int .i64 a3, .int .i64 a4, .int .i64 a5, .int .i64 a6, .int .i64 a7, .int .i64 a8, .int .i64 a9, .int .i64 a10, .bool false] 27)).alloc (.cells #[.int .i64 c.tk, .int .i64 c.px, .int .i64 c.py, .int .i64 c.ve, .int .i64 c.vn, .int .i64 c.al, .int .i64 c.vs, .int .i64 c.hd, .int .i64 c.ca, .int .i64 c.fu, .int .i64 c.bk, .bool c.gr] 27)).cell? ⟨w2.heap.size + 1, 0, none⟩ = some (.int .i64 c.tk) := KO2.out.cell 0 _ rfl
      have ko1 : ((w2.alloc (.cells #[.int .i64 a0, .int .i64 a1, .int .i64 a2, .int .i64 a3, .int .i64 a4, .int .i64 a5, .int .i64 a6, .int .i64 a7, .int .i64 a8, .int .i64 a9, .int .i64 a10, .bool false] 27)).alloc (.cells #[.int .i64 c.tk, .int .i64 c.px, .int .i64 c.py, .int .i64 c.ve, .int .i64 c.vn, .int .i64 c.al, .int .i64 c.vs, .int .i64 c.hd, .int .i64 c.ca, .int .i64 c.fu, .int .i64 c.bk, .bool c.gr] 27)).cell? ⟨w2.heap.size + 1, 1, none⟩ = some (.int .i64 c.px) := KO2.out.cell 1 _ rfl
      have ko2 : ((w2.alloc (.cells #[.int .i64 a0, .int .i64 a1, .int .i64 a2, .int .i64 a3, .int .i64 a4, .int .i64 a5, .int .i64 a6, .int .i64 a7, .int .i64 a8, .int .i64 a9, .int .i64 a10, .bool false] 27)).alloc (.cells #[.int .i64 c.tk, .int .i64 c.px, .int .i64 c.py, .int .i64 c.ve, .int .i64 c.vn, .int .i64 c.al, .int .i64 c.vs, .int .i64 c.hd, .int .i64 c.ca, .int .i64 c.fu, .int .i64 c.bk, .bool c.gr] 27)).cell? ⟨w2.heap.size + 1, 2, none⟩ = some (.int .i64 c.py) := KO2.out.cell 2 _ rfl
      have ko5 : ((w2.alloc (.cells #[.int .i64 a0, .int .i64 a1, .int .i64 a2, .int .i64 a3, .int .i64 a4, .int .i64 a5, .int .i64 a6, .int .i64 a7, .int .i64 a8, .int .i64 a9, .int .i64 a10, .bool false] 27)).alloc (.cells #[.int .i64 c.tk, .int .i64 c.px, .int .i64 c.py, .int .i64 c.ve, .int .i64 c.vn, .int .i64 c.al, .int .i64 c.vs, .int .i64 c.hd, .int .i64 c.ca, .int .i64 c.fu, .int .i64 c.bk, .bool c.gr] 27)).cell? ⟨w2.heap.size + 1, 5, none⟩ = some (.int .i64 c.al) := KO2.out.cell 5 _ rfl
      have ko8 : ((w2.alloc (.cells #[.int .i64 a0, .int .i64 a1, .int .i64 a2, .int .i64 a3, .int .i64 a4, .int .i64 a5, .int .i64 a6, .int .i64 a7, .int .i64 a8, .int .i64 a9, .int .i64 a10, .bool false] 27)).alloc (.cells #[.int .i64 c.tk, .int .i64 c.px, .int .i64 c.py, .int .i64 c.ve, .int .i64 c.vn, .int .i64 c.al, .int .i64 c.vs, .int .i64 c.hd, .int .i64 c.ca, .int .i64 c.fu, .int .i64 c.bk, .bool c.gr] 27)).cell? ⟨w2.heap.size + 1, 8, none⟩ = some (.int .i64 c.ca) := KO2.out.cell 8 _ rfl
      have ko9 : ((w2.alloc (.cells #[.int .i64 a0, .int .i64 a1, .int .i64 a2, .int .i64 a3, .int .i64 a4, .int .i64 a5, .int .i64 a6, .int .i64 a7, .int .i64 a8, .int .i64 a9, .int .i64 a10, .bool false] 27)).alloc (.cells #[.int .i64 c.tk, .int .i64 c.px, .int .i64 c.py, .int .i64 c.ve, .int .i64 c.vn, .int .i64 c.al, .int .i64 c.vs, .int .i64 c.hd, .int .i64 c.ca, .int .i64 c.fu, .int .i64 c.bk, .bool c.gr] 27)).cell? ⟨w2.heap.size + 1, 9, none⟩ = some (.int .i64 c.fu) := KO2.out.cell 9 _ rfl
      have ko11 : ((w2.alloc (.cells #[.int .i64 a0, .int .i64 a1, .int .i64 a2, .int .i64 a3, .int .i64 a4, .int .i64 a5, .int .i64 a6, .int .i64 a7, .int .i64 a8, .int .i64 a9, .int .i64 a10, .bool false] 27)).alloc (.cells #[.int .i64 c.tk, .int .i64 c.px, .int .i64 c.py, .int .i64 c.ve, .int .i64 c.vn, .int .i64 c.al, .int .i64 c.vs, .int .i64 c.hd, .int .i64 c.ca, .int .i64 c.fu, .int .i64 c.bk, .bool c.gr] 27)).cell? ⟨w2.heap.size + 1, 11, none⟩ = some (.bool c.gr) := KO2.out.cell 11 _ rfl
      go_wp2_with fail
      refine (HVA.out _).mono ?_; rintro e w3 ⟨rfl, hB⟩
      clear k0 k1 k2 k3 k4 k5 k6 k7 k8 k9 k10 k11 kr0 kr1 kr2 kr3 kr4 kr5 kr6 kr7 kr8 kr9 kr10 kr11 ko0 ko1 ko2 ko5 ko8 ko9 ko11
      replace KR2 := Lib.hid (KR2.out.below hB)
      replace KO2 := Lib.hid (KO2.out.below hB)
      replace HB2 := Lib.hid (bel_trans HB2.out hB)
      clear hB KS2
      have kr0 : w3.cell? ⟨w2.heap.size, 0, none⟩ = some (.int .i64 a0) := KR2.out.cell 0 _ rfl
      have kr1 : w3.cell? ⟨w2.heap.size, 1, none⟩ = some (.int .i64 a1) := KR2.out.cell 1 _ rfl
      have kr2 : w3.cell? ⟨w2.heap.size, 2, none⟩ = some (.int .i64 a2) := KR2.out.cell 2 _ rfl
      have kr3 : w3.cell? ⟨w2.heap.size, 3, none⟩ = some (.int .i64 a3) := KR2.out.cell 3 _ rfl
      have kr4 : w3.cell? ⟨w2.heap.size, 4, none⟩ = some (.int .i64 a4) := KR2.out.cell 4 _ rfl
      have kr5 : w3.cell? ⟨w2.heap.size, 5, none⟩ = some (.int .i64 a5) := KR2.out.cell 5 _ rfl
      have kr6 : w3.cell? ⟨w2.heap.size, 6, none⟩ = some (.int .i64 a6) := KR2.out.cell 6 _ rfl
      have kr7 : w3.cell? ⟨w2.heap.size, 7, none⟩ = some (.int .i64 a7) := KR2.out.cell 7 _ rfl
      have kr8 : w3.cell? ⟨w2.heap.size, 8, none⟩ = some (.int .i64 a8) := KR2.out.cell 8 _ rfl
      have kr9 : w3.cell? ⟨w2.heap.size, 9, none⟩ = some (.int .i64 a9) := KR2.out.cell 9 _ rfl
      have kr10 : w3.cell? ⟨w2.heap.size, 10, none⟩ = some (.int .i64 a10) := KR2.out.cell 10 _ rfl
      have kr11 : w3.cell? ⟨w2.heap.size, 11, none⟩ = some (.bool false) := KR2.out.cell 11 _ rfl
      have ko0 : w3.cell? ⟨w2.heap.size + 1, 0, none⟩ = some (.int .i64 c.tk) := KO2.out.cell 0 _ rfl
      have ko1 : w3.cell? ⟨w2.heap.size + 1, 1, none⟩ = some (.int .i64 c.px) := KO2.out.cell 1 _ rfl
      have ko2 : w3.cell? ⟨w2.heap.size + 1, 2, none⟩ = some (.int .i64 c.py) := KO2.out.cell 2 _ rfl
      have ko5 : w3.cell? ⟨w2.heap.size + 1, 5, none⟩ = some (.int .i64 c.al) := KO2.out.cell 5 _ rfl
      have ko8 : w3.cell? ⟨w2.heap.size + 1, 8, none⟩ = some (.int .i64 c.ca) := KO2.out.cell 8 _ rfl
      have ko9 : w3.cell? ⟨w2.heap.size + 1, 9, none⟩ = some (.int .i64 c.fu) := KO2.out.cell 9 _ rfl
      have ko11 : w3.cell? ⟨w2.heap.size + 1, 11, none⟩ = some (.bool c.gr) := KO2.out.cell 11 _ rfl
      go_wp2_with fail
      refine (HCR.out _).mono ?_; rintro e w4 ⟨rfl, hB⟩
      replace HB2 := Lib.hid (bel_trans HB2.out hB)
      clear hB
      go_wp2_with fail
      go_ret
      exact ⟨ret_bool (by simp), HB2.out⟩
  · obtain ⟨hg, h5, h6, h10⟩ := hgr hb
    have y3 : c.al + 10 * a6 = a5 := by rw [h5, h6]; omega
    have y6 : (a5 == c.al) = true := by rw [beq_iff_eq]; exact h5
    have y7 : (a6 == 0) = true := by rw [beq_iff_eq]; exact h6
    have y8 : (a10 == 0) = true := by rw [beq_iff_eq]; exact h10
    clear h5 h6 h10 hgr
    subst hb
    clear hal
    obtain ⟨ctk, cpx, cpy, cve, cvn, cal, cvs, chd, cca, cfu, cbk, cgr⟩ := c
    dsimp only at *
    subst hg
    go_enter Try.func3, Try.ntmps3
    go_wp2_with fail
    refine (awake_any _).mono ?_; rintro e w1 ⟨rfl, hB⟩
    have KS : Hid (Has w1 w.heap.size [.int .i64 ctk, .int .i64 cpx, .int .i64 cpy, .int .i64 cve, .int .i64 cvn, .int .i64 cal, .int .i64 cvs, .int .i64 chd, .int .i64 cca, .int .i64 cfu, .int .i64 cbk, .bool true, .int .i64 em, .int .u8 t0, .int .u8 t1, .int .u8 t2, .int .i64 tb, .int .i64 ts, .int .i64 ta, .int .i64 tv, .int .i64 we, .int .i64 wn, .slice E ne ce, .int .i64 se, .int .i64 sn, .int .u16 si, .bool th, .bool st, .string s0, .string s1]) := Lib.hid (((Has.new w _ _).alloc _).below hB)
    have KP : Hid (Has w1 (w.heap.size + 1) p.cells) := Lib.hid ((Has.newAt (w.alloc _) _ _ (w.heap.size + 1) (by simp)).below hB)
    have HB := Lib.hid (bel_alloc2 hB)
    clear hB
    have k0 : w1.cell? ⟨w.heap.size, 0, none⟩ = some (.int .i64 ctk) := KS.out.cell 0 _ rfl
    have k1 : w1.cell? ⟨w.heap.size, 1, none⟩ = some (.int .i64 cpx) := KS.out.cell 1 _ rfl
    have k2 : w1.cell? ⟨w.heap.size, 2, none⟩ = some (.int .i64 cpy) := KS.out.cell 2 _ rfl
    have k3 : w1.cell? ⟨w.heap.size, 3, none⟩ = some (.int .i64 cve) := KS.out.cell 3 _ rfl
    have k4 : w1.cell? ⟨w.heap.size, 4, none⟩ = some (.int .i64 cvn) := KS.out.cell 4 _ rfl
    have k5 : w1.cell? ⟨w.heap.size, 5, none⟩ = some (.int .i64 cal) := KS.out.cell 5 _ rfl
    have k6 : w1.cell? ⟨w.heap.size, 6, none⟩ = some (.int .i64 cvs) := KS.out.cell 6 _ rfl
    have k7 : w1.cell? ⟨w.heap.size, 7, none⟩ = some (.int .i64 chd) := KS.out.cell 7 _ rfl
    have k8 : w1.cell? ⟨w.heap.size, 8, none⟩ = some (.int .i64 cca) := KS.out.cell 8 _ rfl
    have k9 : w1.cell? ⟨w.heap.size, 9, none⟩ = some (.int .i64 cfu) := KS.out.cell 9 _ rfl
    have k10 : w1.cell? ⟨w.heap.size, 10, none⟩ = some (.int .i64 cbk) := KS.out.cell 10 _ rfl
    have k11 : w1.cell? ⟨w.heap.size, 11, none⟩ = some (.bool true) := KS.out.cell 11 _ rfl
    have k12 : w1.cell? ⟨w.heap.size, 12, none⟩ = some (.int .i64 em) := KS.out.cell 12 _ rfl
    have k13 : w1.cell? ⟨w.heap.size, 13, none⟩ = some (.int .u8 t0) := KS.out.cell 13 _ rfl
    have k14 : w1.cell? ⟨w.heap.size, 14, none⟩ = some (.int .u8 t1) := KS.out.cell 14 _ rfl
    have k15 : w1.cell? ⟨w.heap.size, 15, none⟩ = some (.int .u8 t2) := KS.out.cell 15 _ rfl
    have k16 : w1.cell? ⟨w.heap.size, 16, none⟩ = some (.int .i64 tb) := KS.out.cell 16 _ rfl
    have k17 : w1.cell? ⟨w.heap.size, 17, none⟩ = some (.int .i64 ts) := KS.out.cell 17 _ rfl
    have k18 : w1.cell? ⟨w.heap.size, 18, none⟩ = some (.int .i64 ta) := KS.out.cell 18 _ rfl
    have k19 : w1.cell? ⟨w.heap.size, 19, none⟩ = some (.int .i64 tv) := KS.out.cell 19 _ rfl
    have k20 : w1.cell? ⟨w.heap.size, 20, none⟩ = some (.int .i64 we) := KS.out.cell 20 _ rfl
    have k21 : w1.cell? ⟨w.heap.size, 21, none⟩ = some (.int .i64 wn) := KS.out.cell 21 _ rfl
    have k22 : w1.cell? ⟨w.heap.size, 22, none⟩ = some (.slice E ne ce) := KS.out.cell 22 _ rfl
    have k23 : w1.cell? ⟨w.heap.size, 23, none⟩ = some (.int .i64 se) := KS.out.cell 23 _ rfl
    have k24 : w1.cell? ⟨w.heap.size, 24, none⟩ = some (.int .i64 sn) := KS.out.cell 24 _ rfl
    have k25 : w1.cell? ⟨w.heap.size, 25, none⟩ = some (.int .u16 si) := KS.out.cell 25 _ rfl
    have k26 : w1.cell? ⟨w.heap.size, 26, none⟩ = some (.bool th) := KS.out.cell 26 _ rfl
    have k27 : w1.cell? ⟨w.heap.size, 27, none⟩ = some (.bool st) := KS.out.cell 27 _ rfl
    have k28 : w1.cell? ⟨w.heap.size, 28, none⟩ = some (.string s0) := KS.out.cell 28 _ rfl
    have k29 : w1.cell? ⟨w.heap.size, 29, none⟩ = some (.string s1) := KS.out.cell 29 _ rfl
    go_wp2_with (refine at_prf (.tmp 3) rfl rfl rfl KP.out ?_)
    refine (HX.out _ HB.out).mono ?_; rintro e w2 ⟨rfl, hB⟩
    clear k0 k1 k2 k3 k4 k5 k6 k7 k8 k9 k10 k11 k12 k13 k14 k15 k16 k17 k18 k19 k20 k21 k22 k23 k24 k25 k26 k27 k28 k29
    replace KS := Lib.hid (KS.out.below hB)
    replace HB := Lib.hid (bel_trans HB.out hB)
    clear hB KP
    have KR2 : Hid (Has ((w2.alloc (.cells #[.int .i64 a0, .int .i64 a1, .int .i64 a2, .int .i64 a3, .int .i64 a4, .int .i64 a5, .int .i64 a6, .int .i64 a7, .int .i64 a8, .int .i64 a9, .int .i64 a10, .bool true] 27)).alloc (.cells #[.int .i64 ctk, .int .i64 cpx, .int .i64 cpy, .int .i64 cve, .int .i64 cvn, .int .i64 cal, .int .i64 cvs, .int .i64 chd, .int .i64 cca, .int .i64 cfu, .int .i64 cbk, .bool true] 27)) w2.heap.size [.int .i64 a0, .int .i64 a1, .int .i64 a2, .int .i64 a3, .int .i64 a4, .int .i64 a5, .int .i64 a6, .int .i64 a7, .int .i64 a8, .int .i64 a9, .int .i64 a10, .bool true]) := Lib.hid ((Has.new w2 _ _).alloc _)
    have KO2 : Hid (Has ((w2.alloc (.cells #[.int .i64 a0, .int .i64 a1, .int .i64 a2, .int .i64 a3, .int .i64 a4, .int .i64 a5, .int .i64 a6, .int .i64 a7, .int .i64 a8, .int .i64 a9, .int .i64 a10, .bool true] 27)).alloc (.cells #[.int .i64 ctk, .int .i64 cpx, .int .i64 cpy, .int .i64 cve, .int .i64 cvn, .int .i64 cal, .int .i64 cvs, .int .i64 chd, .int .i64 cca, .int .i64 cfu, .int .i64 cbk, .bool true] 27)) (w2.heap.size + 1) [.int .i64 ctk, .int .i64 cpx, .int .i64 cpy, .int .i64 cve, .int .i64 cvn, .int .i64 cal, .int .i64 cvs, .int .i64 chd, .int .i64 cca, .int .i64 cfu, .int .i64 cbk, .bool true]) := Lib.hid (Has.newAt (w2.alloc (.cells #[.int .i64 a0, .int .i64 a1, .int .i64 a2, .int .i64 a3, .int .i64 a4, .int .i64 a5, .int .i64 a6, .int .i64 a7, .int .i64 a8, .int .i64 a9, .int .i64 a10, .bool true] 27)) _ _ (w2.heap.size + 1) (by simp))
    have KS2 : Hid (Has (w2.alloc (.cells #[.int .i64 a0, .int .i64 a1, .int .i64 a2, .int .i64 a3, .int .i64 a4, .int .i64 a5, .int .i64 a6, .int .i64 a7, .int .i64 a8, .int .i64 a9, .int .i64 a10, .bool true] 27)) w.heap.size [.int .i64 ctk, .int .i64 cpx, .int .i64 cpy, .int .i64 cve, .int .i64 cvn, .int .i64 cal, .int .i64 cvs, .int .i64 chd, .int .i64 cca, .int .i64 cfu, .int .i64 cbk, .bool true, .int .i64 em, .int .u8 t0, .int .u8 t1, .int .u8 t2, .int .i64 tb, .int .i64 ts, .int .i64 ta, .int .i64 tv, .int .i64 we, .int .i64 wn, .slice E ne ce, .int .i64 se, .int .i64 sn, .int .u16 si, .bool th, .bool st, .string s0, .string s1]) := Lib.hid (KS.out.alloc _)
    have HB2 : Hid (Below w.heap.size w ((w2.alloc (.cells #[.int .i64 a0, .int .i64 a1, .int .i64 a2, .int .i64 a3, .int .i64 a4, .int .i64 a5, .int .i64 a6, .int .i64 a7, .int .i64 a8, .int .i64 a9, .int .i64 a10, .bool true] 27)).alloc (.cells #[.int .i64 ctk, .int .i64 cpx, .int .i64 cpy, .int .i64 cve, .int .i64 cvn, .int .i64 cal, .int .i64 cvs, .int .i64 chd, .int .i64 cca, .int .i64 cfu, .int .i64 cbk, .bool true] 27))) := Lib.hid (bel_alloc1 (bel_alloc1 HB.out _) _)
    have k0 : (w2.alloc (.cells #[.int .i64 a0, .int .i64 a1, .int .i64 a2, .int .i64 a3, .int .i64 a4, .int .i64 a5, .int .i64 a6, .int .i64 a7, .int .i64 a8, .int .i64 a9, .int .i64 a10, .bool true] 27)).cell? ⟨w.heap.size, 0, none⟩ = some (.int .i64 ctk) := KS2.out.cell 0 _ rfl
    have k1 : (w2.alloc (.cells #[.int .i64 a0, .int .i64 a1, .int .i64 a2, .int .i64 a3, .int .i64 a4, .int .i64 a5, .int .i64 a6, .int .i64 a7, .int .i64 a8, .int .i64 a9, .int .i64 a10, .bool true] 27)).cell? ⟨w.heap.size, 1, none⟩ = some (.int .i64 cpx) := KS2.out.cell 1 _ rfl
    have k2 : (w2.alloc (.cells #[.int .i64 a0, .int .i64 a1, .int .i64 a2, .int .i64 a3, .int .i64 a4, .int .i64 a5, .int .i64 a6, .int .i64 a7, .int .i64 a8, .int .i64 a9, .int .i64 a10, .bool true] 27)).cell? ⟨w.heap.size, 2, none⟩ = some (.int .i64 cpy) := KS2.out.cell 2 _ rfl
    have k3 : (w2.alloc (.cells #[.int .i64 a0, .int .i64 a1, .int .i64 a2, .int .i64 a3, .int .i64 a4, .int .i64 a5, .int .i64 a6, .int .i64 a7, .int .i64 a8, .int .i64 a9, .int .i64 a10, .bool true] 27)).cell? ⟨w.heap.size, 3, none⟩ = some (.int .i64 cve) := KS2.out.cell 3 _ rfl
    have k4 : (w2.alloc (.cells #[.int .i64 a0, .int .i64 a1, .int .i64 a2, .int .i64 a3, .int .i64 a4, .int .i64 a5, .int .i64 a6, .int .i64 a7, .int .i64 a8, .int .i64 a9, .int .i64 a10, .bool true] 27)).cell? ⟨w.heap.size, 4, none⟩ = some (.int .i64 cvn) := KS2.out.cell 4 _ rfl
    have k5 : (w2.alloc (.cells #[.int .i64 a0, .int .i64 a1, .int .i64 a2, .int .i64 a3, .int .i64 a4, .int .i64 a5, .int .i64 a6, .int .i64 a7, .int .i64 a8, .int .i64 a9, .int .i64 a10, .bool true] 27)).cell? ⟨w.heap.size, 5, none⟩ = some (.int .i64 cal) := KS2.out.cell 5 _ rfl
    have k6 : (w2.alloc (.cells #[.int .i64 a0, .int .i64 a1, .int .i64 a2, .int .i64 a3, .int .i64 a4, .int .i64 a5, .int .i64 a6, .int .i64 a7, .int .i64 a8, .int .i64 a9, .int .i64 a10, .bool true] 27)).cell? ⟨w.heap.size, 6, none⟩ = some (.int .i64 cvs) := KS2.out.cell 6 _ rfl
    have k7 : (w2.alloc (.cells #[.int .i64 a0, .int .i64 a1, .int .i64 a2, .int .i64 a3, .int .i64 a4, .int .i64 a5, .int .i64 a6, .int .i64 a7, .int .i64 a8, .int .i64 a9, .int .i64 a10, .bool true] 27)).cell? ⟨w.heap.size, 7, none⟩ = some (.int .i64 chd) := KS2.out.cell 7 _ rfl
    have k8 : (w2.alloc (.cells #[.int .i64 a0, .int .i64 a1, .int .i64 a2, .int .i64 a3, .int .i64 a4, .int .i64 a5, .int .i64 a6, .int .i64 a7, .int .i64 a8, .int .i64 a9, .int .i64 a10, .bool true] 27)).cell? ⟨w.heap.size, 8, none⟩ = some (.int .i64 cca) := KS2.out.cell 8 _ rfl
    have k9 : (w2.alloc (.cells #[.int .i64 a0, .int .i64 a1, .int .i64 a2, .int .i64 a3, .int .i64 a4, .int .i64 a5, .int .i64 a6, .int .i64 a7, .int .i64 a8, .int .i64 a9, .int .i64 a10, .bool true] 27)).cell? ⟨w.heap.size, 9, none⟩ = some (.int .i64 cfu) := KS2.out.cell 9 _ rfl
    have k10 : (w2.alloc (.cells #[.int .i64 a0, .int .i64 a1, .int .i64 a2, .int .i64 a3, .int .i64 a4, .int .i64 a5, .int .i64 a6, .int .i64 a7, .int .i64 a8, .int .i64 a9, .int .i64 a10, .bool true] 27)).cell? ⟨w.heap.size, 10, none⟩ = some (.int .i64 cbk) := KS2.out.cell 10 _ rfl
    have k11 : (w2.alloc (.cells #[.int .i64 a0, .int .i64 a1, .int .i64 a2, .int .i64 a3, .int .i64 a4, .int .i64 a5, .int .i64 a6, .int .i64 a7, .int .i64 a8, .int .i64 a9, .int .i64 a10, .bool true] 27)).cell? ⟨w.heap.size, 11, none⟩ = some (.bool true) := KS2.out.cell 11 _ rfl
    have kr0 : ((w2.alloc (.cells #[.int .i64 a0, .int .i64 a1, .int .i64 a2, .int .i64 a3, .int .i64 a4, .int .i64 a5, .int .i64 a6, .int .i64 a7, .int .i64 a8, .int .i64 a9, .int .i64 a10, .bool true] 27)).alloc (.cells #[.int .i64 ctk, .int .i64 cpx, .int .i64 cpy, .int .i64 cve, .int .i64 cvn, .int .i64 cal, .int .i64 cvs, .int .i64 chd, .int .i64 cca, .int .i64 cfu, .int .i64 cbk, .bool true] 27)).cell? ⟨w2.heap.size, 0, none⟩ = some (.int .i64 a0) := KR2.out.cell 0 _ rfl
    have kr1 : ((w2.alloc (.cells #[.int .i64 a0, .int .i64 a1, .int .i64 a2, .int .i64 a3, .int .i64 a4, .int .i64 a5, .int .i64 a6, .int .i64 a7, .int .i64 a8, .int .i64 a9, .int .i64 a10, .bool true] 27)).alloc (.cells #[.int .i64 ctk, .int .i64 cpx, .int .i64 cpy, .int .i64 cve, .int .i64 cvn, .int .i64 cal, .int .i64 cvs, .int .i64 chd, .int .i64 cca, .int .i64 cfu, .int .i64 cbk, .bool true] 27)).cell? ⟨w2.heap.size, 1, none⟩ = some (.int .i64 a1) := KR2.out.cell 1 _ rfl
    have kr2 : ((w2.alloc (.cells #[.int .i64 a0, .int .i64 a1, .int .i64 a2, .int .i64 a3, .int .i64 a4, .int .i64 a5, .int .i64 a6, .int .i64 a7, .int .i64 a8, .int .i64 a9, .int .i64 a10, .bool true] 27)).alloc (.cells #[.int .i64 ctk, .int .i64 cpx, .int .i64 cpy, .int .i64 cve, .int .i64 cvn, .int .i64 cal, .int .i64 cvs, .int .i64 chd, .int .i64 cca, .int .i64 cfu, .int .i64 cbk, .bool true] 27)).cell? ⟨w2.heap.size, 2, none⟩ = some (.int .i64 a2) := KR2.out.cell 2 _ rfl
    have kr3 : ((w2.alloc (.cells #[.int .i64 a0, .int .i64 a1, .int .i64 a2, .int .i64 a3, .int .i64 a4, .int .i64 a5, .int .i64 a6, .int .i64 a7, .int .i64 a8, .int .i64 a9, .int .i64 a10, .bool true] 27)).alloc (.cells #[.int .i64 ctk, .int .i64 cpx, .int .i64 cpy, .int .i64 cve, .int .i64 cvn, .int .i64 cal, .int .i64 cvs, .int .i64 chd, .int .i64 cca, .int .i64 cfu, .int .i64 cbk, .bool true] 27)).cell? ⟨w2.heap.size, 3, none⟩ = some (.int .i64 a3) := KR2.out.cell 3 _ rfl
    have kr4 : ((w2.alloc (.cells #[.int .i64 a0, .int .i64 a1, .int .i64 a2, .int .i64 a3, .int .i64 a4, .int .i64 a5, .int .i64 a6, .int .i64 a7, .int .i64 a8, .int .i64 a9, .int .i64 a10, .bool true] 27)).alloc (.cells #[.int .i64 ctk, .int .i64 cpx, .int .i64 cpy, .int .i64 cve, .int .i64 cvn, .int .i64 cal, .int .i64 cvs, .int .i64 chd, .int .i64 cca, .int .i64 cfu, .int .i64 cbk, .bool true] 27)).cell? ⟨w2.heap.size, 4, none⟩ = some (.int .i64 a4) := KR2.out.cell 4 _ rfl
    have kr5 : ((w2.alloc (.cells #[.int .i64 a0, .int .i64 a1, .int .i64 a2, .int .i64 a3, .int .i64 a4, .int .i64 a5, .int .i64 a6, .int .i64 a7, .int .i64 a8, .int .i64 a9, .int .i64 a10, .bool true] 27)).alloc (.cells #[.int .i64 ctk, .int .i64 cpx, .int .i64 cpy, .int .i64 cve, .int .i64 cvn, .int .i64 cal, .int .i64 cvs, .int .i64 chd, .int .i64 cca, .int .i64 cfu, .int .i64 cbk, .bool true] 27)).cell? ⟨w2.heap.size, 5, none⟩ = some (.int .i64 a5) := KR2.out.cell 5 _ rfl
    have kr6 : ((w2.alloc (.cells #[.int .i64 a0, .int .i64 a1, .int .i64 a2, .int .i64 a3, .int .i64 a4, .int .i64 a5, .int .i64 a6, .int .i64 a7, .int .i64 a8, .int .i64 a9, .int .i64 a10, .bool true] 27)).alloc (.cells #[.int .i64 ctk, .int .i64 cpx, .int .i64 cpy, .int .i64 cve, .int .i64 cvn, .int .i64 cal, .int .i64 cvs, .int .i64 chd, .int .i64 cca, .int .i64 cfu, .int .i64 cbk, .bool true] 27)).cell? ⟨w2.heap.size, 6, none⟩ = some (.int .i64 a6) := KR2.out.cell 6 _ rfl
    have kr7 : ((w2.alloc (.cells #[.int .i64 a0, .int .i64 a1, .int .i64 a2, .int .i64 a3, .int .i64 a4, .int .i64 a5, .int .i64 a6, .int .i64 a7, .int .i64 a8, .int .i64 a9, .int .i64 a10, .bool true] 27)).alloc (.cells #[.int .i64 ctk, .int .i64 cpx, .int .i64 cpy, .int .i64 cve, .int .i64 cvn, .int .i64 cal, .int .i64 cvs, .int .i64 chd, .int .i64 cca, .int .i64 cfu, .int .i64 cbk, .bool true] 27)).cell? ⟨w2.heap.size, 7, none⟩ = some (.int .i64 a7) := KR2.out.cell 7 _ rfl
    have kr8 : ((w2.alloc (.cells #[.int .i64 a0, .int .i64 a1, .int .i64 a2, .int .i64 a3, .int .i64 a4, .int .i64 a5, .int .i64 a6, .int .i64 a7, .int .i64 a8, .int .i64 a9, .int .i64 a10, .bool true] 27)).alloc (.cells #[.int .i64 ctk, .int .i64 cpx, .int .i64 cpy, .int .i64 cve, .int .i64 cvn, .int .i64 cal, .int .i64 cvs, .int .i64 chd, .int .i64 cca, .int .i64 cfu, .int .i64 cbk, .bool true] 27)).cell? ⟨w2.heap.size, 8, none⟩ = some (.int .i64 a8) := KR2.out.cell 8 _ rfl
    have kr9 : ((w2.alloc (.cells #[.int .i64 a0, .int .i64 a1, .int .i64 a2, .int .i64 a3, .int .i64 a4, .int .i64 a5, .int .i64 a6, .int .i64 a7, .int .i64 a8, .int .i64 a9, .int .i64 a10, .bool true] 27)).alloc (.cells #[.int .i64 ctk, .int .i64 cpx, .int .i64 cpy, .int .i64 cve, .int .i64 cvn, .int .i64 cal, .int .i64 cvs, .int .i64 chd, .int .i64 cca, .int .i64 cfu, .int .i64 cbk, .bool true] 27)).cell? ⟨w2.heap.size, 9, none⟩ = some (.int .i64 a9) := KR2.out.cell 9 _ rfl
    have kr10 : ((w2.alloc (.cells #[.int .i64 a0, .int .i64 a1, .int .i64 a2, .int .i64 a3, .int .i64 a4, .int .i64 a5, .int .i64 a6, .int .i64 a7, .int .i64 a8, .int .i64 a9, .int .i64 a10, .bool true] 27)).alloc (.cells #[.int .i64 ctk, .int .i64 cpx, .int .i64 cpy, .int .i64 cve, .int .i64 cvn, .int .i64 cal, .int .i64 cvs, .int .i64 chd, .int .i64 cca, .int .i64 cfu, .int .i64 cbk, .bool true] 27)).cell? ⟨w2.heap.size, 10, none⟩ = some (.int .i64 a10) := KR2.out.cell 10 _ rfl
    have kr11 : ((w2.alloc (.cells #[.int .i64 a0, .int .i64 a1, .int .i64 a2, .int .i64 a3, .int .i64 a4, .int .i64 a5, .int .i64 a6, .int .i64 a7, .int .i64 a8, .int .i64 a9, .int .i64 a10, .bool true] 27)).alloc (.cells #[.int .i64 ctk, .int .i64 cpx, .int .i64 cpy, .int .i64 cve, .int .i64 cvn, .int .i64 cal, .int .i64 cvs, .int .i64 chd, .int .i64 cca, .int .i64 cfu, .int .i64 cbk, .bool true] 27)).cell? ⟨w2.heap.size, 11, none⟩ = some (.bool true) := KR2.out.cell 11 _ rfl
    have ko0 : ((w2.alloc (.cells #[.int .i64 a0, .int .i64 a1, .int .i64 a2, .int .i64 a3, .int .i64 a4, .int .i64 a5, .int .i64 a6, .int .i64 a7, .int .i64 a8, .int .i64 a9, .int .i64 a10, .bool true] 27)).alloc (.cells #[.int .i64 ctk, .int .i64 cpx, .int .i64 cpy, .int .i64 cve, .int .i64 cvn, .int .i64 cal, .int .i64 cvs, .int .i64 chd, .int .i64 cca, .int .i64 cfu, .int .i64 cbk, .bool true] 27)).cell? ⟨w2.heap.size + 1, 0, none⟩ = some (.int .i64 ctk) := KO2.out.cell 0 _ rfl
    have ko1 : ((w2.alloc (.cells #[.int .i64 a0, .int .i64 a1, .int .i64 a2, .int .i64 a3, .int .i64 a4, .int .i64 a5, .int .i64 a6, .int .i64 a7, .int .i64 a8, .int .i64 a9, .int .i64 a10, .bool true] 27)).alloc (.cells #[.int .i64 ctk, .int .i64 cpx, .int .i64 cpy, .int .i64 cve, .int .i64 cvn, .int .i64 cal, .int .i64 cvs, .int .i64 chd, .int .i64 cca, .int .i64 cfu, .int .i64 cbk, .bool true] 27)).cell? ⟨w2.heap.size + 1, 1, none⟩ = some (.int .i64 cpx) := KO2.out.cell 1 _ rfl
    have ko2 : ((w2.alloc (.cells #[.int .i64 a0, .int .i64 a1, .int .i64 a2, .int .i64 a3, .int .i64 a4, .int .i64 a5, .int .i64 a6, .int .i64 a7, .int .i64 a8, .int .i64 a9, .int .i64 a10, .bool true] 27)).alloc (.cells #[.int .i64 ctk, .int .i64 cpx, .int .i64 cpy, .int .i64 cve, .int .i64 cvn, .int .i64 cal, .int .i64 cvs, .int .i64 chd, .int .i64 cca, .int .i64 cfu, .int .i64 cbk, .bool true] 27)).cell? ⟨w2.heap.size + 1, 2, none⟩ = some (.int .i64 cpy) := KO2.out.cell 2 _ rfl
    have ko5 : ((w2.alloc (.cells #[.int .i64 a0, .int .i64 a1, .int .i64 a2, .int .i64 a3, .int .i64 a4, .int .i64 a5, .int .i64 a6, .int .i64 a7, .int .i64 a8, .int .i64 a9, .int .i64 a10, .bool true] 27)).alloc (.cells #[.int .i64 ctk, .int .i64 cpx, .int .i64 cpy, .int .i64 cve, .int .i64 cvn, .int .i64 cal, .int .i64 cvs, .int .i64 chd, .int .i64 cca, .int .i64 cfu, .int .i64 cbk, .bool true] 27)).cell? ⟨w2.heap.size + 1, 5, none⟩ = some (.int .i64 cal) := KO2.out.cell 5 _ rfl
    have ko8 : ((w2.alloc (.cells #[.int .i64 a0, .int .i64 a1, .int .i64 a2, .int .i64 a3, .int .i64 a4, .int .i64 a5, .int .i64 a6, .int .i64 a7, .int .i64 a8, .int .i64 a9, .int .i64 a10, .bool true] 27)).alloc (.cells #[.int .i64 ctk, .int .i64 cpx, .int .i64 cpy, .int .i64 cve, .int .i64 cvn, .int .i64 cal, .int .i64 cvs, .int .i64 chd, .int .i64 cca, .int .i64 cfu, .int .i64 cbk, .bool true] 27)).cell? ⟨w2.heap.size + 1, 8, none⟩ = some (.int .i64 cca) := KO2.out.cell 8 _ rfl
    have ko9 : ((w2.alloc (.cells #[.int .i64 a0, .int .i64 a1, .int .i64 a2, .int .i64 a3, .int .i64 a4, .int .i64 a5, .int .i64 a6, .int .i64 a7, .int .i64 a8, .int .i64 a9, .int .i64 a10, .bool true] 27)).alloc (.cells #[.int .i64 ctk, .int .i64 cpx, .int .i64 cpy, .int .i64 cve, .int .i64 cvn, .int .i64 cal, .int .i64 cvs, .int .i64 chd, .int .i64 cca, .int .i64 cfu, .int .i64 cbk, .bool true] 27)).cell? ⟨w2.heap.size + 1, 9, none⟩ = some (.int .i64 cfu) := KO2.out.cell 9 _ rfl
    have ko11 : ((w2.alloc (.cells #[.int .i64 a0, .int .i64 a1, .int .i64 a2, .int .i64 a3, .int .i64 a4, .int .i64 a5, .int .i64 a6, .int .i64 a7, .int .i64 a8, .int .i64 a9, .int .i64 a10, .bool true] 27)).alloc (.cells #[.int .i64 ctk, .int .i64 cpx, .int .i64 cpy, .int .i64 cve, .int .i64 cvn, .int .i64 cal, .int .i64 cvs, .int .i64 chd, .int .i64 cca, .int .i64 cfu, .int .i64 cbk, .bool true] 27)).cell? ⟨w2.heap.size + 1, 11, none⟩ = some (.bool true) := KO2.out.cell 11 _ rfl
    go_wp2_with fail
    refine (HVA.out _).mono ?_; rintro e w3 ⟨rfl, hB⟩
    clear k0 k1 k2 k3 k4 k5 k6 k7 k8 k9 k10 k11 kr0 kr1 kr2 kr3 kr4 kr5 kr6 kr7 kr8 kr9 kr10 kr11 ko0 ko1 ko2 ko5 ko8 ko9 ko11
    replace KR2 := Lib.hid (KR2.out.below hB)
    replace KO2 := Lib.hid (KO2.out.below hB)
    replace HB2 := Lib.hid (bel_trans HB2.out hB)
    clear hB KS2
    have kr0 : w3.cell? ⟨w2.heap.size, 0, none⟩ = some (.int .i64 a0) := KR2.out.cell 0 _ rfl
    have kr1 : w3.cell? ⟨w2.heap.size, 1, none⟩ = some (.int .i64 a1) := KR2.out.cell 1 _ rfl
    have kr2 : w3.cell? ⟨w2.heap.size, 2, none⟩ = some (.int .i64 a2) := KR2.out.cell 2 _ rfl
    have kr3 : w3.cell? ⟨w2.heap.size, 3, none⟩ = some (.int .i64 a3) := KR2.out.cell 3 _ rfl
    have kr4 : w3.cell? ⟨w2.heap.size, 4, none⟩ = some (.int .i64 a4) := KR2.out.cell 4 _ rfl
    have kr5 : w3.cell? ⟨w2.heap.size, 5, none⟩ = some (.int .i64 a5) := KR2.out.cell 5 _ rfl
    have kr6 : w3.cell? ⟨w2.heap.size, 6, none⟩ = some (.int .i64 a6) := KR2.out.cell 6 _ rfl
    have kr7 : w3.cell? ⟨w2.heap.size, 7, none⟩ = some (.int .i64 a7) := KR2.out.cell 7 _ rfl
    have kr8 : w3.cell? ⟨w2.heap.size, 8, none⟩ = some (.int .i64 a8) := KR2.out.cell 8 _ rfl
    have kr9 : w3.cell? ⟨w2.heap.size, 9, none⟩ = some (.int .i64 a9) := KR2.out.cell 9 _ rfl
    have kr10 : w3.cell? ⟨w2.heap.size, 10, none⟩ = some (.int .i64 a10) := KR2.out.cell 10 _ rfl
    have kr11 : w3.cell? ⟨w2.heap.size, 11, none⟩ = some (.bool true) := KR2.out.cell 11 _ rfl
    have ko0 : w3.cell? ⟨w2.heap.size + 1, 0, none⟩ = some (.int .i64 ctk) := KO2.out.cell 0 _ rfl
    have ko1 : w3.cell? ⟨w2.heap.size + 1, 1, none⟩ = some (.int .i64 cpx) := KO2.out.cell 1 _ rfl
    have ko2 : w3.cell? ⟨w2.heap.size + 1, 2, none⟩ = some (.int .i64 cpy) := KO2.out.cell 2 _ rfl
    have ko5 : w3.cell? ⟨w2.heap.size + 1, 5, none⟩ = some (.int .i64 cal) := KO2.out.cell 5 _ rfl
    have ko8 : w3.cell? ⟨w2.heap.size + 1, 8, none⟩ = some (.int .i64 cca) := KO2.out.cell 8 _ rfl
    have ko9 : w3.cell? ⟨w2.heap.size + 1, 9, none⟩ = some (.int .i64 cfu) := KO2.out.cell 9 _ rfl
    have ko11 : w3.cell? ⟨w2.heap.size + 1, 11, none⟩ = some (.bool true) := KO2.out.cell 11 _ rfl
    go_wp2_with fail
    refine (HCR.out _).mono ?_; rintro e w4 ⟨rfl, hB⟩
    replace HB2 := Lib.hid (bel_trans HB2.out hB)
    clear hB
    go_wp2_with fail
    go_ret
    exact ⟨ret_bool (by simp), HB2.out⟩
end Go.Proofs.Ytcmdpfdhmbpahaa
namespace Go.Proofs.Ytcmdpfdhmbpahaa.simulatorMoves
open Go.ChangeShapes Go.WideShapes Go.ChangeAt Go.RowKit
open Go.ChangeMaps (open_string shut_string)
set_option linter.unusedVariables false
set_option linter.unusedSimpArgs false

theorem own : ownKnob Try.prog.godebug = none := by kernel_rfl
theorem laidOut : laidOutB Try.prog = true := by kernel_rfl

set_option maxRecDepth 100000 in
theorem lifted (os : Os) (started : os.Started) (H : Type) (enc : TypeId × Value → H) :
    ReturnsInHanded {} Try.checked os 3 .any (Rows.simulatorMovesSpec.pre6 enc Try.prog Try.f3 Rows.simulatorMovesRow.domain false) (Rows.simulatorMovesSpec.post enc Try.prog Try.f3 false true false false) := by
  refine returnsInHanded_of_change (C := Try.checked) own started (by kernel_rfl) Try.func3
    (ChangeSpec.witness6 (enc := enc) (C := Try.checked) false ⟨#[], #[.agg #[.int .i64 0, .int .i64 0, .int .i64 0, .int .i64 0, .int .i64 0, .int .i64 0, .int .i64 0, .int .i64 0, .int .i64 0, .int .i64 0, .int .i64 0, .bool false, .int .i64 0, .int .u8 0, .int .u8 0, .int .u8 0, .int .i64 0, .int .i64 0, .int .i64 0, .int .i64 0, .int .i64 0, .int .i64 0, .slice none 0 0, .int .i64 0, .int .i64 0, .int .u16 0, .bool false, .bool false, .string ⟨#[]⟩, .string ⟨#[]⟩], .agg #[.string ⟨#[]⟩, .int .i64 0, .int .i64 0, .slice none 0 0, .slice none 0 0, .slice none 0 0, .slice none 0 0, .slice none 0 0, .slice none 0 0, .slice none 0 0, .slice none 0 0, .slice none 0 0, .int .i64 0, .int .i64 0, .int .i64 0]], []⟩ 8 (by kernel_rfl) (by kernel_rfl) (by kernel_rfl) (by kernel_rfl)) ?_
  intro W base args ds gs before hval0 hW hcnd _
  have hval : ∀ (j : Nat) t v, Try.f3.params[j]? = some t → args[j]? = some v → Value.okWide Try.prog W .any base t v := hval0
  have hW' := hW
  obtain ⟨p, q, hA0, hV, rfl, hfz, hnd⟩ := hW
  have hA : DataW.TrodAll enc Try.prog W 0 (fun _ => true) true Try.f3.params.toList args.toList ds p := hA0
  rw [Try.params3] at hA hval
  obtain ⟨v0, vs0, d0, ds0, p0, q0, hargs, rfl, rfl, h0, r0⟩ := trodAll_cons hA
  obtain ⟨v1, vs1, d1, ds1, p1, q1, rfl, rfl, rfl, h1, r1⟩ := trodAll_cons r0
  obtain ⟨rfl, rfl, rfl⟩ := trodAll_nil r1
  obtain rfl : args = #[v0, v1] := by cases args; simp_all
  obtain ⟨rfl, rfl⟩ := trodVars_none hV
  have k0 := h0
  have lt0 : ∀ x ∈ p0, x.block < W.heap.size := by obtain ⟨m, hm⟩ := k0; exact DataW.trod_lt m _ _ _ hm
  have k1 := h1
  have lt1 : ∀ x ∈ p1, x.block < W.heap.size := by obtain ⟨m, hm⟩ := k1; exact DataW.trod_lt m _ _ _ hm
  obtain ⟨cs0, fu0, rfl, hh0⟩ := open_agg_list Try.underlying37 (hval 0 37 v0 rfl rfl) h0
  obtain ⟨tk, px, py, ve, vn, al, vs, hd, ca, fu, bk, gr, em, t0, t1, t2, tb, ts, ta, tv, we, wn, E, ne, ce, er, sve, svn, si, th, st, s0, s1, rfl, f0, f1, f2, f3, f4, f5, f6, f7, f8, f9, f10, f11, f12, f13, f14, f15, f16, f17, f18, f19, f20, f21, f22, f23, f24, f25, f26, f27, f28, f29⟩ := op_step _ _ _ hh0
  obtain ⟨cs1, fu1, rfl, hh1⟩ := open_agg_list Try.underlying41 (hval 1 41 v1 rfl rfl) h1
  obtain ⟨pf, rfl, hl, hok, _⟩ := op_prf _ _ _ hh1
  clear hA0 hval0
  refine (Ytcmdpfdhmbpahaa.walk_SimulatorMoves ⟨tk, px, py, ve, vn, al, vs, hd, ca, fu, bk, gr⟩ em t0 t1 t2 tb ts ta tv we wn E ne ce er sve svn si th st s0 s1 pf W (wf_i64_bd f11) f21 f23 hl hok).mono fun e W' ⟨he, bel⟩ => ?_
  subst he
  exact ⟨_, rfl, _, _, _, [], _, [], hW', trodAll_mk1 (shut_bool Try.underlying4 _), (trodAll_cons_mk (Below.trod laidOut (by kernel_rfl) (of_decide_eq_true (by kernel_rfl)) k0 bel lt0) (trodAll_cons_mk (Below.trod laidOut (by kernel_rfl) (of_decide_eq_true (by kernel_rfl)) k1 bel lt1) trodAll_mk0)), rfl, bel.frame _, fun h => by cases h⟩

theorem over : Rows.simulatorMovesRow.holds Try.pinned (OpenSpec.ofChange Rows.simulatorMovesSpec) :=
  OpenClaim.holds_of_wide 3 Try.f3 rfl rfl rfl rfl rfl rfl rfl ⟨rfl, rfl, rfl, rfl, rfl⟩ rfl rfl rfl rfl rfl (by kernel_rfl) Try.func3 (by kernel_rfl)
    (of_decide_eq_true (by kernel_rfl)) (by unfold Func.isWrapper; first | (rw [if_pos (by decide +kernel)]; kernel_rfl) | (rw [if_neg (by decide +kernel)]; exact ⟨rfl, rfl⟩))
    (fun os started H enc _ => lifted os started H enc)

/-- the statement -/
theorem proved : Rows.SimulatorMovesSaid := over
end Go.Proofs.Ytcmdpfdhmbpahaa.simulatorMoves
