/- The statement SimulatorFlies: for every input the law returns true, and every argument reads afterwards as before. No condition. -/
import Derived.Test.YtcmdpfdhmbpahaaGreatRows
import Derived.Test.YtcmdpfdhmbpahaaGreatLaBase59
import Derived.Test.YtcmdpfdhmbpahaaGreatOpenFly
import Derived.Test.YtcmdpfdhmbpahaaGreatFly
import Derived.Test.YtcmdpfdhmbpahaaGreatFlyR
import Derived.WalkKit
import Derived.ProofKit
import Derived.OpenShut
import Derived.ShutString
import Derived.ChangeOld
import Derived.Below
namespace Go.Proofs.YtcmdpfdhmbpahaaGreat
set_option linter.unusedSimpArgs false
set_option linter.unusedVariables false
open Go.RowKit
set_option maxRecDepth 100000 in
set_option maxHeartbeats 4000000 in
theorem walk_SimulatorFlies (c : Cr) (em t0 t1 t2 tb ts ta tv we wn : Int) (E : Option Addr) (ne ce : Nat) (er : List (Int × Int)) (se sn si : Int) (th st : Bool) (s0 s1 : ByteArray) (p : Prf) (w : World) (hem : I64 em) (hne : ne ≤ maxLen) (he : Recs er2 2 w E ne er) (hl : p.lies w) (hok : p.ok) :
    Calls Tryz.prog 3 #[.agg #[.int .i64 c.tk, .int .i64 c.px, .int .i64 c.py, .int .i64 c.ve, .int .i64 c.vn, .int .i64 c.al, .int .i64 c.vs, .int .i64 c.hd, .int .i64 c.ca, .int .i64 c.fu, .int .i64 c.bk, .bool c.gr, .int .i64 em, .int .u8 t0, .int .u8 t1, .int .u8 t2, .int .i64 tb, .int .i64 ts, .int .i64 ta, .int .i64 tv, .int .i64 we, .int .i64 wn, .slice E ne ce, .int .i64 se, .int .i64 sn, .int .u16 si, .bool th, .bool st, .string s0, .string s1], .agg p.cells.toArray] w fun e w' => e = .returned (.bool true) ∧ Below w.heap.size w w' := by
  have HX := Lib.hid (fun w' hB => xFly c p em t0 t1 t2 tb ts ta tv we wn E ne ce er se sn si th st s0 s1 w' (hl.below (w' := w') hB) hok (he.below (w' := w') hB) hne hem)
  have HR := Lib.hid (fun w' hB => rFly c p em t0 t1 t2 tb ts ta tv we wn E ne ce er se sn si th st s0 s1 w' (hl.below (w' := w') hB) hok (he.below (w' := w') hB) hne hem)
  clear hl hok he
  generalize flR c p em tb ts tv we wn se sn er s0 s1 = RC at *
  generalize flE c p em tb ts tv we wn se sn er s0 s1 = RE at *
  obtain ⟨a0, a1, a2, a3, a4, a5, a6, a7, a8, a9, a10, a11⟩ := RC
  have e1 : (RE == RE) = true := beq_self_eq_true RE
  simp only [Cr.cells] at HX HR
  go_enter Tryz.func3, Tryz.ntmps3
  go_wp2_with fail
  refine (awake_any _).mono ?_; rintro e w1 ⟨rfl, hB⟩
  have KS : Hid (Has w1 w.heap.size [.int .i64 c.tk, .int .i64 c.px, .int .i64 c.py, .int .i64 c.ve, .int .i64 c.vn, .int .i64 c.al, .int .i64 c.vs, .int .i64 c.hd, .int .i64 c.ca, .int .i64 c.fu, .int .i64 c.bk, .bool c.gr, .int .i64 em, .int .u8 t0, .int .u8 t1, .int .u8 t2, .int .i64 tb, .int .i64 ts, .int .i64 ta, .int .i64 tv, .int .i64 we, .int .i64 wn, .slice E ne ce, .int .i64 se, .int .i64 sn, .int .u16 si, .bool th, .bool st, .string s0, .string s1]) := Lib.hid (((Has.new w _ _).alloc _).below hB)
  have KP : Hid (Has w1 (w.heap.size + 1) p.cells) := Lib.hid ((Has.newAt (w.alloc _) _ _ (w.heap.size + 1) (by simp)).below hB)
  have HB := Lib.hid (bel_alloc2 hB)
  clear hB
  have k0 : w1.cell? ⟨w.heap.size, 0, none⟩ = some (.int .i64 c.tk) := KS.out.cell 0 _ rfl
  have k1 : w1.cell? ⟨w.heap.size, 1, none⟩ = some (.int .i64 c.px) := KS.out.cell 1 _ rfl
  have k2 : w1.cell? ⟨w.heap.size, 2, none⟩ = some (.int .i64 c.py) := KS.out.cell 2 _ rfl
  have k3 : w1.cell? ⟨w.heap.size, 3, none⟩ = some (.int .i64 c.ve) := KS.out.cell 3 _ rfl
  have k4 : w1.cell? ⟨w.heap.size, 4, none⟩ = some (.int .i64 c.vn) := KS.out.cell 4 _ rfl
  have k5 : w1.cell? ⟨w.heap.size, 5, none⟩ = some (.int .i64 c.al) := KS.out.cell 5 _ rfl
  have k6 : w1.cell? ⟨w.heap.size, 6, none⟩ = some (.int .i64 c.vs) := KS.out.cell 6 _ rfl
  have k7 : w1.cell? ⟨w.heap.size, 7, none⟩ = some (.int .i64 c.hd) := KS.out.cell 7 _ rfl
  have k8 : w1.cell? ⟨w.heap.size, 8, none⟩ = some (.int .i64 c.ca) := KS.out.cell 8 _ rfl
  have k9 : w1.cell? ⟨w.heap.size, 9, none⟩ = some (.int .i64 c.fu) := KS.out.cell 9 _ rfl
  have k10 : w1.cell? ⟨w.heap.size, 10, none⟩ = some (.int .i64 c.bk) := KS.out.cell 10 _ rfl
  have k11 : w1.cell? ⟨w.heap.size, 11, none⟩ = some (.bool c.gr) := KS.out.cell 11 _ rfl
  have k12 : w1.cell? ⟨w.heap.size, 12, none⟩ = some (.int .i64 em) := KS.out.cell 12 _ rfl
  have k13 : w1.cell? ⟨w.heap.size, 13, none⟩ = some (.int .u8 t0) := KS.out.cell 13 _ rfl
  have k14 : w1.cell? ⟨w.heap.size, 14, none⟩ = some (.int .u8 t1) := KS.out.cell 14 _ rfl
  have k15 : w1.cell? ⟨w.heap.size, 15, none⟩ = some (.int .u8 t2) := KS.out.cell 15 _ rfl
  have k16 : w1.cell? ⟨w.heap.size, 16, none⟩ = some (.int .i64 tb) := KS.out.cell 16 _ rfl
  have k17 : w1.cell? ⟨w.heap.size, 17, none⟩ = some (.int .i64 ts) := KS.out.cell 17 _ rfl
  have k18 : w1.cell? ⟨w.heap.size, 18, none⟩ = some (.int .i64 ta) := KS.out.cell 18 _ rfl
  have k19 : w1.cell? ⟨w.heap.size, 19, none⟩ = some (.int .i64 tv) := KS.out.cell 19 _ rfl
  have k20 : w1.cell? ⟨w.heap.size, 20, none⟩ = some (.int .i64 we) := KS.out.cell 20 _ rfl
  have k21 : w1.cell? ⟨w.heap.size, 21, none⟩ = some (.int .i64 wn) := KS.out.cell 21 _ rfl
  have k22 : w1.cell? ⟨w.heap.size, 22, none⟩ = some (.slice E ne ce) := KS.out.cell 22 _ rfl
  have k23 : w1.cell? ⟨w.heap.size, 23, none⟩ = some (.int .i64 se) := KS.out.cell 23 _ rfl
  have k24 : w1.cell? ⟨w.heap.size, 24, none⟩ = some (.int .i64 sn) := KS.out.cell 24 _ rfl
  have k25 : w1.cell? ⟨w.heap.size, 25, none⟩ = some (.int .u16 si) := KS.out.cell 25 _ rfl
  have k26 : w1.cell? ⟨w.heap.size, 26, none⟩ = some (.bool th) := KS.out.cell 26 _ rfl
  have k27 : w1.cell? ⟨w.heap.size, 27, none⟩ = some (.bool st) := KS.out.cell 27 _ rfl
  have k28 : w1.cell? ⟨w.heap.size, 28, none⟩ = some (.string s0) := KS.out.cell 28 _ rfl
  have k29 : w1.cell? ⟨w.heap.size, 29, none⟩ = some (.string s1) := KS.out.cell 29 _ rfl
  go_wp2_with (refine at_prf (.tmp 3) rfl rfl rfl KP.out ?_)
  refine (HX.out _ HB.out).mono ?_; rintro e w2 ⟨rfl, hB⟩
  clear k0 k1 k2 k3 k4 k5 k6 k7 k8 k9 k10 k11 k12 k13 k14 k15 k16 k17 k18 k19 k20 k21 k22 k23 k24 k25 k26 k27 k28 k29
  replace KS := Lib.hid (KS.out.below hB)
  replace KP := Lib.hid (KP.out.below hB)
  replace HB := Lib.hid (bel_trans HB.out hB)
  clear hB
  have KR : Hid (Has (w2.alloc (.cells #[.int .i64 a0, .int .i64 a1, .int .i64 a2, .int .i64 a3, .int .i64 a4, .int .i64 a5, .int .i64 a6, .int .i64 a7, .int .i64 a8, .int .i64 a9, .int .i64 a10, .bool a11] 27)) w2.heap.size [.int .i64 a0, .int .i64 a1, .int .i64 a2, .int .i64 a3, .int .i64 a4, .int .i64 a5, .int .i64 a6, .int .i64 a7, .int .i64 a8, .int .i64 a9, .int .i64 a10, .bool a11]) := Lib.hid (Has.new w2 _ _)
  replace KS := Lib.hid (KS.out.alloc (.cells #[.int .i64 a0, .int .i64 a1, .int .i64 a2, .int .i64 a3, .int .i64 a4, .int .i64 a5, .int .i64 a6, .int .i64 a7, .int .i64 a8, .int .i64 a9, .int .i64 a10, .bool a11] 27))
  replace KP := Lib.hid (KP.out.alloc (.cells #[.int .i64 a0, .int .i64 a1, .int .i64 a2, .int .i64 a3, .int .i64 a4, .int .i64 a5, .int .i64 a6, .int .i64 a7, .int .i64 a8, .int .i64 a9, .int .i64 a10, .bool a11] 27))
  replace HB := Lib.hid (bel_alloc1 HB.out (.cells #[.int .i64 a0, .int .i64 a1, .int .i64 a2, .int .i64 a3, .int .i64 a4, .int .i64 a5, .int .i64 a6, .int .i64 a7, .int .i64 a8, .int .i64 a9, .int .i64 a10, .bool a11] 27))
  have k0 : (w2.alloc (.cells #[.int .i64 a0, .int .i64 a1, .int .i64 a2, .int .i64 a3, .int .i64 a4, .int .i64 a5, .int .i64 a6, .int .i64 a7, .int .i64 a8, .int .i64 a9, .int .i64 a10, .bool a11] 27)).cell? ⟨w.heap.size, 0, none⟩ = some (.int .i64 c.tk) := KS.out.cell 0 _ rfl
  have k1 : (w2.alloc (.cells #[.int .i64 a0, .int .i64 a1, .int .i64 a2, .int .i64 a3, .int .i64 a4, .int .i64 a5, .int .i64 a6, .int .i64 a7, .int .i64 a8, .int .i64 a9, .int .i64 a10, .bool a11] 27)).cell? ⟨w.heap.size, 1, none⟩ = some (.int .i64 c.px) := KS.out.cell 1 _ rfl
  have k2 : (w2.alloc (.cells #[.int .i64 a0, .int .i64 a1, .int .i64 a2, .int .i64 a3, .int .i64 a4, .int .i64 a5, .int .i64 a6, .int .i64 a7, .int .i64 a8, .int .i64 a9, .int .i64 a10, .bool a11] 27)).cell? ⟨w.heap.size, 2, none⟩ = some (.int .i64 c.py) := KS.out.cell 2 _ rfl
  have k3 : (w2.alloc (.cells #[.int .i64 a0, .int .i64 a1, .int .i64 a2, .int .i64 a3, .int .i64 a4, .int .i64 a5, .int .i64 a6, .int .i64 a7, .int .i64 a8, .int .i64 a9, .int .i64 a10, .bool a11] 27)).cell? ⟨w.heap.size, 3, none⟩ = some (.int .i64 c.ve) := KS.out.cell 3 _ rfl
  have k4 : (w2.alloc (.cells #[.int .i64 a0, .int .i64 a1, .int .i64 a2, .int .i64 a3, .int .i64 a4, .int .i64 a5, .int .i64 a6, .int .i64 a7, .int .i64 a8, .int .i64 a9, .int .i64 a10, .bool a11] 27)).cell? ⟨w.heap.size, 4, none⟩ = some (.int .i64 c.vn) := KS.out.cell 4 _ rfl
  have k5 : (w2.alloc (.cells #[.int .i64 a0, .int .i64 a1, .int .i64 a2, .int .i64 a3, .int .i64 a4, .int .i64 a5, .int .i64 a6, .int .i64 a7, .int .i64 a8, .int .i64 a9, .int .i64 a10, .bool a11] 27)).cell? ⟨w.heap.size, 5, none⟩ = some (.int .i64 c.al) := KS.out.cell 5 _ rfl
  have k6 : (w2.alloc (.cells #[.int .i64 a0, .int .i64 a1, .int .i64 a2, .int .i64 a3, .int .i64 a4, .int .i64 a5, .int .i64 a6, .int .i64 a7, .int .i64 a8, .int .i64 a9, .int .i64 a10, .bool a11] 27)).cell? ⟨w.heap.size, 6, none⟩ = some (.int .i64 c.vs) := KS.out.cell 6 _ rfl
  have k7 : (w2.alloc (.cells #[.int .i64 a0, .int .i64 a1, .int .i64 a2, .int .i64 a3, .int .i64 a4, .int .i64 a5, .int .i64 a6, .int .i64 a7, .int .i64 a8, .int .i64 a9, .int .i64 a10, .bool a11] 27)).cell? ⟨w.heap.size, 7, none⟩ = some (.int .i64 c.hd) := KS.out.cell 7 _ rfl
  have k8 : (w2.alloc (.cells #[.int .i64 a0, .int .i64 a1, .int .i64 a2, .int .i64 a3, .int .i64 a4, .int .i64 a5, .int .i64 a6, .int .i64 a7, .int .i64 a8, .int .i64 a9, .int .i64 a10, .bool a11] 27)).cell? ⟨w.heap.size, 8, none⟩ = some (.int .i64 c.ca) := KS.out.cell 8 _ rfl
  have k9 : (w2.alloc (.cells #[.int .i64 a0, .int .i64 a1, .int .i64 a2, .int .i64 a3, .int .i64 a4, .int .i64 a5, .int .i64 a6, .int .i64 a7, .int .i64 a8, .int .i64 a9, .int .i64 a10, .bool a11] 27)).cell? ⟨w.heap.size, 9, none⟩ = some (.int .i64 c.fu) := KS.out.cell 9 _ rfl
  have k10 : (w2.alloc (.cells #[.int .i64 a0, .int .i64 a1, .int .i64 a2, .int .i64 a3, .int .i64 a4, .int .i64 a5, .int .i64 a6, .int .i64 a7, .int .i64 a8, .int .i64 a9, .int .i64 a10, .bool a11] 27)).cell? ⟨w.heap.size, 10, none⟩ = some (.int .i64 c.bk) := KS.out.cell 10 _ rfl
  have k11 : (w2.alloc (.cells #[.int .i64 a0, .int .i64 a1, .int .i64 a2, .int .i64 a3, .int .i64 a4, .int .i64 a5, .int .i64 a6, .int .i64 a7, .int .i64 a8, .int .i64 a9, .int .i64 a10, .bool a11] 27)).cell? ⟨w.heap.size, 11, none⟩ = some (.bool c.gr) := KS.out.cell 11 _ rfl
  have k12 : (w2.alloc (.cells #[.int .i64 a0, .int .i64 a1, .int .i64 a2, .int .i64 a3, .int .i64 a4, .int .i64 a5, .int .i64 a6, .int .i64 a7, .int .i64 a8, .int .i64 a9, .int .i64 a10, .bool a11] 27)).cell? ⟨w.heap.size, 12, none⟩ = some (.int .i64 em) := KS.out.cell 12 _ rfl
  have k13 : (w2.alloc (.cells #[.int .i64 a0, .int .i64 a1, .int .i64 a2, .int .i64 a3, .int .i64 a4, .int .i64 a5, .int .i64 a6, .int .i64 a7, .int .i64 a8, .int .i64 a9, .int .i64 a10, .bool a11] 27)).cell? ⟨w.heap.size, 13, none⟩ = some (.int .u8 t0) := KS.out.cell 13 _ rfl
  have k14 : (w2.alloc (.cells #[.int .i64 a0, .int .i64 a1, .int .i64 a2, .int .i64 a3, .int .i64 a4, .int .i64 a5, .int .i64 a6, .int .i64 a7, .int .i64 a8, .int .i64 a9, .int .i64 a10, .bool a11] 27)).cell? ⟨w.heap.size, 14, none⟩ = some (.int .u8 t1) := KS.out.cell 14 _ rfl
  have k15 : (w2.alloc (.cells #[.int .i64 a0, .int .i64 a1, .int .i64 a2, .int .i64 a3, .int .i64 a4, .int .i64 a5, .int .i64 a6, .int .i64 a7, .int .i64 a8, .int .i64 a9, .int .i64 a10, .bool a11] 27)).cell? ⟨w.heap.size, 15, none⟩ = some (.int .u8 t2) := KS.out.cell 15 _ rfl
  have k16 : (w2.alloc (.cells #[.int .i64 a0, .int .i64 a1, .int .i64 a2, .int .i64 a3, .int .i64 a4, .int .i64 a5, .int .i64 a6, .int .i64 a7, .int .i64 a8, .int .i64 a9, .int .i64 a10, .bool a11] 27)).cell? ⟨w.heap.size, 16, none⟩ = some (.int .i64 tb) := KS.out.cell 16 _ rfl
  have k17 : (w2.alloc (.cells #[.int .i64 a0, .int .i64 a1, .int .i64 a2, .int .i64 a3, .int .i64 a4, .int .i64 a5, .int .i64 a6, .int .i64 a7, .int .i64 a8, .int .i64 a9, .int .i64 a10, .bool a11] 27)).cell? ⟨w.heap.size, 17, none⟩ = some (.int .i64 ts) := KS.out.cell 17 _ rfl
  have k18 : (w2.alloc (.cells #[.int .i64 a0, .int .i64 a1, .int .i64 a2, .int .i64 a3, .int .i64 a4, .int .i64 a5, .int .i64 a6, .int .i64 a7, .int .i64 a8, .int .i64 a9, .int .i64 a10, .bool a11] 27)).cell? ⟨w.heap.size, 18, none⟩ = some (.int .i64 ta) := KS.out.cell 18 _ rfl
  have k19 : (w2.alloc (.cells #[.int .i64 a0, .int .i64 a1, .int .i64 a2, .int .i64 a3, .int .i64 a4, .int .i64 a5, .int .i64 a6, .int .i64 a7, .int .i64 a8, .int .i64 a9, .int .i64 a10, .bool a11] 27)).cell? ⟨w.heap.size, 19, none⟩ = some (.int .i64 tv) := KS.out.cell 19 _ rfl
  have k20 : (w2.alloc (.cells #[.int .i64 a0, .int .i64 a1, .int .i64 a2, .int .i64 a3, .int .i64 a4, .int .i64 a5, .int .i64 a6, .int .i64 a7, .int .i64 a8, .int .i64 a9, .int .i64 a10, .bool a11] 27)).cell? ⟨w.heap.size, 20, none⟩ = some (.int .i64 we) := KS.out.cell 20 _ rfl
  have k21 : (w2.alloc (.cells #[.int .i64 a0, .int .i64 a1, .int .i64 a2, .int .i64 a3, .int .i64 a4, .int .i64 a5, .int .i64 a6, .int .i64 a7, .int .i64 a8, .int .i64 a9, .int .i64 a10, .bool a11] 27)).cell? ⟨w.heap.size, 21, none⟩ = some (.int .i64 wn) := KS.out.cell 21 _ rfl
  have k22 : (w2.alloc (.cells #[.int .i64 a0, .int .i64 a1, .int .i64 a2, .int .i64 a3, .int .i64 a4, .int .i64 a5, .int .i64 a6, .int .i64 a7, .int .i64 a8, .int .i64 a9, .int .i64 a10, .bool a11] 27)).cell? ⟨w.heap.size, 22, none⟩ = some (.slice E ne ce) := KS.out.cell 22 _ rfl
  have k23 : (w2.alloc (.cells #[.int .i64 a0, .int .i64 a1, .int .i64 a2, .int .i64 a3, .int .i64 a4, .int .i64 a5, .int .i64 a6, .int .i64 a7, .int .i64 a8, .int .i64 a9, .int .i64 a10, .bool a11] 27)).cell? ⟨w.heap.size, 23, none⟩ = some (.int .i64 se) := KS.out.cell 23 _ rfl
  have k24 : (w2.alloc (.cells #[.int .i64 a0, .int .i64 a1, .int .i64 a2, .int .i64 a3, .int .i64 a4, .int .i64 a5, .int .i64 a6, .int .i64 a7, .int .i64 a8, .int .i64 a9, .int .i64 a10, .bool a11] 27)).cell? ⟨w.heap.size, 24, none⟩ = some (.int .i64 sn) := KS.out.cell 24 _ rfl
  have k25 : (w2.alloc (.cells #[.int .i64 a0, .int .i64 a1, .int .i64 a2, .int .i64 a3, .int .i64 a4, .int .i64 a5, .int .i64 a6, .int .i64 a7, .int .i64 a8, .int .i64 a9, .int .i64 a10, .bool a11] 27)).cell? ⟨w.heap.size, 25, none⟩ = some (.int .u16 si) := KS.out.cell 25 _ rfl
  have k26 : (w2.alloc (.cells #[.int .i64 a0, .int .i64 a1, .int .i64 a2, .int .i64 a3, .int .i64 a4, .int .i64 a5, .int .i64 a6, .int .i64 a7, .int .i64 a8, .int .i64 a9, .int .i64 a10, .bool a11] 27)).cell? ⟨w.heap.size, 26, none⟩ = some (.bool th) := KS.out.cell 26 _ rfl
  have k27 : (w2.alloc (.cells #[.int .i64 a0, .int .i64 a1, .int .i64 a2, .int .i64 a3, .int .i64 a4, .int .i64 a5, .int .i64 a6, .int .i64 a7, .int .i64 a8, .int .i64 a9, .int .i64 a10, .bool a11] 27)).cell? ⟨w.heap.size, 27, none⟩ = some (.bool st) := KS.out.cell 27 _ rfl
  have k28 : (w2.alloc (.cells #[.int .i64 a0, .int .i64 a1, .int .i64 a2, .int .i64 a3, .int .i64 a4, .int .i64 a5, .int .i64 a6, .int .i64 a7, .int .i64 a8, .int .i64 a9, .int .i64 a10, .bool a11] 27)).cell? ⟨w.heap.size, 28, none⟩ = some (.string s0) := KS.out.cell 28 _ rfl
  have k29 : (w2.alloc (.cells #[.int .i64 a0, .int .i64 a1, .int .i64 a2, .int .i64 a3, .int .i64 a4, .int .i64 a5, .int .i64 a6, .int .i64 a7, .int .i64 a8, .int .i64 a9, .int .i64 a10, .bool a11] 27)).cell? ⟨w.heap.size, 29, none⟩ = some (.string s1) := KS.out.cell 29 _ rfl
  go_wp2_with (refine at_prf (.tmp 3) rfl rfl rfl KP.out ?_)
  refine (HR.out _ HB.out).mono ?_; rintro e w3 ⟨rfl, hB⟩
  clear k0 k1 k2 k3 k4 k5 k6 k7 k8 k9 k10 k11 k12 k13 k14 k15 k16 k17 k18 k19 k20 k21 k22 k23 k24 k25 k26 k27 k28 k29
  replace KR := Lib.hid (KR.out.below hB)
  replace HB := Lib.hid (bel_trans HB.out hB)
  clear hB
  have KR2 : Hid (Has (w3.alloc (.cells #[.int .i64 a0, .int .i64 a1, .int .i64 a2, .int .i64 a3, .int .i64 a4, .int .i64 a5, .int .i64 a6, .int .i64 a7, .int .i64 a8, .int .i64 a9, .int .i64 a10, .bool a11] 27)) w2.heap.size [.int .i64 a0, .int .i64 a1, .int .i64 a2, .int .i64 a3, .int .i64 a4, .int .i64 a5, .int .i64 a6, .int .i64 a7, .int .i64 a8, .int .i64 a9, .int .i64 a10, .bool a11]) := Lib.hid (KR.out.alloc _)
  have kr0 : (w3.alloc (.cells #[.int .i64 a0, .int .i64 a1, .int .i64 a2, .int .i64 a3, .int .i64 a4, .int .i64 a5, .int .i64 a6, .int .i64 a7, .int .i64 a8, .int .i64 a9, .int .i64 a10, .bool a11] 27)).cell? ⟨w2.heap.size, 0, none⟩ = some (.int .i64 a0) := KR2.out.cell 0 _ rfl
  have kr1 : (w3.alloc (.cells #[.int .i64 a0, .int .i64 a1, .int .i64 a2, .int .i64 a3, .int .i64 a4, .int .i64 a5, .int .i64 a6, .int .i64 a7, .int .i64 a8, .int .i64 a9, .int .i64 a10, .bool a11] 27)).cell? ⟨w2.heap.size, 1, none⟩ = some (.int .i64 a1) := KR2.out.cell 1 _ rfl
  have kr2 : (w3.alloc (.cells #[.int .i64 a0, .int .i64 a1, .int .i64 a2, .int .i64 a3, .int .i64 a4, .int .i64 a5, .int .i64 a6, .int .i64 a7, .int .i64 a8, .int .i64 a9, .int .i64 a10, .bool a11] 27)).cell? ⟨w2.heap.size, 2, none⟩ = some (.int .i64 a2) := KR2.out.cell 2 _ rfl
  have kr3 : (w3.alloc (.cells #[.int .i64 a0, .int .i64 a1, .int .i64 a2, .int .i64 a3, .int .i64 a4, .int .i64 a5, .int .i64 a6, .int .i64 a7, .int .i64 a8, .int .i64 a9, .int .i64 a10, .bool a11] 27)).cell? ⟨w2.heap.size, 3, none⟩ = some (.int .i64 a3) := KR2.out.cell 3 _ rfl
  have kr4 : (w3.alloc (.cells #[.int .i64 a0, .int .i64 a1, .int .i64 a2, .int .i64 a3, .int .i64 a4, .int .i64 a5, .int .i64 a6, .int .i64 a7, .int .i64 a8, .int .i64 a9, .int .i64 a10, .bool a11] 27)).cell? ⟨w2.heap.size, 4, none⟩ = some (.int .i64 a4) := KR2.out.cell 4 _ rfl
  have kr5 : (w3.alloc (.cells #[.int .i64 a0, .int .i64 a1, .int .i64 a2, .int .i64 a3, .int .i64 a4, .int .i64 a5, .int .i64 a6, .int .i64 a7, .int .i64 a8, .int .i64 a9, .int .i64 a10, .bool a11] 27)).cell? ⟨w2.heap.size, 5, none⟩ = some (.int .i64 a5) := KR2.out.cell 5 _ rfl
  have kr6 : (w3.alloc (.cells #[.int .i64 a0, .int .i64 a1, .int .i64 a2, .int .i64 a3, .int .i64 a4, .int .i64 a5, .int .i64 a6, .int .i64 a7, .int .i64 a8, .int .i64 a9, .int .i64 a10, .bool a11] 27)).cell? ⟨w2.heap.size, 6, none⟩ = some (.int .i64 a6) := KR2.out.cell 6 _ rfl
  have kr7 : (w3.alloc (.cells #[.int .i64 a0, .int .i64 a1, .int .i64 a2, .int .i64 a3, .int .i64 a4, .int .i64 a5, .int .i64 a6, .int .i64 a7, .int .i64 a8, .int .i64 a9, .int .i64 a10, .bool a11] 27)).cell? ⟨w2.heap.size, 7, none⟩ = some (.int .i64 a7) := KR2.out.cell 7 _ rfl
  have kr8 : (w3.alloc (.cells #[.int .i64 a0, .int .i64 a1, .int .i64 a2, .int .i64 a3, .int .i64 a4, .int .i64 a5, .int .i64 a6, .int .i64 a7, .int .i64 a8, .int .i64 a9, .int .i64 a10, .bool a11] 27)).cell? ⟨w2.heap.size, 8, none⟩ = some (.int .i64 a8) := KR2.out.cell 8 _ rfl
  have kr9 : (w3.alloc (.cells #[.int .i64 a0, .int .i64 a1, .int .i64 a2, .int .i64 a3, .int .i64 a4, .int .i64 a5, .int .i64 a6, .int .i64 a7, .int .i64 a8, .int .i64 a9, .int .i64 a10, .bool a11] 27)).cell? ⟨w2.heap.size, 9, none⟩ = some (.int .i64 a9) := KR2.out.cell 9 _ rfl
  have kr10 : (w3.alloc (.cells #[.int .i64 a0, .int .i64 a1, .int .i64 a2, .int .i64 a3, .int .i64 a4, .int .i64 a5, .int .i64 a6, .int .i64 a7, .int .i64 a8, .int .i64 a9, .int .i64 a10, .bool a11] 27)).cell? ⟨w2.heap.size, 10, none⟩ = some (.int .i64 a10) := KR2.out.cell 10 _ rfl
  have kr11 : (w3.alloc (.cells #[.int .i64 a0, .int .i64 a1, .int .i64 a2, .int .i64 a3, .int .i64 a4, .int .i64 a5, .int .i64 a6, .int .i64 a7, .int .i64 a8, .int .i64 a9, .int .i64 a10, .bool a11] 27)).cell? ⟨w2.heap.size, 11, none⟩ = some (.bool a11) := KR2.out.cell 11 _ rfl
  go_wp2_with fail
  go_ret
  exact ⟨ret_bool (by simp), bel_alloc1 HB.out _⟩
end Go.Proofs.YtcmdpfdhmbpahaaGreat
namespace Go.Proofs.YtcmdpfdhmbpahaaGreat.simulatorFlies
open Go.ChangeShapes Go.WideShapes Go.ChangeAt Go.RowKit
open Go.ChangeMaps (open_string shut_string)
set_option linter.unusedVariables false
set_option linter.unusedSimpArgs false

theorem own : ownKnob Tryz.prog.godebug = none := by kernel_rfl
theorem laidOut : laidOutB Tryz.prog = true := by kernel_rfl

set_option maxRecDepth 100000 in
theorem lifted (os : Os) (started : os.Started) (H : Type) (enc : TypeId × Value → H) :
    ReturnsInHanded {} Tryz.checked os 3 .any (Rows.simulatorFliesSpec.pre6 enc Tryz.prog Tryz.f3 Rows.simulatorFliesRow.domain false) (Rows.simulatorFliesSpec.post enc Tryz.prog Tryz.f3 false true false false) := by
  refine returnsInHanded_of_change (C := Tryz.checked) own started (by kernel_rfl) Tryz.func3
    (ChangeSpec.witness6 (enc := enc) (C := Tryz.checked) false ⟨#[], #[.agg #[.int .i64 0, .int .i64 0, .int .i64 0, .int .i64 0, .int .i64 0, .int .i64 0, .int .i64 0, .int .i64 0, .int .i64 0, .int .i64 0, .int .i64 0, .bool false, .int .i64 0, .int .u8 0, .int .u8 0, .int .u8 0, .int .i64 0, .int .i64 0, .int .i64 0, .int .i64 0, .int .i64 0, .int .i64 0, .slice none 0 0, .int .i64 0, .int .i64 0, .int .u16 0, .bool false, .bool false, .string ⟨#[]⟩, .string ⟨#[]⟩], .agg #[.string ⟨#[]⟩, .int .i64 0, .int .i64 0, .slice none 0 0, .slice none 0 0, .slice none 0 0, .slice none 0 0, .slice none 0 0, .slice none 0 0, .slice none 0 0, .slice none 0 0, .slice none 0 0, .int .i64 0, .int .i64 0, .int .i64 0]], []⟩ 8 (by kernel_rfl) (by kernel_rfl) (by kernel_rfl) (by kernel_rfl)) ?_
  intro W base args ds gs before hval0 hW hcnd _
  have hval : ∀ (j : Nat) t v, Tryz.f3.params[j]? = some t → args[j]? = some v → Value.okWide Tryz.prog W .any base t v := hval0
  have hW' := hW
  obtain ⟨p, q, hA0, hV, rfl, hfz, hnd⟩ := hW
  have hA : DataW.TrodAll enc Tryz.prog W 0 (fun _ => true) true Tryz.f3.params.toList args.toList ds p := hA0
  rw [Tryz.params3] at hA hval
  obtain ⟨v0, vs0, d0, ds0, p0, q0, hargs, rfl, rfl, h0, r0⟩ := trodAll_cons hA
  obtain ⟨v1, vs1, d1, ds1, p1, q1, rfl, rfl, rfl, h1, r1⟩ := trodAll_cons r0
  obtain ⟨rfl, rfl, rfl⟩ := trodAll_nil r1
  obtain rfl : args = #[v0, v1] := by cases args; simp_all
  obtain ⟨rfl, rfl⟩ := trodVars_none hV
  have k0 := h0
  have lt0 : ∀ x ∈ p0, x.block < W.heap.size := by obtain ⟨m, hm⟩ := k0; exact DataW.trod_lt m _ _ _ hm
  have k1 := h1
  have lt1 : ∀ x ∈ p1, x.block < W.heap.size := by obtain ⟨m, hm⟩ := k1; exact DataW.trod_lt m _ _ _ hm
  obtain ⟨cs0, fu0, rfl, hh0⟩ := open_agg_list Tryz.underlying37 (hval 0 37 v0 rfl rfl) h0
  obtain ⟨tk, px, py, ve, vn, al, vs, hd, ca, fu, bk, gr, em, t0, t1, t2, tb, ts, ta, tv, we, wn, E, ne, ce, er, sve, svn, si, th, st, s0, s1, rfl, f0, f1, f2, f3, f4, f5, f6, f7, f8, f9, f10, f11, f12, f13, f14, f15, f16, f17, f18, f19, f20, f21, f22, f23, f24, f25, f26, f27, f28, f29⟩ := op_step _ _ _ hh0
  obtain ⟨cs1, fu1, rfl, hh1⟩ := open_agg_list Tryz.underlying41 (hval 1 41 v1 rfl rfl) h1
  obtain ⟨pf, rfl, hl, hok, _⟩ := op_prf _ _ _ hh1
  clear hA0 hval0
  refine (YtcmdpfdhmbpahaaGreat.walk_SimulatorFlies ⟨tk, px, py, ve, vn, al, vs, hd, ca, fu, bk, gr⟩ em t0 t1 t2 tb ts ta tv we wn E ne ce er sve svn si th st s0 s1 pf W (wf_i64_bd f11) f21 f23 hl hok).mono fun e W' ⟨he, bel⟩ => ?_
  subst he
  exact ⟨_, rfl, _, _, _, [], _, [], hW', trodAll_mk1 (shut_bool Tryz.underlying4 _), (trodAll_cons_mk (Below.trod laidOut (by kernel_rfl) (of_decide_eq_true (by kernel_rfl)) k0 bel lt0) (trodAll_cons_mk (Below.trod laidOut (by kernel_rfl) (of_decide_eq_true (by kernel_rfl)) k1 bel lt1) trodAll_mk0)), rfl, bel.frame _, fun h => by cases h⟩

theorem over : Rows.simulatorFliesRow.holds Tryz.pinned (OpenSpec.ofChange Rows.simulatorFliesSpec) :=
  OpenClaim.holds_of_wide 3 Tryz.f3 rfl rfl rfl rfl rfl rfl rfl ⟨rfl, rfl, rfl, rfl, rfl⟩ rfl rfl rfl rfl rfl (by kernel_rfl) Tryz.func3 (by kernel_rfl)
    (of_decide_eq_true (by kernel_rfl)) (by unfold Func.isWrapper; first | (rw [if_pos (by decide +kernel)]; kernel_rfl) | (rw [if_neg (by decide +kernel)]; exact ⟨rfl, rfl⟩))
    (fun os started H enc _ => lifted os started H enc)

/-- the statement -/
theorem proved : Rows.SimulatorFliesSaid := over
end Go.Proofs.YtcmdpfdhmbpahaaGreat.simulatorFlies
