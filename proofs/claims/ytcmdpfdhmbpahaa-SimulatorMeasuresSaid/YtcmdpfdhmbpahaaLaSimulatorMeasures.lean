/- The statement SimulatorMeasures: for every input the law returns true, and every argument reads afterwards as before. No condition. -/
import Derived.Test.YtcmdpfdhmbpahaaRows
import Derived.Test.YtcmdpfdhmbpahaaLaBase59
import Derived.Test.YtcmdpfdhmbpahaaOpen59
import Derived.Test.YtcmdpfdhmbpahaaLn
import Derived.WalkKit
import Derived.ProofKit
import Derived.OpenShut
import Derived.ShutString
import Derived.ChangeOld
import Derived.Below
namespace Go.Proofs.Ytcmdpfdhmbpahaa
set_option linter.unusedSimpArgs false
set_option linter.unusedVariables false
open Go.RowKit
set_option maxRecDepth 100000 in
set_option maxHeartbeats 4000000 in
theorem walk_SimulatorMeasures (tk : Int) (px : Int) (py : Int) (ve : Int) (vn : Int) (al : Int) (vs : Int) (hd : Int) (ca : Int) (fu : Int) (bk : Int) (gr : Bool) (co so ki qx qy bo we : Int) (d0 d1 : Int) (w : World) (_ : (Lit.int .i64 tk).wf = true) (_ : (Lit.int .i64 px).wf = true) (_ : (Lit.int .i64 py).wf = true) (_ : (Lit.int .i64 ve).wf = true) (_ : (Lit.int .i64 vn).wf = true) (_ : (Lit.int .i64 al).wf = true) (_ : (Lit.int .i64 vs).wf = true) (_ : (Lit.int .i64 hd).wf = true) (_ : (Lit.int .i64 ca).wf = true) (_ : (Lit.int .i64 fu).wf = true) (_ : (Lit.int .i64 bk).wf = true) (_ : (Lit.int .i64 co).wf = true) (hso : (Lit.int .i64 so).wf = true) (hki : (Lit.int .u8 ki).wf = true) (_ : (Lit.int .i64 qx).wf = true) (_ : (Lit.int .i64 qy).wf = true) (_ : (Lit.int .i64 bo).wf = true) (_ : (Lit.int .i64 we).wf = true) (_ : (Lit.int .i64 d0).wf = true) (_ : (Lit.int .i64 d1).wf = true) :
    Calls Try.prog 4 #[.agg #[.int .i64 tk, .int .i64 px, .int .i64 py, .int .i64 ve, .int .i64 vn, .int .i64 al, .int .i64 vs, .int .i64 hd, .int .i64 ca, .int .i64 fu, .int .i64 bk, .bool gr], .agg #[.int .i64 co, .int .i64 so, .int .u8 ki, .int .i64 qx, .int .i64 qy, .int .i64 bo, .int .i64 we], .agg #[.int .i64 d0, .int .i64 d1]] w fun e w' => e = .returned (.bool true) ∧ Below w.heap.size w w' := by
  have hkb := bounds_u8 hki
  have HX := Lib.hid (xMeas tk px py ve vn al vs hd ca fu bk gr co so ki qx qy bo we d0 d1 (diV qx qy px py) (coV qx qy px py) (coE qx qy px py) (wf_i64_bd hso) hkb.1 hkb.2 (fun _ => ⟨diV_bd _ _ _ _, xDist _ _ _ _⟩) (fun _ => ⟨coV_bd _ _ _ _, xCourse _ _ _ _⟩))
  have HR := Lib.hid (rMeas tk px py ve vn al vs hd ca fu bk gr co so ki qx qy bo we d0 d1 (diV qx qy px py) (coV qx qy px py) (coE qx qy px py) (wf_i64_bd hso) hkb.1 hkb.2 (fun _ => ⟨diV_bd _ _ _ _, rDist _ _ _ _⟩) (fun _ => ⟨coV_bd _ _ _ _, rCourse _ _ _ _⟩))
  clear hso hki hkb
  generalize msE tk px py ve vn al vs hd ca fu bk co so ki qx qy bo we d0 d1 (diV qx qy px py) (coV qx qy px py) (coE qx qy px py) = M at *
  generalize msX ki qx px d0 = X at *
  generalize msX ki qy py d1 = Y at *
  generalize msV ki (diV qx qy px py) (coV qx qy px py) d0 = VV at *
  by_cases hM : M = 0
  · rw [hM, repV_ok] at HX HR
    clear hM
    go_enter Try.func4, Try.ntmps4
    go_wp2_with fail
    refine (awake_any _).mono ?_; rintro e w1 ⟨rfl, hB⟩
    have KC : Hid (Has w1 w.heap.size [.int .i64 tk, .int .i64 px, .int .i64 py, .int .i64 ve, .int .i64 vn, .int .i64 al, .int .i64 vs, .int .i64 hd, .int .i64 ca, .int .i64 fu, .int .i64 bk, .bool gr]) := Lib.hid ((((Has.new w _ _).alloc _).alloc _).below hB)
    have KS : Hid (Has w1 (w.heap.size + 1) [.int .i64 co, .int .i64 so, .int .u8 ki, .int .i64 qx, .int .i64 qy, .int .i64 bo, .int .i64 we]) := Lib.hid (((Has.newAt (w.alloc _) _ _ (w.heap.size + 1) (by simp)).alloc _).below hB)
    have KX : Hid (Has w1 (w.heap.size + 1 + 1) [.int .i64 d0, .int .i64 d1]) := Lib.hid ((Has.newAt ((w.alloc _).alloc _) _ _ (w.heap.size + 1 + 1) (by simp)).below hB)
    have HB := Lib.hid ((below_alloc3 w _ _ _).trans (hB.mono (by simp; omega)))
    clear hB
    have kc0 : w1.cell? ⟨w.heap.size, 0, none⟩ = some (.int .i64 tk) := KC.out.cell 0 _ rfl
    have kc1 : w1.cell? ⟨w.heap.size, 1, none⟩ = some (.int .i64 px) := KC.out.cell 1 _ rfl
    have kc2 : w1.cell? ⟨w.heap.size, 2, none⟩ = some (.int .i64 py) := KC.out.cell 2 _ rfl
    have kc3 : w1.cell? ⟨w.heap.size, 3, none⟩ = some (.int .i64 ve) := KC.out.cell 3 _ rfl
    have kc4 : w1.cell? ⟨w.heap.size, 4, none⟩ = some (.int .i64 vn) := KC.out.cell 4 _ rfl
    have kc5 : w1.cell? ⟨w.heap.size, 5, none⟩ = some (.int .i64 al) := KC.out.cell 5 _ rfl
    have kc6 : w1.cell? ⟨w.heap.size, 6, none⟩ = some (.int .i64 vs) := KC.out.cell 6 _ rfl
    have kc7 : w1.cell? ⟨w.heap.size, 7, none⟩ = some (.int .i64 hd) := KC.out.cell 7 _ rfl
    have kc8 : w1.cell? ⟨w.heap.size, 8, none⟩ = some (.int .i64 ca) := KC.out.cell 8 _ rfl
    have kc9 : w1.cell? ⟨w.heap.size, 9, none⟩ = some (.int .i64 fu) := KC.out.cell 9 _ rfl
    have kc10 : w1.cell? ⟨w.heap.size, 10, none⟩ = some (.int .i64 bk) := KC.out.cell 10 _ rfl
    have kc11 : w1.cell? ⟨w.heap.size, 11, none⟩ = some (.bool gr) := KC.out.cell 11 _ rfl
    have ks0 : w1.cell? ⟨w.heap.size + 1, 0, none⟩ = some (.int .i64 co) := KS.out.cell 0 _ rfl
    have ks1 : w1.cell? ⟨w.heap.size + 1, 1, none⟩ = some (.int .i64 so) := KS.out.cell 1 _ rfl
    have ks2 : w1.cell? ⟨w.heap.size + 1, 2, none⟩ = some (.int .u8 ki) := KS.out.cell 2 _ rfl
    have ks3 : w1.cell? ⟨w.heap.size + 1, 3, none⟩ = some (.int .i64 qx) := KS.out.cell 3 _ rfl
    have ks4 : w1.cell? ⟨w.heap.size + 1, 4, none⟩ = some (.int .i64 qy) := KS.out.cell 4 _ rfl
    have ks5 : w1.cell? ⟨w.heap.size + 1, 5, none⟩ = some (.int .i64 bo) := KS.out.cell 5 _ rfl
    have ks6 : w1.cell? ⟨w.heap.size + 1, 6, none⟩ = some (.int .i64 we) := KS.out.cell 6 _ rfl
    have kx0 : w1.cell? ⟨w.heap.size + 1 + 1, 0, none⟩ = some (.int .i64 d0) := KX.out.cell 0 _ rfl
    have kx1 : w1.cell? ⟨w.heap.size + 1 + 1, 1, none⟩ = some (.int .i64 d1) := KX.out.cell 1 _ rfl
    go_wp2_with fail
    refine (HX.out _).mono ?_; rintro e w2 ⟨rfl, hB⟩
    clear kc0 kc1 kc2 kc3 kc4 kc5 kc6 kc7 kc8 kc9 kc10 kc11 ks0 ks1 ks2 ks3 ks4 ks5 ks6 kx0 kx1
    replace KC := Lib.hid (KC.out.below hB)
    replace KS := Lib.hid (KS.out.below hB)
    replace KX := Lib.hid (KX.out.below hB)
    replace HB := Lib.hid (bel_trans HB.out hB)
    clear hB
    have KR : Hid (Has (w2.alloc (.cells #[.int .i64 so, .int .u8 ki, .int .i64 X, .int .i64 Y, .int .i64 VV, .int .i64 bo, .int .i64 we, .int .i64 tk] 54)) w2.heap.size [.int .i64 so, .int .u8 ki, .int .i64 X, .int .i64 Y, .int .i64 VV, .int .i64 bo, .int .i64 we, .int .i64 tk]) := Lib.hid (Has.new w2 _ _)
    replace KC := Lib.hid (KC.out.alloc (.cells #[.int .i64 so, .int .u8 ki, .int .i64 X, .int .i64 Y, .int .i64 VV, .int .i64 bo, .int .i64 we, .int .i64 tk] 54))
    replace KS := Lib.hid (KS.out.alloc (.cells #[.int .i64 so, .int .u8 ki, .int .i64 X, .int .i64 Y, .int .i64 VV, .int .i64 bo, .int .i64 we, .int .i64 tk] 54))
    replace KX := Lib.hid (KX.out.alloc (.cells #[.int .i64 so, .int .u8 ki, .int .i64 X, .int .i64 Y, .int .i64 VV, .int .i64 bo, .int .i64 we, .int .i64 tk] 54))
    replace HB := Lib.hid (bel_alloc1 HB.out (.cells #[.int .i64 so, .int .u8 ki, .int .i64 X, .int .i64 Y, .int .i64 VV, .int .i64 bo, .int .i64 we, .int .i64 tk] 54))
    have kc0 : (w2.alloc (.cells #[.int .i64 so, .int .u8 ki, .int .i64 X, .int .i64 Y, .int .i64 VV, .int .i64 bo, .int .i64 we, .int .i64 tk] 54)).cell? ⟨w.heap.size, 0, none⟩ = some (.int .i64 tk) := KC.out.cell 0 _ rfl
    have kc1 : (w2.alloc (.cells #[.int .i64 so, .int .u8 ki, .int .i64 X, .int .i64 Y, .int .i64 VV, .int .i64 bo, .int .i64 we, .int .i64 tk] 54)).cell? ⟨w.heap.size, 1, none⟩ = some (.int .i64 px) := KC.out.cell 1 _ rfl
    have kc2 : (w2.alloc (.cells #[.int .i64 so, .int .u8 ki, .int .i64 X, .int .i64 Y, .int .i64 VV, .int .i64 bo, .int .i64 we, .int .i64 tk] 54)).cell? ⟨w.heap.size, 2, none⟩ = some (.int .i64 py) := KC.out.cell 2 _ rfl
    have kc3 : (w2.alloc (.cells #[.int .i64 so, .int .u8 ki, .int .i64 X, .int .i64 Y, .int .i64 VV, .int .i64 bo, .int .i64 we, .int .i64 tk] 54)).cell? ⟨w.heap.size, 3, none⟩ = some (.int .i64 ve) := KC.out.cell 3 _ rfl
    have kc4 : (w2.alloc (.cells #[.int .i64 so, .int .u8 ki, .int .i64 X, .int .i64 Y, .int .i64 VV, .int .i64 bo, .int .i64 we, .int .i64 tk] 54)).cell? ⟨w.heap.size, 4, none⟩ = some (.int .i64 vn) := KC.out.cell 4 _ rfl
    have kc5 : (w2.alloc (.cells #[.int .i64 so, .int .u8 ki, .int .i64 X, .int .i64 Y, .int .i64 VV, .int .i64 bo, .int .i64 we, .int .i64 tk] 54)).cell? ⟨w.heap.size, 5, none⟩ = some (.int .i64 al) := KC.out.cell 5 _ rfl
    have kc6 : (w2.alloc (.cells #[.int .i64 so, .int .u8 ki, .int .i64 X, .int .i64 Y, .int .i64 VV, .int .i64 bo, .int .i64 we, .int .i64 tk] 54)).cell? ⟨w.heap.size, 6, none⟩ = some (.int .i64 vs) := KC.out.cell 6 _ rfl
    have kc7 : (w2.alloc (.cells #[.int .i64 so, .int .u8 ki, .int .i64 X, .int .i64 Y, .int .i64 VV, .int .i64 bo, .int .i64 we, .int .i64 tk] 54)).cell? ⟨w.heap.size, 7, none⟩ = some (.int .i64 hd) := KC.out.cell 7 _ rfl
    have kc8 : (w2.alloc (.cells #[.int .i64 so, .int .u8 ki, .int .i64 X, .int .i64 Y, .int .i64 VV, .int .i64 bo, .int .i64 we, .int .i64 tk] 54)).cell? ⟨w.heap.size, 8, none⟩ = some (.int .i64 ca) := KC.out.cell 8 _ rfl
    have kc9 : (w2.alloc (.cells #[.int .i64 so, .int .u8 ki, .int .i64 X, .int .i64 Y, .int .i64 VV, .int .i64 bo, .int .i64 we, .int .i64 tk] 54)).cell? ⟨w.heap.size, 9, none⟩ = some (.int .i64 fu) := KC.out.cell 9 _ rfl
    have kc10 : (w2.alloc (.cells #[.int .i64 so, .int .u8 ki, .int .i64 X, .int .i64 Y, .int .i64 VV, .int .i64 bo, .int .i64 we, .int .i64 tk] 54)).cell? ⟨w.heap.size, 10, none⟩ = some (.int .i64 bk) := KC.out.cell 10 _ rfl
    have kc11 : (w2.alloc (.cells #[.int .i64 so, .int .u8 ki, .int .i64 X, .int .i64 Y, .int .i64 VV, .int .i64 bo, .int .i64 we, .int .i64 tk] 54)).cell? ⟨w.heap.size, 11, none⟩ = some (.bool gr) := KC.out.cell 11 _ rfl
    have ks0 : (w2.alloc (.cells #[.int .i64 so, .int .u8 ki, .int .i64 X, .int .i64 Y, .int .i64 VV, .int .i64 bo, .int .i64 we, .int .i64 tk] 54)).cell? ⟨w.heap.size + 1, 0, none⟩ = some (.int .i64 co) := KS.out.cell 0 _ rfl
    have ks1 : (w2.alloc (.cells #[.int .i64 so, .int .u8 ki, .int .i64 X, .int .i64 Y, .int .i64 VV, .int .i64 bo, .int .i64 we, .int .i64 tk] 54)).cell? ⟨w.heap.size + 1, 1, none⟩ = some (.int .i64 so) := KS.out.cell 1 _ rfl
    have ks2 : (w2.alloc (.cells #[.int .i64 so, .int .u8 ki, .int .i64 X, .int .i64 Y, .int .i64 VV, .int .i64 bo, .int .i64 we, .int .i64 tk] 54)).cell? ⟨w.heap.size + 1, 2, none⟩ = some (.int .u8 ki) := KS.out.cell 2 _ rfl
    have ks3 : (w2.alloc (.cells #[.int .i64 so, .int .u8 ki, .int .i64 X, .int .i64 Y, .int .i64 VV, .int .i64 bo, .int .i64 we, .int .i64 tk] 54)).cell? ⟨w.heap.size + 1, 3, none⟩ = some (.int .i64 qx) := KS.out.cell 3 _ rfl
    have ks4 : (w2.alloc (.cells #[.int .i64 so, .int .u8 ki, .int .i64 X, .int .i64 Y, .int .i64 VV, .int .i64 bo, .int .i64 we, .int .i64 tk] 54)).cell? ⟨w.heap.size + 1, 4, none⟩ = some (.int .i64 qy) := KS.out.cell 4 _ rfl
    have ks5 : (w2.alloc (.cells #[.int .i64 so, .int .u8 ki, .int .i64 X, .int .i64 Y, .int .i64 VV, .int .i64 bo, .int .i64 we, .int .i64 tk] 54)).cell? ⟨w.heap.size + 1, 5, none⟩ = some (.int .i64 bo) := KS.out.cell 5 _ rfl
    have ks6 : (w2.alloc (.cells #[.int .i64 so, .int .u8 ki, .int .i64 X, .int .i64 Y, .int .i64 VV, .int .i64 bo, .int .i64 we, .int .i64 tk] 54)).cell? ⟨w.heap.size + 1, 6, none⟩ = some (.int .i64 we) := KS.out.cell 6 _ rfl
    have kx0 : (w2.alloc (.cells #[.int .i64 so, .int .u8 ki, .int .i64 X, .int .i64 Y, .int .i64 VV, .int .i64 bo, .int .i64 we, .int .i64 tk] 54)).cell? ⟨w.heap.size + 1 + 1, 0, none⟩ = some (.int .i64 d0) := KX.out.cell 0 _ rfl
    have kx1 : (w2.alloc (.cells #[.int .i64 so, .int .u8 ki, .int .i64 X, .int .i64 Y, .int .i64 VV, .int .i64 bo, .int .i64 we, .int .i64 tk] 54)).cell? ⟨w.heap.size + 1 + 1, 1, none⟩ = some (.int .i64 d1) := KX.out.cell 1 _ rfl
    go_wp2_with fail
    refine (HR.out _).mono ?_; rintro e w3 ⟨rfl, hB⟩
    clear kc0 kc1 kc2 kc3 kc4 kc5 kc6 kc7 kc8 kc9 kc10 kc11 ks0 ks1 ks2 ks3 ks4 ks5 ks6 kx0 kx1
    replace KR := Lib.hid (KR.out.below hB)
    replace HB := Lib.hid (bel_trans HB.out hB)
    clear hB
    have KR2 : Hid (Has (w3.alloc (.cells #[.int .i64 so, .int .u8 ki, .int .i64 X, .int .i64 Y, .int .i64 VV, .int .i64 bo, .int .i64 we, .int .i64 tk] 54)) w2.heap.size [.int .i64 so, .int .u8 ki, .int .i64 X, .int .i64 Y, .int .i64 VV, .int .i64 bo, .int .i64 we, .int .i64 tk]) := Lib.hid (KR.out.alloc _)
    have kr0 : (w3.alloc (.cells #[.int .i64 so, .int .u8 ki, .int .i64 X, .int .i64 Y, .int .i64 VV, .int .i64 bo, .int .i64 we, .int .i64 tk] 54)).cell? ⟨w2.heap.size, 0, none⟩ = some (.int .i64 so) := KR2.out.cell 0 _ rfl
    have kr1 : (w3.alloc (.cells #[.int .i64 so, .int .u8 ki, .int .i64 X, .int .i64 Y, .int .i64 VV, .int .i64 bo, .int .i64 we, .int .i64 tk] 54)).cell? ⟨w2.heap.size, 1, none⟩ = some (.int .u8 ki) := KR2.out.cell 1 _ rfl
    have kr2 : (w3.alloc (.cells #[.int .i64 so, .int .u8 ki, .int .i64 X, .int .i64 Y, .int .i64 VV, .int .i64 bo, .int .i64 we, .int .i64 tk] 54)).cell? ⟨w2.heap.size, 2, none⟩ = some (.int .i64 X) := KR2.out.cell 2 _ rfl
    have kr3 : (w3.alloc (.cells #[.int .i64 so, .int .u8 ki, .int .i64 X, .int .i64 Y, .int .i64 VV, .int .i64 bo, .int .i64 we, .int .i64 tk] 54)).cell? ⟨w2.heap.size, 3, none⟩ = some (.int .i64 Y) := KR2.out.cell 3 _ rfl
    have kr4 : (w3.alloc (.cells #[.int .i64 so, .int .u8 ki, .int .i64 X, .int .i64 Y, .int .i64 VV, .int .i64 bo, .int .i64 we, .int .i64 tk] 54)).cell? ⟨w2.heap.size, 4, none⟩ = some (.int .i64 VV) := KR2.out.cell 4 _ rfl
    have kr5 : (w3.alloc (.cells #[.int .i64 so, .int .u8 ki, .int .i64 X, .int .i64 Y, .int .i64 VV, .int .i64 bo, .int .i64 we, .int .i64 tk] 54)).cell? ⟨w2.heap.size, 5, none⟩ = some (.int .i64 bo) := KR2.out.cell 5 _ rfl
    have kr6 : (w3.alloc (.cells #[.int .i64 so, .int .u8 ki, .int .i64 X, .int .i64 Y, .int .i64 VV, .int .i64 bo, .int .i64 we, .int .i64 tk] 54)).cell? ⟨w2.heap.size, 6, none⟩ = some (.int .i64 we) := KR2.out.cell 6 _ rfl
    have kr7 : (w3.alloc (.cells #[.int .i64 so, .int .u8 ki, .int .i64 X, .int .i64 Y, .int .i64 VV, .int .i64 bo, .int .i64 we, .int .i64 tk] 54)).cell? ⟨w2.heap.size, 7, none⟩ = some (.int .i64 tk) := KR2.out.cell 7 _ rfl
    go_wp2_with fail
    go_ret
    exact ⟨ret_bool (by simp), bel_alloc1 HB.out _⟩
  · rw [repV_no hM] at HX HR
    clear hM
    go_enter Try.func4, Try.ntmps4
    go_wp2_with fail
    refine (awake_any _).mono ?_; rintro e w1 ⟨rfl, hB⟩
    have KC : Hid (Has w1 w.heap.size [.int .i64 tk, .int .i64 px, .int .i64 py, .int .i64 ve, .int .i64 vn, .int .i64 al, .int .i64 vs, .int .i64 hd, .int .i64 ca, .int .i64 fu, .int .i64 bk, .bool gr]) := Lib.hid ((((Has.new w _ _).alloc _).alloc _).below hB)
    have KS : Hid (Has w1 (w.heap.size + 1) [.int .i64 co, .int .i64 so, .int .u8 ki, .int .i64 qx, .int .i64 qy, .int .i64 bo, .int .i64 we]) := Lib.hid (((Has.newAt (w.alloc _) _ _ (w.heap.size + 1) (by simp)).alloc _).below hB)
    have KX : Hid (Has w1 (w.heap.size + 1 + 1) [.int .i64 d0, .int .i64 d1]) := Lib.hid ((Has.newAt ((w.alloc _).alloc _) _ _ (w.heap.size + 1 + 1) (by simp)).below hB)
    have HB := Lib.hid ((below_alloc3 w _ _ _).trans (hB.mono (by simp; omega)))
    clear hB
    have kc0 : w1.cell? ⟨w.heap.size, 0, none⟩ = some (.int .i64 tk) := KC.out.cell 0 _ rfl
    have kc1 : w1.cell? ⟨w.heap.size, 1, none⟩ = some (.int .i64 px) := KC.out.cell 1 _ rfl
    have kc2 : w1.cell? ⟨w.heap.size, 2, none⟩ = some (.int .i64 py) := KC.out.cell 2 _ rfl
    have kc3 : w1.cell? ⟨w.heap.size, 3, none⟩ = some (.int .i64 ve) := KC.out.cell 3 _ rfl
    have kc4 : w1.cell? ⟨w.heap.size, 4, none⟩ = some (.int .i64 vn) := KC.out.cell 4 _ rfl
    have kc5 : w1.cell? ⟨w.heap.size, 5, none⟩ = some (.int .i64 al) := KC.out.cell 5 _ rfl
    have kc6 : w1.cell? ⟨w.heap.size, 6, none⟩ = some (.int .i64 vs) := KC.out.cell 6 _ rfl
    have kc7 : w1.cell? ⟨w.heap.size, 7, none⟩ = some (.int .i64 hd) := KC.out.cell 7 _ rfl
    have kc8 : w1.cell? ⟨w.heap.size, 8, none⟩ = some (.int .i64 ca) := KC.out.cell 8 _ rfl
    have kc9 : w1.cell? ⟨w.heap.size, 9, none⟩ = some (.int .i64 fu) := KC.out.cell 9 _ rfl
    have kc10 : w1.cell? ⟨w.heap.size, 10, none⟩ = some (.int .i64 bk) := KC.out.cell 10 _ rfl
    have kc11 : w1.cell? ⟨w.heap.size, 11, none⟩ = some (.bool gr) := KC.out.cell 11 _ rfl
    have ks0 : w1.cell? ⟨w.heap.size + 1, 0, none⟩ = some (.int .i64 co) := KS.out.cell 0 _ rfl
    have ks1 : w1.cell? ⟨w.heap.size + 1, 1, none⟩ = some (.int .i64 so) := KS.out.cell 1 _ rfl
    have ks2 : w1.cell? ⟨w.heap.size + 1, 2, none⟩ = some (.int .u8 ki) := KS.out.cell 2 _ rfl
    have ks3 : w1.cell? ⟨w.heap.size + 1, 3, none⟩ = some (.int .i64 qx) := KS.out.cell 3 _ rfl
    have ks4 : w1.cell? ⟨w.heap.size + 1, 4, none⟩ = some (.int .i64 qy) := KS.out.cell 4 _ rfl
    have ks5 : w1.cell? ⟨w.heap.size + 1, 5, none⟩ = some (.int .i64 bo) := KS.out.cell 5 _ rfl
    have ks6 : w1.cell? ⟨w.heap.size + 1, 6, none⟩ = some (.int .i64 we) := KS.out.cell 6 _ rfl
    have kx0 : w1.cell? ⟨w.heap.size + 1 + 1, 0, none⟩ = some (.int .i64 d0) := KX.out.cell 0 _ rfl
    have kx1 : w1.cell? ⟨w.heap.size + 1 + 1, 1, none⟩ = some (.int .i64 d1) := KX.out.cell 1 _ rfl
    go_wp2_with fail
    refine (HX.out _).mono ?_; rintro e w2 ⟨rfl, hB⟩
    clear kc0 kc1 kc2 kc3 kc4 kc5 kc6 kc7 kc8 kc9 kc10 kc11 ks0 ks1 ks2 ks3 ks4 ks5 ks6 kx0 kx1
    replace KC := Lib.hid (KC.out.below hB)
    replace KS := Lib.hid (KS.out.below hB)
    replace KX := Lib.hid (KX.out.below hB)
    replace HB := Lib.hid (bel_trans HB.out hB)
    clear hB
    have KR : Hid (Has (w2.alloc (.cells #[.int .i64 0, .int .u8 0, .int .i64 0, .int .i64 0, .int .i64 0, .int .i64 0, .int .i64 0, .int .i64 0] 54)) w2.heap.size [.int .i64 0, .int .u8 0, .int .i64 0, .int .i64 0, .int .i64 0, .int .i64 0, .int .i64 0, .int .i64 0]) := Lib.hid (Has.new w2 _ _)
    replace KC := Lib.hid (KC.out.alloc (.cells #[.int .i64 0, .int .u8 0, .int .i64 0, .int .i64 0, .int .i64 0, .int .i64 0, .int .i64 0, .int .i64 0] 54))
    replace KS := Lib.hid (KS.out.alloc (.cells #[.int .i64 0, .int .u8 0, .int .i64 0, .int .i64 0, .int .i64 0, .int .i64 0, .int .i64 0, .int .i64 0] 54))
    replace KX := Lib.hid (KX.out.alloc (.cells #[.int .i64 0, .int .u8 0, .int .i64 0, .int .i64 0, .int .i64 0, .int .i64 0, .int .i64 0, .int .i64 0] 54))
    replace HB := Lib.hid (bel_alloc1 HB.out (.cells #[.int .i64 0, .int .u8 0, .int .i64 0, .int .i64 0, .int .i64 0, .int .i64 0, .int .i64 0, .int .i64 0] 54))
    have kc0 : (w2.alloc (.cells #[.int .i64 0, .int .u8 0, .int .i64 0, .int .i64 0, .int .i64 0, .int .i64 0, .int .i64 0, .int .i64 0] 54)).cell? ⟨w.heap.size, 0, none⟩ = some (.int .i64 tk) := KC.out.cell 0 _ rfl
    have kc1 : (w2.alloc (.cells #[.int .i64 0, .int .u8 0, .int .i64 0, .int .i64 0, .int .i64 0, .int .i64 0, .int .i64 0, .int .i64 0] 54)).cell? ⟨w.heap.size, 1, none⟩ = some (.int .i64 px) := KC.out.cell 1 _ rfl
    have kc2 : (w2.alloc (.cells #[.int .i64 0, .int .u8 0, .int .i64 0, .int .i64 0, .int .i64 0, .int .i64 0, .int .i64 0, .int .i64 0] 54)).cell? ⟨w.heap.size, 2, none⟩ = some (.int .i64 py) := KC.out.cell 2 _ rfl
    have kc3 : (w2.alloc (.cells #[.int .i64 0, .int .u8 0, .int .i64 0, .int .i64 0, .int .i64 0, .int .i64 0, .int .i64 0, .int .i64 0] 54)).cell? ⟨w.heap.size, 3, none⟩ = some (.int .i64 ve) := KC.out.cell 3 _ rfl
    have kc4 : (w2.alloc (.cells #[.int .i64 0, .int .u8 0, .int .i64 0, .int .i64 0, .int .i64 0, .int .i64 0, .int .i64 0, .int .i64 0] 54)).cell? ⟨w.heap.size, 4, none⟩ = some (.int .i64 vn) := KC.out.cell 4 _ rfl
    have kc5 : (w2.alloc (.cells #[.int .i64 0, .int .u8 0, .int .i64 0, .int .i64 0, .int .i64 0, .int .i64 0, .int .i64 0, .int .i64 0] 54)).cell? ⟨w.heap.size, 5, none⟩ = some (.int .i64 al) := KC.out.cell 5 _ rfl
    have kc6 : (w2.alloc (.cells #[.int .i64 0, .int .u8 0, .int .i64 0, .int .i64 0, .int .i64 0, .int .i64 0, .int .i64 0, .int .i64 0] 54)).cell? ⟨w.heap.size, 6, none⟩ = some (.int .i64 vs) := KC.out.cell 6 _ rfl
    have kc7 : (w2.alloc (.cells #[.int .i64 0, .int .u8 0, .int .i64 0, .int .i64 0, .int .i64 0, .int .i64 0, .int .i64 0, .int .i64 0] 54)).cell? ⟨w.heap.size, 7, none⟩ = some (.int .i64 hd) := KC.out.cell 7 _ rfl
    have kc8 : (w2.alloc (.cells #[.int .i64 0, .int .u8 0, .int .i64 0, .int .i64 0, .int .i64 0, .int .i64 0, .int .i64 0, .int .i64 0] 54)).cell? ⟨w.heap.size, 8, none⟩ = some (.int .i64 ca) := KC.out.cell 8 _ rfl
    have kc9 : (w2.alloc (.cells #[.int .i64 0, .int .u8 0, .int .i64 0, .int .i64 0, .int .i64 0, .int .i64 0, .int .i64 0, .int .i64 0] 54)).cell? ⟨w.heap.size, 9, none⟩ = some (.int .i64 fu) := KC.out.cell 9 _ rfl
    have kc10 : (w2.alloc (.cells #[.int .i64 0, .int .u8 0, .int .i64 0, .int .i64 0, .int .i64 0, .int .i64 0, .int .i64 0, .int .i64 0] 54)).cell? ⟨w.heap.size, 10, none⟩ = some (.int .i64 bk) := KC.out.cell 10 _ rfl
    have kc11 : (w2.alloc (.cells #[.int .i64 0, .int .u8 0, .int .i64 0, .int .i64 0, .int .i64 0, .int .i64 0, .int .i64 0, .int .i64 0] 54)).cell? ⟨w.heap.size, 11, none⟩ = some (.bool gr) := KC.out.cell 11 _ rfl
    have ks0 : (w2.alloc (.cells #[.int .i64 0, .int .u8 0, .int .i64 0, .int .i64 0, .int .i64 0, .int .i64 0, .int .i64 0, .int .i64 0] 54)).cell? ⟨w.heap.size + 1, 0, none⟩ = some (.int .i64 co) := KS.out.cell 0 _ rfl
    have ks1 : (w2.alloc (.cells #[.int .i64 0, .int .u8 0, .int .i64 0, .int .i64 0, .int .i64 0, .int .i64 0, .int .i64 0, .int .i64 0] 54)).cell? ⟨w.heap.size + 1, 1, none⟩ = some (.int .i64 so) := KS.out.cell 1 _ rfl
    have ks2 : (w2.alloc (.cells #[.int .i64 0, .int .u8 0, .int .i64 0, .int .i64 0, .int .i64 0, .int .i64 0, .int .i64 0, .int .i64 0] 54)).cell? ⟨w.heap.size + 1, 2, none⟩ = some (.int .u8 ki) := KS.out.cell 2 _ rfl
    have ks3 : (w2.alloc (.cells #[.int .i64 0, .int .u8 0, .int .i64 0, .int .i64 0, .int .i64 0, .int .i64 0, .int .i64 0, .int .i64 0] 54)).cell? ⟨w.heap.size + 1, 3, none⟩ = some (.int .i64 qx) := KS.out.cell 3 _ rfl
    have ks4 : (w2.alloc (.cells #[.int .i64 0, .int .u8 0, .int .i64 0, .int .i64 0, .int .i64 0, .int .i64 0, .int .i64 0, .int .i64 0] 54)).cell? ⟨w.heap.size + 1, 4, none⟩ = some (.int .i64 qy) := KS.out.cell 4 _ rfl
    have ks5 : (w2.alloc (.cells #[.int .i64 0, .int .u8 0, .int .i64 0, .int .i64 0, .int .i64 0, .int .i64 0, .int .i64 0, .int .i64 0] 54)).cell? ⟨w.heap.size + 1, 5, none⟩ = some (.int .i64 bo) := KS.out.cell 5 _ rfl
    have ks6 : (w2.alloc (.cells #[.int .i64 0, .int .u8 0, .int .i64 0, .int .i64 0, .int .i64 0, .int .i64 0, .int .i64 0, .int .i64 0] 54)).cell? ⟨w.heap.size + 1, 6, none⟩ = some (.int .i64 we) := KS.out.cell 6 _ rfl
    have kx0 : (w2.alloc (.cells #[.int .i64 0, .int .u8 0, .int .i64 0, .int .i64 0, .int .i64 0, .int .i64 0, .int .i64 0, .int .i64 0] 54)).cell? ⟨w.heap.size + 1 + 1, 0, none⟩ = some (.int .i64 d0) := KX.out.cell 0 _ rfl
    have kx1 : (w2.alloc (.cells #[.int .i64 0, .int .u8 0, .int .i64 0, .int .i64 0, .int .i64 0, .int .i64 0, .int .i64 0, .int .i64 0] 54)).cell? ⟨w.heap.size + 1 + 1, 1, none⟩ = some (.int .i64 d1) := KX.out.cell 1 _ rfl
    go_wp2_with fail
    refine (HR.out _).mono ?_; rintro e w3 ⟨rfl, hB⟩
    clear kc0 kc1 kc2 kc3 kc4 kc5 kc6 kc7 kc8 kc9 kc10 kc11 ks0 ks1 ks2 ks3 ks4 ks5 ks6 kx0 kx1
    replace KR := Lib.hid (KR.out.below hB)
    replace HB := Lib.hid (bel_trans HB.out hB)
    clear hB
    have KR2 : Hid (Has (w3.alloc (.cells #[.int .i64 0, .int .u8 0, .int .i64 0, .int .i64 0, .int .i64 0, .int .i64 0, .int .i64 0, .int .i64 0] 54)) w2.heap.size [.int .i64 0, .int .u8 0, .int .i64 0, .int .i64 0, .int .i64 0, .int .i64 0, .int .i64 0, .int .i64 0]) := Lib.hid (KR.out.alloc _)
    have kr0 : (w3.alloc (.cells #[.int .i64 0, .int .u8 0, .int .i64 0, .int .i64 0, .int .i64 0, .int .i64 0, .int .i64 0, .int .i64 0] 54)).cell? ⟨w2.heap.size, 0, none⟩ = some (.int .i64 0) := KR2.out.cell 0 _ rfl
    have kr1 : (w3.alloc (.cells #[.int .i64 0, .int .u8 0, .int .i64 0, .int .i64 0, .int .i64 0, .int .i64 0, .int .i64 0, .int .i64 0] 54)).cell? ⟨w2.heap.size, 1, none⟩ = some (.int .u8 0) := KR2.out.cell 1 _ rfl
    have kr2 : (w3.alloc (.cells #[.int .i64 0, .int .u8 0, .int .i64 0, .int .i64 0, .int .i64 0, .int .i64 0, .int .i64 0, .int .i64 0] 54)).cell? ⟨w2.heap.size, 2, none⟩ = some (.int .i64 0) := KR2.out.cell 2 _ rfl
    have kr3 : (w3.alloc (.cells #[.int .i64 0, .int .u8 0, .int .i64 0, .int .i64 0, .int .i64 0, .int .i64 0, .int .i64 0, .int .i64 0] 54)).cell? ⟨w2.heap.size, 3, none⟩ = some (.int .i64 0) := KR2.out.cell 3 _ rfl
    have kr4 : (w3.alloc (.cells #[.int .i64 0, .int .u8 0, .int .i64 0, .int .i64 0, .int .i64 0, .int .i64 0, .int .i64 0, .int .i64 0] 54)).cell? ⟨w2.heap.size, 4, none⟩ = some (.int .i64 0) := KR2.out.cell 4 _ rfl
    have kr5 : (w3.alloc (.cells #[.int .i64 0, .int .u8 0, .int .i64 0, .int .i64 0, .int .i64 0, .int .i64 0, .int .i64 0, .int .i64 0] 54)).cell? ⟨w2.heap.size, 5, none⟩ = some (.int .i64 0) := KR2.out.cell 5 _ rfl
    have kr6 : (w3.alloc (.cells #[.int .i64 0, .int .u8 0, .int .i64 0, .int .i64 0, .int .i64 0, .int .i64 0, .int .i64 0, .int .i64 0] 54)).cell? ⟨w2.heap.size, 6, none⟩ = some (.int .i64 0) := KR2.out.cell 6 _ rfl
    have kr7 : (w3.alloc (.cells #[.int .i64 0, .int .u8 0, .int .i64 0, .int .i64 0, .int .i64 0, .int .i64 0, .int .i64 0, .int .i64 0] 54)).cell? ⟨w2.heap.size, 7, none⟩ = some (.int .i64 0) := KR2.out.cell 7 _ rfl
    go_wp2_with fail
    go_ret
    exact ⟨ret_bool (by simp), bel_alloc1 HB.out _⟩
end Go.Proofs.Ytcmdpfdhmbpahaa
namespace Go.Proofs.Ytcmdpfdhmbpahaa.simulatorMeasures
open Go.ChangeShapes Go.WideShapes Go.ChangeAt Go.RowKit
open Go.ChangeMaps (open_string shut_string)
set_option linter.unusedVariables false
set_option linter.unusedSimpArgs false

theorem own : ownKnob Try.prog.godebug = none := by kernel_rfl
theorem laidOut : laidOutB Try.prog = true := by kernel_rfl

set_option maxRecDepth 100000 in
theorem lifted (os : Os) (started : os.Started) (H : Type) (enc : TypeId × Value → H) :
    ReturnsInHanded {} Try.checked os 4 .any (Rows.simulatorMeasuresSpec.pre6 enc Try.prog Try.f4 Rows.simulatorMeasuresRow.domain false) (Rows.simulatorMeasuresSpec.post enc Try.prog Try.f4 false true false false) := by
  refine returnsInHanded_of_change (C := Try.checked) own started (by kernel_rfl) Try.func4
    (ChangeSpec.witness6 (enc := enc) (C := Try.checked) false ⟨#[], #[.agg #[.int .i64 0, .int .i64 0, .int .i64 0, .int .i64 0, .int .i64 0, .int .i64 0, .int .i64 0, .int .i64 0, .int .i64 0, .int .i64 0, .int .i64 0, .bool false], .agg #[.int .i64 0, .int .i64 0, .int .u8 0, .int .i64 0, .int .i64 0, .int .i64 0, .int .i64 0], .agg #[.int .i64 0, .int .i64 0]], []⟩ 8 (by kernel_rfl) (by kernel_rfl) (by kernel_rfl) (by kernel_rfl)) ?_
  intro W base args ds gs before hval0 hW hcnd _
  have hval : ∀ (j : Nat) t v, Try.f4.params[j]? = some t → args[j]? = some v → Value.okWide Try.prog W .any base t v := hval0
  have hW' := hW
  obtain ⟨p, q, hA0, hV, rfl, hfz, hnd⟩ := hW
  have hA : DataW.TrodAll enc Try.prog W 0 (fun _ => true) true Try.f4.params.toList args.toList ds p := hA0
  rw [Try.params4] at hA hval
  obtain ⟨v0, vs0, d0, ds0, p0, q0, hargs, rfl, rfl, h0, r0⟩ := trodAll_cons hA
  obtain ⟨v1, vs1, d1, ds1, p1, q1, rfl, rfl, rfl, h1, r1⟩ := trodAll_cons r0
  obtain ⟨v2, vs2, d2, ds2, p2, q2, rfl, rfl, rfl, h2, r2⟩ := trodAll_cons r1
  obtain ⟨rfl, rfl, rfl⟩ := trodAll_nil r2
  obtain rfl : args = #[v0, v1, v2] := by cases args; simp_all
  obtain ⟨rfl, rfl⟩ := trodVars_none hV
  have k0 := h0
  have lt0 : ∀ x ∈ p0, x.block < W.heap.size := by obtain ⟨m, hm⟩ := k0; exact DataW.trod_lt m _ _ _ hm
  have k1 := h1
  have lt1 : ∀ x ∈ p1, x.block < W.heap.size := by obtain ⟨m, hm⟩ := k1; exact DataW.trod_lt m _ _ _ hm
  have k2 := h2
  have lt2 : ∀ x ∈ p2, x.block < W.heap.size := by obtain ⟨m, hm⟩ := k2; exact DataW.trod_lt m _ _ _ hm
  obtain ⟨cs0, fu0, rfl, hh0⟩ := open_agg_list Try.underlying27 (hval 0 27 v0 rfl rfl) h0
  obtain ⟨tk_0, px_0, py_0, ve_0, vn_0, al_0, vs_0, hd_0, ca_0, fu_0, bk_0, gr_0, rfl, cf0_0, cf1_0, cf2_0, cf3_0, cf4_0, cf5_0, cf6_0, cf7_0, cf8_0, cf9_0, cf10_0⟩ := op_craft _ _ _ hh0
  obtain ⟨cs1, fu1, rfl, hh1⟩ := open_agg_list Try.underlying51 (hval 1 51 v1 rfl rfl) h1
  obtain ⟨co_1, so_1, ki_1, qx_1, qy_1, bo_1, we_1, rfl, sf0_1, sf1_1, sf2_1, sf3_1, sf4_1, sf5_1, sf6_1⟩ := op_sns _ _ _ hh1
  obtain ⟨a2, b2, rfl, w2, u2⟩ := open_arr2 Try.underlying52 Try.underlying2 (by kernel_rfl) (by kernel_rfl) (hval 2 52 v2 rfl rfl) h2
  clear hA0 hval0
  refine (Ytcmdpfdhmbpahaa.walk_SimulatorMeasures tk_0 px_0 py_0 ve_0 vn_0 al_0 vs_0 hd_0 ca_0 fu_0 bk_0 gr_0 co_1 so_1 ki_1 qx_1 qy_1 bo_1 we_1 a2 b2 W cf0_0 cf1_0 cf2_0 cf3_0 cf4_0 cf5_0 cf6_0 cf7_0 cf8_0 cf9_0 cf10_0 sf0_1 sf1_1 sf2_1 sf3_1 sf4_1 sf5_1 sf6_1 w2 u2).mono fun e W' ⟨he, bel⟩ => ?_
  subst he
  exact ⟨_, rfl, _, _, _, [], _, [], hW', trodAll_mk1 (shut_bool Try.underlying4 _), (trodAll_cons_mk (Below.trod laidOut (by kernel_rfl) (of_decide_eq_true (by kernel_rfl)) k0 bel lt0) (trodAll_cons_mk (Below.trod laidOut (by kernel_rfl) (of_decide_eq_true (by kernel_rfl)) k1 bel lt1) (trodAll_cons_mk (Below.trod laidOut (by kernel_rfl) (of_decide_eq_true (by kernel_rfl)) k2 bel lt2) trodAll_mk0))), rfl, bel.frame _, fun h => by cases h⟩

theorem over : Rows.simulatorMeasuresRow.holds Try.pinned (OpenSpec.ofChange Rows.simulatorMeasuresSpec) :=
  OpenClaim.holds_of_wide 4 Try.f4 rfl rfl rfl rfl rfl rfl rfl ⟨rfl, rfl, rfl, rfl, rfl⟩ rfl rfl rfl rfl rfl (by kernel_rfl) Try.func4 (by kernel_rfl)
    (of_decide_eq_true (by kernel_rfl)) (by unfold Func.isWrapper; first | (rw [if_pos (by decide +kernel)]; kernel_rfl) | (rw [if_neg (by decide +kernel)]; exact ⟨rfl, rfl⟩))
    (fun os started H enc _ => lifted os started H enc)

/-- the statement -/
theorem proved : Rows.SimulatorMeasuresSaid := over
end Go.Proofs.Ytcmdpfdhmbpahaa.simulatorMeasures
