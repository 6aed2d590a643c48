/- The statement SimulatorSound: for every input the law returns true, and every argument reads afterwards as before. No condition. -/
import Derived.Test.YtcmdpfdhmbpahaaRows
import Derived.Test.YtcmdpfdhmbpahaaLaBase59
import Derived.Test.YtcmdpfdhmbpahaaOpen59
import Derived.Test.YtcmdpfdhmbpahaaAg
import Derived.Deep.RegionHeld3
import Derived.WalkKit
import Derived.ProofKit
import Derived.OpenShut
import Derived.ShutString
import Derived.ChangeOld
import Derived.Below
namespace Go.Proofs.Ytcmdpfdhmbpahaa
set_option linter.unusedSimpArgs false
set_option linter.unusedVariables false
open Go.RowKit
theorem msE_0 {tk px py ve vn al vs hd ca fu bk co so ki qx qy bo we d0 d1 dv cv ce : Int} (h : msE tk px py ve vn al vs hd ca fu bk co so ki qx qy bo we d0 d1 dv cv ce = 0) :
    (crE tk px py ve vn al vs hd ca fu bk = 0 ∧ snsE co so ki qx qy bo we = 0) ∧ ((-2000000 ≤ d0 ∧ d0 ≤ 2000000) ∧ -2000000 ≤ d1 ∧ d1 ≤ 2000000) ∧ (ki = 3 → ce = 0) ∧ repE so ki (msX ki qx px d0) (msX ki qy py d1) (msV ki dv cv d0) bo we tk = 0 := by
  unfold msE at h
  by_cases h1 : crE tk px py ve vn al vs hd ca fu bk = 0
  · rw [if_neg (by simpa using h1)] at h
    by_cases h2 : snsE co so ki qx qy bo we = 0
    · rw [if_neg (by simpa using h2)] at h
      by_cases h3 : (inB d0 (-2000000) 2000000 && inB d1 (-2000000) 2000000) = false
      · rw [if_pos h3] at h; exact absurd h (by decide)
      · rw [if_neg h3] at h
        have h3' : (inB d0 (-2000000) 2000000 && inB d1 (-2000000) 2000000) = true := by simpa using h3
        rw [Bool.and_eq_true, inB_iff, inB_iff] at h3'
        by_cases h4 : ki = 3 ∧ ce ≠ 0
        · rw [if_pos h4] at h; exact absurd h h4.2
        · rw [if_neg h4] at h
          exact ⟨⟨h1, h2⟩, h3', fun hk => by by_cases hc : ce = 0; exact hc; exact absurd ⟨hk, hc⟩ h4, h⟩
    · rw [if_pos (by simpa using h2)] at h; exact absurd h h2
  · rw [if_pos (by simpa using h1)] at h; exact absurd h h1
theorem sound1 {so px py qx qy bo we tk d0 d1 dv cv : Int} (h : repE so 1 (msX 1 qx px d0) (msX 1 qy py d1) (msV 1 dv cv d0) bo we tk = 0) (hp : ptB px py = true) (h0 : absV d0 ≤ bo) (h1 : absV d1 ≤ bo) :
    agB so 1 (msX 1 qx px d0) (msX 1 qy py d1) (msV 1 dv cv d0) bo we tk px py = true := by
  rw [agB_1 h hp]
  unfold absV msX at *
  simp
  omega
theorem sqV_lt {n : Int} (h : 0 ≤ n) : n < (sqV n + 1) * (sqV n + 1) := by
  have h2 := (Fx.isq_spec n.toNat).2
  unfold sqV
  generalize Fx.isq n.toNat = r at *
  have : n < (((r + 1) * (r + 1) : Nat) : Int) := by omega
  rw [Int.natCast_mul] at this
  simpa using this
theorem sound2 {so px py qx qy bo we tk d0 d1 cv : Int} (h : repE so 2 (msX 2 qx px d0) (msX 2 qy py d1) (msV 2 (diV qx qy px py) cv d0) bo we tk = 0) (hp : ptB px py = true) (h0 : absV d0 ≤ bo - 1) (h1 : 0 ≤ diV qx qy px py + d0) :
    agB so 2 (msX 2 qx px d0) (msX 2 qy py d1) (msV 2 (diV qx qy px py) cv d0) bo we tk px py = true := by
  rw [agB_2 h hp]
  have hb := repE_0 h
  have hq : ptB qx qy = true := by have := hb.1.2; simpa [msX] using this
  have hln : lnB qx qy px py = true := by unfold lnB; rw [hq, hp]; rfl
  have hD : diV qx qy px py = sqV ((px - qx) * (px - qx) + (py - qy) * (py - qy)) := by unfold diV; rw [hln, if_neg (by decide)]
  obtain ⟨b1, b2, b3, b4⟩ := lnB_bd hln
  have s1 := sqd_le (d := px - qx) (by omega)
  have s2 := sqd_le (d := py - qy) (by omega)
  have e : agSq (msX 2 qx px d0) (msX 2 qy py d1) px py = (px - qx) * (px - qx) + (py - qy) * (py - qy) := by simp [agSq, msX]
  have ev : msV 2 (diV qx qy px py) cv d0 = diV qx qy px py + d0 := by simp [msV]; omega
  rw [e, ev, hD]
  rw [hD] at h1
  have q1 := sqV_sq (n := (px - qx) * (px - qx) + (py - qy) * (py - qy)) (by omega)
  have q2 := sqV_lt (n := (px - qx) * (px - qx) + (py - qy) * (py - qy)) (by omega)
  have q0 : 0 ≤ sqV ((px - qx) * (px - qx) + (py - qy) * (py - qy)) := by unfold sqV; omega
  generalize sqV ((px - qx) * (px - qx) + (py - qy) * (py - qy)) = r at *
  generalize (px - qx) * (px - qx) + (py - qy) * (py - qy) = n at *
  have a0 : -(bo - 1) ≤ d0 ∧ d0 ≤ bo - 1 := by unfold absV at h0; omega
  have t1 : n ≤ (r + d0 + bo) * (r + d0 + bo) := by
    have : (r + 1) * (r + 1) ≤ (r + d0 + bo) * (r + d0 + bo) := Int.mul_le_mul (by omega) (by omega) (by omega) (by omega)
    omega
  have t2 : r + d0 - bo ≤ 0 ∨ (r + d0 - bo) * (r + d0 - bo) ≤ n := by
    by_cases hz : r + d0 - bo ≤ 0
    · exact .inl hz
    · right
      have : (r + d0 - bo) * (r + d0 - bo) ≤ r * r := Int.mul_le_mul (by omega) (by omega) (by omega) (by omega)
      omega
  rw [decide_eq_true t1]
  rcases t2 with t2 | t2
  · rw [decide_eq_true t2]; rfl
  · rw [decide_eq_true t2]; simp
theorem sound3 {so px py qx qy bo we tk d0 d1 dv : Int} (h : repE so 3 (msX 3 qx px d0) (msX 3 qy py d1) (msV 3 dv (coV qx qy px py) d0) bo we tk = 0) (hp : ptB px py = true) (hc : coE qx qy px py = 0) (h0 : absV d0 ≤ bo - 2) :
    agB so 3 (msX 3 qx px d0) (msX 3 qy py d1) (msV 3 dv (coV qx qy px py) d0) bo we tk px py = true := by
  rw [agB_3 h hp]
  have hb := repE_0 h
  have hbo : bo ≤ 3600000 := hb.2.1.2
  have ex : msX 3 qx px d0 = qx := by simp [msX]
  have ey : msX 3 qy py d1 = qy := by simp [msX]
  have ev : msV 3 dv (coV qx qy px py) d0 = nrm (coV qx qy px py + d0) := by simp [msV]
  rw [ex, ey, ev, hc]
  have cb : 0 ≤ coV qx qy px py ∧ coV qx qy px py < 129600000 := by
    rw [coV_0 hc]; exact atV_bd _ _
  generalize coV qx qy px py = c at *
  have a0 : -(bo - 2) ≤ d0 ∧ d0 ≤ bo - 2 := by unfold absV at h0; omega
  have e : diffV (nrm (c + d0)) c = -d0 := by
    unfold diffV nrm
    split <;> omega
  rw [e]
  have : absV (-d0) ≤ bo - 2 := by unfold absV; omega
  simp [this]
set_option maxRecDepth 100000 in
set_option maxHeartbeats 4000000 in
theorem sizeL_any (a : Int) (h : -9223372036854775807 ≤ a ∧ a ≤ 9223372036854775807) (w : World) : Calls Try.prog 20 #[.int .i64 a] w fun e w' => e = .returned (.int .i64 (absV a)) ∧ w = w' := by
  obtain ⟨h0, h1⟩ := h
  by_cases hn : a < 0
  · have HV := Lib.hid (show absV a = -a by unfold absV; omega)
    go_enter Try.func20, Try.ntmps20
    go_wp2
    go_ret
    exact ⟨ret_int HV.out.symm, rfl⟩
  · have HV := Lib.hid (show absV a = a by unfold absV; omega)
    go_enter Try.func20, Try.ntmps20
    go_wp2
    go_ret
    exact ⟨ret_int HV.out.symm, rfl⟩
set_option maxRecDepth 100000 in
set_option maxHeartbeats 4000000 in
theorem cells6 {tk px py ve vn al vs hd ca fu bk co so qx qy bo we d0 d1 : Int} {gr : Bool} {w W : World} (h1 : Has W w.heap.size [.int .i64 tk, .int .i64 px, .int .i64 py, .int .i64 ve, .int .i64 vn, .int .i64 al, .int .i64 vs, .int .i64 hd, .int .i64 ca, .int .i64 fu, .int .i64 bk, .bool gr]) (h2 : Has W (w.heap.size + 1) [.int .i64 co, .int .i64 so, .int .u8 2, .int .i64 qx, .int .i64 qy, .int .i64 bo, .int .i64 we]) (h3 : Has W (w.heap.size + 1 + 1) [.int .i64 d0, .int .i64 d1]) :
    W.cell? ⟨w.heap.size + 1 + 1, 0, none⟩ = some (.int .i64 d0) ∧ W.cell? ⟨w.heap.size + 1, 5, none⟩ = some (.int .i64 bo) ∧ W.cell? ⟨w.heap.size + 1, 3, none⟩ = some (.int .i64 qx) ∧ W.cell? ⟨w.heap.size + 1, 4, none⟩ = some (.int .i64 qy) ∧ W.cell? ⟨w.heap.size, 1, none⟩ = some (.int .i64 px) ∧ W.cell? ⟨w.heap.size, 2, none⟩ = some (.int .i64 py) :=
  ⟨h3.cell 0 _ rfl, h2.cell 5 _ rfl, h2.cell 3 _ rfl, h2.cell 4 _ rfl, h1.cell 1 _ rfl, h1.cell 2 _ rfl⟩
set_option maxRecDepth 100000 in
set_option maxHeartbeats 4000000 in
theorem walk_SimulatorSound (tk : Int) (px : Int) (py : Int) (ve : Int) (vn : Int) (al : Int) (vs : Int) (hd : Int) (ca : Int) (fu : Int) (bk : Int) (gr : Bool) (co so ki qx qy bo we : Int) (d0 d1 : Int) (w : World) (_ : (Lit.int .i64 tk).wf = true) (_ : (Lit.int .i64 px).wf = true) (_ : (Lit.int .i64 py).wf = true) (_ : (Lit.int .i64 ve).wf = true) (_ : (Lit.int .i64 vn).wf = true) (_ : (Lit.int .i64 al).wf = true) (_ : (Lit.int .i64 vs).wf = true) (_ : (Lit.int .i64 hd).wf = true) (_ : (Lit.int .i64 ca).wf = true) (_ : (Lit.int .i64 fu).wf = true) (_ : (Lit.int .i64 bk).wf = true) (_ : (Lit.int .i64 co).wf = true) (hso : (Lit.int .i64 so).wf = true) (hki : (Lit.int .u8 ki).wf = true) (_ : (Lit.int .i64 qx).wf = true) (_ : (Lit.int .i64 qy).wf = true) (_ : (Lit.int .i64 bo).wf = true) (_ : (Lit.int .i64 we).wf = true) (_ : (Lit.int .i64 d0).wf = true) (_ : (Lit.int .i64 d1).wf = true) :
    Calls Try.prog 6 #[.agg #[.int .i64 tk, .int .i64 px, .int .i64 py, .int .i64 ve, .int .i64 vn, .int .i64 al, .int .i64 vs, .int .i64 hd, .int .i64 ca, .int .i64 fu, .int .i64 bk, .bool gr], .agg #[.int .i64 co, .int .i64 so, .int .u8 ki, .int .i64 qx, .int .i64 qy, .int .i64 bo, .int .i64 we], .agg #[.int .i64 d0, .int .i64 d1]] w fun e w' => e = .returned (.bool true) ∧ Below w.heap.size w w' := by
  have hkb := bounds_u8 hki
  have HX := Lib.hid (xMeas tk px py ve vn al vs hd ca fu bk gr co so ki qx qy bo we d0 d1 (diV qx qy px py) (coV qx qy px py) (coE qx qy px py) (wf_i64_bd hso) hkb.1 hkb.2 (fun _ => ⟨diV_bd _ _ _ _, xDist _ _ _ _⟩) (fun _ => ⟨coV_bd _ _ _ _, xCourse _ _ _ _⟩))
  by_cases hM : msE tk px py ve vn al vs hd ca fu bk co so ki qx qy bo we d0 d1 (diV qx qy px py) (coV qx qy px py) (coE qx qy px py) = 0
  rotate_left
  · rw [repV_no hM] at HX
    generalize msE tk px py ve vn al vs hd ca fu bk co so ki qx qy bo we d0 d1 (diV qx qy px py) (coV qx qy px py) (coE qx qy px py) = M at *
    have e1 : (M == 0) = false := beq_eq_false_iff_ne.2 hM
    have e2 : (M != 0) = true := by rw [bne, e1]; rfl
    clear hM hso hki hkb
    go_enter Try.func6, Try.ntmps6
    go_wp2_with fail
    refine (awake_any _).mono ?_; rintro e w1 ⟨rfl, hB⟩
    have KC : Hid (Has w1 w.heap.size [.int .i64 tk, .int .i64 px, .int .i64 py, .int .i64 ve, .int .i64 vn, .int .i64 al, .int .i64 vs, .int .i64 hd, .int .i64 ca, .int .i64 fu, .int .i64 bk, .bool gr]) := Lib.hid ((((Has.new w _ _).alloc _).alloc _).below hB)
    have KS : Hid (Has w1 (w.heap.size + 1) [.int .i64 co, .int .i64 so, .int .u8 ki, .int .i64 qx, .int .i64 qy, .int .i64 bo, .int .i64 we]) := Lib.hid (((Has.newAt (w.alloc _) _ _ (w.heap.size + 1) (by simp)).alloc _).below hB)
    have KX : Hid (Has w1 (w.heap.size + 1 + 1) [.int .i64 d0, .int .i64 d1]) := Lib.hid ((Has.newAt ((w.alloc _).alloc _) _ _ (w.heap.size + 1 + 1) (by simp)).below hB)
    have HB := Lib.hid ((below_alloc3 w _ _ _).trans (hB.mono (by simp; omega)))
    clear hB
    have kc0 : w1.cell? ⟨w.heap.size, 0, none⟩ = some (.int .i64 tk) := KC.out.cell 0 _ rfl
    have kc1 : w1.cell? ⟨w.heap.size, 1, none⟩ = some (.int .i64 px) := KC.out.cell 1 _ rfl
    have kc2 : w1.cell? ⟨w.heap.size, 2, none⟩ = some (.int .i64 py) := KC.out.cell 2 _ rfl
    have kc3 : w1.cell? ⟨w.heap.size, 3, none⟩ = some (.int .i64 ve) := KC.out.cell 3 _ rfl
    have kc4 : w1.cell? ⟨w.heap.size, 4, none⟩ = some (.int .i64 vn) := KC.out.cell 4 _ rfl
    have kc5 : w1.cell? ⟨w.heap.size, 5, none⟩ = some (.int .i64 al) := KC.out.cell 5 _ rfl
    have kc6 : w1.cell? ⟨w.heap.size, 6, none⟩ = some (.int .i64 vs) := KC.out.cell 6 _ rfl
    have kc7 : w1.cell? ⟨w.heap.size, 7, none⟩ = some (.int .i64 hd) := KC.out.cell 7 _ rfl
    have kc8 : w1.cell? ⟨w.heap.size, 8, none⟩ = some (.int .i64 ca) := KC.out.cell 8 _ rfl
    have kc9 : w1.cell? ⟨w.heap.size, 9, none⟩ = some (.int .i64 fu) := KC.out.cell 9 _ rfl
    have kc10 : w1.cell? ⟨w.heap.size, 10, none⟩ = some (.int .i64 bk) := KC.out.cell 10 _ rfl
    have kc11 : w1.cell? ⟨w.heap.size, 11, none⟩ = some (.bool gr) := KC.out.cell 11 _ rfl
    have ks0 : w1.cell? ⟨w.heap.size + 1, 0, none⟩ = some (.int .i64 co) := KS.out.cell 0 _ rfl
    have ks1 : w1.cell? ⟨w.heap.size + 1, 1, none⟩ = some (.int .i64 so) := KS.out.cell 1 _ rfl
    have ks2 : w1.cell? ⟨w.heap.size + 1, 2, none⟩ = some (.int .u8 ki) := KS.out.cell 2 _ rfl
    have ks3 : w1.cell? ⟨w.heap.size + 1, 3, none⟩ = some (.int .i64 qx) := KS.out.cell 3 _ rfl
    have ks4 : w1.cell? ⟨w.heap.size + 1, 4, none⟩ = some (.int .i64 qy) := KS.out.cell 4 _ rfl
    have ks5 : w1.cell? ⟨w.heap.size + 1, 5, none⟩ = some (.int .i64 bo) := KS.out.cell 5 _ rfl
    have ks6 : w1.cell? ⟨w.heap.size + 1, 6, none⟩ = some (.int .i64 we) := KS.out.cell 6 _ rfl
    have kx0 : w1.cell? ⟨w.heap.size + 1 + 1, 0, none⟩ = some (.int .i64 d0) := KX.out.cell 0 _ rfl
    have kx1 : w1.cell? ⟨w.heap.size + 1 + 1, 1, none⟩ = some (.int .i64 d1) := KX.out.cell 1 _ rfl
    go_wp2_with fail
    refine (HX.out _).mono ?_; rintro e w2 ⟨rfl, hB⟩
    clear kc0 kc1 kc2 kc3 kc4 kc5 kc6 kc7 kc8 kc9 kc10 kc11 ks0 ks1 ks2 ks3 ks4 ks5 ks6 kx0 kx1
    replace KC := Lib.hid (KC.out.below hB)
    replace KS := Lib.hid (KS.out.below hB)
    replace KX := Lib.hid (KX.out.below hB)
    replace HB := Lib.hid (bel_trans HB.out hB)
    clear hB
    have KR : Hid (Has (w2.alloc (.cells #[.int .i64 0, .int .u8 0, .int .i64 0, .int .i64 0, .int .i64 0, .int .i64 0, .int .i64 0, .int .i64 0] 54)) w2.heap.size [.int .i64 0, .int .u8 0, .int .i64 0, .int .i64 0, .int .i64 0, .int .i64 0, .int .i64 0, .int .i64 0]) := Lib.hid (Has.new w2 _ _)
    replace KC := Lib.hid (KC.out.alloc (.cells #[.int .i64 0, .int .u8 0, .int .i64 0, .int .i64 0, .int .i64 0, .int .i64 0, .int .i64 0, .int .i64 0] 54))
    replace KS := Lib.hid (KS.out.alloc (.cells #[.int .i64 0, .int .u8 0, .int .i64 0, .int .i64 0, .int .i64 0, .int .i64 0, .int .i64 0, .int .i64 0] 54))
    replace KX := Lib.hid (KX.out.alloc (.cells #[.int .i64 0, .int .u8 0, .int .i64 0, .int .i64 0, .int .i64 0, .int .i64 0, .int .i64 0, .int .i64 0] 54))
    replace HB := Lib.hid (bel_alloc1 HB.out (.cells #[.int .i64 0, .int .u8 0, .int .i64 0, .int .i64 0, .int .i64 0, .int .i64 0, .int .i64 0, .int .i64 0] 54))
    have kc0 : (w2.alloc (.cells #[.int .i64 0, .int .u8 0, .int .i64 0, .int .i64 0, .int .i64 0, .int .i64 0, .int .i64 0, .int .i64 0] 54)).cell? ⟨w.heap.size, 0, none⟩ = some (.int .i64 tk) := KC.out.cell 0 _ rfl
    have kc1 : (w2.alloc (.cells #[.int .i64 0, .int .u8 0, .int .i64 0, .int .i64 0, .int .i64 0, .int .i64 0, .int .i64 0, .int .i64 0] 54)).cell? ⟨w.heap.size, 1, none⟩ = some (.int .i64 px) := KC.out.cell 1 _ rfl
    have kc2 : (w2.alloc (.cells #[.int .i64 0, .int .u8 0, .int .i64 0, .int .i64 0, .int .i64 0, .int .i64 0, .int .i64 0, .int .i64 0] 54)).cell? ⟨w.heap.size, 2, none⟩ = some (.int .i64 py) := KC.out.cell 2 _ rfl
    have kc3 : (w2.alloc (.cells #[.int .i64 0, .int .u8 0, .int .i64 0, .int .i64 0, .int .i64 0, .int .i64 0, .int .i64 0, .int .i64 0] 54)).cell? ⟨w.heap.size, 3, none⟩ = some (.int .i64 ve) := KC.out.cell 3 _ rfl
    have kc4 : (w2.alloc (.cells #[.int .i64 0, .int .u8 0, .int .i64 0, .int .i64 0, .int .i64 0, .int .i64 0, .int .i64 0, .int .i64 0] 54)).cell? ⟨w.heap.size, 4, none⟩ = some (.int .i64 vn) := KC.out.cell 4 _ rfl
    have kc5 : (w2.alloc (.cells #[.int .i64 0, .int .u8 0, .int .i64 0, .int .i64 0, .int .i64 0, .int .i64 0, .int .i64 0, .int .i64 0] 54)).cell? ⟨w.heap.size, 5, none⟩ = some (.int .i64 al) := KC.out.cell 5 _ rfl
    have kc6 : (w2.alloc (.cells #[.int .i64 0, .int .u8 0, .int .i64 0, .int .i64 0, .int .i64 0, .int .i64 0, .int .i64 0, .int .i64 0] 54)).cell? ⟨w.heap.size, 6, none⟩ = some (.int .i64 vs) := KC.out.cell 6 _ rfl
    have kc7 : (w2.alloc (.cells #[.int .i64 0, .int .u8 0, .int .i64 0, .int .i64 0, .int .i64 0, .int .i64 0, .int .i64 0, .int .i64 0] 54)).cell? ⟨w.heap.size, 7, none⟩ = some (.int .i64 hd) := KC.out.cell 7 _ rfl
    have kc8 : (w2.alloc (.cells #[.int .i64 0, .int .u8 0, .int .i64 0, .int .i64 0, .int .i64 0, .int .i64 0, .int .i64 0, .int .i64 0] 54)).cell? ⟨w.heap.size, 8, none⟩ = some (.int .i64 ca) := KC.out.cell 8 _ rfl
    have kc9 : (w2.alloc (.cells #[.int .i64 0, .int .u8 0, .int .i64 0, .int .i64 0, .int .i64 0, .int .i64 0, .int .i64 0, .int .i64 0] 54)).cell? ⟨w.heap.size, 9, none⟩ = some (.int .i64 fu) := KC.out.cell 9 _ rfl
    have kc10 : (w2.alloc (.cells #[.int .i64 0, .int .u8 0, .int .i64 0, .int .i64 0, .int .i64 0, .int .i64 0, .int .i64 0, .int .i64 0] 54)).cell? ⟨w.heap.size, 10, none⟩ = some (.int .i64 bk) := KC.out.cell 10 _ rfl
    have kc11 : (w2.alloc (.cells #[.int .i64 0, .int .u8 0, .int .i64 0, .int .i64 0, .int .i64 0, .int .i64 0, .int .i64 0, .int .i64 0] 54)).cell? ⟨w.heap.size, 11, none⟩ = some (.bool gr) := KC.out.cell 11 _ rfl
    have ks0 : (w2.alloc (.cells #[.int .i64 0, .int .u8 0, .int .i64 0, .int .i64 0, .int .i64 0, .int .i64 0, .int .i64 0, .int .i64 0] 54)).cell? ⟨w.heap.size + 1, 0, none⟩ = some (.int .i64 co) := KS.out.cell 0 _ rfl
    have ks1 : (w2.alloc (.cells #[.int .i64 0, .int .u8 0, .int .i64 0, .int .i64 0, .int .i64 0, .int .i64 0, .int .i64 0, .int .i64 0] 54)).cell? ⟨w.heap.size + 1, 1, none⟩ = some (.int .i64 so) := KS.out.cell 1 _ rfl
    have ks2 : (w2.alloc (.cells #[.int .i64 0, .int .u8 0, .int .i64 0, .int .i64 0, .int .i64 0, .int .i64 0, .int .i64 0, .int .i64 0] 54)).cell? ⟨w.heap.size + 1, 2, none⟩ = some (.int .u8 ki) := KS.out.cell 2 _ rfl
    have ks3 : (w2.alloc (.cells #[.int .i64 0, .int .u8 0, .int .i64 0, .int .i64 0, .int .i64 0, .int .i64 0, .int .i64 0, .int .i64 0] 54)).cell? ⟨w.heap.size + 1, 3, none⟩ = some (.int .i64 qx) := KS.out.cell 3 _ rfl
    have ks4 : (w2.alloc (.cells #[.int .i64 0, .int .u8 0, .int .i64 0, .int .i64 0, .int .i64 0, .int .i64 0, .int .i64 0, .int .i64 0] 54)).cell? ⟨w.heap.size + 1, 4, none⟩ = some (.int .i64 qy) := KS.out.cell 4 _ rfl
    have ks5 : (w2.alloc (.cells #[.int .i64 0, .int .u8 0, .int .i64 0, .int .i64 0, .int .i64 0, .int .i64 0, .int .i64 0, .int .i64 0] 54)).cell? ⟨w.heap.size + 1, 5, none⟩ = some (.int .i64 bo) := KS.out.cell 5 _ rfl
    have ks6 : (w2.alloc (.cells #[.int .i64 0, .int .u8 0, .int .i64 0, .int .i64 0, .int .i64 0, .int .i64 0, .int .i64 0, .int .i64 0] 54)).cell? ⟨w.heap.size + 1, 6, none⟩ = some (.int .i64 we) := KS.out.cell 6 _ rfl
    have kx0 : (w2.alloc (.cells #[.int .i64 0, .int .u8 0, .int .i64 0, .int .i64 0, .int .i64 0, .int .i64 0, .int .i64 0, .int .i64 0] 54)).cell? ⟨w.heap.size + 1 + 1, 0, none⟩ = some (.int .i64 d0) := KX.out.cell 0 _ rfl
    have kx1 : (w2.alloc (.cells #[.int .i64 0, .int .u8 0, .int .i64 0, .int .i64 0, .int .i64 0, .int .i64 0, .int .i64 0, .int .i64 0] 54)).cell? ⟨w.heap.size + 1 + 1, 1, none⟩ = some (.int .i64 d1) := KX.out.cell 1 _ rfl
    go_wp2_with fail
    go_ret
    exact ⟨ret_bool (by simp), HB.out⟩
  rw [hM, repV_ok] at HX
  obtain ⟨⟨hcr, hsn⟩, ⟨⟨g0, g1⟩, g2, g3⟩, hce, hre⟩ := msE_0 hM
  have hpp := crE_pt hcr
  have hbb := (repE_0 hre).2.1
  have hdv := diV_bd qx qy px py
  clear hM hsn
  have hso' := wf_i64_bd hso
  rcases (repE_0 hre).1.1 with rfl | rfl | rfl
  · have HAG := Lib.hid (fun (hq : agB so 1 (msX 1 qx px d0) (msX 1 qy py d1) (msV 1 (diV qx qy px py) (coV qx qy px py) d0) bo we tk px py = true) => (fun w' => hq ▸ xAgrees so 1 (msX 1 qx px d0) (msX 1 qy py d1) (msV 1 (diV qx qy px py) (coV qx qy px py) d0) bo we tk px py hso' hkb.1 hkb.2 w'))
    obtain ⟨bo0, bo1⟩ := hbb
    have bo2 : bo ≤ 3600000 := Int.le_trans bo1 (by decide)
    have HSD := Lib.hid (fun h0 h1 => HAG.out (sound1 hre hpp h0 h1))
    clear HAG hre hce hcr hpp hso hki hkb hso' bo1
    generalize msX 1 qx px d0 = X at *
    generalize msX 1 qy py d1 = Y at *
    generalize msV 1 (diV qx qy px py) (coV qx qy px py) d0 = VV at *
    clear hdv
    by_cases h1 : bo < absV d0
    · go_enter Try.func6, Try.ntmps6
      go_wp2_with fail
      refine (awake_any _).mono ?_; rintro e w1 ⟨rfl, hB⟩
      have KC : Hid (Has w1 w.heap.size [.int .i64 tk, .int .i64 px, .int .i64 py, .int .i64 ve, .int .i64 vn, .int .i64 al, .int .i64 vs, .int .i64 hd, .int .i64 ca, .int .i64 fu, .int .i64 bk, .bool gr]) := Lib.hid ((((Has.new w _ _).alloc _).alloc _).below hB)
      have KS : Hid (Has w1 (w.heap.size + 1) [.int .i64 co, .int .i64 so, .int .u8 1, .int .i64 qx, .int .i64 qy, .int .i64 bo, .int .i64 we]) := Lib.hid (((Has.newAt (w.alloc _) _ _ (w.heap.size + 1) (by simp)).alloc _).below hB)
      have KX : Hid (Has w1 (w.heap.size + 1 + 1) [.int .i64 d0, .int .i64 d1]) := Lib.hid ((Has.newAt ((w.alloc _).alloc _) _ _ (w.heap.size + 1 + 1) (by simp)).below hB)
      have HB := Lib.hid ((below_alloc3 w _ _ _).trans (hB.mono (by simp; omega)))
      clear hB
      have kc0 : w1.cell? ⟨w.heap.size, 0, none⟩ = some (.int .i64 tk) := KC.out.cell 0 _ rfl
      have kc1 : w1.cell? ⟨w.heap.size, 1, none⟩ = some (.int .i64 px) := KC.out.cell 1 _ rfl
      have kc2 : w1.cell? ⟨w.heap.size, 2, none⟩ = some (.int .i64 py) := KC.out.cell 2 _ rfl
      have kc3 : w1.cell? ⟨w.heap.size, 3, none⟩ = some (.int .i64 ve) := KC.out.cell 3 _ rfl
      have kc4 : w1.cell? ⟨w.heap.size, 4, none⟩ = some (.int .i64 vn) := KC.out.cell 4 _ rfl
      have kc5 : w1.cell? ⟨w.heap.size, 5, none⟩ = some (.int .i64 al) := KC.out.cell 5 _ rfl
      have kc6 : w1.cell? ⟨w.heap.size, 6, none⟩ = some (.int .i64 vs) := KC.out.cell 6 _ rfl
      have kc7 : w1.cell? ⟨w.heap.size, 7, none⟩ = some (.int .i64 hd) := KC.out.cell 7 _ rfl
      have kc8 : w1.cell? ⟨w.heap.size, 8, none⟩ = some (.int .i64 ca) := KC.out.cell 8 _ rfl
      have kc9 : w1.cell? ⟨w.heap.size, 9, none⟩ = some (.int .i64 fu) := KC.out.cell 9 _ rfl
      have kc10 : w1.cell? ⟨w.heap.size, 10, none⟩ = some (.int .i64 bk) := KC.out.cell 10 _ rfl
      have kc11 : w1.cell? ⟨w.heap.size, 11, none⟩ = some (.bool gr) := KC.out.cell 11 _ rfl
      have ks0 : w1.cell? ⟨w.heap.size + 1, 0, none⟩ = some (.int .i64 co) := KS.out.cell 0 _ rfl
      have ks1 : w1.cell? ⟨w.heap.size + 1, 1, none⟩ = some (.int .i64 so) := KS.out.cell 1 _ rfl
      have ks2 : w1.cell? ⟨w.heap.size + 1, 2, none⟩ = some (.int .u8 1) := KS.out.cell 2 _ rfl
      have ks3 : w1.cell? ⟨w.heap.size + 1, 3, none⟩ = some (.int .i64 qx) := KS.out.cell 3 _ rfl
      have ks4 : w1.cell? ⟨w.heap.size + 1, 4, none⟩ = some (.int .i64 qy) := KS.out.cell 4 _ rfl
      have ks5 : w1.cell? ⟨w.heap.size + 1, 5, none⟩ = some (.int .i64 bo) := KS.out.cell 5 _ rfl
      have ks6 : w1.cell? ⟨w.heap.size + 1, 6, none⟩ = some (.int .i64 we) := KS.out.cell 6 _ rfl
      have kx0 : w1.cell? ⟨w.heap.size + 1 + 1, 0, none⟩ = some (.int .i64 d0) := KX.out.cell 0 _ rfl
      have kx1 : w1.cell? ⟨w.heap.size + 1 + 1, 1, none⟩ = some (.int .i64 d1) := KX.out.cell 1 _ rfl
      go_wp2_with fail
      refine (HX.out _).mono ?_; rintro e w2 ⟨rfl, hB⟩
      clear kc0 kc1 kc2 kc3 kc4 kc5 kc6 kc7 kc8 kc9 kc10 kc11 ks0 ks1 ks2 ks3 ks4 ks5 ks6 kx0 kx1
      replace KC := Lib.hid (KC.out.below hB)
      replace KS := Lib.hid (KS.out.below hB)
      replace KX := Lib.hid (KX.out.below hB)
      replace HB := Lib.hid (bel_trans HB.out hB)
      clear hB
      have KR : Hid (Has (w2.alloc (.cells #[.int .i64 so, .int .u8 1, .int .i64 X, .int .i64 Y, .int .i64 VV, .int .i64 bo, .int .i64 we, .int .i64 tk] 54)) w2.heap.size [.int .i64 so, .int .u8 1, .int .i64 X, .int .i64 Y, .int .i64 VV, .int .i64 bo, .int .i64 we, .int .i64 tk]) := Lib.hid (Has.new w2 _ _)
      replace KC := Lib.hid (KC.out.alloc (.cells #[.int .i64 so, .int .u8 1, .int .i64 X, .int .i64 Y, .int .i64 VV, .int .i64 bo, .int .i64 we, .int .i64 tk] 54))
      replace KS := Lib.hid (KS.out.alloc (.cells #[.int .i64 so, .int .u8 1, .int .i64 X, .int .i64 Y, .int .i64 VV, .int .i64 bo, .int .i64 we, .int .i64 tk] 54))
      replace KX := Lib.hid (KX.out.alloc (.cells #[.int .i64 so, .int .u8 1, .int .i64 X, .int .i64 Y, .int .i64 VV, .int .i64 bo, .int .i64 we, .int .i64 tk] 54))
      replace HB := Lib.hid (bel_alloc1 HB.out (.cells #[.int .i64 so, .int .u8 1, .int .i64 X, .int .i64 Y, .int .i64 VV, .int .i64 bo, .int .i64 we, .int .i64 tk] 54))
      have kc0 : (w2.alloc (.cells #[.int .i64 so, .int .u8 1, .int .i64 X, .int .i64 Y, .int .i64 VV, .int .i64 bo, .int .i64 we, .int .i64 tk] 54)).cell? ⟨w.heap.size, 0, none⟩ = some (.int .i64 tk) := KC.out.cell 0 _ rfl
      have kc1 : (w2.alloc (.cells #[.int .i64 so, .int .u8 1, .int .i64 X, .int .i64 Y, .int .i64 VV, .int .i64 bo, .int .i64 we, .int .i64 tk] 54)).cell? ⟨w.heap.size, 1, none⟩ = some (.int .i64 px) := KC.out.cell 1 _ rfl
      have kc2 : (w2.alloc (.cells #[.int .i64 so, .int .u8 1, .int .i64 X, .int .i64 Y, .int .i64 VV, .int .i64 bo, .int .i64 we, .int .i64 tk] 54)).cell? ⟨w.heap.size, 2, none⟩ = some (.int .i64 py) := KC.out.cell 2 _ rfl
      have kc3 : (w2.alloc (.cells #[.int .i64 so, .int .u8 1, .int .i64 X, .int .i64 Y, .int .i64 VV, .int .i64 bo, .int .i64 we, .int .i64 tk] 54)).cell? ⟨w.heap.size, 3, none⟩ = some (.int .i64 ve) := KC.out.cell 3 _ rfl
      have kc4 : (w2.alloc (.cells #[.int .i64 so, .int .u8 1, .int .i64 X, .int .i64 Y, .int .i64 VV, .int .i64 bo, .int .i64 we, .int .i64 tk] 54)).cell? ⟨w.heap.size, 4, none⟩ = some (.int .i64 vn) := KC.out.cell 4 _ rfl
      have kc5 : (w2.alloc (.cells #[.int .i64 so, .int .u8 1, .int .i64 X, .int .i64 Y, .int .i64 VV, .int .i64 bo, .int .i64 we, .int .i64 tk] 54)).cell? ⟨w.heap.size, 5, none⟩ = some (.int .i64 al) := KC.out.cell 5 _ rfl
      have kc6 : (w2.alloc (.cells #[.int .i64 so, .int .u8 1, .int .i64 X, .int .i64 Y, .int .i64 VV, .int .i64 bo, .int .i64 we, .int .i64 tk] 54)).cell? ⟨w.heap.size, 6, none⟩ = some (.int .i64 vs) := KC.out.cell 6 _ rfl
      have kc7 : (w2.alloc (.cells #[.int .i64 so, .int .u8 1, .int .i64 X, .int .i64 Y, .int .i64 VV, .int .i64 bo, .int .i64 we, .int .i64 tk] 54)).cell? ⟨w.heap.size, 7, none⟩ = some (.int .i64 hd) := KC.out.cell 7 _ rfl
      have kc8 : (w2.alloc (.cells #[.int .i64 so, .int .u8 1, .int .i64 X, .int .i64 Y, .int .i64 VV, .int .i64 bo, .int .i64 we, .int .i64 tk] 54)).cell? ⟨w.heap.size, 8, none⟩ = some (.int .i64 ca) := KC.out.cell 8 _ rfl
      have kc9 : (w2.alloc (.cells #[.int .i64 so, .int .u8 1, .int .i64 X, .int .i64 Y, .int .i64 VV, .int .i64 bo, .int .i64 we, .int .i64 tk] 54)).cell? ⟨w.heap.size, 9, none⟩ = some (.int .i64 fu) := KC.out.cell 9 _ rfl
      have kc10 : (w2.alloc (.cells #[.int .i64 so, .int .u8 1, .int .i64 X, .int .i64 Y, .int .i64 VV, .int .i64 bo, .int .i64 we, .int .i64 tk] 54)).cell? ⟨w.heap.size, 10, none⟩ = some (.int .i64 bk) := KC.out.cell 10 _ rfl
      have kc11 : (w2.alloc (.cells #[.int .i64 so, .int .u8 1, .int .i64 X, .int .i64 Y, .int .i64 VV, .int .i64 bo, .int .i64 we, .int .i64 tk] 54)).cell? ⟨w.heap.size, 11, none⟩ = some (.bool gr) := KC.out.cell 11 _ rfl
      have ks0 : (w2.alloc (.cells #[.int .i64 so, .int .u8 1, .int .i64 X, .int .i64 Y, .int .i64 VV, .int .i64 bo, .int .i64 we, .int .i64 tk] 54)).cell? ⟨w.heap.size + 1, 0, none⟩ = some (.int .i64 co) := KS.out.cell 0 _ rfl
      have ks1 : (w2.alloc (.cells #[.int .i64 so, .int .u8 1, .int .i64 X, .int .i64 Y, .int .i64 VV, .int .i64 bo, .int .i64 we, .int .i64 tk] 54)).cell? ⟨w.heap.size + 1, 1, none⟩ = some (.int .i64 so) := KS.out.cell 1 _ rfl
      have ks2 : (w2.alloc (.cells #[.int .i64 so, .int .u8 1, .int .i64 X, .int .i64 Y, .int .i64 VV, .int .i64 bo, .int .i64 we, .int .i64 tk] 54)).cell? ⟨w.heap.size + 1, 2, none⟩ = some (.int .u8 1) := KS.out.cell 2 _ rfl
      have ks3 : (w2.alloc (.cells #[.int .i64 so, .int .u8 1, .int .i64 X, .int .i64 Y, .int .i64 VV, .int .i64 bo, .int .i64 we, .int .i64 tk] 54)).cell? ⟨w.heap.size + 1, 3, none⟩ = some (.int .i64 qx) := KS.out.cell 3 _ rfl
      have ks4 : (w2.alloc (.cells #[.int .i64 so, .int .u8 1, .int .i64 X, .int .i64 Y, .int .i64 VV, .int .i64 bo, .int .i64 we, .int .i64 tk] 54)).cell? ⟨w.heap.size + 1, 4, none⟩ = some (.int .i64 qy) := KS.out.cell 4 _ rfl
      have ks5 : (w2.alloc (.cells #[.int .i64 so, .int .u8 1, .int .i64 X, .int .i64 Y, .int .i64 VV, .int .i64 bo, .int .i64 we, .int .i64 tk] 54)).cell? ⟨w.heap.size + 1, 5, none⟩ = some (.int .i64 bo) := KS.out.cell 5 _ rfl
      have ks6 : (w2.alloc (.cells #[.int .i64 so, .int .u8 1, .int .i64 X, .int .i64 Y, .int .i64 VV, .int .i64 bo, .int .i64 we, .int .i64 tk] 54)).cell? ⟨w.heap.size + 1, 6, none⟩ = some (.int .i64 we) := KS.out.cell 6 _ rfl
      have kx0 : (w2.alloc (.cells #[.int .i64 so, .int .u8 1, .int .i64 X, .int .i64 Y, .int .i64 VV, .int .i64 bo, .int .i64 we, .int .i64 tk] 54)).cell? ⟨w.heap.size + 1 + 1, 0, none⟩ = some (.int .i64 d0) := KX.out.cell 0 _ rfl
      have kx1 : (w2.alloc (.cells #[.int .i64 so, .int .u8 1, .int .i64 X, .int .i64 Y, .int .i64 VV, .int .i64 bo, .int .i64 we, .int .i64 tk] 54)).cell? ⟨w.heap.size + 1 + 1, 1, none⟩ = some (.int .i64 d1) := KX.out.cell 1 _ rfl
      go_wp2_with fail
      generalize hW0 : (w2.alloc (.cells #[.int .i64 so, .int .u8 1, .int .i64 X, .int .i64 Y, .int .i64 VV, .int .i64 bo, .int .i64 we, .int .i64 tk] 54)) = w5 at *
      clear hW0
      go_quiet (((go_at_call 20; first | exact quiet_more (flip (sizeL_any _ (by omega) _)) | exact Calls.quiet_of_same (flip (sizeL_any _ (by omega) _)))))
      go_wp2_with fail
      go_ret
      exact ⟨ret_bool (by simp), below_drewN HB.out _⟩
    by_cases h2 : bo < absV d1
    · go_enter Try.func6, Try.ntmps6
      go_wp2_with fail
      refine (awake_any _).mono ?_; rintro e w1 ⟨rfl, hB⟩
      have KC : Hid (Has w1 w.heap.size [.int .i64 tk, .int .i64 px, .int .i64 py, .int .i64 ve, .int .i64 vn, .int .i64 al, .int .i64 vs, .int .i64 hd, .int .i64 ca, .int .i64 fu, .int .i64 bk, .bool gr]) := Lib.hid ((((Has.new w _ _).alloc _).alloc _).below hB)
      have KS : Hid (Has w1 (w.heap.size + 1) [.int .i64 co, .int .i64 so, .int .u8 1, .int .i64 qx, .int .i64 qy, .int .i64 bo, .int .i64 we]) := Lib.hid (((Has.newAt (w.alloc _) _ _ (w.heap.size + 1) (by simp)).alloc _).below hB)
      have KX : Hid (Has w1 (w.heap.size + 1 + 1) [.int .i64 d0, .int .i64 d1]) := Lib.hid ((Has.newAt ((w.alloc _).alloc _) _ _ (w.heap.size + 1 + 1) (by simp)).below hB)
      have HB := Lib.hid ((below_alloc3 w _ _ _).trans (hB.mono (by simp; omega)))
      clear hB
      have kc0 : w1.cell? ⟨w.heap.size, 0, none⟩ = some (.int .i64 tk) := KC.out.cell 0 _ rfl
      have kc1 : w1.cell? ⟨w.heap.size, 1, none⟩ = some (.int .i64 px) := KC.out.cell 1 _ rfl
      have kc2 : w1.cell? ⟨w.heap.size, 2, none⟩ = some (.int .i64 py) := KC.out.cell 2 _ rfl
      have kc3 : w1.cell? ⟨w.heap.size, 3, none⟩ = some (.int .i64 ve) := KC.out.cell 3 _ rfl
      have kc4 : w1.cell? ⟨w.heap.size, 4, none⟩ = some (.int .i64 vn) := KC.out.cell 4 _ rfl
      have kc5 : w1.cell? ⟨w.heap.size, 5, none⟩ = some (.int .i64 al) := KC.out.cell 5 _ rfl
      have kc6 : w1.cell? ⟨w.heap.size, 6, none⟩ = some (.int .i64 vs) := KC.out.cell 6 _ rfl
      have kc7 : w1.cell? ⟨w.heap.size, 7, none⟩ = some (.int .i64 hd) := KC.out.cell 7 _ rfl
      have kc8 : w1.cell? ⟨w.heap.size, 8, none⟩ = some (.int .i64 ca) := KC.out.cell 8 _ rfl
      have kc9 : w1.cell? ⟨w.heap.size, 9, none⟩ = some (.int .i64 fu) := KC.out.cell 9 _ rfl
      have kc10 : w1.cell? ⟨w.heap.size, 10, none⟩ = some (.int .i64 bk) := KC.out.cell 10 _ rfl
      have kc11 : w1.cell? ⟨w.heap.size, 11, none⟩ = some (.bool gr) := KC.out.cell 11 _ rfl
      have ks0 : w1.cell? ⟨w.heap.size + 1, 0, none⟩ = some (.int .i64 co) := KS.out.cell 0 _ rfl
      have ks1 : w1.cell? ⟨w.heap.size + 1, 1, none⟩ = some (.int .i64 so) := KS.out.cell 1 _ rfl
      have ks2 : w1.cell? ⟨w.heap.size + 1, 2, none⟩ = some (.int .u8 1) := KS.out.cell 2 _ rfl
      have ks3 : w1.cell? ⟨w.heap.size + 1, 3, none⟩ = some (.int .i64 qx) := KS.out.cell 3 _ rfl
      have ks4 : w1.cell? ⟨w.heap.size + 1, 4, none⟩ = some (.int .i64 qy) := KS.out.cell 4 _ rfl
      have ks5 : w1.cell? ⟨w.heap.size + 1, 5, none⟩ = some (.int .i64 bo) := KS.out.cell 5 _ rfl
      have ks6 : w1.cell? ⟨w.heap.size + 1, 6, none⟩ = some (.int .i64 we) := KS.out.cell 6 _ rfl
      have kx0 : w1.cell? ⟨w.heap.size + 1 + 1, 0, none⟩ = some (.int .i64 d0) := KX.out.cell 0 _ rfl
      have kx1 : w1.cell? ⟨w.heap.size + 1 + 1, 1, none⟩ = some (.int .i64 d1) := KX.out.cell 1 _ rfl
      go_wp2_with fail
      refine (HX.out _).mono ?_; rintro e w2 ⟨rfl, hB⟩
      clear kc0 kc1 kc2 kc3 kc4 kc5 kc6 kc7 kc8 kc9 kc10 kc11 ks0 ks1 ks2 ks3 ks4 ks5 ks6 kx0 kx1
      replace KC := Lib.hid (KC.out.below hB)
      replace KS := Lib.hid (KS.out.below hB)
      replace KX := Lib.hid (KX.out.below hB)
      replace HB := Lib.hid (bel_trans HB.out hB)
      clear hB
      have KR : Hid (Has (w2.alloc (.cells #[.int .i64 so, .int .u8 1, .int .i64 X, .int .i64 Y, .int .i64 VV, .int .i64 bo, .int .i64 we, .int .i64 tk] 54)) w2.heap.size [.int .i64 so, .int .u8 1, .int .i64 X, .int .i64 Y, .int .i64 VV, .int .i64 bo, .int .i64 we, .int .i64 tk]) := Lib.hid (Has.new w2 _ _)
      replace KC := Lib.hid (KC.out.alloc (.cells #[.int .i64 so, .int .u8 1, .int .i64 X, .int .i64 Y, .int .i64 VV, .int .i64 bo, .int .i64 we, .int .i64 tk] 54))
      replace KS := Lib.hid (KS.out.alloc (.cells #[.int .i64 so, .int .u8 1, .int .i64 X, .int .i64 Y, .int .i64 VV, .int .i64 bo, .int .i64 we, .int .i64 tk] 54))
      replace KX := Lib.hid (KX.out.alloc (.cells #[.int .i64 so, .int .u8 1, .int .i64 X, .int .i64 Y, .int .i64 VV, .int .i64 bo, .int .i64 we, .int .i64 tk] 54))
      replace HB := Lib.hid (bel_alloc1 HB.out (.cells #[.int .i64 so, .int .u8 1, .int .i64 X, .int .i64 Y, .int .i64 VV, .int .i64 bo, .int .i64 we, .int .i64 tk] 54))
      have kc0 : (w2.alloc (.cells #[.int .i64 so, .int .u8 1, .int .i64 X, .int .i64 Y, .int .i64 VV, .int .i64 bo, .int .i64 we, .int .i64 tk] 54)).cell? ⟨w.heap.size, 0, none⟩ = some (.int .i64 tk) := KC.out.cell 0 _ rfl
      have kc1 : (w2.alloc (.cells #[.int .i64 so, .int .u8 1, .int .i64 X, .int .i64 Y, .int .i64 VV, .int .i64 bo, .int .i64 we, .int .i64 tk] 54)).cell? ⟨w.heap.size, 1, none⟩ = some (.int .i64 px) := KC.out.cell 1 _ rfl
      have kc2 : (w2.alloc (.cells #[.int .i64 so, .int .u8 1, .int .i64 X, .int .i64 Y, .int .i64 VV, .int .i64 bo, .int .i64 we, .int .i64 tk] 54)).cell? ⟨w.heap.size, 2, none⟩ = some (.int .i64 py) := KC.out.cell 2 _ rfl
      have kc3 : (w2.alloc (.cells #[.int .i64 so, .int .u8 1, .int .i64 X, .int .i64 Y, .int .i64 VV, .int .i64 bo, .int .i64 we, .int .i64 tk] 54)).cell? ⟨w.heap.size, 3, none⟩ = some (.int .i64 ve) := KC.out.cell 3 _ rfl
      have kc4 : (w2.alloc (.cells #[.int .i64 so, .int .u8 1, .int .i64 X, .int .i64 Y, .int .i64 VV, .int .i64 bo, .int .i64 we, .int .i64 tk] 54)).cell? ⟨w.heap.size, 4, none⟩ = some (.int .i64 vn) := KC.out.cell 4 _ rfl
      have kc5 : (w2.alloc (.cells #[.int .i64 so, .int .u8 1, .int .i64 X, .int .i64 Y, .int .i64 VV, .int .i64 bo, .int .i64 we, .int .i64 tk] 54)).cell? ⟨w.heap.size, 5, none⟩ = some (.int .i64 al) := KC.out.cell 5 _ rfl
      have kc6 : (w2.alloc (.cells #[.int .i64 so, .int .u8 1, .int .i64 X, .int .i64 Y, .int .i64 VV, .int .i64 bo, .int .i64 we, .int .i64 tk] 54)).cell? ⟨w.heap.size, 6, none⟩ = some (.int .i64 vs) := KC.out.cell 6 _ rfl
      have kc7 : (w2.alloc (.cells #[.int .i64 so, .int .u8 1, .int .i64 X, .int .i64 Y, .int .i64 VV, .int .i64 bo, .int .i64 we, .int .i64 tk] 54)).cell? ⟨w.heap.size, 7, none⟩ = some (.int .i64 hd) := KC.out.cell 7 _ rfl
      have kc8 : (w2.alloc (.cells #[.int .i64 so, .int .u8 1, .int .i64 X, .int .i64 Y, .int .i64 VV, .int .i64 bo, .int .i64 we, .int .i64 tk] 54)).cell? ⟨w.heap.size, 8, none⟩ = some (.int .i64 ca) := KC.out.cell 8 _ rfl
      have kc9 : (w2.alloc (.cells #[.int .i64 so, .int .u8 1, .int .i64 X, .int .i64 Y, .int .i64 VV, .int .i64 bo, .int .i64 we, .int .i64 tk] 54)).cell? ⟨w.heap.size, 9, none⟩ = some (.int .i64 fu) := KC.out.cell 9 _ rfl
      have kc10 : (w2.alloc (.cells #[.int .i64 so, .int .u8 1, .int .i64 X, .int .i64 Y, .int .i64 VV, .int .i64 bo, .int .i64 we, .int .i64 tk] 54)).cell? ⟨w.heap.size, 10, none⟩ = some (.int .i64 bk) := KC.out.cell 10 _ rfl
      have kc11 : (w2.alloc (.cells #[.int .i64 so, .int .u8 1, .int .i64 X, .int .i64 Y, .int .i64 VV, .int .i64 bo, .int .i64 we, .int .i64 tk] 54)).cell? ⟨w.heap.size, 11, none⟩ = some (.bool gr) := KC.out.cell 11 _ rfl
      have ks0 : (w2.alloc (.cells #[.int .i64 so, .int .u8 1, .int .i64 X, .int .i64 Y, .int .i64 VV, .int .i64 bo, .int .i64 we, .int .i64 tk] 54)).cell? ⟨w.heap.size + 1, 0, none⟩ = some (.int .i64 co) := KS.out.cell 0 _ rfl
      have ks1 : (w2.alloc (.cells #[.int .i64 so, .int .u8 1, .int .i64 X, .int .i64 Y, .int .i64 VV, .int .i64 bo, .int .i64 we, .int .i64 tk] 54)).cell? ⟨w.heap.size + 1, 1, none⟩ = some (.int .i64 so) := KS.out.cell 1 _ rfl
      have ks2 : (w2.alloc (.cells #[.int .i64 so, .int .u8 1, .int .i64 X, .int .i64 Y, .int .i64 VV, .int .i64 bo, .int .i64 we, .int .i64 tk] 54)).cell? ⟨w.heap.size + 1, 2, none⟩ = some (.int .u8 1) := KS.out.cell 2 _ rfl
      have ks3 : (w2.alloc (.cells #[.int .i64 so, .int .u8 1, .int .i64 X, .int .i64 Y, .int .i64 VV, .int .i64 bo, .int .i64 we, .int .i64 tk] 54)).cell? ⟨w.heap.size + 1, 3, none⟩ = some (.int .i64 qx) := KS.out.cell 3 _ rfl
      have ks4 : (w2.alloc (.cells #[.int .i64 so, .int .u8 1, .int .i64 X, .int .i64 Y, .int .i64 VV, .int .i64 bo, .int .i64 we, .int .i64 tk] 54)).cell? ⟨w.heap.size + 1, 4, none⟩ = some (.int .i64 qy) := KS.out.cell 4 _ rfl
      have ks5 : (w2.alloc (.cells #[.int .i64 so, .int .u8 1, .int .i64 X, .int .i64 Y, .int .i64 VV, .int .i64 bo, .int .i64 we, .int .i64 tk] 54)).cell? ⟨w.heap.size + 1, 5, none⟩ = some (.int .i64 bo) := KS.out.cell 5 _ rfl
      have ks6 : (w2.alloc (.cells #[.int .i64 so, .int .u8 1, .int .i64 X, .int .i64 Y, .int .i64 VV, .int .i64 bo, .int .i64 we, .int .i64 tk] 54)).cell? ⟨w.heap.size + 1, 6, none⟩ = some (.int .i64 we) := KS.out.cell 6 _ rfl
      have kx0 : (w2.alloc (.cells #[.int .i64 so, .int .u8 1, .int .i64 X, .int .i64 Y, .int .i64 VV, .int .i64 bo, .int .i64 we, .int .i64 tk] 54)).cell? ⟨w.heap.size + 1 + 1, 0, none⟩ = some (.int .i64 d0) := KX.out.cell 0 _ rfl
      have kx1 : (w2.alloc (.cells #[.int .i64 so, .int .u8 1, .int .i64 X, .int .i64 Y, .int .i64 VV, .int .i64 bo, .int .i64 we, .int .i64 tk] 54)).cell? ⟨w.heap.size + 1 + 1, 1, none⟩ = some (.int .i64 d1) := KX.out.cell 1 _ rfl
      go_wp2_with fail
      generalize hW0 : (w2.alloc (.cells #[.int .i64 so, .int .u8 1, .int .i64 X, .int .i64 Y, .int .i64 VV, .int .i64 bo, .int .i64 we, .int .i64 tk] 54)) = w5 at *
      clear hW0
      go_quiet (((go_at_call 20; first | exact quiet_more (flip (sizeL_any _ (by omega) _)) | exact Calls.quiet_of_same (flip (sizeL_any _ (by omega) _)))))
      go_wp2_with fail
      go_ret
      exact ⟨ret_bool (by simp), below_drewN HB.out _⟩
    have HSF := Lib.hid (HSD.out (by omega) (by omega))
    clear HSD
    go_enter Try.func6, Try.ntmps6
    go_wp2_with fail
    refine (awake_any _).mono ?_; rintro e w1 ⟨rfl, hB⟩
    have KC : Hid (Has w1 w.heap.size [.int .i64 tk, .int .i64 px, .int .i64 py, .int .i64 ve, .int .i64 vn, .int .i64 al, .int .i64 vs, .int .i64 hd, .int .i64 ca, .int .i64 fu, .int .i64 bk, .bool gr]) := Lib.hid ((((Has.new w _ _).alloc _).alloc _).below hB)
    have KS : Hid (Has w1 (w.heap.size + 1) [.int .i64 co, .int .i64 so, .int .u8 1, .int .i64 qx, .int .i64 qy, .int .i64 bo, .int .i64 we]) := Lib.hid (((Has.newAt (w.alloc _) _ _ (w.heap.size + 1) (by simp)).alloc _).below hB)
    have KX : Hid (Has w1 (w.heap.size + 1 + 1) [.int .i64 d0, .int .i64 d1]) := Lib.hid ((Has.newAt ((w.alloc _).alloc _) _ _ (w.heap.size + 1 + 1) (by simp)).below hB)
    have HB := Lib.hid ((below_alloc3 w _ _ _).trans (hB.mono (by simp; omega)))
    clear hB
    have kc0 : w1.cell? ⟨w.heap.size, 0, none⟩ = some (.int .i64 tk) := KC.out.cell 0 _ rfl
    have kc1 : w1.cell? ⟨w.heap.size, 1, none⟩ = some (.int .i64 px) := KC.out.cell 1 _ rfl
    have kc2 : w1.cell? ⟨w.heap.size, 2, none⟩ = some (.int .i64 py) := KC.out.cell 2 _ rfl
    have kc3 : w1.cell? ⟨w.heap.size, 3, none⟩ = some (.int .i64 ve) := KC.out.cell 3 _ rfl
    have kc4 : w1.cell? ⟨w.heap.size, 4, none⟩ = some (.int .i64 vn) := KC.out.cell 4 _ rfl
    have kc5 : w1.cell? ⟨w.heap.size, 5, none⟩ = some (.int .i64 al) := KC.out.cell 5 _ rfl
    have kc6 : w1.cell? ⟨w.heap.size, 6, none⟩ = some (.int .i64 vs) := KC.out.cell 6 _ rfl
    have kc7 : w1.cell? ⟨w.heap.size, 7, none⟩ = some (.int .i64 hd) := KC.out.cell 7 _ rfl
    have kc8 : w1.cell? ⟨w.heap.size, 8, none⟩ = some (.int .i64 ca) := KC.out.cell 8 _ rfl
    have kc9 : w1.cell? ⟨w.heap.size, 9, none⟩ = some (.int .i64 fu) := KC.out.cell 9 _ rfl
    have kc10 : w1.cell? ⟨w.heap.size, 10, none⟩ = some (.int .i64 bk) := KC.out.cell 10 _ rfl
    have kc11 : w1.cell? ⟨w.heap.size, 11, none⟩ = some (.bool gr) := KC.out.cell 11 _ rfl
    have ks0 : w1.cell? ⟨w.heap.size + 1, 0, none⟩ = some (.int .i64 co) := KS.out.cell 0 _ rfl
    have ks1 : w1.cell? ⟨w.heap.size + 1, 1, none⟩ = some (.int .i64 so) := KS.out.cell 1 _ rfl
    have ks2 : w1.cell? ⟨w.heap.size + 1, 2, none⟩ = some (.int .u8 1) := KS.out.cell 2 _ rfl
    have ks3 : w1.cell? ⟨w.heap.size + 1, 3, none⟩ = some (.int .i64 qx) := KS.out.cell 3 _ rfl
    have ks4 : w1.cell? ⟨w.heap.size + 1, 4, none⟩ = some (.int .i64 qy) := KS.out.cell 4 _ rfl
    have ks5 : w1.cell? ⟨w.heap.size + 1, 5, none⟩ = some (.int .i64 bo) := KS.out.cell 5 _ rfl
    have ks6 : w1.cell? ⟨w.heap.size + 1, 6, none⟩ = some (.int .i64 we) := KS.out.cell 6 _ rfl
    have kx0 : w1.cell? ⟨w.heap.size + 1 + 1, 0, none⟩ = some (.int .i64 d0) := KX.out.cell 0 _ rfl
    have kx1 : w1.cell? ⟨w.heap.size + 1 + 1, 1, none⟩ = some (.int .i64 d1) := KX.out.cell 1 _ rfl
    go_wp2_with fail
    refine (HX.out _).mono ?_; rintro e w2 ⟨rfl, hB⟩
    clear kc0 kc1 kc2 kc3 kc4 kc5 kc6 kc7 kc8 kc9 kc10 kc11 ks0 ks1 ks2 ks3 ks4 ks5 ks6 kx0 kx1
    replace KC := Lib.hid (KC.out.below hB)
    replace KS := Lib.hid (KS.out.below hB)
    replace KX := Lib.hid (KX.out.below hB)
    replace HB := Lib.hid (bel_trans HB.out hB)
    clear hB
    have KR : Hid (Has (w2.alloc (.cells #[.int .i64 so, .int .u8 1, .int .i64 X, .int .i64 Y, .int .i64 VV, .int .i64 bo, .int .i64 we, .int .i64 tk] 54)) w2.heap.size [.int .i64 so, .int .u8 1, .int .i64 X, .int .i64 Y, .int .i64 VV, .int .i64 bo, .int .i64 we, .int .i64 tk]) := Lib.hid (Has.new w2 _ _)
    replace KC := Lib.hid (KC.out.alloc (.cells #[.int .i64 so, .int .u8 1, .int .i64 X, .int .i64 Y, .int .i64 VV, .int .i64 bo, .int .i64 we, .int .i64 tk] 54))
    replace KS := Lib.hid (KS.out.alloc (.cells #[.int .i64 so, .int .u8 1, .int .i64 X, .int .i64 Y, .int .i64 VV, .int .i64 bo, .int .i64 we, .int .i64 tk] 54))
    replace KX := Lib.hid (KX.out.alloc (.cells #[.int .i64 so, .int .u8 1, .int .i64 X, .int .i64 Y, .int .i64 VV, .int .i64 bo, .int .i64 we, .int .i64 tk] 54))
    replace HB := Lib.hid (bel_alloc1 HB.out (.cells #[.int .i64 so, .int .u8 1, .int .i64 X, .int .i64 Y, .int .i64 VV, .int .i64 bo, .int .i64 we, .int .i64 tk] 54))
    have kc0 : (w2.alloc (.cells #[.int .i64 so, .int .u8 1, .int .i64 X, .int .i64 Y, .int .i64 VV, .int .i64 bo, .int .i64 we, .int .i64 tk] 54)).cell? ⟨w.heap.size, 0, none⟩ = some (.int .i64 tk) := KC.out.cell 0 _ rfl
    have kc1 : (w2.alloc (.cells #[.int .i64 so, .int .u8 1, .int .i64 X, .int .i64 Y, .int .i64 VV, .int .i64 bo, .int .i64 we, .int .i64 tk] 54)).cell? ⟨w.heap.size, 1, none⟩ = some (.int .i64 px) := KC.out.cell 1 _ rfl
    have kc2 : (w2.alloc (.cells #[.int .i64 so, .int .u8 1, .int .i64 X, .int .i64 Y, .int .i64 VV, .int .i64 bo, .int .i64 we, .int .i64 tk] 54)).cell? ⟨w.heap.size, 2, none⟩ = some (.int .i64 py) := KC.out.cell 2 _ rfl
    have kc3 : (w2.alloc (.cells #[.int .i64 so, .int .u8 1, .int .i64 X, .int .i64 Y, .int .i64 VV, .int .i64 bo, .int .i64 we, .int .i64 tk] 54)).cell? ⟨w.heap.size, 3, none⟩ = some (.int .i64 ve) := KC.out.cell 3 _ rfl
    have kc4 : (w2.alloc (.cells #[.int .i64 so, .int .u8 1, .int .i64 X, .int .i64 Y, .int .i64 VV, .int .i64 bo, .int .i64 we, .int .i64 tk] 54)).cell? ⟨w.heap.size, 4, none⟩ = some (.int .i64 vn) := KC.out.cell 4 _ rfl
    have kc5 : (w2.alloc (.cells #[.int .i64 so, .int .u8 1, .int .i64 X, .int .i64 Y, .int .i64 VV, .int .i64 bo, .int .i64 we, .int .i64 tk] 54)).cell? ⟨w.heap.size, 5, none⟩ = some (.int .i64 al) := KC.out.cell 5 _ rfl
    have kc6 : (w2.alloc (.cells #[.int .i64 so, .int .u8 1, .int .i64 X, .int .i64 Y, .int .i64 VV, .int .i64 bo, .int .i64 we, .int .i64 tk] 54)).cell? ⟨w.heap.size, 6, none⟩ = some (.int .i64 vs) := KC.out.cell 6 _ rfl
    have kc7 : (w2.alloc (.cells #[.int .i64 so, .int .u8 1, .int .i64 X, .int .i64 Y, .int .i64 VV, .int .i64 bo, .int .i64 we, .int .i64 tk] 54)).cell? ⟨w.heap.size, 7, none⟩ = some (.int .i64 hd) := KC.out.cell 7 _ rfl
    have kc8 : (w2.alloc (.cells #[.int .i64 so, .int .u8 1, .int .i64 X, .int .i64 Y, .int .i64 VV, .int .i64 bo, .int .i64 we, .int .i64 tk] 54)).cell? ⟨w.heap.size, 8, none⟩ = some (.int .i64 ca) := KC.out.cell 8 _ rfl
    have kc9 : (w2.alloc (.cells #[.int .i64 so, .int .u8 1, .int .i64 X, .int .i64 Y, .int .i64 VV, .int .i64 bo, .int .i64 we, .int .i64 tk] 54)).cell? ⟨w.heap.size, 9, none⟩ = some (.int .i64 fu) := KC.out.cell 9 _ rfl
    have kc10 : (w2.alloc (.cells #[.int .i64 so, .int .u8 1, .int .i64 X, .int .i64 Y, .int .i64 VV, .int .i64 bo, .int .i64 we, .int .i64 tk] 54)).cell? ⟨w.heap.size, 10, none⟩ = some (.int .i64 bk) := KC.out.cell 10 _ rfl
    have kc11 : (w2.alloc (.cells #[.int .i64 so, .int .u8 1, .int .i64 X, .int .i64 Y, .int .i64 VV, .int .i64 bo, .int .i64 we, .int .i64 tk] 54)).cell? ⟨w.heap.size, 11, none⟩ = some (.bool gr) := KC.out.cell 11 _ rfl
    have ks0 : (w2.alloc (.cells #[.int .i64 so, .int .u8 1, .int .i64 X, .int .i64 Y, .int .i64 VV, .int .i64 bo, .int .i64 we, .int .i64 tk] 54)).cell? ⟨w.heap.size + 1, 0, none⟩ = some (.int .i64 co) := KS.out.cell 0 _ rfl
    have ks1 : (w2.alloc (.cells #[.int .i64 so, .int .u8 1, .int .i64 X, .int .i64 Y, .int .i64 VV, .int .i64 bo, .int .i64 we, .int .i64 tk] 54)).cell? ⟨w.heap.size + 1, 1, none⟩ = some (.int .i64 so) := KS.out.cell 1 _ rfl
    have ks2 : (w2.alloc (.cells #[.int .i64 so, .int .u8 1, .int .i64 X, .int .i64 Y, .int .i64 VV, .int .i64 bo, .int .i64 we, .int .i64 tk] 54)).cell? ⟨w.heap.size + 1, 2, none⟩ = some (.int .u8 1) := KS.out.cell 2 _ rfl
    have ks3 : (w2.alloc (.cells #[.int .i64 so, .int .u8 1, .int .i64 X, .int .i64 Y, .int .i64 VV, .int .i64 bo, .int .i64 we, .int .i64 tk] 54)).cell? ⟨w.heap.size + 1, 3, none⟩ = some (.int .i64 qx) := KS.out.cell 3 _ rfl
    have ks4 : (w2.alloc (.cells #[.int .i64 so, .int .u8 1, .int .i64 X, .int .i64 Y, .int .i64 VV, .int .i64 bo, .int .i64 we, .int .i64 tk] 54)).cell? ⟨w.heap.size + 1, 4, none⟩ = some (.int .i64 qy) := KS.out.cell 4 _ rfl
    have ks5 : (w2.alloc (.cells #[.int .i64 so, .int .u8 1, .int .i64 X, .int .i64 Y, .int .i64 VV, .int .i64 bo, .int .i64 we, .int .i64 tk] 54)).cell? ⟨w.heap.size + 1, 5, none⟩ = some (.int .i64 bo) := KS.out.cell 5 _ rfl
    have ks6 : (w2.alloc (.cells #[.int .i64 so, .int .u8 1, .int .i64 X, .int .i64 Y, .int .i64 VV, .int .i64 bo, .int .i64 we, .int .i64 tk] 54)).cell? ⟨w.heap.size + 1, 6, none⟩ = some (.int .i64 we) := KS.out.cell 6 _ rfl
    have kx0 : (w2.alloc (.cells #[.int .i64 so, .int .u8 1, .int .i64 X, .int .i64 Y, .int .i64 VV, .int .i64 bo, .int .i64 we, .int .i64 tk] 54)).cell? ⟨w.heap.size + 1 + 1, 0, none⟩ = some (.int .i64 d0) := KX.out.cell 0 _ rfl
    have kx1 : (w2.alloc (.cells #[.int .i64 so, .int .u8 1, .int .i64 X, .int .i64 Y, .int .i64 VV, .int .i64 bo, .int .i64 we, .int .i64 tk] 54)).cell? ⟨w.heap.size + 1 + 1, 1, none⟩ = some (.int .i64 d1) := KX.out.cell 1 _ rfl
    go_wp2_with fail
    generalize hW0 : (w2.alloc (.cells #[.int .i64 so, .int .u8 1, .int .i64 X, .int .i64 Y, .int .i64 VV, .int .i64 bo, .int .i64 we, .int .i64 tk] 54)) = w5 at *
    clear hW0
    go_quiet (((go_at_call 20; first | exact quiet_more (flip (sizeL_any _ (by omega) _)) | exact Calls.quiet_of_same (flip (sizeL_any _ (by omega) _)))))
    clear kc0 kc1 kc2 kc3 kc4 kc5 kc6 kc7 kc8 kc9 kc10 kc11 ks0 ks1 ks2 ks3 ks4 ks5 ks6 kx0 kx1
    have HBF0 := Lib.hid (below_drewN HB.out nq)
    have KRW := KR.out.below (below_drewN (Below.refl _ w5) nq)
    have KCW := KC.out.below (below_drewN (Below.refl _ w5) nq)
    generalize hw6 : w5.drewN nq = WF at *
    clear hw6
    have HBF : Hid _ := HBF0
    have KRf : Hid (Has WF w2.heap.size [.int .i64 so, .int .u8 1, .int .i64 X, .int .i64 Y, .int .i64 VV, .int .i64 bo, .int .i64 we, .int .i64 tk]) := Lib.hid KRW
    have KCf : Hid (Has WF w.heap.size [.int .i64 tk, .int .i64 px, .int .i64 py, .int .i64 ve, .int .i64 vn, .int .i64 al, .int .i64 vs, .int .i64 hd, .int .i64 ca, .int .i64 fu, .int .i64 bk, .bool gr]) := Lib.hid KCW
    clear KRW KCW
    have kr0 : WF.cell? ⟨w2.heap.size, 0, none⟩ = some (.int .i64 so) := KRf.out.cell 0 _ rfl
    have kr1 : WF.cell? ⟨w2.heap.size, 1, none⟩ = some (.int .u8 1) := KRf.out.cell 1 _ rfl
    have kr2 : WF.cell? ⟨w2.heap.size, 2, none⟩ = some (.int .i64 X) := KRf.out.cell 2 _ rfl
    have kr3 : WF.cell? ⟨w2.heap.size, 3, none⟩ = some (.int .i64 Y) := KRf.out.cell 3 _ rfl
    have kr4 : WF.cell? ⟨w2.heap.size, 4, none⟩ = some (.int .i64 VV) := KRf.out.cell 4 _ rfl
    have kr5 : WF.cell? ⟨w2.heap.size, 5, none⟩ = some (.int .i64 bo) := KRf.out.cell 5 _ rfl
    have kr6 : WF.cell? ⟨w2.heap.size, 6, none⟩ = some (.int .i64 we) := KRf.out.cell 6 _ rfl
    have kr7 : WF.cell? ⟨w2.heap.size, 7, none⟩ = some (.int .i64 tk) := KRf.out.cell 7 _ rfl
    have kcx : WF.cell? ⟨w.heap.size, 1, none⟩ = some (.int .i64 px) := KCf.out.cell 1 _ rfl
    have kcy : WF.cell? ⟨w.heap.size, 2, none⟩ = some (.int .i64 py) := KCf.out.cell 2 _ rfl
    go_wp2_with fail
    refine (HSF.out _).mono ?_; rintro e wz ⟨rfl, hB⟩
    go_wp2_with fail
    go_ret
    exact ⟨ret_bool (by simp), bel_trans HBF.out hB⟩
  · have HAG := Lib.hid (fun (hq : agB so 2 (msX 2 qx px d0) (msX 2 qy py d1) (msV 2 (diV qx qy px py) (coV qx qy px py) d0) bo we tk px py = true) => (fun w' => hq ▸ xAgrees so 2 (msX 2 qx px d0) (msX 2 qy py d1) (msV 2 (diV qx qy px py) (coV qx qy px py) d0) bo we tk px py hso' hkb.1 hkb.2 w'))
    obtain ⟨bo0, bo1⟩ := hbb
    have bo2 : bo ≤ 3600000 := Int.le_trans bo1 (by decide)
    have HSD := Lib.hid (fun h0 h1 => HAG.out (sound2 hre hpp h0 h1))
    have HDI := Lib.hid (xDist qx qy px py)
    clear HAG hre hce hcr hpp hso hki hkb hso' bo1
    generalize msX 2 qx px d0 = X at *
    generalize msX 2 qy py d1 = Y at *
    generalize msV 2 (diV qx qy px py) (coV qx qy px py) d0 = VV at *
    generalize diV qx qy px py = DV at *
    obtain ⟨dv0, dv1⟩ := hdv
    by_cases h1 : bo - 1 < absV d0
    · have hd1 : decide (bo - 1 < absV d0) = true := decide_eq_true h1
      have hd1b : decide (bo ≤ absV d0) = true := decide_eq_true (by omega)
      go_enter Try.func6, Try.ntmps6
      go_wp2_with fail
      refine (awake_any _).mono ?_; rintro e w1 ⟨rfl, hB⟩
      have KC : Hid (Has w1 w.heap.size [.int .i64 tk, .int .i64 px, .int .i64 py, .int .i64 ve, .int .i64 vn, .int .i64 al, .int .i64 vs, .int .i64 hd, .int .i64 ca, .int .i64 fu, .int .i64 bk, .bool gr]) := Lib.hid ((((Has.new w _ _).alloc _).alloc _).below hB)
      have KS : Hid (Has w1 (w.heap.size + 1) [.int .i64 co, .int .i64 so, .int .u8 2, .int .i64 qx, .int .i64 qy, .int .i64 bo, .int .i64 we]) := Lib.hid (((Has.newAt (w.alloc _) _ _ (w.heap.size + 1) (by simp)).alloc _).below hB)
      have KX : Hid (Has w1 (w.heap.size + 1 + 1) [.int .i64 d0, .int .i64 d1]) := Lib.hid ((Has.newAt ((w.alloc _).alloc _) _ _ (w.heap.size + 1 + 1) (by simp)).below hB)
      have HB := Lib.hid ((below_alloc3 w _ _ _).trans (hB.mono (by simp; omega)))
      clear hB
      have kc0 : w1.cell? ⟨w.heap.size, 0, none⟩ = some (.int .i64 tk) := KC.out.cell 0 _ rfl
      have kc1 : w1.cell? ⟨w.heap.size, 1, none⟩ = some (.int .i64 px) := KC.out.cell 1 _ rfl
      have kc2 : w1.cell? ⟨w.heap.size, 2, none⟩ = some (.int .i64 py) := KC.out.cell 2 _ rfl
      have kc3 : w1.cell? ⟨w.heap.size, 3, none⟩ = some (.int .i64 ve) := KC.out.cell 3 _ rfl
      have kc4 : w1.cell? ⟨w.heap.size, 4, none⟩ = some (.int .i64 vn) := KC.out.cell 4 _ rfl
      have kc5 : w1.cell? ⟨w.heap.size, 5, none⟩ = some (.int .i64 al) := KC.out.cell 5 _ rfl
      have kc6 : w1.cell? ⟨w.heap.size, 6, none⟩ = some (.int .i64 vs) := KC.out.cell 6 _ rfl
      have kc7 : w1.cell? ⟨w.heap.size, 7, none⟩ = some (.int .i64 hd) := KC.out.cell 7 _ rfl
      have kc8 : w1.cell? ⟨w.heap.size, 8, none⟩ = some (.int .i64 ca) := KC.out.cell 8 _ rfl
      have kc9 : w1.cell? ⟨w.heap.size, 9, none⟩ = some (.int .i64 fu) := KC.out.cell 9 _ rfl
      have kc10 : w1.cell? ⟨w.heap.size, 10, none⟩ = some (.int .i64 bk) := KC.out.cell 10 _ rfl
      have kc11 : w1.cell? ⟨w.heap.size, 11, none⟩ = some (.bool gr) := KC.out.cell 11 _ rfl
      have ks0 : w1.cell? ⟨w.heap.size + 1, 0, none⟩ = some (.int .i64 co) := KS.out.cell 0 _ rfl
      have ks1 : w1.cell? ⟨w.heap.size + 1, 1, none⟩ = some (.int .i64 so) := KS.out.cell 1 _ rfl
      have ks2 : w1.cell? ⟨w.heap.size + 1, 2, none⟩ = some (.int .u8 2) := KS.out.cell 2 _ rfl
      have ks3 : w1.cell? ⟨w.heap.size + 1, 3, none⟩ = some (.int .i64 qx) := KS.out.cell 3 _ rfl
      have ks4 : w1.cell? ⟨w.heap.size + 1, 4, none⟩ = some (.int .i64 qy) := KS.out.cell 4 _ rfl
      have ks5 : w1.cell? ⟨w.heap.size + 1, 5, none⟩ = some (.int .i64 bo) := KS.out.cell 5 _ rfl
      have ks6 : w1.cell? ⟨w.heap.size + 1, 6, none⟩ = some (.int .i64 we) := KS.out.cell 6 _ rfl
      have kx0 : w1.cell? ⟨w.heap.size + 1 + 1, 0, none⟩ = some (.int .i64 d0) := KX.out.cell 0 _ rfl
      have kx1 : w1.cell? ⟨w.heap.size + 1 + 1, 1, none⟩ = some (.int .i64 d1) := KX.out.cell 1 _ rfl
      go_wp2_with fail
      refine (HX.out _).mono ?_; rintro e w2 ⟨rfl, hB⟩
      clear kc0 kc1 kc2 kc3 kc4 kc5 kc6 kc7 kc8 kc9 kc10 kc11 ks0 ks1 ks2 ks3 ks4 ks5 ks6 kx0 kx1
      replace KC := Lib.hid (KC.out.below hB)
      replace KS := Lib.hid (KS.out.below hB)
      replace KX := Lib.hid (KX.out.below hB)
      replace HB := Lib.hid (bel_trans HB.out hB)
      clear hB
      have KR : Hid (Has (w2.alloc (.cells #[.int .i64 so, .int .u8 2, .int .i64 X, .int .i64 Y, .int .i64 VV, .int .i64 bo, .int .i64 we, .int .i64 tk] 54)) w2.heap.size [.int .i64 so, .int .u8 2, .int .i64 X, .int .i64 Y, .int .i64 VV, .int .i64 bo, .int .i64 we, .int .i64 tk]) := Lib.hid (Has.new w2 _ _)
      replace KC := Lib.hid (KC.out.alloc (.cells #[.int .i64 so, .int .u8 2, .int .i64 X, .int .i64 Y, .int .i64 VV, .int .i64 bo, .int .i64 we, .int .i64 tk] 54))
      replace KS := Lib.hid (KS.out.alloc (.cells #[.int .i64 so, .int .u8 2, .int .i64 X, .int .i64 Y, .int .i64 VV, .int .i64 bo, .int .i64 we, .int .i64 tk] 54))
      replace KX := Lib.hid (KX.out.alloc (.cells #[.int .i64 so, .int .u8 2, .int .i64 X, .int .i64 Y, .int .i64 VV, .int .i64 bo, .int .i64 we, .int .i64 tk] 54))
      replace HB := Lib.hid (bel_alloc1 HB.out (.cells #[.int .i64 so, .int .u8 2, .int .i64 X, .int .i64 Y, .int .i64 VV, .int .i64 bo, .int .i64 we, .int .i64 tk] 54))
      have kc0 : (w2.alloc (.cells #[.int .i64 so, .int .u8 2, .int .i64 X, .int .i64 Y, .int .i64 VV, .int .i64 bo, .int .i64 we, .int .i64 tk] 54)).cell? ⟨w.heap.size, 0, none⟩ = some (.int .i64 tk) := KC.out.cell 0 _ rfl
      have kc1 : (w2.alloc (.cells #[.int .i64 so, .int .u8 2, .int .i64 X, .int .i64 Y, .int .i64 VV, .int .i64 bo, .int .i64 we, .int .i64 tk] 54)).cell? ⟨w.heap.size, 1, none⟩ = some (.int .i64 px) := KC.out.cell 1 _ rfl
      have kc2 : (w2.alloc (.cells #[.int .i64 so, .int .u8 2, .int .i64 X, .int .i64 Y, .int .i64 VV, .int .i64 bo, .int .i64 we, .int .i64 tk] 54)).cell? ⟨w.heap.size, 2, none⟩ = some (.int .i64 py) := KC.out.cell 2 _ rfl
      have kc3 : (w2.alloc (.cells #[.int .i64 so, .int .u8 2, .int .i64 X, .int .i64 Y, .int .i64 VV, .int .i64 bo, .int .i64 we, .int .i64 tk] 54)).cell? ⟨w.heap.size, 3, none⟩ = some (.int .i64 ve) := KC.out.cell 3 _ rfl
      have kc4 : (w2.alloc (.cells #[.int .i64 so, .int .u8 2, .int .i64 X, .int .i64 Y, .int .i64 VV, .int .i64 bo, .int .i64 we, .int .i64 tk] 54)).cell? ⟨w.heap.size, 4, none⟩ = some (.int .i64 vn) := KC.out.cell 4 _ rfl
      have kc5 : (w2.alloc (.cells #[.int .i64 so, .int .u8 2, .int .i64 X, .int .i64 Y, .int .i64 VV, .int .i64 bo, .int .i64 we, .int .i64 tk] 54)).cell? ⟨w.heap.size, 5, none⟩ = some (.int .i64 al) := KC.out.cell 5 _ rfl
      have kc6 : (w2.alloc (.cells #[.int .i64 so, .int .u8 2, .int .i64 X, .int .i64 Y, .int .i64 VV, .int .i64 bo, .int .i64 we, .int .i64 tk] 54)).cell? ⟨w.heap.size, 6, none⟩ = some (.int .i64 vs) := KC.out.cell 6 _ rfl
      have kc7 : (w2.alloc (.cells #[.int .i64 so, .int .u8 2, .int .i64 X, .int .i64 Y, .int .i64 VV, .int .i64 bo, .int .i64 we, .int .i64 tk] 54)).cell? ⟨w.heap.size, 7, none⟩ = some (.int .i64 hd) := KC.out.cell 7 _ rfl
      have kc8 : (w2.alloc (.cells #[.int .i64 so, .int .u8 2, .int .i64 X, .int .i64 Y, .int .i64 VV, .int .i64 bo, .int .i64 we, .int .i64 tk] 54)).cell? ⟨w.heap.size, 8, none⟩ = some (.int .i64 ca) := KC.out.cell 8 _ rfl
      have kc9 : (w2.alloc (.cells #[.int .i64 so, .int .u8 2, .int .i64 X, .int .i64 Y, .int .i64 VV, .int .i64 bo, .int .i64 we, .int .i64 tk] 54)).cell? ⟨w.heap.size, 9, none⟩ = some (.int .i64 fu) := KC.out.cell 9 _ rfl
      have kc10 : (w2.alloc (.cells #[.int .i64 so, .int .u8 2, .int .i64 X, .int .i64 Y, .int .i64 VV, .int .i64 bo, .int .i64 we, .int .i64 tk] 54)).cell? ⟨w.heap.size, 10, none⟩ = some (.int .i64 bk) := KC.out.cell 10 _ rfl
      have kc11 : (w2.alloc (.cells #[.int .i64 so, .int .u8 2, .int .i64 X, .int .i64 Y, .int .i64 VV, .int .i64 bo, .int .i64 we, .int .i64 tk] 54)).cell? ⟨w.heap.size, 11, none⟩ = some (.bool gr) := KC.out.cell 11 _ rfl
      have ks0 : (w2.alloc (.cells #[.int .i64 so, .int .u8 2, .int .i64 X, .int .i64 Y, .int .i64 VV, .int .i64 bo, .int .i64 we, .int .i64 tk] 54)).cell? ⟨w.heap.size + 1, 0, none⟩ = some (.int .i64 co) := KS.out.cell 0 _ rfl
      have ks1 : (w2.alloc (.cells #[.int .i64 so, .int .u8 2, .int .i64 X, .int .i64 Y, .int .i64 VV, .int .i64 bo, .int .i64 we, .int .i64 tk] 54)).cell? ⟨w.heap.size + 1, 1, none⟩ = some (.int .i64 so) := KS.out.cell 1 _ rfl
      have ks2 : (w2.alloc (.cells #[.int .i64 so, .int .u8 2, .int .i64 X, .int .i64 Y, .int .i64 VV, .int .i64 bo, .int .i64 we, .int .i64 tk] 54)).cell? ⟨w.heap.size + 1, 2, none⟩ = some (.int .u8 2) := KS.out.cell 2 _ rfl
      have ks3 : (w2.alloc (.cells #[.int .i64 so, .int .u8 2, .int .i64 X, .int .i64 Y, .int .i64 VV, .int .i64 bo, .int .i64 we, .int .i64 tk] 54)).cell? ⟨w.heap.size + 1, 3, none⟩ = some (.int .i64 qx) := KS.out.cell 3 _ rfl
      have ks4 : (w2.alloc (.cells #[.int .i64 so, .int .u8 2, .int .i64 X, .int .i64 Y, .int .i64 VV, .int .i64 bo, .int .i64 we, .int .i64 tk] 54)).cell? ⟨w.heap.size + 1, 4, none⟩ = some (.int .i64 qy) := KS.out.cell 4 _ rfl
      have ks5 : (w2.alloc (.cells #[.int .i64 so, .int .u8 2, .int .i64 X, .int .i64 Y, .int .i64 VV, .int .i64 bo, .int .i64 we, .int .i64 tk] 54)).cell? ⟨w.heap.size + 1, 5, none⟩ = some (.int .i64 bo) := KS.out.cell 5 _ rfl
      have ks6 : (w2.alloc (.cells #[.int .i64 so, .int .u8 2, .int .i64 X, .int .i64 Y, .int .i64 VV, .int .i64 bo, .int .i64 we, .int .i64 tk] 54)).cell? ⟨w.heap.size + 1, 6, none⟩ = some (.int .i64 we) := KS.out.cell 6 _ rfl
      have kx0 : (w2.alloc (.cells #[.int .i64 so, .int .u8 2, .int .i64 X, .int .i64 Y, .int .i64 VV, .int .i64 bo, .int .i64 we, .int .i64 tk] 54)).cell? ⟨w.heap.size + 1 + 1, 0, none⟩ = some (.int .i64 d0) := KX.out.cell 0 _ rfl
      have kx1 : (w2.alloc (.cells #[.int .i64 so, .int .u8 2, .int .i64 X, .int .i64 Y, .int .i64 VV, .int .i64 bo, .int .i64 we, .int .i64 tk] 54)).cell? ⟨w.heap.size + 1 + 1, 1, none⟩ = some (.int .i64 d1) := KX.out.cell 1 _ rfl
      go_wp2_with fail
      generalize hW0 : (w2.alloc (.cells #[.int .i64 so, .int .u8 2, .int .i64 X, .int .i64 Y, .int .i64 VV, .int .i64 bo, .int .i64 we, .int .i64 tk] 54)) = w5 at *
      clear hW0
      have wb : IntKind.i64.wrap (bo - 1) = bo - 1 := IntWalk.i64_in _ (by omega)
      have wd : IntKind.i64.wrap (DV + d0) = DV + d0 := IntWalk.i64_in _ (by omega)
      go_quiet (((go_at_call 20; first | exact quiet_more (flip (sizeL_any _ (by omega) _)) | exact Calls.quiet_of_same (flip (sizeL_any _ (by omega) _)))))
      clear wb wd
      go_wp2_with fail
      go_ret
      exact ⟨ret_bool (by simp), below_drewN HB.out _⟩
    have hd1 : decide (bo - 1 < absV d0) = false := decide_eq_false h1
    have hd1b : decide (bo ≤ absV d0) = false := decide_eq_false (by omega)
    by_cases h2 : DV + d0 < 0
    · have hd2 : decide (DV + d0 < 0) = true := decide_eq_true h2
      go_enter Try.func6, Try.ntmps6
      go_wp2_with fail
      refine (awake_any _).mono ?_; rintro e w1 ⟨rfl, hB⟩
      have KC : Hid (Has w1 w.heap.size [.int .i64 tk, .int .i64 px, .int .i64 py, .int .i64 ve, .int .i64 vn, .int .i64 al, .int .i64 vs, .int .i64 hd, .int .i64 ca, .int .i64 fu, .int .i64 bk, .bool gr]) := Lib.hid ((((Has.new w _ _).alloc _).alloc _).below hB)
      have KS : Hid (Has w1 (w.heap.size + 1) [.int .i64 co, .int .i64 so, .int .u8 2, .int .i64 qx, .int .i64 qy, .int .i64 bo, .int .i64 we]) := Lib.hid (((Has.newAt (w.alloc _) _ _ (w.heap.size + 1) (by simp)).alloc _).below hB)
      have KX : Hid (Has w1 (w.heap.size + 1 + 1) [.int .i64 d0, .int .i64 d1]) := Lib.hid ((Has.newAt ((w.alloc _).alloc _) _ _ (w.heap.size + 1 + 1) (by simp)).below hB)
      have HB := Lib.hid ((below_alloc3 w _ _ _).trans (hB.mono (by simp; omega)))
      clear hB
      have kc0 : w1.cell? ⟨w.heap.size, 0, none⟩ = some (.int .i64 tk) := KC.out.cell 0 _ rfl
      have kc1 : w1.cell? ⟨w.heap.size, 1, none⟩ = some (.int .i64 px) := KC.out.cell 1 _ rfl
      have kc2 : w1.cell? ⟨w.heap.size, 2, none⟩ = some (.int .i64 py) := KC.out.cell 2 _ rfl
      have kc3 : w1.cell? ⟨w.heap.size, 3, none⟩ = some (.int .i64 ve) := KC.out.cell 3 _ rfl
      have kc4 : w1.cell? ⟨w.heap.size, 4, none⟩ = some (.int .i64 vn) := KC.out.cell 4 _ rfl
      have kc5 : w1.cell? ⟨w.heap.size, 5, none⟩ = some (.int .i64 al) := KC.out.cell 5 _ rfl
      have kc6 : w1.cell? ⟨w.heap.size, 6, none⟩ = some (.int .i64 vs) := KC.out.cell 6 _ rfl
      have kc7 : w1.cell? ⟨w.heap.size, 7, none⟩ = some (.int .i64 hd) := KC.out.cell 7 _ rfl
      have kc8 : w1.cell? ⟨w.heap.size, 8, none⟩ = some (.int .i64 ca) := KC.out.cell 8 _ rfl
      have kc9 : w1.cell? ⟨w.heap.size, 9, none⟩ = some (.int .i64 fu) := KC.out.cell 9 _ rfl
      have kc10 : w1.cell? ⟨w.heap.size, 10, none⟩ = some (.int .i64 bk) := KC.out.cell 10 _ rfl
      have kc11 : w1.cell? ⟨w.heap.size, 11, none⟩ = some (.bool gr) := KC.out.cell 11 _ rfl
      have ks0 : w1.cell? ⟨w.heap.size + 1, 0, none⟩ = some (.int .i64 co) := KS.out.cell 0 _ rfl
      have ks1 : w1.cell? ⟨w.heap.size + 1, 1, none⟩ = some (.int .i64 so) := KS.out.cell 1 _ rfl
      have ks2 : w1.cell? ⟨w.heap.size + 1, 2, none⟩ = some (.int .u8 2) := KS.out.cell 2 _ rfl
      have ks3 : w1.cell? ⟨w.heap.size + 1, 3, none⟩ = some (.int .i64 qx) := KS.out.cell 3 _ rfl
      have ks4 : w1.cell? ⟨w.heap.size + 1, 4, none⟩ = some (.int .i64 qy) := KS.out.cell 4 _ rfl
      have ks5 : w1.cell? ⟨w.heap.size + 1, 5, none⟩ = some (.int .i64 bo) := KS.out.cell 5 _ rfl
      have ks6 : w1.cell? ⟨w.heap.size + 1, 6, none⟩ = some (.int .i64 we) := KS.out.cell 6 _ rfl
      have kx0 : w1.cell? ⟨w.heap.size + 1 + 1, 0, none⟩ = some (.int .i64 d0) := KX.out.cell 0 _ rfl
      have kx1 : w1.cell? ⟨w.heap.size + 1 + 1, 1, none⟩ = some (.int .i64 d1) := KX.out.cell 1 _ rfl
      go_wp2_with fail
      refine (HX.out _).mono ?_; rintro e w2 ⟨rfl, hB⟩
      clear kc0 kc1 kc2 kc3 kc4 kc5 kc6 kc7 kc8 kc9 kc10 kc11 ks0 ks1 ks2 ks3 ks4 ks5 ks6 kx0 kx1
      replace KC := Lib.hid (KC.out.below hB)
      replace KS := Lib.hid (KS.out.below hB)
      replace KX := Lib.hid (KX.out.below hB)
      replace HB := Lib.hid (bel_trans HB.out hB)
      clear hB
      have KR : Hid (Has (w2.alloc (.cells #[.int .i64 so, .int .u8 2, .int .i64 X, .int .i64 Y, .int .i64 VV, .int .i64 bo, .int .i64 we, .int .i64 tk] 54)) w2.heap.size [.int .i64 so, .int .u8 2, .int .i64 X, .int .i64 Y, .int .i64 VV, .int .i64 bo, .int .i64 we, .int .i64 tk]) := Lib.hid (Has.new w2 _ _)
      replace KC := Lib.hid (KC.out.alloc (.cells #[.int .i64 so, .int .u8 2, .int .i64 X, .int .i64 Y, .int .i64 VV, .int .i64 bo, .int .i64 we, .int .i64 tk] 54))
      replace KS := Lib.hid (KS.out.alloc (.cells #[.int .i64 so, .int .u8 2, .int .i64 X, .int .i64 Y, .int .i64 VV, .int .i64 bo, .int .i64 we, .int .i64 tk] 54))
      replace KX := Lib.hid (KX.out.alloc (.cells #[.int .i64 so, .int .u8 2, .int .i64 X, .int .i64 Y, .int .i64 VV, .int .i64 bo, .int .i64 we, .int .i64 tk] 54))
      replace HB := Lib.hid (bel_alloc1 HB.out (.cells #[.int .i64 so, .int .u8 2, .int .i64 X, .int .i64 Y, .int .i64 VV, .int .i64 bo, .int .i64 we, .int .i64 tk] 54))
      have kc0 : (w2.alloc (.cells #[.int .i64 so, .int .u8 2, .int .i64 X, .int .i64 Y, .int .i64 VV, .int .i64 bo, .int .i64 we, .int .i64 tk] 54)).cell? ⟨w.heap.size, 0, none⟩ = some (.int .i64 tk) := KC.out.cell 0 _ rfl
      have kc1 : (w2.alloc (.cells #[.int .i64 so, .int .u8 2, .int .i64 X, .int .i64 Y, .int .i64 VV, .int .i64 bo, .int .i64 we, .int .i64 tk] 54)).cell? ⟨w.heap.size, 1, none⟩ = some (.int .i64 px) := KC.out.cell 1 _ rfl
      have kc2 : (w2.alloc (.cells #[.int .i64 so, .int .u8 2, .int .i64 X, .int .i64 Y, .int .i64 VV, .int .i64 bo, .int .i64 we, .int .i64 tk] 54)).cell? ⟨w.heap.size, 2, none⟩ = some (.int .i64 py) := KC.out.cell 2 _ rfl
      have kc3 : (w2.alloc (.cells #[.int .i64 so, .int .u8 2, .int .i64 X, .int .i64 Y, .int .i64 VV, .int .i64 bo, .int .i64 we, .int .i64 tk] 54)).cell? ⟨w.heap.size, 3, none⟩ = some (.int .i64 ve) := KC.out.cell 3 _ rfl
      have kc4 : (w2.alloc (.cells #[.int .i64 so, .int .u8 2, .int .i64 X, .int .i64 Y, .int .i64 VV, .int .i64 bo, .int .i64 we, .int .i64 tk] 54)).cell? ⟨w.heap.size, 4, none⟩ = some (.int .i64 vn) := KC.out.cell 4 _ rfl
      have kc5 : (w2.alloc (.cells #[.int .i64 so, .int .u8 2, .int .i64 X, .int .i64 Y, .int .i64 VV, .int .i64 bo, .int .i64 we, .int .i64 tk] 54)).cell? ⟨w.heap.size, 5, none⟩ = some (.int .i64 al) := KC.out.cell 5 _ rfl
      have kc6 : (w2.alloc (.cells #[.int .i64 so, .int .u8 2, .int .i64 X, .int .i64 Y, .int .i64 VV, .int .i64 bo, .int .i64 we, .int .i64 tk] 54)).cell? ⟨w.heap.size, 6, none⟩ = some (.int .i64 vs) := KC.out.cell 6 _ rfl
      have kc7 : (w2.alloc (.cells #[.int .i64 so, .int .u8 2, .int .i64 X, .int .i64 Y, .int .i64 VV, .int .i64 bo, .int .i64 we, .int .i64 tk] 54)).cell? ⟨w.heap.size, 7, none⟩ = some (.int .i64 hd) := KC.out.cell 7 _ rfl
      have kc8 : (w2.alloc (.cells #[.int .i64 so, .int .u8 2, .int .i64 X, .int .i64 Y, .int .i64 VV, .int .i64 bo, .int .i64 we, .int .i64 tk] 54)).cell? ⟨w.heap.size, 8, none⟩ = some (.int .i64 ca) := KC.out.cell 8 _ rfl
      have kc9 : (w2.alloc (.cells #[.int .i64 so, .int .u8 2, .int .i64 X, .int .i64 Y, .int .i64 VV, .int .i64 bo, .int .i64 we, .int .i64 tk] 54)).cell? ⟨w.heap.size, 9, none⟩ = some (.int .i64 fu) := KC.out.cell 9 _ rfl
      have kc10 : (w2.alloc (.cells #[.int .i64 so, .int .u8 2, .int .i64 X, .int .i64 Y, .int .i64 VV, .int .i64 bo, .int .i64 we, .int .i64 tk] 54)).cell? ⟨w.heap.size, 10, none⟩ = some (.int .i64 bk) := KC.out.cell 10 _ rfl
      have kc11 : (w2.alloc (.cells #[.int .i64 so, .int .u8 2, .int .i64 X, .int .i64 Y, .int .i64 VV, .int .i64 bo, .int .i64 we, .int .i64 tk] 54)).cell? ⟨w.heap.size, 11, none⟩ = some (.bool gr) := KC.out.cell 11 _ rfl
      have ks0 : (w2.alloc (.cells #[.int .i64 so, .int .u8 2, .int .i64 X, .int .i64 Y, .int .i64 VV, .int .i64 bo, .int .i64 we, .int .i64 tk] 54)).cell? ⟨w.heap.size + 1, 0, none⟩ = some (.int .i64 co) := KS.out.cell 0 _ rfl
      have ks1 : (w2.alloc (.cells #[.int .i64 so, .int .u8 2, .int .i64 X, .int .i64 Y, .int .i64 VV, .int .i64 bo, .int .i64 we, .int .i64 tk] 54)).cell? ⟨w.heap.size + 1, 1, none⟩ = some (.int .i64 so) := KS.out.cell 1 _ rfl
      have ks2 : (w2.alloc (.cells #[.int .i64 so, .int .u8 2, .int .i64 X, .int .i64 Y, .int .i64 VV, .int .i64 bo, .int .i64 we, .int .i64 tk] 54)).cell? ⟨w.heap.size + 1, 2, none⟩ = some (.int .u8 2) := KS.out.cell 2 _ rfl
      have ks3 : (w2.alloc (.cells #[.int .i64 so, .int .u8 2, .int .i64 X, .int .i64 Y, .int .i64 VV, .int .i64 bo, .int .i64 we, .int .i64 tk] 54)).cell? ⟨w.heap.size + 1, 3, none⟩ = some (.int .i64 qx) := KS.out.cell 3 _ rfl
      have ks4 : (w2.alloc (.cells #[.int .i64 so, .int .u8 2, .int .i64 X, .int .i64 Y, .int .i64 VV, .int .i64 bo, .int .i64 we, .int .i64 tk] 54)).cell? ⟨w.heap.size + 1, 4, none⟩ = some (.int .i64 qy) := KS.out.cell 4 _ rfl
      have ks5 : (w2.alloc (.cells #[.int .i64 so, .int .u8 2, .int .i64 X, .int .i64 Y, .int .i64 VV, .int .i64 bo, .int .i64 we, .int .i64 tk] 54)).cell? ⟨w.heap.size + 1, 5, none⟩ = some (.int .i64 bo) := KS.out.cell 5 _ rfl
      have ks6 : (w2.alloc (.cells #[.int .i64 so, .int .u8 2, .int .i64 X, .int .i64 Y, .int .i64 VV, .int .i64 bo, .int .i64 we, .int .i64 tk] 54)).cell? ⟨w.heap.size + 1, 6, none⟩ = some (.int .i64 we) := KS.out.cell 6 _ rfl
      have kx0 : (w2.alloc (.cells #[.int .i64 so, .int .u8 2, .int .i64 X, .int .i64 Y, .int .i64 VV, .int .i64 bo, .int .i64 we, .int .i64 tk] 54)).cell? ⟨w.heap.size + 1 + 1, 0, none⟩ = some (.int .i64 d0) := KX.out.cell 0 _ rfl
      have kx1 : (w2.alloc (.cells #[.int .i64 so, .int .u8 2, .int .i64 X, .int .i64 Y, .int .i64 VV, .int .i64 bo, .int .i64 we, .int .i64 tk] 54)).cell? ⟨w.heap.size + 1 + 1, 1, none⟩ = some (.int .i64 d1) := KX.out.cell 1 _ rfl
      go_wp2_with fail
      generalize hW0 : (w2.alloc (.cells #[.int .i64 so, .int .u8 2, .int .i64 X, .int .i64 Y, .int .i64 VV, .int .i64 bo, .int .i64 we, .int .i64 tk] 54)) = w5 at *
      clear hW0
      have wb : IntKind.i64.wrap (bo - 1) = bo - 1 := IntWalk.i64_in _ (by omega)
      have wd : IntKind.i64.wrap (DV + d0) = DV + d0 := IntWalk.i64_in _ (by omega)
      go_region_held3 (fun W => W.cell? ⟨w.heap.size + 1 + 1, 0, none⟩ = some (.int .i64 d0) ∧ W.cell? ⟨w.heap.size + 1, 5, none⟩ = some (.int .i64 bo) ∧ W.cell? ⟨w.heap.size + 1, 3, none⟩ = some (.int .i64 qx) ∧ W.cell? ⟨w.heap.size + 1, 4, none⟩ = some (.int .i64 qy) ∧ W.cell? ⟨w.heap.size, 1, none⟩ = some (.int .i64 px) ∧ W.cell? ⟨w.heap.size, 2, none⟩ = some (.int .i64 py)) ((first | exact cells6 (Hid.out (by assumption)) (Hid.out (by assumption)) (Hid.out (by assumption)) | exact cells6 (Has.drew (Hid.out (by assumption))) (Has.drew (Hid.out (by assumption))) (Has.drew (Hid.out (by assumption))))) ((first | (go_at_call 20; refine (sizeL_any _ (by omega) _).mono ?_; rintro e wx ⟨rfl, rfl⟩) | (go_at_call 21; refine (HDI.out _).mono ?_; rintro e wx ⟨rfl, hB⟩; have KC2 : Hid (Has wx w.heap.size [.int .i64 tk, .int .i64 px, .int .i64 py, .int .i64 ve, .int .i64 vn, .int .i64 al, .int .i64 vs, .int .i64 hd, .int .i64 ca, .int .i64 fu, .int .i64 bk, .bool gr]) := Lib.hid (Has.below (by first | exact Hid.out (by assumption) | exact Has.drew (Hid.out (by assumption))) hB); have KS2 : Hid (Has wx (w.heap.size + 1) [.int .i64 co, .int .i64 so, .int .u8 2, .int .i64 qx, .int .i64 qy, .int .i64 bo, .int .i64 we]) := Lib.hid (Has.below (by first | exact Hid.out (by assumption) | exact Has.drew (Hid.out (by assumption))) hB); have KX2 : Hid (Has wx (w.heap.size + 1 + 1) [.int .i64 d0, .int .i64 d1]) := Lib.hid (Has.below (by first | exact Hid.out (by assumption) | exact Has.drew (Hid.out (by assumption))) hB); have KR2 : Hid (Has wx w2.heap.size [.int .i64 so, .int .u8 2, .int .i64 X, .int .i64 Y, .int .i64 VV, .int .i64 bo, .int .i64 we, .int .i64 tk]) := Lib.hid (Has.below (by first | exact Hid.out (by assumption) | exact Has.drew (Hid.out (by assumption))) hB); have BB : Hid (Below w.heap.size w wx) := Lib.hid (bel_trans (by first | exact Hid.out (by assumption) | exact Below.drew (Hid.out (by assumption))) hB); clear hB; have y0 : wx.cell? ⟨w.heap.size + 1 + 1, 0, none⟩ = some (.int .i64 d0) := KX2.out.cell 0 _ rfl; have y1 : wx.cell? ⟨w.heap.size + 1, 5, none⟩ = some (.int .i64 bo) := KS2.out.cell 5 _ rfl)))
      all_goals (
        clear wb wd
        go_wp2_with fail
        go_ret
        exact ⟨ret_bool (by simp), by first | exact Hid.out (by assumption) | exact Below.drew (Hid.out (by assumption)) | exact below_drewN (Hid.out (by assumption)) _⟩)
    have hd2 : decide (DV + d0 < 0) = false := decide_eq_false h2
    have HSF := Lib.hid (HSD.out (by omega) (by omega))
    clear HSD
    go_enter Try.func6, Try.ntmps6
    go_wp2_with fail
    refine (awake_any _).mono ?_; rintro e w1 ⟨rfl, hB⟩
    have KC : Hid (Has w1 w.heap.size [.int .i64 tk, .int .i64 px, .int .i64 py, .int .i64 ve, .int .i64 vn, .int .i64 al, .int .i64 vs, .int .i64 hd, .int .i64 ca, .int .i64 fu, .int .i64 bk, .bool gr]) := Lib.hid ((((Has.new w _ _).alloc _).alloc _).below hB)
    have KS : Hid (Has w1 (w.heap.size + 1) [.int .i64 co, .int .i64 so, .int .u8 2, .int .i64 qx, .int .i64 qy, .int .i64 bo, .int .i64 we]) := Lib.hid (((Has.newAt (w.alloc _) _ _ (w.heap.size + 1) (by simp)).alloc _).below hB)
    have KX : Hid (Has w1 (w.heap.size + 1 + 1) [.int .i64 d0, .int .i64 d1]) := Lib.hid ((Has.newAt ((w.alloc _).alloc _) _ _ (w.heap.size + 1 + 1) (by simp)).below hB)
    have HB := Lib.hid ((below_alloc3 w _ _ _).trans (hB.mono (by simp; omega)))
    clear hB
    have kc0 : w1.cell? ⟨w.heap.size, 0, none⟩ = some (.int .i64 tk) := KC.out.cell 0 _ rfl
    have kc1 : w1.cell? ⟨w.heap.size, 1, none⟩ = some (.int .i64 px) := KC.out.cell 1 _ rfl
    have kc2 : w1.cell? ⟨w.heap.size, 2, none⟩ = some (.int .i64 py) := KC.out.cell 2 _ rfl
    have kc3 : w1.cell? ⟨w.heap.size, 3, none⟩ = some (.int .i64 ve) := KC.out.cell 3 _ rfl
    have kc4 : w1.cell? ⟨w.heap.size, 4, none⟩ = some (.int .i64 vn) := KC.out.cell 4 _ rfl
    have kc5 : w1.cell? ⟨w.heap.size, 5, none⟩ = some (.int .i64 al) := KC.out.cell 5 _ rfl
    have kc6 : w1.cell? ⟨w.heap.size, 6, none⟩ = some (.int .i64 vs) := KC.out.cell 6 _ rfl
    have kc7 : w1.cell? ⟨w.heap.size, 7, none⟩ = some (.int .i64 hd) := KC.out.cell 7 _ rfl
    have kc8 : w1.cell? ⟨w.heap.size, 8, none⟩ = some (.int .i64 ca) := KC.out.cell 8 _ rfl
    have kc9 : w1.cell? ⟨w.heap.size, 9, none⟩ = some (.int .i64 fu) := KC.out.cell 9 _ rfl
    have kc10 : w1.cell? ⟨w.heap.size, 10, none⟩ = some (.int .i64 bk) := KC.out.cell 10 _ rfl
    have kc11 : w1.cell? ⟨w.heap.size, 11, none⟩ = some (.bool gr) := KC.out.cell 11 _ rfl
    have ks0 : w1.cell? ⟨w.heap.size + 1, 0, none⟩ = some (.int .i64 co) := KS.out.cell 0 _ rfl
    have ks1 : w1.cell? ⟨w.heap.size + 1, 1, none⟩ = some (.int .i64 so) := KS.out.cell 1 _ rfl
    have ks2 : w1.cell? ⟨w.heap.size + 1, 2, none⟩ = some (.int .u8 2) := KS.out.cell 2 _ rfl
    have ks3 : w1.cell? ⟨w.heap.size + 1, 3, none⟩ = some (.int .i64 qx) := KS.out.cell 3 _ rfl
    have ks4 : w1.cell? ⟨w.heap.size + 1, 4, none⟩ = some (.int .i64 qy) := KS.out.cell 4 _ rfl
    have ks5 : w1.cell? ⟨w.heap.size + 1, 5, none⟩ = some (.int .i64 bo) := KS.out.cell 5 _ rfl
    have ks6 : w1.cell? ⟨w.heap.size + 1, 6, none⟩ = some (.int .i64 we) := KS.out.cell 6 _ rfl
    have kx0 : w1.cell? ⟨w.heap.size + 1 + 1, 0, none⟩ = some (.int .i64 d0) := KX.out.cell 0 _ rfl
    have kx1 : w1.cell? ⟨w.heap.size + 1 + 1, 1, none⟩ = some (.int .i64 d1) := KX.out.cell 1 _ rfl
    go_wp2_with fail
    refine (HX.out _).mono ?_; rintro e w2 ⟨rfl, hB⟩
    clear kc0 kc1 kc2 kc3 kc4 kc5 kc6 kc7 kc8 kc9 kc10 kc11 ks0 ks1 ks2 ks3 ks4 ks5 ks6 kx0 kx1
    replace KC := Lib.hid (KC.out.below hB)
    replace KS := Lib.hid (KS.out.below hB)
    replace KX := Lib.hid (KX.out.below hB)
    replace HB := Lib.hid (bel_trans HB.out hB)
    clear hB
    have KR : Hid (Has (w2.alloc (.cells #[.int .i64 so, .int .u8 2, .int .i64 X, .int .i64 Y, .int .i64 VV, .int .i64 bo, .int .i64 we, .int .i64 tk] 54)) w2.heap.size [.int .i64 so, .int .u8 2, .int .i64 X, .int .i64 Y, .int .i64 VV, .int .i64 bo, .int .i64 we, .int .i64 tk]) := Lib.hid (Has.new w2 _ _)
    replace KC := Lib.hid (KC.out.alloc (.cells #[.int .i64 so, .int .u8 2, .int .i64 X, .int .i64 Y, .int .i64 VV, .int .i64 bo, .int .i64 we, .int .i64 tk] 54))
    replace KS := Lib.hid (KS.out.alloc (.cells #[.int .i64 so, .int .u8 2, .int .i64 X, .int .i64 Y, .int .i64 VV, .int .i64 bo, .int .i64 we, .int .i64 tk] 54))
    replace KX := Lib.hid (KX.out.alloc (.cells #[.int .i64 so, .int .u8 2, .int .i64 X, .int .i64 Y, .int .i64 VV, .int .i64 bo, .int .i64 we, .int .i64 tk] 54))
    replace HB := Lib.hid (bel_alloc1 HB.out (.cells #[.int .i64 so, .int .u8 2, .int .i64 X, .int .i64 Y, .int .i64 VV, .int .i64 bo, .int .i64 we, .int .i64 tk] 54))
    have kc0 : (w2.alloc (.cells #[.int .i64 so, .int .u8 2, .int .i64 X, .int .i64 Y, .int .i64 VV, .int .i64 bo, .int .i64 we, .int .i64 tk] 54)).cell? ⟨w.heap.size, 0, none⟩ = some (.int .i64 tk) := KC.out.cell 0 _ rfl
    have kc1 : (w2.alloc (.cells #[.int .i64 so, .int .u8 2, .int .i64 X, .int .i64 Y, .int .i64 VV, .int .i64 bo, .int .i64 we, .int .i64 tk] 54)).cell? ⟨w.heap.size, 1, none⟩ = some (.int .i64 px) := KC.out.cell 1 _ rfl
    have kc2 : (w2.alloc (.cells #[.int .i64 so, .int .u8 2, .int .i64 X, .int .i64 Y, .int .i64 VV, .int .i64 bo, .int .i64 we, .int .i64 tk] 54)).cell? ⟨w.heap.size, 2, none⟩ = some (.int .i64 py) := KC.out.cell 2 _ rfl
    have kc3 : (w2.alloc (.cells #[.int .i64 so, .int .u8 2, .int .i64 X, .int .i64 Y, .int .i64 VV, .int .i64 bo, .int .i64 we, .int .i64 tk] 54)).cell? ⟨w.heap.size, 3, none⟩ = some (.int .i64 ve) := KC.out.cell 3 _ rfl
    have kc4 : (w2.alloc (.cells #[.int .i64 so, .int .u8 2, .int .i64 X, .int .i64 Y, .int .i64 VV, .int .i64 bo, .int .i64 we, .int .i64 tk] 54)).cell? ⟨w.heap.size, 4, none⟩ = some (.int .i64 vn) := KC.out.cell 4 _ rfl
    have kc5 : (w2.alloc (.cells #[.int .i64 so, .int .u8 2, .int .i64 X, .int .i64 Y, .int .i64 VV, .int .i64 bo, .int .i64 we, .int .i64 tk] 54)).cell? ⟨w.heap.size, 5, none⟩ = some (.int .i64 al) := KC.out.cell 5 _ rfl
    have kc6 : (w2.alloc (.cells #[.int .i64 so, .int .u8 2, .int .i64 X, .int .i64 Y, .int .i64 VV, .int .i64 bo, .int .i64 we, .int .i64 tk] 54)).cell? ⟨w.heap.size, 6, none⟩ = some (.int .i64 vs) := KC.out.cell 6 _ rfl
    have kc7 : (w2.alloc (.cells #[.int .i64 so, .int .u8 2, .int .i64 X, .int .i64 Y, .int .i64 VV, .int .i64 bo, .int .i64 we, .int .i64 tk] 54)).cell? ⟨w.heap.size, 7, none⟩ = some (.int .i64 hd) := KC.out.cell 7 _ rfl
    have kc8 : (w2.alloc (.cells #[.int .i64 so, .int .u8 2, .int .i64 X, .int .i64 Y, .int .i64 VV, .int .i64 bo, .int .i64 we, .int .i64 tk] 54)).cell? ⟨w.heap.size, 8, none⟩ = some (.int .i64 ca) := KC.out.cell 8 _ rfl
    have kc9 : (w2.alloc (.cells #[.int .i64 so, .int .u8 2, .int .i64 X, .int .i64 Y, .int .i64 VV, .int .i64 bo, .int .i64 we, .int .i64 tk] 54)).cell? ⟨w.heap.size, 9, none⟩ = some (.int .i64 fu) := KC.out.cell 9 _ rfl
    have kc10 : (w2.alloc (.cells #[.int .i64 so, .int .u8 2, .int .i64 X, .int .i64 Y, .int .i64 VV, .int .i64 bo, .int .i64 we, .int .i64 tk] 54)).cell? ⟨w.heap.size, 10, none⟩ = some (.int .i64 bk) := KC.out.cell 10 _ rfl
    have kc11 : (w2.alloc (.cells #[.int .i64 so, .int .u8 2, .int .i64 X, .int .i64 Y, .int .i64 VV, .int .i64 bo, .int .i64 we, .int .i64 tk] 54)).cell? ⟨w.heap.size, 11, none⟩ = some (.bool gr) := KC.out.cell 11 _ rfl
    have ks0 : (w2.alloc (.cells #[.int .i64 so, .int .u8 2, .int .i64 X, .int .i64 Y, .int .i64 VV, .int .i64 bo, .int .i64 we, .int .i64 tk] 54)).cell? ⟨w.heap.size + 1, 0, none⟩ = some (.int .i64 co) := KS.out.cell 0 _ rfl
    have ks1 : (w2.alloc (.cells #[.int .i64 so, .int .u8 2, .int .i64 X, .int .i64 Y, .int .i64 VV, .int .i64 bo, .int .i64 we, .int .i64 tk] 54)).cell? ⟨w.heap.size + 1, 1, none⟩ = some (.int .i64 so) := KS.out.cell 1 _ rfl
    have ks2 : (w2.alloc (.cells #[.int .i64 so, .int .u8 2, .int .i64 X, .int .i64 Y, .int .i64 VV, .int .i64 bo, .int .i64 we, .int .i64 tk] 54)).cell? ⟨w.heap.size + 1, 2, none⟩ = some (.int .u8 2) := KS.out.cell 2 _ rfl
    have ks3 : (w2.alloc (.cells #[.int .i64 so, .int .u8 2, .int .i64 X, .int .i64 Y, .int .i64 VV, .int .i64 bo, .int .i64 we, .int .i64 tk] 54)).cell? ⟨w.heap.size + 1, 3, none⟩ = some (.int .i64 qx) := KS.out.cell 3 _ rfl
    have ks4 : (w2.alloc (.cells #[.int .i64 so, .int .u8 2, .int .i64 X, .int .i64 Y, .int .i64 VV, .int .i64 bo, .int .i64 we, .int .i64 tk] 54)).cell? ⟨w.heap.size + 1, 4, none⟩ = some (.int .i64 qy) := KS.out.cell 4 _ rfl
    have ks5 : (w2.alloc (.cells #[.int .i64 so, .int .u8 2, .int .i64 X, .int .i64 Y, .int .i64 VV, .int .i64 bo, .int .i64 we, .int .i64 tk] 54)).cell? ⟨w.heap.size + 1, 5, none⟩ = some (.int .i64 bo) := KS.out.cell 5 _ rfl
    have ks6 : (w2.alloc (.cells #[.int .i64 so, .int .u8 2, .int .i64 X, .int .i64 Y, .int .i64 VV, .int .i64 bo, .int .i64 we, .int .i64 tk] 54)).cell? ⟨w.heap.size + 1, 6, none⟩ = some (.int .i64 we) := KS.out.cell 6 _ rfl
    have kx0 : (w2.alloc (.cells #[.int .i64 so, .int .u8 2, .int .i64 X, .int .i64 Y, .int .i64 VV, .int .i64 bo, .int .i64 we, .int .i64 tk] 54)).cell? ⟨w.heap.size + 1 + 1, 0, none⟩ = some (.int .i64 d0) := KX.out.cell 0 _ rfl
    have kx1 : (w2.alloc (.cells #[.int .i64 so, .int .u8 2, .int .i64 X, .int .i64 Y, .int .i64 VV, .int .i64 bo, .int .i64 we, .int .i64 tk] 54)).cell? ⟨w.heap.size + 1 + 1, 1, none⟩ = some (.int .i64 d1) := KX.out.cell 1 _ rfl
    go_wp2_with fail
    generalize hW0 : (w2.alloc (.cells #[.int .i64 so, .int .u8 2, .int .i64 X, .int .i64 Y, .int .i64 VV, .int .i64 bo, .int .i64 we, .int .i64 tk] 54)) = w5 at *
    clear hW0
    have wb : IntKind.i64.wrap (bo - 1) = bo - 1 := IntWalk.i64_in _ (by omega)
    have wd : IntKind.i64.wrap (DV + d0) = DV + d0 := IntWalk.i64_in _ (by omega)
    go_region_held3 (fun W => W.cell? ⟨w.heap.size + 1 + 1, 0, none⟩ = some (.int .i64 d0) ∧ W.cell? ⟨w.heap.size + 1, 5, none⟩ = some (.int .i64 bo) ∧ W.cell? ⟨w.heap.size + 1, 3, none⟩ = some (.int .i64 qx) ∧ W.cell? ⟨w.heap.size + 1, 4, none⟩ = some (.int .i64 qy) ∧ W.cell? ⟨w.heap.size, 1, none⟩ = some (.int .i64 px) ∧ W.cell? ⟨w.heap.size, 2, none⟩ = some (.int .i64 py)) ((first | exact cells6 (Hid.out (by assumption)) (Hid.out (by assumption)) (Hid.out (by assumption)) | exact cells6 (Has.drew (Hid.out (by assumption))) (Has.drew (Hid.out (by assumption))) (Has.drew (Hid.out (by assumption))))) ((first | (go_at_call 20; refine (sizeL_any _ (by omega) _).mono ?_; rintro e wx ⟨rfl, rfl⟩) | (go_at_call 21; refine (HDI.out _).mono ?_; rintro e wx ⟨rfl, hB⟩; have KC2 : Hid (Has wx w.heap.size [.int .i64 tk, .int .i64 px, .int .i64 py, .int .i64 ve, .int .i64 vn, .int .i64 al, .int .i64 vs, .int .i64 hd, .int .i64 ca, .int .i64 fu, .int .i64 bk, .bool gr]) := Lib.hid (Has.below (by first | exact Hid.out (by assumption) | exact Has.drew (Hid.out (by assumption))) hB); have KS2 : Hid (Has wx (w.heap.size + 1) [.int .i64 co, .int .i64 so, .int .u8 2, .int .i64 qx, .int .i64 qy, .int .i64 bo, .int .i64 we]) := Lib.hid (Has.below (by first | exact Hid.out (by assumption) | exact Has.drew (Hid.out (by assumption))) hB); have KX2 : Hid (Has wx (w.heap.size + 1 + 1) [.int .i64 d0, .int .i64 d1]) := Lib.hid (Has.below (by first | exact Hid.out (by assumption) | exact Has.drew (Hid.out (by assumption))) hB); have KR2 : Hid (Has wx w2.heap.size [.int .i64 so, .int .u8 2, .int .i64 X, .int .i64 Y, .int .i64 VV, .int .i64 bo, .int .i64 we, .int .i64 tk]) := Lib.hid (Has.below (by first | exact Hid.out (by assumption) | exact Has.drew (Hid.out (by assumption))) hB); have BB : Hid (Below w.heap.size w wx) := Lib.hid (bel_trans (by first | exact Hid.out (by assumption) | exact Below.drew (Hid.out (by assumption))) hB); clear hB; have y0 : wx.cell? ⟨w.heap.size + 1 + 1, 0, none⟩ = some (.int .i64 d0) := KX2.out.cell 0 _ rfl; have y1 : wx.cell? ⟨w.heap.size + 1, 5, none⟩ = some (.int .i64 bo) := KS2.out.cell 5 _ rfl)))
    all_goals (
      clear wb wd
      have kr0 : wx.cell? ⟨w2.heap.size, 0, none⟩ = some (.int .i64 so) := KR2.out.cell 0 _ rfl
      have kr1 : wx.cell? ⟨w2.heap.size, 1, none⟩ = some (.int .u8 2) := KR2.out.cell 1 _ rfl
      have kr2 : wx.cell? ⟨w2.heap.size, 2, none⟩ = some (.int .i64 X) := KR2.out.cell 2 _ rfl
      have kr3 : wx.cell? ⟨w2.heap.size, 3, none⟩ = some (.int .i64 Y) := KR2.out.cell 3 _ rfl
      have kr4 : wx.cell? ⟨w2.heap.size, 4, none⟩ = some (.int .i64 VV) := KR2.out.cell 4 _ rfl
      have kr5 : wx.cell? ⟨w2.heap.size, 5, none⟩ = some (.int .i64 bo) := KR2.out.cell 5 _ rfl
      have kr6 : wx.cell? ⟨w2.heap.size, 6, none⟩ = some (.int .i64 we) := KR2.out.cell 6 _ rfl
      have kr7 : wx.cell? ⟨w2.heap.size, 7, none⟩ = some (.int .i64 tk) := KR2.out.cell 7 _ rfl
      have kcx : wx.cell? ⟨w.heap.size, 1, none⟩ = some (.int .i64 px) := KC2.out.cell 1 _ rfl
      have kcy : wx.cell? ⟨w.heap.size, 2, none⟩ = some (.int .i64 py) := KC2.out.cell 2 _ rfl
      go_wp2_with fail
      refine (HSF.out _).mono ?_; rintro e wz ⟨rfl, hB⟩
      go_wp2_with fail
      go_ret
      exact ⟨ret_bool (by simp), bel_trans BB.out hB⟩)
  · have HAG := Lib.hid (fun (hq : agB so 3 (msX 3 qx px d0) (msX 3 qy py d1) (msV 3 (diV qx qy px py) (coV qx qy px py) d0) bo we tk px py = true) => (fun w' => hq ▸ xAgrees so 3 (msX 3 qx px d0) (msX 3 qy py d1) (msV 3 (diV qx qy px py) (coV qx qy px py) d0) bo we tk px py hso' hkb.1 hkb.2 w'))
    obtain ⟨bo0, bo1⟩ := hbb
    have bo2 : bo ≤ 3600000 := Int.le_trans bo1 (by decide)
    have HSD := Lib.hid (fun h0 => HAG.out (sound3 hre hpp (hce rfl) h0))
    clear HAG hre hce hcr hpp hso hki hkb hso' bo1
    generalize msX 3 qx px d0 = X at *
    generalize msX 3 qy py d1 = Y at *
    generalize msV 3 (diV qx qy px py) (coV qx qy px py) d0 = VV at *
    clear hdv
    by_cases h1 : bo - 2 < absV d0
    · go_enter Try.func6, Try.ntmps6
      go_wp2_with fail
      refine (awake_any _).mono ?_; rintro e w1 ⟨rfl, hB⟩
      have KC : Hid (Has w1 w.heap.size [.int .i64 tk, .int .i64 px, .int .i64 py, .int .i64 ve, .int .i64 vn, .int .i64 al, .int .i64 vs, .int .i64 hd, .int .i64 ca, .int .i64 fu, .int .i64 bk, .bool gr]) := Lib.hid ((((Has.new w _ _).alloc _).alloc _).below hB)
      have KS : Hid (Has w1 (w.heap.size + 1) [.int .i64 co, .int .i64 so, .int .u8 3, .int .i64 qx, .int .i64 qy, .int .i64 bo, .int .i64 we]) := Lib.hid (((Has.newAt (w.alloc _) _ _ (w.heap.size + 1) (by simp)).alloc _).below hB)
      have KX : Hid (Has w1 (w.heap.size + 1 + 1) [.int .i64 d0, .int .i64 d1]) := Lib.hid ((Has.newAt ((w.alloc _).alloc _) _ _ (w.heap.size + 1 + 1) (by simp)).below hB)
      have HB := Lib.hid ((below_alloc3 w _ _ _).trans (hB.mono (by simp; omega)))
      clear hB
      have kc0 : w1.cell? ⟨w.heap.size, 0, none⟩ = some (.int .i64 tk) := KC.out.cell 0 _ rfl
      have kc1 : w1.cell? ⟨w.heap.size, 1, none⟩ = some (.int .i64 px) := KC.out.cell 1 _ rfl
      have kc2 : w1.cell? ⟨w.heap.size, 2, none⟩ = some (.int .i64 py) := KC.out.cell 2 _ rfl
      have kc3 : w1.cell? ⟨w.heap.size, 3, none⟩ = some (.int .i64 ve) := KC.out.cell 3 _ rfl
      have kc4 : w1.cell? ⟨w.heap.size, 4, none⟩ = some (.int .i64 vn) := KC.out.cell 4 _ rfl
      have kc5 : w1.cell? ⟨w.heap.size, 5, none⟩ = some (.int .i64 al) := KC.out.cell 5 _ rfl
      have kc6 : w1.cell? ⟨w.heap.size, 6, none⟩ = some (.int .i64 vs) := KC.out.cell 6 _ rfl
      have kc7 : w1.cell? ⟨w.heap.size, 7, none⟩ = some (.int .i64 hd) := KC.out.cell 7 _ rfl
      have kc8 : w1.cell? ⟨w.heap.size, 8, none⟩ = some (.int .i64 ca) := KC.out.cell 8 _ rfl
      have kc9 : w1.cell? ⟨w.heap.size, 9, none⟩ = some (.int .i64 fu) := KC.out.cell 9 _ rfl
      have kc10 : w1.cell? ⟨w.heap.size, 10, none⟩ = some (.int .i64 bk) := KC.out.cell 10 _ rfl
      have kc11 : w1.cell? ⟨w.heap.size, 11, none⟩ = some (.bool gr) := KC.out.cell 11 _ rfl
      have ks0 : w1.cell? ⟨w.heap.size + 1, 0, none⟩ = some (.int .i64 co) := KS.out.cell 0 _ rfl
      have ks1 : w1.cell? ⟨w.heap.size + 1, 1, none⟩ = some (.int .i64 so) := KS.out.cell 1 _ rfl
      have ks2 : w1.cell? ⟨w.heap.size + 1, 2, none⟩ = some (.int .u8 3) := KS.out.cell 2 _ rfl
      have ks3 : w1.cell? ⟨w.heap.size + 1, 3, none⟩ = some (.int .i64 qx) := KS.out.cell 3 _ rfl
      have ks4 : w1.cell? ⟨w.heap.size + 1, 4, none⟩ = some (.int .i64 qy) := KS.out.cell 4 _ rfl
      have ks5 : w1.cell? ⟨w.heap.size + 1, 5, none⟩ = some (.int .i64 bo) := KS.out.cell 5 _ rfl
      have ks6 : w1.cell? ⟨w.heap.size + 1, 6, none⟩ = some (.int .i64 we) := KS.out.cell 6 _ rfl
      have kx0 : w1.cell? ⟨w.heap.size + 1 + 1, 0, none⟩ = some (.int .i64 d0) := KX.out.cell 0 _ rfl
      have kx1 : w1.cell? ⟨w.heap.size + 1 + 1, 1, none⟩ = some (.int .i64 d1) := KX.out.cell 1 _ rfl
      go_wp2_with fail
      refine (HX.out _).mono ?_; rintro e w2 ⟨rfl, hB⟩
      clear kc0 kc1 kc2 kc3 kc4 kc5 kc6 kc7 kc8 kc9 kc10 kc11 ks0 ks1 ks2 ks3 ks4 ks5 ks6 kx0 kx1
      replace KC := Lib.hid (KC.out.below hB)
      replace KS := Lib.hid (KS.out.below hB)
      replace KX := Lib.hid (KX.out.below hB)
      replace HB := Lib.hid (bel_trans HB.out hB)
      clear hB
      have KR : Hid (Has (w2.alloc (.cells #[.int .i64 so, .int .u8 3, .int .i64 X, .int .i64 Y, .int .i64 VV, .int .i64 bo, .int .i64 we, .int .i64 tk] 54)) w2.heap.size [.int .i64 so, .int .u8 3, .int .i64 X, .int .i64 Y, .int .i64 VV, .int .i64 bo, .int .i64 we, .int .i64 tk]) := Lib.hid (Has.new w2 _ _)
      replace KC := Lib.hid (KC.out.alloc (.cells #[.int .i64 so, .int .u8 3, .int .i64 X, .int .i64 Y, .int .i64 VV, .int .i64 bo, .int .i64 we, .int .i64 tk] 54))
      replace KS := Lib.hid (KS.out.alloc (.cells #[.int .i64 so, .int .u8 3, .int .i64 X, .int .i64 Y, .int .i64 VV, .int .i64 bo, .int .i64 we, .int .i64 tk] 54))
      replace KX := Lib.hid (KX.out.alloc (.cells #[.int .i64 so, .int .u8 3, .int .i64 X, .int .i64 Y, .int .i64 VV, .int .i64 bo, .int .i64 we, .int .i64 tk] 54))
      replace HB := Lib.hid (bel_alloc1 HB.out (.cells #[.int .i64 so, .int .u8 3, .int .i64 X, .int .i64 Y, .int .i64 VV, .int .i64 bo, .int .i64 we, .int .i64 tk] 54))
      have kc0 : (w2.alloc (.cells #[.int .i64 so, .int .u8 3, .int .i64 X, .int .i64 Y, .int .i64 VV, .int .i64 bo, .int .i64 we, .int .i64 tk] 54)).cell? ⟨w.heap.size, 0, none⟩ = some (.int .i64 tk) := KC.out.cell 0 _ rfl
      have kc1 : (w2.alloc (.cells #[.int .i64 so, .int .u8 3, .int .i64 X, .int .i64 Y, .int .i64 VV, .int .i64 bo, .int .i64 we, .int .i64 tk] 54)).cell? ⟨w.heap.size, 1, none⟩ = some (.int .i64 px) := KC.out.cell 1 _ rfl
      have kc2 : (w2.alloc (.cells #[.int .i64 so, .int .u8 3, .int .i64 X, .int .i64 Y, .int .i64 VV, .int .i64 bo, .int .i64 we, .int .i64 tk] 54)).cell? ⟨w.heap.size, 2, none⟩ = some (.int .i64 py) := KC.out.cell 2 _ rfl
      have kc3 : (w2.alloc (.cells #[.int .i64 so, .int .u8 3, .int .i64 X, .int .i64 Y, .int .i64 VV, .int .i64 bo, .int .i64 we, .int .i64 tk] 54)).cell? ⟨w.heap.size, 3, none⟩ = some (.int .i64 ve) := KC.out.cell 3 _ rfl
      have kc4 : (w2.alloc (.cells #[.int .i64 so, .int .u8 3, .int .i64 X, .int .i64 Y, .int .i64 VV, .int .i64 bo, .int .i64 we, .int .i64 tk] 54)).cell? ⟨w.heap.size, 4, none⟩ = some (.int .i64 vn) := KC.out.cell 4 _ rfl
      have kc5 : (w2.alloc (.cells #[.int .i64 so, .int .u8 3, .int .i64 X, .int .i64 Y, .int .i64 VV, .int .i64 bo, .int .i64 we, .int .i64 tk] 54)).cell? ⟨w.heap.size, 5, none⟩ = some (.int .i64 al) := KC.out.cell 5 _ rfl
      have kc6 : (w2.alloc (.cells #[.int .i64 so, .int .u8 3, .int .i64 X, .int .i64 Y, .int .i64 VV, .int .i64 bo, .int .i64 we, .int .i64 tk] 54)).cell? ⟨w.heap.size, 6, none⟩ = some (.int .i64 vs) := KC.out.cell 6 _ rfl
      have kc7 : (w2.alloc (.cells #[.int .i64 so, .int .u8 3, .int .i64 X, .int .i64 Y, .int .i64 VV, .int .i64 bo, .int .i64 we, .int .i64 tk] 54)).cell? ⟨w.heap.size, 7, none⟩ = some (.int .i64 hd) := KC.out.cell 7 _ rfl
      have kc8 : (w2.alloc (.cells #[.int .i64 so, .int .u8 3, .int .i64 X, .int .i64 Y, .int .i64 VV, .int .i64 bo, .int .i64 we, .int .i64 tk] 54)).cell? ⟨w.heap.size, 8, none⟩ = some (.int .i64 ca) := KC.out.cell 8 _ rfl
      have kc9 : (w2.alloc (.cells #[.int .i64 so, .int .u8 3, .int .i64 X, .int .i64 Y, .int .i64 VV, .int .i64 bo, .int .i64 we, .int .i64 tk] 54)).cell? ⟨w.heap.size, 9, none⟩ = some (.int .i64 fu) := KC.out.cell 9 _ rfl
      have kc10 : (w2.alloc (.cells #[.int .i64 so, .int .u8 3, .int .i64 X, .int .i64 Y, .int .i64 VV, .int .i64 bo, .int .i64 we, .int .i64 tk] 54)).cell? ⟨w.heap.size, 10, none⟩ = some (.int .i64 bk) := KC.out.cell 10 _ rfl
      have kc11 : (w2.alloc (.cells #[.int .i64 so, .int .u8 3, .int .i64 X, .int .i64 Y, .int .i64 VV, .int .i64 bo, .int .i64 we, .int .i64 tk] 54)).cell? ⟨w.heap.size, 11, none⟩ = some (.bool gr) := KC.out.cell 11 _ rfl
      have ks0 : (w2.alloc (.cells #[.int .i64 so, .int .u8 3, .int .i64 X, .int .i64 Y, .int .i64 VV, .int .i64 bo, .int .i64 we, .int .i64 tk] 54)).cell? ⟨w.heap.size + 1, 0, none⟩ = some (.int .i64 co) := KS.out.cell 0 _ rfl
      have ks1 : (w2.alloc (.cells #[.int .i64 so, .int .u8 3, .int .i64 X, .int .i64 Y, .int .i64 VV, .int .i64 bo, .int .i64 we, .int .i64 tk] 54)).cell? ⟨w.heap.size + 1, 1, none⟩ = some (.int .i64 so) := KS.out.cell 1 _ rfl
      have ks2 : (w2.alloc (.cells #[.int .i64 so, .int .u8 3, .int .i64 X, .int .i64 Y, .int .i64 VV, .int .i64 bo, .int .i64 we, .int .i64 tk] 54)).cell? ⟨w.heap.size + 1, 2, none⟩ = some (.int .u8 3) := KS.out.cell 2 _ rfl
      have ks3 : (w2.alloc (.cells #[.int .i64 so, .int .u8 3, .int .i64 X, .int .i64 Y, .int .i64 VV, .int .i64 bo, .int .i64 we, .int .i64 tk] 54)).cell? ⟨w.heap.size + 1, 3, none⟩ = some (.int .i64 qx) := KS.out.cell 3 _ rfl
      have ks4 : (w2.alloc (.cells #[.int .i64 so, .int .u8 3, .int .i64 X, .int .i64 Y, .int .i64 VV, .int .i64 bo, .int .i64 we, .int .i64 tk] 54)).cell? ⟨w.heap.size + 1, 4, none⟩ = some (.int .i64 qy) := KS.out.cell 4 _ rfl
      have ks5 : (w2.alloc (.cells #[.int .i64 so, .int .u8 3, .int .i64 X, .int .i64 Y, .int .i64 VV, .int .i64 bo, .int .i64 we, .int .i64 tk] 54)).cell? ⟨w.heap.size + 1, 5, none⟩ = some (.int .i64 bo) := KS.out.cell 5 _ rfl
      have ks6 : (w2.alloc (.cells #[.int .i64 so, .int .u8 3, .int .i64 X, .int .i64 Y, .int .i64 VV, .int .i64 bo, .int .i64 we, .int .i64 tk] 54)).cell? ⟨w.heap.size + 1, 6, none⟩ = some (.int .i64 we) := KS.out.cell 6 _ rfl
      have kx0 : (w2.alloc (.cells #[.int .i64 so, .int .u8 3, .int .i64 X, .int .i64 Y, .int .i64 VV, .int .i64 bo, .int .i64 we, .int .i64 tk] 54)).cell? ⟨w.heap.size + 1 + 1, 0, none⟩ = some (.int .i64 d0) := KX.out.cell 0 _ rfl
      have kx1 : (w2.alloc (.cells #[.int .i64 so, .int .u8 3, .int .i64 X, .int .i64 Y, .int .i64 VV, .int .i64 bo, .int .i64 we, .int .i64 tk] 54)).cell? ⟨w.heap.size + 1 + 1, 1, none⟩ = some (.int .i64 d1) := KX.out.cell 1 _ rfl
      go_wp2_with fail
      generalize hW0 : (w2.alloc (.cells #[.int .i64 so, .int .u8 3, .int .i64 X, .int .i64 Y, .int .i64 VV, .int .i64 bo, .int .i64 we, .int .i64 tk] 54)) = w5 at *
      clear hW0
      have wb : IntKind.i64.wrap (bo - 2) = bo - 2 := IntWalk.i64_in _ (by omega)
      go_quiet (((go_at_call 20; first | exact quiet_more (flip (sizeL_any _ (by omega) _)) | exact Calls.quiet_of_same (flip (sizeL_any _ (by omega) _)))))
      go_wp2_with fail
      go_ret
      exact ⟨ret_bool (by simp), below_drewN HB.out _⟩
    have HSF := Lib.hid (HSD.out (by omega))
    clear HSD
    go_enter Try.func6, Try.ntmps6
    go_wp2_with fail
    refine (awake_any _).mono ?_; rintro e w1 ⟨rfl, hB⟩
    have KC : Hid (Has w1 w.heap.size [.int .i64 tk, .int .i64 px, .int .i64 py, .int .i64 ve, .int .i64 vn, .int .i64 al, .int .i64 vs, .int .i64 hd, .int .i64 ca, .int .i64 fu, .int .i64 bk, .bool gr]) := Lib.hid ((((Has.new w _ _).alloc _).alloc _).below hB)
    have KS : Hid (Has w1 (w.heap.size + 1) [.int .i64 co, .int .i64 so, .int .u8 3, .int .i64 qx, .int .i64 qy, .int .i64 bo, .int .i64 we]) := Lib.hid (((Has.newAt (w.alloc _) _ _ (w.heap.size + 1) (by simp)).alloc _).below hB)
    have KX : Hid (Has w1 (w.heap.size + 1 + 1) [.int .i64 d0, .int .i64 d1]) := Lib.hid ((Has.newAt ((w.alloc _).alloc _) _ _ (w.heap.size + 1 + 1) (by simp)).below hB)
    have HB := Lib.hid ((below_alloc3 w _ _ _).trans (hB.mono (by simp; omega)))
    clear hB
    have kc0 : w1.cell? ⟨w.heap.size, 0, none⟩ = some (.int .i64 tk) := KC.out.cell 0 _ rfl
    have kc1 : w1.cell? ⟨w.heap.size, 1, none⟩ = some (.int .i64 px) := KC.out.cell 1 _ rfl
    have kc2 : w1.cell? ⟨w.heap.size, 2, none⟩ = some (.int .i64 py) := KC.out.cell 2 _ rfl
    have kc3 : w1.cell? ⟨w.heap.size, 3, none⟩ = some (.int .i64 ve) := KC.out.cell 3 _ rfl
    have kc4 : w1.cell? ⟨w.heap.size, 4, none⟩ = some (.int .i64 vn) := KC.out.cell 4 _ rfl
    have kc5 : w1.cell? ⟨w.heap.size, 5, none⟩ = some (.int .i64 al) := KC.out.cell 5 _ rfl
    have kc6 : w1.cell? ⟨w.heap.size, 6, none⟩ = some (.int .i64 vs) := KC.out.cell 6 _ rfl
    have kc7 : w1.cell? ⟨w.heap.size, 7, none⟩ = some (.int .i64 hd) := KC.out.cell 7 _ rfl
    have kc8 : w1.cell? ⟨w.heap.size, 8, none⟩ = some (.int .i64 ca) := KC.out.cell 8 _ rfl
    have kc9 : w1.cell? ⟨w.heap.size, 9, none⟩ = some (.int .i64 fu) := KC.out.cell 9 _ rfl
    have kc10 : w1.cell? ⟨w.heap.size, 10, none⟩ = some (.int .i64 bk) := KC.out.cell 10 _ rfl
    have kc11 : w1.cell? ⟨w.heap.size, 11, none⟩ = some (.bool gr) := KC.out.cell 11 _ rfl
    have ks0 : w1.cell? ⟨w.heap.size + 1, 0, none⟩ = some (.int .i64 co) := KS.out.cell 0 _ rfl
    have ks1 : w1.cell? ⟨w.heap.size + 1, 1, none⟩ = some (.int .i64 so) := KS.out.cell 1 _ rfl
    have ks2 : w1.cell? ⟨w.heap.size + 1, 2, none⟩ = some (.int .u8 3) := KS.out.cell 2 _ rfl
    have ks3 : w1.cell? ⟨w.heap.size + 1, 3, none⟩ = some (.int .i64 qx) := KS.out.cell 3 _ rfl
    have ks4 : w1.cell? ⟨w.heap.size + 1, 4, none⟩ = some (.int .i64 qy) := KS.out.cell 4 _ rfl
    have ks5 : w1.cell? ⟨w.heap.size + 1, 5, none⟩ = some (.int .i64 bo) := KS.out.cell 5 _ rfl
    have ks6 : w1.cell? ⟨w.heap.size + 1, 6, none⟩ = some (.int .i64 we) := KS.out.cell 6 _ rfl
    have kx0 : w1.cell? ⟨w.heap.size + 1 + 1, 0, none⟩ = some (.int .i64 d0) := KX.out.cell 0 _ rfl
    have kx1 : w1.cell? ⟨w.heap.size + 1 + 1, 1, none⟩ = some (.int .i64 d1) := KX.out.cell 1 _ rfl
    go_wp2_with fail
    refine (HX.out _).mono ?_; rintro e w2 ⟨rfl, hB⟩
    clear kc0 kc1 kc2 kc3 kc4 kc5 kc6 kc7 kc8 kc9 kc10 kc11 ks0 ks1 ks2 ks3 ks4 ks5 ks6 kx0 kx1
    replace KC := Lib.hid (KC.out.below hB)
    replace KS := Lib.hid (KS.out.below hB)
    replace KX := Lib.hid (KX.out.below hB)
    replace HB := Lib.hid (bel_trans HB.out hB)
    clear hB
    have KR : Hid (Has (w2.alloc (.cells #[.int .i64 so, .int .u8 3, .int .i64 X, .int .i64 Y, .int .i64 VV, .int .i64 bo, .int .i64 we, .int .i64 tk] 54)) w2.heap.size [.int .i64 so, .int .u8 3, .int .i64 X, .int .i64 Y, .int .i64 VV, .int .i64 bo, .int .i64 we, .int .i64 tk]) := Lib.hid (Has.new w2 _ _)
    replace KC := Lib.hid (KC.out.alloc (.cells #[.int .i64 so, .int .u8 3, .int .i64 X, .int .i64 Y, .int .i64 VV, .int .i64 bo, .int .i64 we, .int .i64 tk] 54))
    replace KS := Lib.hid (KS.out.alloc (.cells #[.int .i64 so, .int .u8 3, .int .i64 X, .int .i64 Y, .int .i64 VV, .int .i64 bo, .int .i64 we, .int .i64 tk] 54))
    replace KX := Lib.hid (KX.out.alloc (.cells #[.int .i64 so, .int .u8 3, .int .i64 X, .int .i64 Y, .int .i64 VV, .int .i64 bo, .int .i64 we, .int .i64 tk] 54))
    replace HB := Lib.hid (bel_alloc1 HB.out (.cells #[.int .i64 so, .int .u8 3, .int .i64 X, .int .i64 Y, .int .i64 VV, .int .i64 bo, .int .i64 we, .int .i64 tk] 54))
    have kc0 : (w2.alloc (.cells #[.int .i64 so, .int .u8 3, .int .i64 X, .int .i64 Y, .int .i64 VV, .int .i64 bo, .int .i64 we, .int .i64 tk] 54)).cell? ⟨w.heap.size, 0, none⟩ = some (.int .i64 tk) := KC.out.cell 0 _ rfl
    have kc1 : (w2.alloc (.cells #[.int .i64 so, .int .u8 3, .int .i64 X, .int .i64 Y, .int .i64 VV, .int .i64 bo, .int .i64 we, .int .i64 tk] 54)).cell? ⟨w.heap.size, 1, none⟩ = some (.int .i64 px) := KC.out.cell 1 _ rfl
    have kc2 : (w2.alloc (.cells #[.int .i64 so, .int .u8 3, .int .i64 X, .int .i64 Y, .int .i64 VV, .int .i64 bo, .int .i64 we, .int .i64 tk] 54)).cell? ⟨w.heap.size, 2, none⟩ = some (.int .i64 py) := KC.out.cell 2 _ rfl
    have kc3 : (w2.alloc (.cells #[.int .i64 so, .int .u8 3, .int .i64 X, .int .i64 Y, .int .i64 VV, .int .i64 bo, .int .i64 we, .int .i64 tk] 54)).cell? ⟨w.heap.size, 3, none⟩ = some (.int .i64 ve) := KC.out.cell 3 _ rfl
    have kc4 : (w2.alloc (.cells #[.int .i64 so, .int .u8 3, .int .i64 X, .int .i64 Y, .int .i64 VV, .int .i64 bo, .int .i64 we, .int .i64 tk] 54)).cell? ⟨w.heap.size, 4, none⟩ = some (.int .i64 vn) := KC.out.cell 4 _ rfl
    have kc5 : (w2.alloc (.cells #[.int .i64 so, .int .u8 3, .int .i64 X, .int .i64 Y, .int .i64 VV, .int .i64 bo, .int .i64 we, .int .i64 tk] 54)).cell? ⟨w.heap.size, 5, none⟩ = some (.int .i64 al) := KC.out.cell 5 _ rfl
    have kc6 : (w2.alloc (.cells #[.int .i64 so, .int .u8 3, .int .i64 X, .int .i64 Y, .int .i64 VV, .int .i64 bo, .int .i64 we, .int .i64 tk] 54)).cell? ⟨w.heap.size, 6, none⟩ = some (.int .i64 vs) := KC.out.cell 6 _ rfl
    have kc7 : (w2.alloc (.cells #[.int .i64 so, .int .u8 3, .int .i64 X, .int .i64 Y, .int .i64 VV, .int .i64 bo, .int .i64 we, .int .i64 tk] 54)).cell? ⟨w.heap.size, 7, none⟩ = some (.int .i64 hd) := KC.out.cell 7 _ rfl
    have kc8 : (w2.alloc (.cells #[.int .i64 so, .int .u8 3, .int .i64 X, .int .i64 Y, .int .i64 VV, .int .i64 bo, .int .i64 we, .int .i64 tk] 54)).cell? ⟨w.heap.size, 8, none⟩ = some (.int .i64 ca) := KC.out.cell 8 _ rfl
    have kc9 : (w2.alloc (.cells #[.int .i64 so, .int .u8 3, .int .i64 X, .int .i64 Y, .int .i64 VV, .int .i64 bo, .int .i64 we, .int .i64 tk] 54)).cell? ⟨w.heap.size, 9, none⟩ = some (.int .i64 fu) := KC.out.cell 9 _ rfl
    have kc10 : (w2.alloc (.cells #[.int .i64 so, .int .u8 3, .int .i64 X, .int .i64 Y, .int .i64 VV, .int .i64 bo, .int .i64 we, .int .i64 tk] 54)).cell? ⟨w.heap.size, 10, none⟩ = some (.int .i64 bk) := KC.out.cell 10 _ rfl
    have kc11 : (w2.alloc (.cells #[.int .i64 so, .int .u8 3, .int .i64 X, .int .i64 Y, .int .i64 VV, .int .i64 bo, .int .i64 we, .int .i64 tk] 54)).cell? ⟨w.heap.size, 11, none⟩ = some (.bool gr) := KC.out.cell 11 _ rfl
    have ks0 : (w2.alloc (.cells #[.int .i64 so, .int .u8 3, .int .i64 X, .int .i64 Y, .int .i64 VV, .int .i64 bo, .int .i64 we, .int .i64 tk] 54)).cell? ⟨w.heap.size + 1, 0, none⟩ = some (.int .i64 co) := KS.out.cell 0 _ rfl
    have ks1 : (w2.alloc (.cells #[.int .i64 so, .int .u8 3, .int .i64 X, .int .i64 Y, .int .i64 VV, .int .i64 bo, .int .i64 we, .int .i64 tk] 54)).cell? ⟨w.heap.size + 1, 1, none⟩ = some (.int .i64 so) := KS.out.cell 1 _ rfl
    have ks2 : (w2.alloc (.cells #[.int .i64 so, .int .u8 3, .int .i64 X, .int .i64 Y, .int .i64 VV, .int .i64 bo, .int .i64 we, .int .i64 tk] 54)).cell? ⟨w.heap.size + 1, 2, none⟩ = some (.int .u8 3) := KS.out.cell 2 _ rfl
    have ks3 : (w2.alloc (.cells #[.int .i64 so, .int .u8 3, .int .i64 X, .int .i64 Y, .int .i64 VV, .int .i64 bo, .int .i64 we, .int .i64 tk] 54)).cell? ⟨w.heap.size + 1, 3, none⟩ = some (.int .i64 qx) := KS.out.cell 3 _ rfl
    have ks4 : (w2.alloc (.cells #[.int .i64 so, .int .u8 3, .int .i64 X, .int .i64 Y, .int .i64 VV, .int .i64 bo, .int .i64 we, .int .i64 tk] 54)).cell? ⟨w.heap.size + 1, 4, none⟩ = some (.int .i64 qy) := KS.out.cell 4 _ rfl
    have ks5 : (w2.alloc (.cells #[.int .i64 so, .int .u8 3, .int .i64 X, .int .i64 Y, .int .i64 VV, .int .i64 bo, .int .i64 we, .int .i64 tk] 54)).cell? ⟨w.heap.size + 1, 5, none⟩ = some (.int .i64 bo) := KS.out.cell 5 _ rfl
    have ks6 : (w2.alloc (.cells #[.int .i64 so, .int .u8 3, .int .i64 X, .int .i64 Y, .int .i64 VV, .int .i64 bo, .int .i64 we, .int .i64 tk] 54)).cell? ⟨w.heap.size + 1, 6, none⟩ = some (.int .i64 we) := KS.out.cell 6 _ rfl
    have kx0 : (w2.alloc (.cells #[.int .i64 so, .int .u8 3, .int .i64 X, .int .i64 Y, .int .i64 VV, .int .i64 bo, .int .i64 we, .int .i64 tk] 54)).cell? ⟨w.heap.size + 1 + 1, 0, none⟩ = some (.int .i64 d0) := KX.out.cell 0 _ rfl
    have kx1 : (w2.alloc (.cells #[.int .i64 so, .int .u8 3, .int .i64 X, .int .i64 Y, .int .i64 VV, .int .i64 bo, .int .i64 we, .int .i64 tk] 54)).cell? ⟨w.heap.size + 1 + 1, 1, none⟩ = some (.int .i64 d1) := KX.out.cell 1 _ rfl
    go_wp2_with fail
    generalize hW0 : (w2.alloc (.cells #[.int .i64 so, .int .u8 3, .int .i64 X, .int .i64 Y, .int .i64 VV, .int .i64 bo, .int .i64 we, .int .i64 tk] 54)) = w5 at *
    clear hW0
    have wb : IntKind.i64.wrap (bo - 2) = bo - 2 := IntWalk.i64_in _ (by omega)
    go_quiet (((go_at_call 20; first | exact quiet_more (flip (sizeL_any _ (by omega) _)) | exact Calls.quiet_of_same (flip (sizeL_any _ (by omega) _)))))
    clear kc0 kc1 kc2 kc3 kc4 kc5 kc6 kc7 kc8 kc9 kc10 kc11 ks0 ks1 ks2 ks3 ks4 ks5 ks6 kx0 kx1
    have HBF0 := Lib.hid (below_drewN HB.out nq)
    have KRW := KR.out.below (below_drewN (Below.refl _ w5) nq)
    have KCW := KC.out.below (below_drewN (Below.refl _ w5) nq)
    generalize hw6 : w5.drewN nq = WF at *
    clear hw6
    have HBF : Hid _ := HBF0
    have KRf : Hid (Has WF w2.heap.size [.int .i64 so, .int .u8 3, .int .i64 X, .int .i64 Y, .int .i64 VV, .int .i64 bo, .int .i64 we, .int .i64 tk]) := Lib.hid KRW
    have KCf : Hid (Has WF w.heap.size [.int .i64 tk, .int .i64 px, .int .i64 py, .int .i64 ve, .int .i64 vn, .int .i64 al, .int .i64 vs, .int .i64 hd, .int .i64 ca, .int .i64 fu, .int .i64 bk, .bool gr]) := Lib.hid KCW
    clear KRW KCW
    have kr0 : WF.cell? ⟨w2.heap.size, 0, none⟩ = some (.int .i64 so) := KRf.out.cell 0 _ rfl
    have kr1 : WF.cell? ⟨w2.heap.size, 1, none⟩ = some (.int .u8 3) := KRf.out.cell 1 _ rfl
    have kr2 : WF.cell? ⟨w2.heap.size, 2, none⟩ = some (.int .i64 X) := KRf.out.cell 2 _ rfl
    have kr3 : WF.cell? ⟨w2.heap.size, 3, none⟩ = some (.int .i64 Y) := KRf.out.cell 3 _ rfl
    have kr4 : WF.cell? ⟨w2.heap.size, 4, none⟩ = some (.int .i64 VV) := KRf.out.cell 4 _ rfl
    have kr5 : WF.cell? ⟨w2.heap.size, 5, none⟩ = some (.int .i64 bo) := KRf.out.cell 5 _ rfl
    have kr6 : WF.cell? ⟨w2.heap.size, 6, none⟩ = some (.int .i64 we) := KRf.out.cell 6 _ rfl
    have kr7 : WF.cell? ⟨w2.heap.size, 7, none⟩ = some (.int .i64 tk) := KRf.out.cell 7 _ rfl
    have kcx : WF.cell? ⟨w.heap.size, 1, none⟩ = some (.int .i64 px) := KCf.out.cell 1 _ rfl
    have kcy : WF.cell? ⟨w.heap.size, 2, none⟩ = some (.int .i64 py) := KCf.out.cell 2 _ rfl
    go_wp2_with fail
    refine (HSF.out _).mono ?_; rintro e wz ⟨rfl, hB⟩
    go_wp2_with fail
    go_ret
    exact ⟨ret_bool (by simp), bel_trans HBF.out hB⟩
end Go.Proofs.Ytcmdpfdhmbpahaa
namespace Go.Proofs.Ytcmdpfdhmbpahaa.simulatorSound
open Go.ChangeShapes Go.WideShapes Go.ChangeAt Go.RowKit
open Go.ChangeMaps (open_string shut_string)
set_option linter.unusedVariables false
set_option linter.unusedSimpArgs false

theorem own : ownKnob Try.prog.godebug = none := by kernel_rfl
theorem laidOut : laidOutB Try.prog = true := by kernel_rfl

set_option maxRecDepth 100000 in
theorem lifted (os : Os) (started : os.Started) (H : Type) (enc : TypeId × Value → H) :
    ReturnsInHanded {} Try.checked os 6 .any (Rows.simulatorSoundSpec.pre6 enc Try.prog Try.f6 Rows.simulatorSoundRow.domain false) (Rows.simulatorSoundSpec.post enc Try.prog Try.f6 false true false false) := by
  refine returnsInHanded_of_change (C := Try.checked) own started (by kernel_rfl) Try.func6
    (ChangeSpec.witness6 (enc := enc) (C := Try.checked) false ⟨#[], #[.agg #[.int .i64 0, .int .i64 0, .int .i64 0, .int .i64 0, .int .i64 0, .int .i64 0, .int .i64 0, .int .i64 0, .int .i64 0, .int .i64 0, .int .i64 0, .bool false], .agg #[.int .i64 0, .int .i64 0, .int .u8 0, .int .i64 0, .int .i64 0, .int .i64 0, .int .i64 0], .agg #[.int .i64 0, .int .i64 0]], []⟩ 8 (by kernel_rfl) (by kernel_rfl) (by kernel_rfl) (by kernel_rfl)) ?_
  intro W base args ds gs before hval0 hW hcnd _
  have hval : ∀ (j : Nat) t v, Try.f6.params[j]? = some t → args[j]? = some v → Value.okWide Try.prog W .any base t v := hval0
  have hW' := hW
  obtain ⟨p, q, hA0, hV, rfl, hfz, hnd⟩ := hW
  have hA : DataW.TrodAll enc Try.prog W 0 (fun _ => true) true Try.f6.params.toList args.toList ds p := hA0
  rw [Try.params6] at hA hval
  obtain ⟨v0, vs0, d0, ds0, p0, q0, hargs, rfl, rfl, h0, r0⟩ := trodAll_cons hA
  obtain ⟨v1, vs1, d1, ds1, p1, q1, rfl, rfl, rfl, h1, r1⟩ := trodAll_cons r0
  obtain ⟨v2, vs2, d2, ds2, p2, q2, rfl, rfl, rfl, h2, r2⟩ := trodAll_cons r1
  obtain ⟨rfl, rfl, rfl⟩ := trodAll_nil r2
  obtain rfl : args = #[v0, v1, v2] := by cases args; simp_all
  obtain ⟨rfl, rfl⟩ := trodVars_none hV
  have k0 := h0
  have lt0 : ∀ x ∈ p0, x.block < W.heap.size := by obtain ⟨m, hm⟩ := k0; exact DataW.trod_lt m _ _ _ hm
  have k1 := h1
  have lt1 : ∀ x ∈ p1, x.block < W.heap.size := by obtain ⟨m, hm⟩ := k1; exact DataW.trod_lt m _ _ _ hm
  have k2 := h2
  have lt2 : ∀ x ∈ p2, x.block < W.heap.size := by obtain ⟨m, hm⟩ := k2; exact DataW.trod_lt m _ _ _ hm
  obtain ⟨cs0, fu0, rfl, hh0⟩ := open_agg_list Try.underlying27 (hval 0 27 v0 rfl rfl) h0
  obtain ⟨tk_0, px_0, py_0, ve_0, vn_0, al_0, vs_0, hd_0, ca_0, fu_0, bk_0, gr_0, rfl, cf0_0, cf1_0, cf2_0, cf3_0, cf4_0, cf5_0, cf6_0, cf7_0, cf8_0, cf9_0, cf10_0⟩ := op_craft _ _ _ hh0
  obtain ⟨cs1, fu1, rfl, hh1⟩ := open_agg_list Try.underlying51 (hval 1 51 v1 rfl rfl) h1
  obtain ⟨co_1, so_1, ki_1, qx_1, qy_1, bo_1, we_1, rfl, sf0_1, sf1_1, sf2_1, sf3_1, sf4_1, sf5_1, sf6_1⟩ := op_sns _ _ _ hh1
  obtain ⟨a2, b2, rfl, w2, u2⟩ := open_arr2 Try.underlying52 Try.underlying2 (by kernel_rfl) (by kernel_rfl) (hval 2 52 v2 rfl rfl) h2
  clear hA0 hval0
  refine (Ytcmdpfdhmbpahaa.walk_SimulatorSound tk_0 px_0 py_0 ve_0 vn_0 al_0 vs_0 hd_0 ca_0 fu_0 bk_0 gr_0 co_1 so_1 ki_1 qx_1 qy_1 bo_1 we_1 a2 b2 W cf0_0 cf1_0 cf2_0 cf3_0 cf4_0 cf5_0 cf6_0 cf7_0 cf8_0 cf9_0 cf10_0 sf0_1 sf1_1 sf2_1 sf3_1 sf4_1 sf5_1 sf6_1 w2 u2).mono fun e W' ⟨he, bel⟩ => ?_
  subst he
  exact ⟨_, rfl, _, _, _, [], _, [], hW', trodAll_mk1 (shut_bool Try.underlying4 _), (trodAll_cons_mk (Below.trod laidOut (by kernel_rfl) (of_decide_eq_true (by kernel_rfl)) k0 bel lt0) (trodAll_cons_mk (Below.trod laidOut (by kernel_rfl) (of_decide_eq_true (by kernel_rfl)) k1 bel lt1) (trodAll_cons_mk (Below.trod laidOut (by kernel_rfl) (of_decide_eq_true (by kernel_rfl)) k2 bel lt2) trodAll_mk0))), rfl, bel.frame _, fun h => by cases h⟩

theorem over : Rows.simulatorSoundRow.holds Try.pinned (OpenSpec.ofChange Rows.simulatorSoundSpec) :=
  OpenClaim.holds_of_wide 6 Try.f6 rfl rfl rfl rfl rfl rfl rfl ⟨rfl, rfl, rfl, rfl, rfl⟩ rfl rfl rfl rfl rfl (by kernel_rfl) Try.func6 (by kernel_rfl)
    (of_decide_eq_true (by kernel_rfl)) (by unfold Func.isWrapper; first | (rw [if_pos (by decide +kernel)]; kernel_rfl) | (rw [if_neg (by decide +kernel)]; exact ⟨rfl, rfl⟩))
    (fun os started H enc _ => lifted os started H enc)

/-- the statement -/
theorem proved : Rows.SimulatorSoundSaid := over
end Go.Proofs.Ytcmdpfdhmbpahaa.simulatorSound
