/- Layer 41: Agrees, of the program. -/
import Derived.Test.YtkomooeohlcnaaaAgP
import Derived.Deep.QuietTactic
import Derived.BigQuiet
import Derived.RegionTactic
namespace Go.Proofs.Ytkomooeohlcnaaa
set_option linter.unusedSimpArgs false
set_option linter.unusedVariables false
open Go.RowKit
open Tr
theorem abs_at (a : Int) (h : -1000000000 ≤ a ∧ a ≤ 1000000000) (w : World) : Calls Try.prog 21 #[.int .i64 a] w fun e w' => e = .returned (.int .i64 (absV a)) ∧ w = w' := by
  have := xAbs a ⟨by omega, by omega⟩ w
  rwa [abs_i64 h] at this
set_option maxRecDepth 100000 in
set_option maxHeartbeats 4000000 in
theorem xAgrees (so ki x y va bo we tk px py : Int) (hso : I64 so) (hk0 : 0 ≤ ki) (hk9 : ki ≤ 255) (w : World) : Calls Try.prog 8 #[.agg #[.int .i64 so, .int .u8 ki, .int .i64 x, .int .i64 y, .int .i64 va, .int .i64 bo, .int .i64 we, .int .i64 tk], .agg #[.int .i64 px, .int .i64 py]] w fun e w' => e = .returned (.bool (agB so ki x y va bo we tk px py)) ∧ Below w.heap.size w w' := by
  have HR := Lib.hid (xRep so ki x y va bo we tk hso hk0 hk9)
  by_cases hE : repE so ki x y va bo we tk = 0
  rotate_left
  · have HV := Lib.hid (agB_e (px := px) (py := py) hE)
    generalize repE so ki x y va bo we tk = E at *
    have e1 : (E == 0) = false := beq_eq_false_iff_ne.2 hE
    have e2 : (E != 0) = true := by rw [bne, e1]; rfl
    clear hE
    go_enter Try.func8, Try.ntmps8
    go_wp2_with fail
    refine (HR.out _).mono ?_; rintro e w1 ⟨rfl, hB⟩
    have HB := Lib.hid ((below_alloc2 w _ _).trans (hB.mono (by simp; omega)))
    clear hB
    go_wp2_with fail
    go_ret
    exact ⟨ret_bool HV.out.symm, HB.out⟩
  have HE := Lib.hid hE
  rw [hE] at HR
  have hb := repE_0 hE
  clear hE
  cases hP : ptB px py
  · have HV := Lib.hid (agB_p HE.out hP)
    have HP := Lib.hid hP
    clear hP
    go_enter Try.func8, Try.ntmps8
    go_wp2_with fail
    refine (HR.out _).mono ?_; rintro e w1 ⟨rfl, hB⟩
    have KP : Hid (Has w1 (w.heap.size + 1) [.int .i64 px, .int .i64 py]) := Lib.hid ((Has.newAt (w.alloc _) _ _ (w.heap.size + 1) (by simp)).below hB)
    have HB := Lib.hid ((below_alloc2 w _ _).trans (hB.mono (by simp; omega)))
    clear hB
    have p0 : w1.cell? ⟨w.heap.size + 1, 0, none⟩ = some (.int .i64 px) := KP.out.cell 0 _ rfl
    have p1 : w1.cell? ⟨w.heap.size + 1, 1, none⟩ = some (.int .i64 py) := KP.out.cell 1 _ rfl
    go_wp2_with fail
    refine (xValid _ _ _).mono ?_; rintro e w2 ⟨rfl, hB⟩
    replace HB := Lib.hid (bel_trans HB.out hB)
    clear hB
    have hP := HP.out
    go_wp2_with fail
    go_ret
    exact ⟨ret_bool HV.out.symm, HB.out⟩
  have HP := Lib.hid hP
  have hpp := ptB_iff.1 hP
  clear hP
  obtain ⟨⟨hk, hxy⟩, hbo, hva⟩ := hb
  have hxx := ptB_iff.1 hxy
  clear hxy
  obtain ⟨⟨x0, x1⟩, y0, y1⟩ := hxx
  obtain ⟨⟨px0, px1⟩, py0, py1⟩ := hpp
  rcases hk with rfl | rfl | rfl
  · have hv := Lib.hid (agB_1 (so := so) (va := va) (we := we) (tk := tk) (x := x) (y := y) (bo := bo) HE.out HP.out)
    obtain ⟨bo0, bo1⟩ := hbo
    have HA := Lib.hid (fun w => flip (abs_at (px - x) (by omega) w))
    clear HA hva bo1 hso hk0 hk9
    by_cases hA : absV (px - x) ≤ bo
    · have hd : decide (absV (px - x) ≤ bo) = true := decide_eq_true hA
      have HV := Lib.hid (show agB so 1 x y va bo we tk px py = decide (absV (py - y) ≤ bo) by rw [hv.out, hd]; rfl)
      go_enter Try.func8, Try.ntmps8
      go_wp2_with fail
      refine (HR.out _).mono ?_; rintro e w1 ⟨rfl, hB⟩
      have KR : Hid (Has w1 w.heap.size [.int .i64 so, .int .u8 1, .int .i64 x, .int .i64 y, .int .i64 va, .int .i64 bo, .int .i64 we, .int .i64 tk]) := Lib.hid (((Has.new w _ _).alloc _).below hB)
      have KP : Hid (Has w1 (w.heap.size + 1) [.int .i64 px, .int .i64 py]) := Lib.hid ((Has.newAt (w.alloc _) _ _ (w.heap.size + 1) (by simp)).below hB)
      have HB := Lib.hid ((below_alloc2 w _ _).trans (hB.mono (by simp; omega)))
      clear hB
      have p0 : w1.cell? ⟨w.heap.size + 1, 0, none⟩ = some (.int .i64 px) := KP.out.cell 0 _ rfl
      have p1 : w1.cell? ⟨w.heap.size + 1, 1, none⟩ = some (.int .i64 py) := KP.out.cell 1 _ rfl
      go_wp2_with fail
      refine (xValid _ _ _).mono ?_; rintro e w2 ⟨rfl, hB⟩
      replace KR := Lib.hid (KR.out.below hB)
      replace KP := Lib.hid (KP.out.below hB)
      replace HB := Lib.hid (bel_trans HB.out hB)
      clear hB p0 p1
      have hP := HP.out
      have r0 : w2.cell? ⟨w.heap.size, 0, none⟩ = some (.int .i64 so) := KR.out.cell 0 _ rfl
      have r1 : w2.cell? ⟨w.heap.size, 1, none⟩ = some (.int .u8 1) := KR.out.cell 1 _ rfl
      have r2 : w2.cell? ⟨w.heap.size, 2, none⟩ = some (.int .i64 x) := KR.out.cell 2 _ rfl
      have r3 : w2.cell? ⟨w.heap.size, 3, none⟩ = some (.int .i64 y) := KR.out.cell 3 _ rfl
      have r4 : w2.cell? ⟨w.heap.size, 4, none⟩ = some (.int .i64 va) := KR.out.cell 4 _ rfl
      have r5 : w2.cell? ⟨w.heap.size, 5, none⟩ = some (.int .i64 bo) := KR.out.cell 5 _ rfl
      have r6 : w2.cell? ⟨w.heap.size, 6, none⟩ = some (.int .i64 we) := KR.out.cell 6 _ rfl
      have r7 : w2.cell? ⟨w.heap.size, 7, none⟩ = some (.int .i64 tk) := KR.out.cell 7 _ rfl
      have p0 : w2.cell? ⟨w.heap.size + 1, 0, none⟩ = some (.int .i64 px) := KP.out.cell 0 _ rfl
      have p1 : w2.cell? ⟨w.heap.size + 1, 1, none⟩ = some (.int .i64 py) := KP.out.cell 1 _ rfl
      have wx : IntKind.i64.wrap (px - x) = px - x := IntWalk.i64_in _ (by omega)
      have wy : IntKind.i64.wrap (py - y) = py - y := IntWalk.i64_in _ (by omega)
      go_wp2_with fail
      go_quiet (fail)
      have KR2 := Lib.hid (KR.out.below (below_drewN (Below.refl _ w2) nq))
      have HB2 := Lib.hid (below_drewN HB.out nq)
      generalize hw3 : w2.drewN nq = w3 at *
      clear hw3
      clear r0 r1 r2 r3 r4 r5 r6 r7 p0 p1
      have r0 : w3.cell? ⟨w.heap.size, 0, none⟩ = some (.int .i64 so) := KR2.out.cell 0 _ rfl
      have r1 : w3.cell? ⟨w.heap.size, 1, none⟩ = some (.int .u8 1) := KR2.out.cell 1 _ rfl
      have r2 : w3.cell? ⟨w.heap.size, 2, none⟩ = some (.int .i64 x) := KR2.out.cell 2 _ rfl
      have r3 : w3.cell? ⟨w.heap.size, 3, none⟩ = some (.int .i64 y) := KR2.out.cell 3 _ rfl
      have r4 : w3.cell? ⟨w.heap.size, 4, none⟩ = some (.int .i64 va) := KR2.out.cell 4 _ rfl
      have r5 : w3.cell? ⟨w.heap.size, 5, none⟩ = some (.int .i64 bo) := KR2.out.cell 5 _ rfl
      have r6 : w3.cell? ⟨w.heap.size, 6, none⟩ = some (.int .i64 we) := KR2.out.cell 6 _ rfl
      have r7 : w3.cell? ⟨w.heap.size, 7, none⟩ = some (.int .i64 tk) := KR2.out.cell 7 _ rfl
      go_wp2_with fail
      go_quiet (((go_at_call 21; first | exact quiet_more (flip (abs_at _ (by omega) _)) | exact Calls.quiet_of_same (flip (abs_at _ (by omega) _)))))
      go_wp2_with fail
      go_ret
      exact ⟨ret_bool (by rw [HV.out]; try simp), below_drewN HB2.out _⟩
    · have hd : decide (absV (px - x) ≤ bo) = false := decide_eq_false hA
      have HV := Lib.hid (show agB so 1 x y va bo we tk px py = false by rw [hv.out, hd]; rfl)
      go_enter Try.func8, Try.ntmps8
      go_wp2_with fail
      refine (HR.out _).mono ?_; rintro e w1 ⟨rfl, hB⟩
      have KR : Hid (Has w1 w.heap.size [.int .i64 so, .int .u8 1, .int .i64 x, .int .i64 y, .int .i64 va, .int .i64 bo, .int .i64 we, .int .i64 tk]) := Lib.hid (((Has.new w _ _).alloc _).below hB)
      have KP : Hid (Has w1 (w.heap.size + 1) [.int .i64 px, .int .i64 py]) := Lib.hid ((Has.newAt (w.alloc _) _ _ (w.heap.size + 1) (by simp)).below hB)
      have HB := Lib.hid ((below_alloc2 w _ _).trans (hB.mono (by simp; omega)))
      clear hB
      have p0 : w1.cell? ⟨w.heap.size + 1, 0, none⟩ = some (.int .i64 px) := KP.out.cell 0 _ rfl
      have p1 : w1.cell? ⟨w.heap.size + 1, 1, none⟩ = some (.int .i64 py) := KP.out.cell 1 _ rfl
      go_wp2_with fail
      refine (xValid _ _ _).mono ?_; rintro e w2 ⟨rfl, hB⟩
      replace KR := Lib.hid (KR.out.below hB)
      replace KP := Lib.hid (KP.out.below hB)
      replace HB := Lib.hid (bel_trans HB.out hB)
      clear hB p0 p1
      have hP := HP.out
      have r0 : w2.cell? ⟨w.heap.size, 0, none⟩ = some (.int .i64 so) := KR.out.cell 0 _ rfl
      have r1 : w2.cell? ⟨w.heap.size, 1, none⟩ = some (.int .u8 1) := KR.out.cell 1 _ rfl
      have r2 : w2.cell? ⟨w.heap.size, 2, none⟩ = some (.int .i64 x) := KR.out.cell 2 _ rfl
      have r3 : w2.cell? ⟨w.heap.size, 3, none⟩ = some (.int .i64 y) := KR.out.cell 3 _ rfl
      have r4 : w2.cell? ⟨w.heap.size, 4, none⟩ = some (.int .i64 va) := KR.out.cell 4 _ rfl
      have r5 : w2.cell? ⟨w.heap.size, 5, none⟩ = some (.int .i64 bo) := KR.out.cell 5 _ rfl
      have r6 : w2.cell? ⟨w.heap.size, 6, none⟩ = some (.int .i64 we) := KR.out.cell 6 _ rfl
      have r7 : w2.cell? ⟨w.heap.size, 7, none⟩ = some (.int .i64 tk) := KR.out.cell 7 _ rfl
      have p0 : w2.cell? ⟨w.heap.size + 1, 0, none⟩ = some (.int .i64 px) := KP.out.cell 0 _ rfl
      have p1 : w2.cell? ⟨w.heap.size + 1, 1, none⟩ = some (.int .i64 py) := KP.out.cell 1 _ rfl
      have wx : IntKind.i64.wrap (px - x) = px - x := IntWalk.i64_in _ (by omega)
      have wy : IntKind.i64.wrap (py - y) = py - y := IntWalk.i64_in _ (by omega)
      go_wp2_with fail
      go_quiet (fail)
      have KR2 := Lib.hid (KR.out.below (below_drewN (Below.refl _ w2) nq))
      have HB2 := Lib.hid (below_drewN HB.out nq)
      generalize hw3 : w2.drewN nq = w3 at *
      clear hw3
      clear r0 r1 r2 r3 r4 r5 r6 r7 p0 p1
      have r0 : w3.cell? ⟨w.heap.size, 0, none⟩ = some (.int .i64 so) := KR2.out.cell 0 _ rfl
      have r1 : w3.cell? ⟨w.heap.size, 1, none⟩ = some (.int .u8 1) := KR2.out.cell 1 _ rfl
      have r2 : w3.cell? ⟨w.heap.size, 2, none⟩ = some (.int .i64 x) := KR2.out.cell 2 _ rfl
      have r3 : w3.cell? ⟨w.heap.size, 3, none⟩ = some (.int .i64 y) := KR2.out.cell 3 _ rfl
      have r4 : w3.cell? ⟨w.heap.size, 4, none⟩ = some (.int .i64 va) := KR2.out.cell 4 _ rfl
      have r5 : w3.cell? ⟨w.heap.size, 5, none⟩ = some (.int .i64 bo) := KR2.out.cell 5 _ rfl
      have r6 : w3.cell? ⟨w.heap.size, 6, none⟩ = some (.int .i64 we) := KR2.out.cell 6 _ rfl
      have r7 : w3.cell? ⟨w.heap.size, 7, none⟩ = some (.int .i64 tk) := KR2.out.cell 7 _ rfl
      go_wp2_with fail
      go_quiet (((go_at_call 21; first | exact quiet_more (flip (abs_at _ (by omega) _)) | exact Calls.quiet_of_same (flip (abs_at _ (by omega) _)))))
      go_wp2_with fail
      go_ret
      exact ⟨ret_bool (by rw [HV.out]; try simp), below_drewN HB2.out _⟩
  · have hv := Lib.hid (agB_2 (so := so) (va := va) (we := we) (tk := tk) (x := x) (y := y) (bo := bo) HE.out HP.out)
    have hbo1 : bo ≤ 600000 := hbo.2
    have hva1 : va ≤ 8000000 := hva.2
    obtain ⟨bo0, _⟩ := hbo
    obtain ⟨va0, _⟩ := hva
    clear hso hk0 hk9
    have s1 := sqw (d := px - x) (by omega)
    have s2 := sqw (d := py - y) (by omega)
    have s3 := sqw (d := va + bo) (by omega)
    have s4 := sqw (d := va - bo) (by omega)
    obtain ⟨s10, s11⟩ := s1
    obtain ⟨s20, s21⟩ := s2
    obtain ⟨s30, s31⟩ := s3
    obtain ⟨s40, s41⟩ := s4
    have wm1 : IntKind.i64.wrap ((px - x) * (px - x)) = (px - x) * (px - x) := IntWalk.i64_in _ (by omega)
    have wm2 : IntKind.i64.wrap ((py - y) * (py - y)) = (py - y) * (py - y) := IntWalk.i64_in _ (by omega)
    have wm3 : IntKind.i64.wrap ((px - x) * (px - x) + (py - y) * (py - y)) = (px - x) * (px - x) + (py - y) * (py - y) := IntWalk.i64_in _ (by omega)
    have wm4 : IntKind.i64.wrap (va + bo) = va + bo := IntWalk.i64_in _ (by omega)
    have wm5 : IntKind.i64.wrap (va - bo) = va - bo := IntWalk.i64_in _ (by omega)
    have WM := Lib.hid (And.intro wm1 (And.intro wm2 (And.intro wm3 (And.intro wm4 wm5))))
    clear wm1 wm2 wm3 wm4 wm5
    have hsq : agSq x y px py = (px - x) * (px - x) + (py - y) * (py - y) := rfl
    rw [hsq] at hv
    clear hsq
    by_cases hA : (px - x) * (px - x) + (py - y) * (py - y) ≤ (va + bo) * (va + bo)
    rotate_left
    · have HV := Lib.hid (show agB so 2 x y va bo we tk px py = false by rw [hv.out, decide_eq_false hA]; rfl)
      go_enter Try.func8, Try.ntmps8
      go_wp2_with fail
      refine (HR.out _).mono ?_; rintro e w1 ⟨rfl, hB⟩
      have KR : Hid (Has w1 w.heap.size [.int .i64 so, .int .u8 2, .int .i64 x, .int .i64 y, .int .i64 va, .int .i64 bo, .int .i64 we, .int .i64 tk]) := Lib.hid (((Has.new w _ _).alloc _).below hB)
      have KP : Hid (Has w1 (w.heap.size + 1) [.int .i64 px, .int .i64 py]) := Lib.hid ((Has.newAt (w.alloc _) _ _ (w.heap.size + 1) (by simp)).below hB)
      have HB := Lib.hid ((below_alloc2 w _ _).trans (hB.mono (by simp; omega)))
      clear hB
      have p0 : w1.cell? ⟨w.heap.size + 1, 0, none⟩ = some (.int .i64 px) := KP.out.cell 0 _ rfl
      have p1 : w1.cell? ⟨w.heap.size + 1, 1, none⟩ = some (.int .i64 py) := KP.out.cell 1 _ rfl
      go_wp2_with fail
      refine (xValid _ _ _).mono ?_; rintro e w2 ⟨rfl, hB⟩
      replace KR := Lib.hid (KR.out.below hB)
      replace KP := Lib.hid (KP.out.below hB)
      replace HB := Lib.hid (bel_trans HB.out hB)
      clear hB p0 p1
      have hP := HP.out
      have r0 : w2.cell? ⟨w.heap.size, 0, none⟩ = some (.int .i64 so) := KR.out.cell 0 _ rfl
      have r1 : w2.cell? ⟨w.heap.size, 1, none⟩ = some (.int .u8 2) := KR.out.cell 1 _ rfl
      have r2 : w2.cell? ⟨w.heap.size, 2, none⟩ = some (.int .i64 x) := KR.out.cell 2 _ rfl
      have r3 : w2.cell? ⟨w.heap.size, 3, none⟩ = some (.int .i64 y) := KR.out.cell 3 _ rfl
      have r4 : w2.cell? ⟨w.heap.size, 4, none⟩ = some (.int .i64 va) := KR.out.cell 4 _ rfl
      have r5 : w2.cell? ⟨w.heap.size, 5, none⟩ = some (.int .i64 bo) := KR.out.cell 5 _ rfl
      have r6 : w2.cell? ⟨w.heap.size, 6, none⟩ = some (.int .i64 we) := KR.out.cell 6 _ rfl
      have r7 : w2.cell? ⟨w.heap.size, 7, none⟩ = some (.int .i64 tk) := KR.out.cell 7 _ rfl
      have p0 : w2.cell? ⟨w.heap.size + 1, 0, none⟩ = some (.int .i64 px) := KP.out.cell 0 _ rfl
      have p1 : w2.cell? ⟨w.heap.size + 1, 1, none⟩ = some (.int .i64 py) := KP.out.cell 1 _ rfl
      have wx : IntKind.i64.wrap (px - x) = px - x := IntWalk.i64_in _ (by omega)
      have wy : IntKind.i64.wrap (py - y) = py - y := IntWalk.i64_in _ (by omega)
      go_wp2_with fail
      go_quiet (fail)
      have KR2 := Lib.hid (KR.out.below (below_drewN (Below.refl _ w2) nq))
      have HB2 := Lib.hid (below_drewN HB.out nq)
      generalize hw3 : w2.drewN nq = w3 at *
      clear hw3
      clear r0 r1 r2 r3 r4 r5 r6 r7 p0 p1
      have r0 : w3.cell? ⟨w.heap.size, 0, none⟩ = some (.int .i64 so) := KR2.out.cell 0 _ rfl
      have r1 : w3.cell? ⟨w.heap.size, 1, none⟩ = some (.int .u8 2) := KR2.out.cell 1 _ rfl
      have r2 : w3.cell? ⟨w.heap.size, 2, none⟩ = some (.int .i64 x) := KR2.out.cell 2 _ rfl
      have r3 : w3.cell? ⟨w.heap.size, 3, none⟩ = some (.int .i64 y) := KR2.out.cell 3 _ rfl
      have r4 : w3.cell? ⟨w.heap.size, 4, none⟩ = some (.int .i64 va) := KR2.out.cell 4 _ rfl
      have r5 : w3.cell? ⟨w.heap.size, 5, none⟩ = some (.int .i64 bo) := KR2.out.cell 5 _ rfl
      have r6 : w3.cell? ⟨w.heap.size, 6, none⟩ = some (.int .i64 we) := KR2.out.cell 6 _ rfl
      have r7 : w3.cell? ⟨w.heap.size, 7, none⟩ = some (.int .i64 tk) := KR2.out.cell 7 _ rfl
      go_wp2_with fail
      have wm1 := WM.out.1
      have wm2 := WM.out.2.1
      have wm3 := WM.out.2.2.1
      have wm4 := WM.out.2.2.2.1
      have wm5 := WM.out.2.2.2.2
      go_quiet (fail)
      clear wm1 wm2 wm3 wm4 wm5
      go_wp2_with fail
      go_ret
      exact ⟨ret_bool (by rw [HV.out]; (try simp); (try (intro h; exact absurd h (by omega)))), below_drewN HB2.out _⟩
    by_cases hC : va - bo ≤ 0
    · have HV := Lib.hid (show agB so 2 x y va bo we tk px py = true by rw [hv.out, decide_eq_true hA, decide_eq_true hC]; rfl)
      go_enter Try.func8, Try.ntmps8
      go_wp2_with fail
      refine (HR.out _).mono ?_; rintro e w1 ⟨rfl, hB⟩
      have KR : Hid (Has w1 w.heap.size [.int .i64 so, .int .u8 2, .int .i64 x, .int .i64 y, .int .i64 va, .int .i64 bo, .int .i64 we, .int .i64 tk]) := Lib.hid (((Has.new w _ _).alloc _).below hB)
      have KP : Hid (Has w1 (w.heap.size + 1) [.int .i64 px, .int .i64 py]) := Lib.hid ((Has.newAt (w.alloc _) _ _ (w.heap.size + 1) (by simp)).below hB)
      have HB := Lib.hid ((below_alloc2 w _ _).trans (hB.mono (by simp; omega)))
      clear hB
      have p0 : w1.cell? ⟨w.heap.size + 1, 0, none⟩ = some (.int .i64 px) := KP.out.cell 0 _ rfl
      have p1 : w1.cell? ⟨w.heap.size + 1, 1, none⟩ = some (.int .i64 py) := KP.out.cell 1 _ rfl
      go_wp2_with fail
      refine (xValid _ _ _).mono ?_; rintro e w2 ⟨rfl, hB⟩
      replace KR := Lib.hid (KR.out.below hB)
      replace KP := Lib.hid (KP.out.below hB)
      replace HB := Lib.hid (bel_trans HB.out hB)
      clear hB p0 p1
      have hP := HP.out
      have r0 : w2.cell? ⟨w.heap.size, 0, none⟩ = some (.int .i64 so) := KR.out.cell 0 _ rfl
      have r1 : w2.cell? ⟨w.heap.size, 1, none⟩ = some (.int .u8 2) := KR.out.cell 1 _ rfl
      have r2 : w2.cell? ⟨w.heap.size, 2, none⟩ = some (.int .i64 x) := KR.out.cell 2 _ rfl
      have r3 : w2.cell? ⟨w.heap.size, 3, none⟩ = some (.int .i64 y) := KR.out.cell 3 _ rfl
      have r4 : w2.cell? ⟨w.heap.size, 4, none⟩ = some (.int .i64 va) := KR.out.cell 4 _ rfl
      have r5 : w2.cell? ⟨w.heap.size, 5, none⟩ = some (.int .i64 bo) := KR.out.cell 5 _ rfl
      have r6 : w2.cell? ⟨w.heap.size, 6, none⟩ = some (.int .i64 we) := KR.out.cell 6 _ rfl
      have r7 : w2.cell? ⟨w.heap.size, 7, none⟩ = some (.int .i64 tk) := KR.out.cell 7 _ rfl
      have p0 : w2.cell? ⟨w.heap.size + 1, 0, none⟩ = some (.int .i64 px) := KP.out.cell 0 _ rfl
      have p1 : w2.cell? ⟨w.heap.size + 1, 1, none⟩ = some (.int .i64 py) := KP.out.cell 1 _ rfl
      have wx : IntKind.i64.wrap (px - x) = px - x := IntWalk.i64_in _ (by omega)
      have wy : IntKind.i64.wrap (py - y) = py - y := IntWalk.i64_in _ (by omega)
      go_wp2_with fail
      go_quiet (fail)
      have KR2 := Lib.hid (KR.out.below (below_drewN (Below.refl _ w2) nq))
      have HB2 := Lib.hid (below_drewN HB.out nq)
      generalize hw3 : w2.drewN nq = w3 at *
      clear hw3
      clear r0 r1 r2 r3 r4 r5 r6 r7 p0 p1
      have r0 : w3.cell? ⟨w.heap.size, 0, none⟩ = some (.int .i64 so) := KR2.out.cell 0 _ rfl
      have r1 : w3.cell? ⟨w.heap.size, 1, none⟩ = some (.int .u8 2) := KR2.out.cell 1 _ rfl
      have r2 : w3.cell? ⟨w.heap.size, 2, none⟩ = some (.int .i64 x) := KR2.out.cell 2 _ rfl
      have r3 : w3.cell? ⟨w.heap.size, 3, none⟩ = some (.int .i64 y) := KR2.out.cell 3 _ rfl
      have r4 : w3.cell? ⟨w.heap.size, 4, none⟩ = some (.int .i64 va) := KR2.out.cell 4 _ rfl
      have r5 : w3.cell? ⟨w.heap.size, 5, none⟩ = some (.int .i64 bo) := KR2.out.cell 5 _ rfl
      have r6 : w3.cell? ⟨w.heap.size, 6, none⟩ = some (.int .i64 we) := KR2.out.cell 6 _ rfl
      have r7 : w3.cell? ⟨w.heap.size, 7, none⟩ = some (.int .i64 tk) := KR2.out.cell 7 _ rfl
      go_wp2_with fail
      have wm1 := WM.out.1
      have wm2 := WM.out.2.1
      have wm3 := WM.out.2.2.1
      have wm4 := WM.out.2.2.2.1
      have wm5 := WM.out.2.2.2.2
      go_quiet (fail)
      clear wm1 wm2 wm3 wm4 wm5
      go_wp2_with fail
      go_ret
      exact ⟨ret_bool (by rw [HV.out]; (try simp); (try (intro h; exact absurd h (by omega)))), below_drewN HB2.out _⟩
    · have HV := Lib.hid (show agB so 2 x y va bo we tk px py = decide ((va - bo) * (va - bo) ≤ (px - x) * (px - x) + (py - y) * (py - y)) by rw [hv.out, decide_eq_true hA, decide_eq_false hC]; rfl)
      go_enter Try.func8, Try.ntmps8
      go_wp2_with fail
      refine (HR.out _).mono ?_; rintro e w1 ⟨rfl, hB⟩
      have KR : Hid (Has w1 w.heap.size [.int .i64 so, .int .u8 2, .int .i64 x, .int .i64 y, .int .i64 va, .int .i64 bo, .int .i64 we, .int .i64 tk]) := Lib.hid (((Has.new w _ _).alloc _).below hB)
      have KP : Hid (Has w1 (w.heap.size + 1) [.int .i64 px, .int .i64 py]) := Lib.hid ((Has.newAt (w.alloc _) _ _ (w.heap.size + 1) (by simp)).below hB)
      have HB := Lib.hid ((below_alloc2 w _ _).trans (hB.mono (by simp; omega)))
      clear hB
      have p0 : w1.cell? ⟨w.heap.size + 1, 0, none⟩ = some (.int .i64 px) := KP.out.cell 0 _ rfl
      have p1 : w1.cell? ⟨w.heap.size + 1, 1, none⟩ = some (.int .i64 py) := KP.out.cell 1 _ rfl
      go_wp2_with fail
      refine (xValid _ _ _).mono ?_; rintro e w2 ⟨rfl, hB⟩
      replace KR := Lib.hid (KR.out.below hB)
      replace KP := Lib.hid (KP.out.below hB)
      replace HB := Lib.hid (bel_trans HB.out hB)
      clear hB p0 p1
      have hP := HP.out
      have r0 : w2.cell? ⟨w.heap.size, 0, none⟩ = some (.int .i64 so) := KR.out.cell 0 _ rfl
      have r1 : w2.cell? ⟨w.heap.size, 1, none⟩ = some (.int .u8 2) := KR.out.cell 1 _ rfl
      have r2 : w2.cell? ⟨w.heap.size, 2, none⟩ = some (.int .i64 x) := KR.out.cell 2 _ rfl
      have r3 : w2.cell? ⟨w.heap.size, 3, none⟩ = some (.int .i64 y) := KR.out.cell 3 _ rfl
      have r4 : w2.cell? ⟨w.heap.size, 4, none⟩ = some (.int .i64 va) := KR.out.cell 4 _ rfl
      have r5 : w2.cell? ⟨w.heap.size, 5, none⟩ = some (.int .i64 bo) := KR.out.cell 5 _ rfl
      have r6 : w2.cell? ⟨w.heap.size, 6, none⟩ = some (.int .i64 we) := KR.out.cell 6 _ rfl
      have r7 : w2.cell? ⟨w.heap.size, 7, none⟩ = some (.int .i64 tk) := KR.out.cell 7 _ rfl
      have p0 : w2.cell? ⟨w.heap.size + 1, 0, none⟩ = some (.int .i64 px) := KP.out.cell 0 _ rfl
      have p1 : w2.cell? ⟨w.heap.size + 1, 1, none⟩ = some (.int .i64 py) := KP.out.cell 1 _ rfl
      have wx : IntKind.i64.wrap (px - x) = px - x := IntWalk.i64_in _ (by omega)
      have wy : IntKind.i64.wrap (py - y) = py - y := IntWalk.i64_in _ (by omega)
      go_wp2_with fail
      go_quiet (fail)
      have KR2 := Lib.hid (KR.out.below (below_drewN (Below.refl _ w2) nq))
      have HB2 := Lib.hid (below_drewN HB.out nq)
      generalize hw3 : w2.drewN nq = w3 at *
      clear hw3
      clear r0 r1 r2 r3 r4 r5 r6 r7 p0 p1
      have r0 : w3.cell? ⟨w.heap.size, 0, none⟩ = some (.int .i64 so) := KR2.out.cell 0 _ rfl
      have r1 : w3.cell? ⟨w.heap.size, 1, none⟩ = some (.int .u8 2) := KR2.out.cell 1 _ rfl
      have r2 : w3.cell? ⟨w.heap.size, 2, none⟩ = some (.int .i64 x) := KR2.out.cell 2 _ rfl
      have r3 : w3.cell? ⟨w.heap.size, 3, none⟩ = some (.int .i64 y) := KR2.out.cell 3 _ rfl
      have r4 : w3.cell? ⟨w.heap.size, 4, none⟩ = some (.int .i64 va) := KR2.out.cell 4 _ rfl
      have r5 : w3.cell? ⟨w.heap.size, 5, none⟩ = some (.int .i64 bo) := KR2.out.cell 5 _ rfl
      have r6 : w3.cell? ⟨w.heap.size, 6, none⟩ = some (.int .i64 we) := KR2.out.cell 6 _ rfl
      have r7 : w3.cell? ⟨w.heap.size, 7, none⟩ = some (.int .i64 tk) := KR2.out.cell 7 _ rfl
      go_wp2_with fail
      have wm1 := WM.out.1
      have wm2 := WM.out.2.1
      have wm3 := WM.out.2.2.1
      have wm4 := WM.out.2.2.2.1
      have wm5 := WM.out.2.2.2.2
      go_quiet (fail)
      clear wm1 wm2 wm3 wm4 wm5
      go_wp2_with fail
      go_ret
      exact ⟨ret_bool (by rw [HV.out]; (try simp); (try (intro h; exact absurd h (by omega)))), below_drewN HB2.out _⟩
  · have hv := Lib.hid (agB_3 (so := so) (va := va) (we := we) (tk := tk) (x := x) (y := y) (bo := bo) HE.out HP.out)
    have hbo1 : bo ≤ 3600000 := hbo.2
    have hva1 : va ≤ 129599999 := hva.2
    obtain ⟨bo0, _⟩ := hbo
    obtain ⟨va0, _⟩ := hva
    have hcb := coV_bd x y px py
    have hdb := diffV_bd va (coV x y px py)
    have HCO := Lib.hid (xCourse x y px py)
    have HDF := Lib.hid (fun w => flip (xDiff va (coV x y px py) ⟨by omega, by omega⟩ ⟨by omega, by omega⟩ w))
    have HAB := Lib.hid (fun w => flip (abs_at (diffV va (coV x y px py)) (by omega) w))
    clear hso hk0 hk9
    generalize diffV va (coV x y px py) = DF at *
    generalize coV x y px py = CV at *
    generalize coE x y px py = CE at *
    generalize absV DF = AD at *
    have wb : IntKind.i64.wrap (bo - 2) = bo - 2 := IntWalk.i64_in _ (by omega)
    have WB := Lib.hid wb
    clear wb
    by_cases hc : CE = 0
    · have HV := Lib.hid (show agB so 3 x y va bo we tk px py = decide (AD ≤ bo - 2) by rw [hv.out, decide_eq_true hc]; rfl)
      have hce : (CE == 0) = true := beq_iff_eq.2 hc
      clear hc
      go_enter Try.func8, Try.ntmps8
      go_wp2_with fail
      refine (HR.out _).mono ?_; rintro e w1 ⟨rfl, hB⟩
      have KR : Hid (Has w1 w.heap.size [.int .i64 so, .int .u8 3, .int .i64 x, .int .i64 y, .int .i64 va, .int .i64 bo, .int .i64 we, .int .i64 tk]) := Lib.hid (((Has.new w _ _).alloc _).below hB)
      have KP : Hid (Has w1 (w.heap.size + 1) [.int .i64 px, .int .i64 py]) := Lib.hid ((Has.newAt (w.alloc _) _ _ (w.heap.size + 1) (by simp)).below hB)
      have HB := Lib.hid ((below_alloc2 w _ _).trans (hB.mono (by simp; omega)))
      clear hB
      have p0 : w1.cell? ⟨w.heap.size + 1, 0, none⟩ = some (.int .i64 px) := KP.out.cell 0 _ rfl
      have p1 : w1.cell? ⟨w.heap.size + 1, 1, none⟩ = some (.int .i64 py) := KP.out.cell 1 _ rfl
      go_wp2_with fail
      refine (xValid _ _ _).mono ?_; rintro e w2 ⟨rfl, hB⟩
      replace KR := Lib.hid (KR.out.below hB)
      replace KP := Lib.hid (KP.out.below hB)
      replace HB := Lib.hid (bel_trans HB.out hB)
      clear hB p0 p1
      have hP := HP.out
      have r0 : w2.cell? ⟨w.heap.size, 0, none⟩ = some (.int .i64 so) := KR.out.cell 0 _ rfl
      have r1 : w2.cell? ⟨w.heap.size, 1, none⟩ = some (.int .u8 3) := KR.out.cell 1 _ rfl
      have r2 : w2.cell? ⟨w.heap.size, 2, none⟩ = some (.int .i64 x) := KR.out.cell 2 _ rfl
      have r3 : w2.cell? ⟨w.heap.size, 3, none⟩ = some (.int .i64 y) := KR.out.cell 3 _ rfl
      have r4 : w2.cell? ⟨w.heap.size, 4, none⟩ = some (.int .i64 va) := KR.out.cell 4 _ rfl
      have r5 : w2.cell? ⟨w.heap.size, 5, none⟩ = some (.int .i64 bo) := KR.out.cell 5 _ rfl
      have r6 : w2.cell? ⟨w.heap.size, 6, none⟩ = some (.int .i64 we) := KR.out.cell 6 _ rfl
      have r7 : w2.cell? ⟨w.heap.size, 7, none⟩ = some (.int .i64 tk) := KR.out.cell 7 _ rfl
      have p0 : w2.cell? ⟨w.heap.size + 1, 0, none⟩ = some (.int .i64 px) := KP.out.cell 0 _ rfl
      have p1 : w2.cell? ⟨w.heap.size + 1, 1, none⟩ = some (.int .i64 py) := KP.out.cell 1 _ rfl
      have wx : IntKind.i64.wrap (px - x) = px - x := IntWalk.i64_in _ (by omega)
      have wy : IntKind.i64.wrap (py - y) = py - y := IntWalk.i64_in _ (by omega)
      go_wp2_with fail
      go_quiet (fail)
      have KR2 := Lib.hid (KR.out.below (below_drewN (Below.refl _ w2) nq))
      have KP2 := Lib.hid (KP.out.below (below_drewN (Below.refl _ w2) nq))
      have HB2 := Lib.hid (below_drewN HB.out nq)
      generalize hw3 : w2.drewN nq = w3 at *
      clear hw3
      clear r0 r1 r2 r3 r4 r5 r6 r7 p0 p1
      have r0 : w3.cell? ⟨w.heap.size, 0, none⟩ = some (.int .i64 so) := KR2.out.cell 0 _ rfl
      have r1 : w3.cell? ⟨w.heap.size, 1, none⟩ = some (.int .u8 3) := KR2.out.cell 1 _ rfl
      have r2 : w3.cell? ⟨w.heap.size, 2, none⟩ = some (.int .i64 x) := KR2.out.cell 2 _ rfl
      have r3 : w3.cell? ⟨w.heap.size, 3, none⟩ = some (.int .i64 y) := KR2.out.cell 3 _ rfl
      have r4 : w3.cell? ⟨w.heap.size, 4, none⟩ = some (.int .i64 va) := KR2.out.cell 4 _ rfl
      have r5 : w3.cell? ⟨w.heap.size, 5, none⟩ = some (.int .i64 bo) := KR2.out.cell 5 _ rfl
      have r6 : w3.cell? ⟨w.heap.size, 6, none⟩ = some (.int .i64 we) := KR2.out.cell 6 _ rfl
      have r7 : w3.cell? ⟨w.heap.size, 7, none⟩ = some (.int .i64 tk) := KR2.out.cell 7 _ rfl
      have p0 : w3.cell? ⟨w.heap.size + 1, 0, none⟩ = some (.int .i64 px) := KP2.out.cell 0 _ rfl
      have p1 : w3.cell? ⟨w.heap.size + 1, 1, none⟩ = some (.int .i64 py) := KP2.out.cell 1 _ rfl
      clear wx wy
      go_wp2_with fail
      refine (HCO.out _).mono ?_; rintro e w4 ⟨rfl, hB⟩
      replace KR2 := Lib.hid (KR2.out.below hB)
      replace HB2 := Lib.hid (bel_trans HB2.out hB)
      clear hB r0 r1 r2 r3 r4 r5 r6 r7 p0 p1
      have r0 : w4.cell? ⟨w.heap.size, 0, none⟩ = some (.int .i64 so) := KR2.out.cell 0 _ rfl
      have r1 : w4.cell? ⟨w.heap.size, 1, none⟩ = some (.int .u8 3) := KR2.out.cell 1 _ rfl
      have r2 : w4.cell? ⟨w.heap.size, 2, none⟩ = some (.int .i64 x) := KR2.out.cell 2 _ rfl
      have r3 : w4.cell? ⟨w.heap.size, 3, none⟩ = some (.int .i64 y) := KR2.out.cell 3 _ rfl
      have r4 : w4.cell? ⟨w.heap.size, 4, none⟩ = some (.int .i64 va) := KR2.out.cell 4 _ rfl
      have r5 : w4.cell? ⟨w.heap.size, 5, none⟩ = some (.int .i64 bo) := KR2.out.cell 5 _ rfl
      have r6 : w4.cell? ⟨w.heap.size, 6, none⟩ = some (.int .i64 we) := KR2.out.cell 6 _ rfl
      have r7 : w4.cell? ⟨w.heap.size, 7, none⟩ = some (.int .i64 tk) := KR2.out.cell 7 _ rfl
      have wb := WB.out
      go_wp2_with fail
      go_quiet ((first | (go_at_call 23; first | exact quiet_more (HDF.out _) | exact Calls.quiet_of_same (HDF.out _)) | (go_at_call 21; first | exact quiet_more (HAB.out _) | exact Calls.quiet_of_same (HAB.out _))))
      clear wb
      go_wp2_with fail
      go_ret
      exact ⟨ret_bool (by rw [HV.out]; try simp), below_drewN HB2.out _⟩
    · have HV := Lib.hid (show agB so 3 x y va bo we tk px py = false by rw [hv.out, decide_eq_false hc]; rfl)
      have hce : (CE == 0) = false := beq_eq_false_iff_ne.2 hc
      clear hc
      go_enter Try.func8, Try.ntmps8
      go_wp2_with fail
      refine (HR.out _).mono ?_; rintro e w1 ⟨rfl, hB⟩
      have KR : Hid (Has w1 w.heap.size [.int .i64 so, .int .u8 3, .int .i64 x, .int .i64 y, .int .i64 va, .int .i64 bo, .int .i64 we, .int .i64 tk]) := Lib.hid (((Has.new w _ _).alloc _).below hB)
      have KP : Hid (Has w1 (w.heap.size + 1) [.int .i64 px, .int .i64 py]) := Lib.hid ((Has.newAt (w.alloc _) _ _ (w.heap.size + 1) (by simp)).below hB)
      have HB := Lib.hid ((below_alloc2 w _ _).trans (hB.mono (by simp; omega)))
      clear hB
      have p0 : w1.cell? ⟨w.heap.size + 1, 0, none⟩ = some (.int .i64 px) := KP.out.cell 0 _ rfl
      have p1 : w1.cell? ⟨w.heap.size + 1, 1, none⟩ = some (.int .i64 py) := KP.out.cell 1 _ rfl
      go_wp2_with fail
      refine (xValid _ _ _).mono ?_; rintro e w2 ⟨rfl, hB⟩
      replace KR := Lib.hid (KR.out.below hB)
      replace KP := Lib.hid (KP.out.below hB)
      replace HB := Lib.hid (bel_trans HB.out hB)
      clear hB p0 p1
      have hP := HP.out
      have r0 : w2.cell? ⟨w.heap.size, 0, none⟩ = some (.int .i64 so) := KR.out.cell 0 _ rfl
      have r1 : w2.cell? ⟨w.heap.size, 1, none⟩ = some (.int .u8 3) := KR.out.cell 1 _ rfl
      have r2 : w2.cell? ⟨w.heap.size, 2, none⟩ = some (.int .i64 x) := KR.out.cell 2 _ rfl
      have r3 : w2.cell? ⟨w.heap.size, 3, none⟩ = some (.int .i64 y) := KR.out.cell 3 _ rfl
      have r4 : w2.cell? ⟨w.heap.size, 4, none⟩ = some (.int .i64 va) := KR.out.cell 4 _ rfl
      have r5 : w2.cell? ⟨w.heap.size, 5, none⟩ = some (.int .i64 bo) := KR.out.cell 5 _ rfl
      have r6 : w2.cell? ⟨w.heap.size, 6, none⟩ = some (.int .i64 we) := KR.out.cell 6 _ rfl
      have r7 : w2.cell? ⟨w.heap.size, 7, none⟩ = some (.int .i64 tk) := KR.out.cell 7 _ rfl
      have p0 : w2.cell? ⟨w.heap.size + 1, 0, none⟩ = some (.int .i64 px) := KP.out.cell 0 _ rfl
      have p1 : w2.cell? ⟨w.heap.size + 1, 1, none⟩ = some (.int .i64 py) := KP.out.cell 1 _ rfl
      have wx : IntKind.i64.wrap (px - x) = px - x := IntWalk.i64_in _ (by omega)
      have wy : IntKind.i64.wrap (py - y) = py - y := IntWalk.i64_in _ (by omega)
      go_wp2_with fail
      go_quiet (fail)
      have KR2 := Lib.hid (KR.out.below (below_drewN (Below.refl _ w2) nq))
      have KP2 := Lib.hid (KP.out.below (below_drewN (Below.refl _ w2) nq))
      have HB2 := Lib.hid (below_drewN HB.out nq)
      generalize hw3 : w2.drewN nq = w3 at *
      clear hw3
      clear r0 r1 r2 r3 r4 r5 r6 r7 p0 p1
      have r0 : w3.cell? ⟨w.heap.size, 0, none⟩ = some (.int .i64 so) := KR2.out.cell 0 _ rfl
      have r1 : w3.cell? ⟨w.heap.size, 1, none⟩ = some (.int .u8 3) := KR2.out.cell 1 _ rfl
      have r2 : w3.cell? ⟨w.heap.size, 2, none⟩ = some (.int .i64 x) := KR2.out.cell 2 _ rfl
      have r3 : w3.cell? ⟨w.heap.size, 3, none⟩ = some (.int .i64 y) := KR2.out.cell 3 _ rfl
      have r4 : w3.cell? ⟨w.heap.size, 4, none⟩ = some (.int .i64 va) := KR2.out.cell 4 _ rfl
      have r5 : w3.cell? ⟨w.heap.size, 5, none⟩ = some (.int .i64 bo) := KR2.out.cell 5 _ rfl
      have r6 : w3.cell? ⟨w.heap.size, 6, none⟩ = some (.int .i64 we) := KR2.out.cell 6 _ rfl
      have r7 : w3.cell? ⟨w.heap.size, 7, none⟩ = some (.int .i64 tk) := KR2.out.cell 7 _ rfl
      have p0 : w3.cell? ⟨w.heap.size + 1, 0, none⟩ = some (.int .i64 px) := KP2.out.cell 0 _ rfl
      have p1 : w3.cell? ⟨w.heap.size + 1, 1, none⟩ = some (.int .i64 py) := KP2.out.cell 1 _ rfl
      clear wx wy
      go_wp2_with fail
      refine (HCO.out _).mono ?_; rintro e w4 ⟨rfl, hB⟩
      replace KR2 := Lib.hid (KR2.out.below hB)
      replace HB2 := Lib.hid (bel_trans HB2.out hB)
      clear hB r0 r1 r2 r3 r4 r5 r6 r7 p0 p1
      have r0 : w4.cell? ⟨w.heap.size, 0, none⟩ = some (.int .i64 so) := KR2.out.cell 0 _ rfl
      have r1 : w4.cell? ⟨w.heap.size, 1, none⟩ = some (.int .u8 3) := KR2.out.cell 1 _ rfl
      have r2 : w4.cell? ⟨w.heap.size, 2, none⟩ = some (.int .i64 x) := KR2.out.cell 2 _ rfl
      have r3 : w4.cell? ⟨w.heap.size, 3, none⟩ = some (.int .i64 y) := KR2.out.cell 3 _ rfl
      have r4 : w4.cell? ⟨w.heap.size, 4, none⟩ = some (.int .i64 va) := KR2.out.cell 4 _ rfl
      have r5 : w4.cell? ⟨w.heap.size, 5, none⟩ = some (.int .i64 bo) := KR2.out.cell 5 _ rfl
      have r6 : w4.cell? ⟨w.heap.size, 6, none⟩ = some (.int .i64 we) := KR2.out.cell 6 _ rfl
      have r7 : w4.cell? ⟨w.heap.size, 7, none⟩ = some (.int .i64 tk) := KR2.out.cell 7 _ rfl
      have wb := WB.out
      go_wp2_with fail
      go_quiet ((first | (go_at_call 23; first | exact quiet_more (HDF.out _) | exact Calls.quiet_of_same (HDF.out _)) | (go_at_call 21; first | exact quiet_more (HAB.out _) | exact Calls.quiet_of_same (HAB.out _))))
      clear wb
      go_wp2_with fail
      go_ret
      exact ⟨ret_bool (by rw [HV.out]; try simp), below_drewN HB2.out _⟩
end Go.Proofs.Ytkomooeohlcnaaa
