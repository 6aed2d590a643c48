/- Layer 11: courses and distances, of the program and of the reference. -/
import Derived.Test.YtkomooeohlcnaaaTrE
import Derived.Test.YtkomooeohlcnaaaSimChk
import Derived.Test.YtkomooeohlcnaaaBox
import Derived.Test.YtkomooeohlcnaaaFxRootR
namespace Go.Proofs.Ytkomooeohlcnaaa
set_option linter.unusedSimpArgs false
set_option linter.unusedVariables false
open Go.RowKit
open Tr
def ptC (p : Int × Int) : List Value := [.int .i64 p.1, .int .i64 p.2]
def lnB (px py qx qy : Int) : Bool := ptB px py && ptB qx qy
def coE (px py qx qy : Int) : Int := if lnB px py qx qy = false then 1 else if px = qx ∧ py = qy then 10 else 0
noncomputable def coV (px py qx qy : Int) : Int := if coE px py qx qy ≠ 0 then 0 else atV (qx - px) (qy - py)
def diV (px py qx qy : Int) : Int := if lnB px py qx qy = false then 0 else sqV ((qx - px) * (qx - px) + (qy - py) * (qy - py))
theorem coE_1 {px py qx qy : Int} (h : lnB px py qx qy = false) : coE px py qx qy = 1 := if_pos h
theorem coE_10 {px py qx qy : Int} (h : lnB px py qx qy = true) (h2 : px = qx ∧ py = qy) : coE px py qx qy = 10 := by unfold coE; rw [h, if_neg (by decide), if_pos h2]
theorem coE_0 {px py qx qy : Int} (h : lnB px py qx qy = true) (h2 : ¬ (px = qx ∧ py = qy)) : coE px py qx qy = 0 := by unfold coE; rw [h, if_neg (by decide), if_neg h2]
theorem coV_e {px py qx qy : Int} (h : coE px py qx qy ≠ 0) : coV px py qx qy = 0 := if_pos h
theorem coV_0 {px py qx qy : Int} (h : coE px py qx qy = 0) : coV px py qx qy = atV (qx - px) (qy - py) := by unfold coV; rw [h, if_neg (by decide)]
theorem lnB_bd {px py qx qy : Int} (h : lnB px py qx qy = true) : (-2000000 ≤ px ∧ px ≤ 2000000) ∧ (-2000000 ≤ py ∧ py ≤ 2000000) ∧ (-2000000 ≤ qx ∧ qx ≤ 2000000) ∧ (-2000000 ≤ qy ∧ qy ≤ 2000000) := by
  unfold lnB at h
  rw [Bool.and_eq_true] at h
  have h1 := ptB_iff.1 h.1
  have h2 := ptB_iff.1 h.2
  exact ⟨h1.1, h1.2, h2.1, h2.2⟩
theorem at0 {px py qx qy : Int} (h : lnB px py qx qy = true) (h2 : ¬ (px = qx ∧ py = qy)) : atE (qx - px) (qy - py) = 0 := by
  have := lnB_bd h
  exact atE_0 (by simp [outB]; omega) (by omega)
theorem coV_bd (px py qx qy : Int) : 0 ≤ coV px py qx qy ∧ coV px py qx qy ≤ 129600000 := by
  unfold coV
  split
  · omega
  · have := atV_bd (qx - px) (qy - py); omega
theorem sqd_le {d : Int} (h : -4000000 ≤ d ∧ d ≤ 4000000) : 0 ≤ d * d ∧ d * d ≤ 16000000000000 := by
  have e : d * d = ((d.natAbs * d.natAbs : Nat) : Int) := Int.natAbs_mul_self.symm
  have h1 : d.natAbs ≤ 4000000 := by omega
  have h2 : d.natAbs * d.natAbs ≤ 4000000 * 4000000 := Nat.mul_le_mul h1 h1
  omega
theorem sqV_sq {n : Int} (h : 0 ≤ n) : sqV n * sqV n ≤ n := by
  have h2 := (Fx.isq_spec n.toNat).1
  unfold sqV
  generalize Fx.isq n.toNat = r at *
  have : ((r * r : Nat) : Int) ≤ n := by omega
  rwa [Int.natCast_mul] at this
theorem diV_bd (px py qx qy : Int) : 0 ≤ diV px py qx qy ∧ diV px py qx qy ≤ 8000000 := by
  unfold diV
  cases h : lnB px py qx qy
  · rw [if_pos rfl]; decide
  · rw [if_neg (by decide)]
    obtain ⟨b1, b2, b3, b4⟩ := lnB_bd h
    have s1 := sqd_le (d := qx - px) (by omega)
    have s2 := sqd_le (d := qy - py) (by omega)
    obtain ⟨c0, c1, c2⟩ := sqV_bd ((qx - px) * (qx - px) + (qy - py) * (qy - py)) (by omega)
    refine ⟨by omega, ?_⟩
    by_cases hq : sqV ((qx - px) * (qx - px) + (qy - py) * (qy - py)) ≤ 8000000
    · exact hq
    · exfalso
      have h3 := sqV_sq (n := (qx - px) * (qx - px) + (qy - py) * (qy - py)) (by omega)
      have : (8000001 : Int) * 8000001 ≤ sqV ((qx - px) * (qx - px) + (qy - py) * (qy - py)) * sqV ((qx - px) * (qx - px) + (qy - py) * (qy - py)) := Int.mul_le_mul (by omega) (by omega) (by decide) (by omega)
      omega
def VaRel (l : List (Int × Int)) (n : Nat) (w : World) (t : Value) (wr : World) : Prop := ∃ k : Nat, k ≤ n ∧ t = .int .i64 k ∧ ((l.take k).all fun p => ptB p.1 p.2) = true ∧ Below w.heap.size w wr
theorem all_noP {α : Type} {l : List α} {f : α → Bool} {k : Nat} {q : α} (h : l[k]? = some q) (hf : f q = false) : l.all f = false := by
  rw [List.all_eq_false]; exact ⟨q, List.mem_of_getElem? h, by rw [hf]; decide⟩
set_option maxRecDepth 100000 in
set_option maxHeartbeats 2000000 in
theorem xVal (A : Option Addr) (n c : Nat) (l : List (Int × Int)) (w : World) (hl : Recs ptC 2 w A n l) (hn : n ≤ maxLen) : Calls Try.prog 38 #[.slice A n c] w fun e w' => e = .returned (.bool (l.all fun p => ptB p.1 p.2)) ∧ Below w.heap.size w w' := by
  have HE := Lib.hid hl
  have HL := Lib.hid hl.len
  unfold maxLen at hn
  clear hl
  go_enter Try.func38, Try.ntmps38
  go_wp2_with fail
  go_loopw [7] (fun t wr => VaRel l n w t wr) (fun t _ => n - (intOf t).toNat)
  case atStart => exact ⟨0, by omega, rfl, by simp, Below.refl _ _⟩
  case round =>
    obtain ⟨k, hk, rfl, hall, hB⟩ := hrel
    have HB1 := Lib.hid hB
    have HAL := Lib.hid hall
    clear hall hB
    by_cases hlt : k < n
    · obtain ⟨q, hq⟩ := get_ex HL.out hlt
      obtain ⟨b, off, rfl, hb, hc⟩ := HE.out.cells (by omega)
      have c0 : wr.cell? ⟨b, off + k * 2, none⟩ = some (.int .i64 q.1) := (HB1.out.cell (p := ⟨b, _, none⟩) hb).trans (hc k q hq 0 _ rfl)
      have c1 : wr.cell? ⟨b, off + k * 2 + 1, none⟩ = some (.int .i64 q.2) := (HB1.out.cell (p := ⟨b, _, none⟩) hb).trans (hc k q hq 1 _ rfl)
      have HQ := Lib.hid hq
      have HT := Lib.hid (take_succ_get l k q hq)
      clear hc hq
      go_wp2_with fail
      refine (xValid _ _ _).mono ?_; rintro e w2 ⟨rfl, hB⟩
      have HB2 := Lib.hid (bel_trans HB1.out (bel_alloc hB))
      clear hB
      cases g1 : ptB q.1 q.2
      · have G := Lib.hid (show (l.all fun p => ptB p.1 p.2) = false from all_noP HQ.out g1)
        clear g1
        go_wp2_with fail
        go_ret
        exact ⟨ret_bool (by rw [G.out]), HB2.out⟩
      have G1 := Lib.hid g1
      clear g1
      go_wp2_with fail
      go_roundw
      case rel => exact ⟨k + 1, by omega, by go_num, by rw [HT.out, List.all_append, HAL.out]; simp [G1.out], HB2.out⟩
      case measure => simp only [intOf]; omega
    · have HA := Lib.hid (show (l.all fun p => ptB p.1 p.2) = true by have := HAL.out; rwa [List.take_of_length_le (by rw [HL.out]; omega)] at this)
      go_wp2_with fail
      go_ret
      exact ⟨ret_bool (by rw [HA.out]), HB1.out⟩
theorem xVal2 (px py qx qy : Int) (T : TypeId) (w : World) (H : Nat) (hH : w.heap.size = H) : Calls Try.prog 38 #[.slice (some ⟨H, 0, none⟩) 2 2] (w.alloc (.cells #[.int .i64 px, .int .i64 py, .int .i64 qx, .int .i64 qy] T)) fun e w' => e = .returned (.bool (lnB px py qx qy)) ∧ Below w.heap.size w w' := by
  subst hH
  refine (xVal _ 2 2 [(px, py), (qx, qy)] _ (Recs.of_alloc (f := ptC) (sz := 2) (fun _ => rfl) w _ T [(px, py), (qx, qy)] 2 rfl rfl _ rfl) (by unfold maxLen; omega)).mono fun e w' ⟨h1, h2⟩ => ⟨?_, bel_alloc h2⟩
  rw [h1]
  simp [lnB]
set_option maxRecDepth 100000 in
set_option maxHeartbeats 2000000 in
theorem xVec (px py qx qy : Int) (hx : -9223372036854775808 ≤ qx - px ∧ qx - px ≤ 9223372036854775807) (hy : -9223372036854775808 ≤ qy - py ∧ qy - py ≤ 9223372036854775807) (w : World) : Calls Try.prog 39 #[.agg #[.int .i64 px, .int .i64 py], .agg #[.int .i64 qx, .int .i64 qy]] w fun e w' => e = .returned (.agg #[.int .i64 (qx - px), .int .i64 (qy - py)]) ∧ Below w.heap.size w w' := by
  obtain ⟨x0, x1⟩ := hx
  obtain ⟨y0, y1⟩ := hy
  go_enter Try.func39, Try.ntmps39
  go_wp2_with fail
  exact bodyPost_ret (v := .agg #[.int .i64 (qx - px), .int .i64 (qy - py)]) (by simp [results, Try.results39, go_sem]) rfl ⟨rfl, below_alloc3 w _ _ _⟩
set_option maxRecDepth 100000 in
set_option maxHeartbeats 2000000 in
theorem xDot (x y : Int) (hx : -4000000 ≤ x ∧ x ≤ 4000000) (hy : -4000000 ≤ y ∧ y ≤ 4000000) (w : World) : Calls Try.prog 42 #[.agg #[.int .i64 x, .int .i64 y], .agg #[.int .i64 x, .int .i64 y]] w fun e w' => e = .returned (.int .i64 (x * x + y * y)) ∧ Below w.heap.size w w' := by
  obtain ⟨a0, a1⟩ := sqd_le hx
  obtain ⟨b0, b1⟩ := sqd_le hy
  clear hx hy
  go_enter Try.func42, Try.ntmps42
  go_wp2_with fail
  go_ret
  exact ⟨rfl, below_alloc2 w _ _⟩
set_option maxRecDepth 100000 in
set_option maxHeartbeats 2000000 in
theorem xCourse (px py qx qy : Int) (w : World) : Calls Try.prog 22 #[.agg #[.int .i64 px, .int .i64 py], .agg #[.int .i64 qx, .int .i64 qy]] w fun e w' => e = .returned (.tuple #[.int .i64 (coV px py qx qy), .int .i64 (coE px py qx qy)]) ∧ Below w.heap.size w w' := by
  go_enter Try.func22, Try.ntmps22
  go_wp2_with fail
  refine (xVal2 px py qx qy _ _ _ (by simp)).mono ?_; rintro e w1 ⟨rfl, hB⟩
  have K1 : Hid (Has w1 w.heap.size [.int .i64 px, .int .i64 py]) := Lib.hid (((Has.new w _ _).alloc _).below hB)
  have K2 : Hid (Has w1 (w.heap.size + 1) [.int .i64 qx, .int .i64 qy]) := Lib.hid ((Has.newAt (w.alloc _) _ _ (w.heap.size + 1) (by simp)).below hB)
  have HB := Lib.hid ((below_alloc2 w _ _).trans (hB.mono (by simp; omega)))
  clear hB
  cases hl : lnB px py qx qy
  · have HE := Lib.hid (coE_1 hl)
    have HV := Lib.hid (coV_e (px := px) (py := py) (qx := qx) (qy := qy) (by rw [HE.out]; decide))
    clear hl
    go_wp2_with fail
    go_ret2
    exact ⟨ret_tup2 HV.out.symm HE.out.symm, HB.out⟩
  have hb := lnB_bd hl
  have HLN := Lib.hid hl
  clear hl
  have k0 : w1.cell? ⟨w.heap.size, 0, none⟩ = some (.int .i64 px) := K1.out.cell 0 _ rfl
  have k1 : w1.cell? ⟨w.heap.size, 1, none⟩ = some (.int .i64 py) := K1.out.cell 1 _ rfl
  have k2 : w1.cell? ⟨w.heap.size + 1, 0, none⟩ = some (.int .i64 qx) := K2.out.cell 0 _ rfl
  have k3 : w1.cell? ⟨w.heap.size + 1, 1, none⟩ = some (.int .i64 qy) := K2.out.cell 1 _ rfl
  by_cases hz : px = qx ∧ py = qy
  · have HE := Lib.hid (coE_10 HLN.out hz)
    have HV := Lib.hid (coV_e (px := px) (py := py) (qx := qx) (qy := qy) (by rw [HE.out]; decide))
    have z1 : (px == qx) = true := beq_iff_eq.2 hz.1
    have z2 : (py == qy) = true := beq_iff_eq.2 hz.2
    clear hz hb
    go_wp2_with fail
    go_ret2
    exact ⟨ret_tup2 HV.out.symm HE.out.symm, HB.out⟩
  have HE := Lib.hid (coE_0 HLN.out hz)
  have HV := Lib.hid (coV_0 HE.out)
  have HAT := Lib.hid (fun w' => xAtan2 (qx - px) (qy - py) ⟨by omega, by omega⟩ ⟨by omega, by omega⟩ w')
  rw [at0 HLN.out hz] at HAT
  have HVC := Lib.hid (xVec px py qx qy ⟨by omega, by omega⟩ ⟨by omega, by omega⟩)
  rcases (show (px == qx) = false ∨ ((px == qx) = true ∧ (py == qy) = false) by
    cases h : (px == qx)
    · exact .inl rfl
    · refine .inr ⟨rfl, beq_eq_false_iff_ne.2 fun h2 => hz ⟨beq_iff_eq.1 h, h2⟩⟩) with z1 | ⟨z1, z2⟩
  all_goals (
    clear hz
    obtain ⟨⟨p0, p1⟩, ⟨p2, p3⟩, ⟨r0, r1⟩, r2, r3⟩ := hb
    go_wp2_with fail
    refine (HVC.out _).mono ?_; rintro e w2 ⟨rfl, hB⟩
    replace HB := Lib.hid (bel_trans HB.out hB)
    clear hB k0 k1 k2 k3
    go_wp2_with fail
    refine (HAT.out _).mono ?_; rintro e w3 ⟨rfl, hB⟩
    replace HB := Lib.hid (bel_trans HB.out (bel_alloc hB))
    clear hB
    go_wp2_with fail
    go_ret2
    exact ⟨ret_tup2 HV.out.symm HE.out.symm, HB.out⟩)
set_option maxRecDepth 100000 in
set_option maxHeartbeats 2000000 in
theorem xDist (px py qx qy : Int) (w : World) : Calls Try.prog 26 #[.agg #[.int .i64 px, .int .i64 py], .agg #[.int .i64 qx, .int .i64 qy]] w fun e w' => e = .returned (.int .i64 (diV px py qx qy)) ∧ Below w.heap.size w w' := by
  go_enter Try.func26, Try.ntmps26
  go_wp2_with fail
  refine (xVal2 px py qx qy _ _ _ (by simp)).mono ?_; rintro e w1 ⟨rfl, hB⟩
  have K1 : Hid (Has w1 w.heap.size [.int .i64 px, .int .i64 py]) := Lib.hid (((Has.new w _ _).alloc _).below hB)
  have K2 : Hid (Has w1 (w.heap.size + 1) [.int .i64 qx, .int .i64 qy]) := Lib.hid ((Has.newAt (w.alloc _) _ _ (w.heap.size + 1) (by simp)).below hB)
  have HB := Lib.hid ((below_alloc2 w _ _).trans (hB.mono (by simp; omega)))
  clear hB
  cases hl : lnB px py qx qy
  · have HE := Lib.hid (show diV px py qx qy = 0 from if_pos hl)
    clear hl
    go_wp2_with fail
    go_ret
    exact ⟨ret_int HE.out.symm, HB.out⟩
  have hb := lnB_bd hl
  have HE := Lib.hid (show diV px py qx qy = sqV ((qx - px) * (qx - px) + (qy - py) * (qy - py)) by unfold diV; rw [hl, if_neg (by decide)])
  clear hl
  have k0 : w1.cell? ⟨w.heap.size, 0, none⟩ = some (.int .i64 px) := K1.out.cell 0 _ rfl
  have k1 : w1.cell? ⟨w.heap.size, 1, none⟩ = some (.int .i64 py) := K1.out.cell 1 _ rfl
  have k2 : w1.cell? ⟨w.heap.size + 1, 0, none⟩ = some (.int .i64 qx) := K2.out.cell 0 _ rfl
  have k3 : w1.cell? ⟨w.heap.size + 1, 1, none⟩ = some (.int .i64 qy) := K2.out.cell 1 _ rfl
  have s1 := sqd_le (d := qx - px) (by omega)
  have s2 := sqd_le (d := qy - py) (by omega)
  have HSQ := Lib.hid (xSqrt ((qx - px) * (qx - px) + (qy - py) * (qy - py)) (by omega))
  have HDT := Lib.hid (xDot (qx - px) (qy - py) (by omega) (by omega))
  have HVC := Lib.hid (xVec px py qx qy ⟨by omega, by omega⟩ ⟨by omega, by omega⟩)
  clear s1 s2 hb
  generalize (qx - px) * (qx - px) + (qy - py) * (qy - py) = QQ at *
  generalize qx - px = dx at *
  generalize qy - py = dy at *
  go_wp2_with fail
  refine (HVC.out _).mono ?_; rintro e w2 ⟨rfl, hB⟩
  replace HB := Lib.hid (bel_trans HB.out hB)
  clear hB k0 k1 k2 k3
  go_wp2_with fail
  refine (HDT.out _).mono ?_; rintro e w3 ⟨rfl, hB⟩
  replace HB := Lib.hid (bel_trans HB.out (bel_alloc hB))
  clear hB
  go_wp2_with fail
  refine (HSQ.out _).mono ?_; rintro e w4 ⟨rfl, rfl⟩
  go_wp2_with fail
  go_ret
  exact ⟨ret_int HE.out.symm, HB.out⟩
end Go.Proofs.Ytkomooeohlcnaaa
