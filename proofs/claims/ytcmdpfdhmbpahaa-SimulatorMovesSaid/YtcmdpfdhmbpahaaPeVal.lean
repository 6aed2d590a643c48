/- Layer 31: the values of lists and of tables. -/
import Derived.Test.YtcmdpfdhmbpahaaPeChk
import Derived.Test.YtcmdpfdhmbpahaaRowI
namespace Go.Proofs.Ytcmdpfdhmbpahaa
set_option linter.unusedSimpArgs false
set_option linter.unusedVariables false
open Go.RowKit
theorem floor_b (X Y : Int) (h1 : -1000000000000000000 ≤ X) (h2 : X ≤ 1000000000000000000) (hY : 0 < Y) : Fx.scV 0 X 1 Y = X / Y ∧ Fx.scE 0 X 1 Y = 0 := by
  have e : Fx.rqz 0 (X * 1) Y = X / Y := by unfold Fx.rqz Fx.rq; rw [if_neg (by omega), if_pos rfl, Int.mul_one]
  have b1 : -1000000000000000000 ≤ X / Y := by
    rw [Int.le_ediv_iff_mul_le hY]
    have : (-1000000000000000000) * Y ≤ (-1000000000000000000) * 1 := Int.mul_le_mul_of_nonpos_left (by omega) (by omega)
    omega
  have b2 : X / Y ≤ 1000000000000000000 := by
    by_cases h : X < 0
    · have : X / Y < 0 := Int.ediv_neg_of_neg_of_pos h hY
      omega
    · have := Int.ediv_le_self (b := Y) (a := X) (by omega)
      omega
  rw [Fx.scV_eq 0 X 1 Y (by omega), Fx.scE_eq 0 X 1 Y (by omega), e]
  constructor <;> (rw [if_pos]; unfold Fx.inR; omega)
theorem xFloorB (X Y : Int) (h1 : -1000000000000000000 ≤ X) (h2 : X ≤ 1000000000000000000) (hY : 0 < Y) (hY2 : Y ≤ 1000000000000000000) (w : World) : Calls Try.prog 123 #[.int .i64 X, .int .i64 Y] w fun e w' => e = .returned (.tuple #[.int .i64 (X / Y), .int .i64 0]) ∧ ∃ n, w' = w.drewN n := by
  have h := xFloor X Y ⟨by omega, by omega⟩ ⟨by omega, by omega⟩ w
  rw [(floor_b X Y h1 h2 hY).1, (floor_b X Y h1 h2 hY).2] at h
  exact h
theorem pval_bd {d e : Int} (h1 : -50000 ≤ d ∧ d ≤ 50000) (h2 : 0 ≤ e ∧ e ≤ 3000200000) : -150010000000000 ≤ d * e ∧ d * e ≤ 150010000000000 := by
  have a := Int.mul_le_mul_of_nonneg_right h1.2 h2.1
  have b := Int.mul_le_mul_of_nonneg_right h1.1 h2.1
  omega
set_option maxRecDepth 100000 in
set_option maxHeartbeats 2000000 in
theorem xVal31 (A B : Option Addr) (n c d : Nat) (p l : List Int) (x : Int) (w : World) (hp : Ints w A n p) (hl : Ints w B n l) (hn0 : 0 < n) (hn : n ≤ 12) (hpb : ∀ y ∈ p, -200000 ≤ y ∧ y ≤ 3000000000) (hlb : ∀ y ∈ l, 0 ≤ y ∧ y ≤ 50000) (hx : -200000 ≤ x ∧ x ≤ 3000000000) : Calls Try.prog 102 #[.slice A n c, .slice B n d, .int .i64 x] w fun e w' => e = .returned (.int .i64 (Pe.iv (p.zip l) x)) ∧ ∃ q, w' = w.drewN q := by
  have HP := Lib.hid hp
  have HQ := Lib.hid hl
  have HPL := Lib.hid hp.len
  have HLL := Lib.hid hl.len
  have HPB := Lib.hid hpb
  have HLB := Lib.hid hlb
  obtain ⟨x0, x1⟩ := hx
  obtain ⟨bp, op, rfl, hbp, cp⟩ := hp.cells hn0
  obtain ⟨bl, ol, rfl, hbl, cl⟩ := hl.cells hn0
  have CP := Lib.hid (fun k y m (h : p[k]? = some y) => (World.cell?_drewN w m _).trans (cp k y h))
  have CL := Lib.hid (fun k y m (h : l[k]? = some y) => (World.cell?_drewN w m _).trans (cl k y h))
  clear hp hl hpb hlb cp cl hbp hbl
  go_enter Try.func102, Try.ntmps102
  go_wp2_with fail
  go_loop [7] (fun t => ∃ k : Nat, k ≤ n ∧ t = .int .i64 k ∧ ∀ j, j < k → p.getD j 0 < x) (fun t => n - (intOf t).toNat)
  case atStart => exact ⟨0, by omega, rfl, fun j hj => by omega⟩
  case round =>
    obtain ⟨k, hk, rfl, hall⟩ := hrel
    have HAL := Lib.hid hall
    clear hall
    by_cases hlt : k < n
    rotate_left
    · have hkn : k = n := by omega
      have e0 : ((k : Int) == 0) = false := beq_of (by omega)
      have e1 : ((k : Int) == (n : Int)) = true := by rw [beq_iff_eq]; omega
      obtain ⟨m, hm⟩ : ∃ m, n = m + 1 := ⟨n - 1, by omega⟩
      obtain ⟨v, hv⟩ := get_ex HLL.out (show m < n by omega)
      have HR := Lib.hid (show Pe.iv (p.zip l) x = v by
        rw [← getD_of_get (d := 0) hv]
        have hm' : p.length = m + 1 := HPL.out.trans hm
        have hl' : l.length = p.length := HLL.out.trans HPL.out.symm
        exact Pe.iv_last (p.zip l) m (p.getD m 0, l.getD m 0) x (by simp; omega) (Pe.zip_get hl' (by omega)) (fun j q hq => by
          obtain ⟨h1, h2⟩ := Pe.zip_get_inv hq
          rw [h2]; exact HAL.out j (by have := HPL.out; omega)))
      have c0 : w.cell? ⟨bl, ol + m, none⟩ = some (.int .i64 v) := CL.out m v 0 hv
      have s1 : IntKind.i64.wrap ((k : Int) - 1) = (m : Int) := by rw [IntWalk.i64_in _ (by omega)]; omega
      have s2 : (k : Int) - 1 = (m : Int) := by omega
      have hmn : m < n := by omega
      have hlt2 : decide (k < n) = false := decide_eq_false hlt
      have HKN := Lib.hid hkn
      have HM := Lib.hid hm
      clear hkn hm hv hlt
      go_wp2_with fail
      go_ret
      exact ⟨ret_int HR.out.symm, 0, rfl⟩
    obtain ⟨b, hb⟩ := get_ex HPL.out hlt
    obtain ⟨b0, b1⟩ := HPB.out b (List.mem_of_getElem? hb)
    have c0 : w.cell? ⟨bp, op + k, none⟩ = some (.int .i64 b) := CP.out k b 0 hb
    have HG := Lib.hid (show p.getD k 0 = b from getD_of_get hb)
    by_cases hbx : b < x
    · clear hb
      go_wp2_with fail
      go_round
      case rel => exact ⟨k + 1, by omega, by go_num, fun j hj => by
        by_cases e : j = k
        · subst e; rw [HG.out]; exact hbx
        · exact HAL.out j (by omega)⟩
      case measure => simp only [intOf]; omega
    by_cases hk0 : k = 0
    · have e0 : ((k : Int) == 0) = true := by rw [beq_iff_eq]; omega
      obtain ⟨v, hv⟩ := get_ex HLL.out hn0
      have HR := Lib.hid (show Pe.iv (p.zip l) x = v by
        rw [← getD_of_get (d := 0) hv]
        exact Pe.iv_ref_hd (HLL.out.trans HPL.out.symm) (by rw [HPL.out]; exact hn0) (by rw [← hk0, HG.out]; omega))
      have c1 : w.cell? ⟨bl, ol, none⟩ = some (.int .i64 v) := CL.out 0 v 0 hv
      have HK0 := Lib.hid hk0
      clear hk0 hb hv
      go_wp2_with fail
      go_ret
      exact ⟨ret_int HR.out.symm, 0, rfl⟩
    obtain ⟨m, rfl⟩ : ∃ m, k = m + 1 := ⟨k - 1, by omega⟩
    clear hk0
    rw [show ((m + 1 : Nat) : Int) = (m : Int) + 1 from by omega]
    obtain ⟨a, ha⟩ := get_ex HPL.out (show m < n by omega)
    obtain ⟨u, hu⟩ := get_ex HLL.out (show m < n by omega)
    obtain ⟨v, hv⟩ := get_ex HLL.out hlt
    obtain ⟨a0, a1⟩ := HPB.out a (List.mem_of_getElem? ha)
    obtain ⟨u0, u1⟩ := HLB.out u (List.mem_of_getElem? hu)
    obtain ⟨v0, v1⟩ := HLB.out v (List.mem_of_getElem? hv)
    have hax : a < x := by rw [← getD_of_get (d := 0) ha]; exact HAL.out m (by omega)
    have HR := Lib.hid (show Pe.iv (p.zip l) x = Pe.ip a b u v x by
      have hl' : l.length = p.length := HLL.out.trans HPL.out.symm
      rw [Pe.iv_seg (p.zip l) m _ _ x (Pe.zip_get hl' (by have := HPL.out; omega)) (Pe.zip_get hl' (by have := HPL.out; omega)) (fun j q hj hq => by
          obtain ⟨h1, h2⟩ := Pe.zip_get_inv hq
          rw [h2]; exact HAL.out j (by omega)) (by show x ≤ p.getD (m + 1) 0; rw [HG.out]; omega)]
      rw [getD_of_get ha, HG.out, getD_of_get hu, getD_of_get hv])
    obtain ⟨i0, i1⟩ := Pe.ip_bd (lo := 0) (hi := 50000) (x := x) (show a ≤ x by omega) (show x ≤ b by omega) (by omega) ⟨u0, u1⟩ ⟨v0, v1⟩
    have HIP := Lib.hid (show Pe.ip a b u v x = u + (v - u) * (x - a) / (b - a) from rfl)
    generalize Pe.ip a b u v x = R at *
    have HPD := Lib.hid (pval_bd (d := v - u) (e := x - a) ⟨by omega, by omega⟩ ⟨by omega, by omega⟩)
    have HFL := Lib.hid (fun w => xFloorB ((v - u) * (x - a)) (b - a) (by have := HPD.out; omega) (by have := HPD.out; omega) (by omega) (by omega) w)
    have s1 : IntKind.i64.wrap ((m : Int) + 1 - 1) = (m : Int) := by rw [IntWalk.i64_in _ (by omega)]; omega
    have s0 : IntKind.i64.wrap (m : Int) = (m : Int) := IntWalk.i64_in _ (by omega)
    have hmn : m < n := by omega
    have hmn2 : (m : Int) < (n : Int) := by omega
    have hmn3 : (m : Int) + 1 < (n : Int) := by omega
    have e0 : ((m : Int) + 1 == 0) = false := beq_of (by omega)
    have e1 : ((m : Int) + 1 == (n : Int)) = false := beq_of (by omega)
    have q1 : ∀ m', (w.drewN m').cell? ⟨bp, op + m, none⟩ = some (.int .i64 a) := fun m' => CP.out m a m' ha
    have q2 : ∀ m', (w.drewN m').cell? ⟨bp, op + (m + 1), none⟩ = some (.int .i64 b) := fun m' => CP.out (m + 1) b m' hb
    have q3 : ∀ m', (w.drewN m').cell? ⟨bl, ol + m, none⟩ = some (.int .i64 u) := fun m' => CL.out m u m' hu
    have q4 : ∀ m', (w.drewN m').cell? ⟨bl, ol + (m + 1), none⟩ = some (.int .i64 v) := fun m' => CL.out (m + 1) v m' hv
    clear ha hu hv hb
    go_wp2_with fail
    go_quiet (fail)
    clear s1 s0 q1 q2 q3 q4
    obtain ⟨d0, d1⟩ := HPD.out
    go_wp2_with fail
    refine (HFL.out _).mono ?_; rintro e w2 ⟨rfl, q, rfl⟩
    have HR2 := Lib.hid (HR.out.trans HIP.out)
    have g1 : 0 ≤ u + (v - u) * (x - a) / (b - a) := by rw [← HIP.out]; exact i0
    have g2 : u + (v - u) * (x - a) / (b - a) ≤ 50000 := by rw [← HIP.out]; exact i1
    go_wp2_with fail
    go_ret
    exact ⟨ret_int HR2.out.symm, _, by first | rfl | exact World.drewN_drewN _ _ _⟩
end Go.Proofs.Ytcmdpfdhmbpahaa
