/- Names, of the program and of the reference. -/
import Derived.Test.YtcmdpfdhmbpahaaPeRow
namespace Go.Proofs.Ytcmdpfdhmbpahaa
set_option linter.unusedSimpArgs false
set_option linter.unusedVariables false
open Go.RowKit
theorem nmB_0 {s : ByteArray} {m : Nat} (h : s.size = 0) : nmB s m = false := by unfold nmB; simp [h]
theorem nmB_1 {s : ByteArray} {m : Nat} (h : m < s.size) : nmB s m = false := by
  unfold nmB
  have : decide (s.size ≤ m) = false := decide_eq_false (by omega)
  simp [this]
theorem data_get {s : ByteArray} {k : Nat} (h : k < s.size) : s.data.toList[k]? = some s[k] := by
  have : k < s.data.toList.length := by simpa using h
  rw [List.getElem?_eq_getElem this]; rfl
theorem head_eq {s : ByteArray} (h : 0 < s.size) : upHd s.data.toList = (decide (65 ≤ s[0].toNat) && decide (s[0].toNat ≤ 90)) := by
  have := data_get h
  match hd : s.data.toList with
  | [] => rw [hd] at this; simp at this
  | c :: t =>
    rw [hd] at this
    obtain rfl : c = s[0] := by simpa using this
    rfl
theorem nmB_2 {s : ByteArray} {m : Nat} (h : 0 < s.size) (h2 : ¬ (65 ≤ s[0].toNat ∧ s[0].toNat ≤ 90)) : nmB s m = false := by
  unfold nmB
  rw [head_eq h]
  have : (decide (65 ≤ s[0].toNat) && decide (s[0].toNat ≤ 90)) = false := by rw [Bool.eq_false_iff]; simp; omega
  rw [this]; simp
theorem nmB_3 {s : ByteArray} {m : Nat} (h : 0 < s.size) (h1 : s.size ≤ m) (h2 : 65 ≤ s[0].toNat ∧ s[0].toNat ≤ 90) : nmB s m = s.data.toList.all nmC := by
  unfold nmB
  rw [head_eq h]
  simp [h, h1, h2]
theorem nmC_iff {c : UInt8} : nmC c = true ↔ (65 ≤ c.toNat ∧ c.toNat ≤ 90) ∨ (48 ≤ c.toNat ∧ c.toNat ≤ 57) := by unfold nmC; simp
theorem nmC_no {c : UInt8} (h : ¬ ((65 ≤ c.toNat ∧ c.toNat ≤ 90) ∨ (48 ≤ c.toNat ∧ c.toNat ≤ 57))) : nmC c = false := by rw [Bool.eq_false_iff]; exact fun hc => h (nmC_iff.1 hc)
set_option maxRecDepth 100000 in
set_option maxHeartbeats 2000000 in
theorem xName (s : ByteArray) (most : Nat) (w : World) (hs : s.size ≤ maxLen) (hm : most ≤ maxLen) : Calls Try.prog 63 #[.string s, .int .i64 most] w fun e w' => e = .returned (.bool (nmB s most)) ∧ w = w' := by
  unfold maxLen at hs hm
  by_cases h0 : s.size = 0
  · have G := Lib.hid (nmB_0 (m := most) h0)
    have e1 : ((s.size : Int) == 0) = true := by rw [beq_iff_eq]; omega
    have e2 : (s.size : Int) < 1 := by omega
    go_enter Try.func63, Try.ntmps63
    go_wp2_with fail
    go_ret
    exact ⟨ret_bool (by rw [G.out]), rfl⟩
  have hpos : 0 < s.size := by omega
  have e1 : ((s.size : Int) == 0) = false := beq_of (by omega)
  have e2 : ¬ (s.size : Int) < 1 := by omega
  by_cases h1 : most < s.size
  · have G := Lib.hid (nmB_1 h1)
    have h1' : (most : Int) < (s.size : Int) := by omega
    go_enter Try.func63, Try.ntmps63
    go_wp2_with fail
    go_ret
    exact ⟨ret_bool (by rw [G.out]), rfl⟩
  have h1' : ¬ (most : Int) < (s.size : Int) := by omega
  have HH := Lib.hid (fun h => nmB_2 (m := most) hpos h)
  have HB2 := Lib.hid (fun h => nmB_3 (m := most) hpos (by omega) h)
  by_cases h2 : (s[0].toNat : Int) < 65
  · have G := Lib.hid (HH.out (by omega))
    go_enter Try.func63, Try.ntmps63
    go_wp2_with fail
    go_ret
    exact ⟨ret_bool (by rw [G.out]), rfl⟩
  by_cases h3 : 90 < (s[0].toNat : Int)
  · have G := Lib.hid (HH.out (by omega))
    go_enter Try.func63, Try.ntmps63
    go_wp2_with fail
    go_ret
    exact ⟨ret_bool (by rw [G.out]), rfl⟩
  have HB3 := Lib.hid (HB2.out ⟨by omega, by omega⟩)
  clear HH HB2
  go_enter Try.func63, Try.ntmps63
  go_wp2_with fail
  clear h2 h3 e1 e2
  go_loop [27] (fun t => ∃ k : Nat, k ≤ s.size ∧ t = .int .i64 k ∧ (s.data.toList.take k).all nmC = true) (fun t => s.size - (intOf t).toNat)
  case atStart => exact ⟨0, by omega, rfl, rfl⟩
  case round =>
    obtain ⟨k, hk, rfl, hall⟩ := hrel
    have HAL := Lib.hid hall
    clear hall
    by_cases hlt : k < s.size
    rotate_left
    · have HA := Lib.hid (show s.data.toList.all nmC = true from all_end (by simp; omega) HAL.out)
      go_wp2_with fail
      go_ret
      exact ⟨ret_bool (by rw [HB3.out, HA.out]), rfl⟩
    have HQ := Lib.hid (data_get hlt)
    have HT := Lib.hid (take_succ_get s.data.toList k s[k] (data_get hlt))
    by_cases a1 : (s[k].toNat : Int) < 65
    · by_cases a2 : (s[k].toNat : Int) < 48
      · have a3 : ¬ 57 < (s[k].toNat : Int) := by omega
        have G := Lib.hid (show nmB s most = false from HB3.out.trans (all_no HQ.out (nmC_no (by omega))))
        go_wp2_with fail
        go_ret
        exact ⟨ret_bool (by rw [G.out]), rfl⟩
      · by_cases a3 : 57 < (s[k].toNat : Int)
        · 
          have G := Lib.hid (show nmB s most = false from HB3.out.trans (all_no HQ.out (nmC_no (by omega))))
          go_wp2_with fail
          go_ret
          exact ⟨ret_bool (by rw [G.out]), rfl⟩
        · 
          have G1 := Lib.hid (show nmC s[k] = true from nmC_iff.2 (by omega))
          go_wp2_with fail
          go_round
          case rel => exact ⟨k + 1, by omega, by go_num, all_step HT.out HAL.out G1.out⟩
          case measure => simp only [intOf]; omega
    · by_cases a4 : 90 < (s[k].toNat : Int)
      · have a2 : ¬ (s[k].toNat : Int) < 48 := by omega
        have a3 : 57 < (s[k].toNat : Int) := by omega
        have G := Lib.hid (show nmB s most = false from HB3.out.trans (all_no HQ.out (nmC_no (by omega))))
        go_wp2_with fail
        go_ret
        exact ⟨ret_bool (by rw [G.out]), rfl⟩
      · have a5 : True := trivial
        have G1 := Lib.hid (show nmC s[k] = true from nmC_iff.2 (by omega))
        go_wp2_with fail
        go_round
        case rel => exact ⟨k + 1, by omega, by go_num, all_step HT.out HAL.out G1.out⟩
        case measure => simp only [intOf]; omega
end Go.Proofs.Ytcmdpfdhmbpahaa
