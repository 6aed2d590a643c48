/- Layer 7: the angle of a vector, of the reference. -/
import Derived.Test.YtcmdpfdhmbpahaaGreatTrD
namespace Go.Proofs.YtcmdpfdhmbpahaaGreat
set_option linter.unusedSimpArgs false
set_option linter.unusedVariables false
open Go.RowKit
open Tr
set_option maxRecDepth 100000 in
set_option maxHeartbeats 2000000 in
theorem rOut7 (x : Int) (w : World) : Calls Tryz.prog 134 #[.int .i64 x] w fun e w' => e = .returned (.bool (outB x)) ∧ w = w' := by
  have hv := Lib.hid (show outB x = (decide (2147483647 < x) || decide (x < -2147483647)) from rfl)
  by_cases h1 : 2147483647 < x
  · go_enter Tryz.func134, Tryz.ntmps134
    go_wp2
    go_ret
    exact ⟨ret_boolT (by rw [hv.out]; simp; omega), rfl⟩
  · by_cases h2 : x < -2147483647
    · go_enter Tryz.func134, Tryz.ntmps134
      go_wp2
      go_ret
      exact ⟨ret_boolT (by rw [hv.out]; simp; omega), rfl⟩
    · go_enter Tryz.func134, Tryz.ntmps134
      go_wp2
      go_ret
      exact ⟨ret_boolT (by rw [hv.out]; simp; omega), rfl⟩
theorem absV_pos {b : Int} (h : 0 ≤ b) : absV b = b := by unfold absV; omega
theorem absV_neg {b : Int} (h : 0 ≤ b) : absV (-b) = b := by unfold absV; omega
def BiRel (m n : Int) (u v : Value) : Prop := ∃ c a : Int, u = .int .i64 c ∧ v = .int .i64 a ∧ 0 ≤ c ∧ c < a ∧ a ≤ 16200001 ∧ (c = 0 ∨ okA m n c = true) ∧ (a = 16200001 ∨ okA m n a = false)
set_option maxRecDepth 100000 in
set_option maxHeartbeats 2000000 in
theorem rAt00 (a b : Int) (ha : 0 ≤ a) (hb : 0 ≤ b) (ha1 : a ≤ 2147483647) (hb1 : b ≤ 2147483647) (hz : ¬ (a = 0 ∧ b = 0)) (w : World) : Calls Tryz.prog 118 #[.int .i64 b, .int .i64 a] w fun e w' => e = .returned (.tuple #[.int .i64 (atV b a), .int .i64 0]) ∧ w = w' := by
  have HO := Lib.hid (rOut7 b)
  have HP := Lib.hid (rOut7 a)
  have ho : outB b = false := by simp [outB]; omega
  have hp : outB a = false := by simp [outB]; omega
  rw [ho] at HO
  rw [hp] at HP
  have HV := Lib.hid (atV_0 (y := b) (x := a) (atE_0 (by rw [ho, hp]; rfl) (by omega)))
  clear ho hp
  have hq := atQ_bd b a
  have HD := Lib.hid (show atQ b a = if a < b then 32400000 - grV (max a b) (min a b) else grV (max a b) (min a b) by
    unfold atQ; rw [absV_pos (b := a) (by omega), absV_pos (b := b) (by omega)])
  have HU := Lib.hid (fun q => grV_eq (m := max a b) (n := min a b) (q := q) (by omega) (by omega))
  have hgb := grV_bd (max a b) (min a b)
  have HOK := Lib.hid (fun c => show okA (max a b) (min a b) c = decide (sinV c * max a b ≤ cosV c * min a b) from rfl)
  have HPS := Lib.hid (fun c => prod_at (sinV_bd c) (m := max a b) ⟨by omega, by omega⟩)
  have HPC := Lib.hid (fun c => prod_at (cosV_bd c) (m := min a b) ⟨by omega, by omega⟩)
  have HZT := Lib.hid (show (a == 0) = false ∨ (b == 0) = false by
    by_cases h : a = 0
    · exact .inr (beq_eq_false_iff_ne.2 fun h2 => hz ⟨h, h2⟩)
    · exact .inl (beq_eq_false_iff_ne.2 h))
  clear hz
  generalize atQ b a = Q at *
  obtain ⟨q0, q1⟩ := hq
  have hmm : max a b = max b a := by omega
  have hmn : min a b = min b a := by omega
  obtain ⟨M, hM⟩ : ∃ M, max b a = M := ⟨_, rfl⟩
  obtain ⟨N, hN⟩ : ∃ N, min b a = N := ⟨_, rfl⟩
  rw [hmm, hmn, hM, hN] at HD HU hgb HOK
  rw [hmm, hM] at HPS
  rw [hmn, hN] at HPC
  have HM := Lib.hid (And.intro hM hN)
  clear hM hN hmm hmn
  generalize grV M N = G at *
  obtain ⟨g0, g1⟩ := hgb
  have hyz : Hid (((b : Int) == 0) = false ∨ (((b : Int) == 0) = true ∧ ((a : Int) == 0) = false)) := Lib.hid (by
    cases h : ((b : Int) == 0)
    · exact .inl rfl
    · refine .inr ⟨rfl, ?_⟩
      rw [beq_iff_eq] at h
      rcases HZT.out with h2 | h2
      · rw [beq_eq_false_iff_ne] at h2 ⊢; omega
      · rw [beq_eq_false_iff_ne] at h2; omega)
  rcases hyz.out with hz | ⟨hz, hz2⟩
  all_goals (
    go_enter Tryz.func118, Tryz.ntmps118
    go_wp2_with fail
    refine (HO.out _).mono ?_; rintro e w1 ⟨rfl, rfl⟩
    go_wp2_with fail
    refine (HP.out _).mono ?_; rintro e w1 ⟨rfl, rfl⟩
    have c2 : ¬ b < 0 := by omega
    have c1 : ¬ a < 0 := by omega
    go_wp2_with fail
    rw [HM.out.1, HM.out.2]
    try clear hz
    try clear hz2
    go_loop [10, 11] (fun u v => BiRel M N u v) (fun u v => (intOf v - intOf u).toNat)
    case atStart => exact ⟨0, 16200001, rfl, rfl, by decide, by decide, by decide, .inl rfl, .inl rfl⟩
    case round =>
      obtain ⟨c, d, rfl, rfl, hc0, hcd, hd1, hc, hd⟩ := hrel
      have HC := Lib.hid hc
      have HDD := Lib.hid hd
      clear hc hd
      by_cases hlt : 1 < d - c
      · obtain ⟨k, hk⟩ : ∃ k, (c + d) / 2 = k := ⟨_, rfl⟩
        have f1 : c < k := by omega
        have f2 : k < d := by omega
        have HKE := Lib.hid hk
        clear hk
        have HS := Lib.hid (rSin k ⟨by omega, by omega⟩)
        have HCo := Lib.hid (rCos k ⟨by omega, by omega⟩)
        have HK := Lib.hid (HOK.out k)
        have e1 := HPS.out k
        have e2 := HPC.out k
        generalize sinV k = s at *
        generalize cosV k = t at *
        by_cases ht : s * M ≤ t * N
        · have HT := Lib.hid (HK.out.trans (decide_eq_true ht))
          go_wp2_with fail
          rw [HKE.out]
          refine (HS.out _).mono ?_; rintro e w1 ⟨rfl, rfl⟩
          go_wp2_with fail
          refine (HCo.out _).mono ?_; rintro e w1 ⟨rfl, rfl⟩
          go_wp2_with fail
          go_round
          case rel => exact ⟨k, d, rfl, rfl, by omega, f2, hd1, .inr HT.out, HDD.out⟩
          case measure => simp only [intOf]; omega
        · have HT := Lib.hid (HK.out.trans (decide_eq_false ht))
          go_wp2_with fail
          rw [HKE.out]
          refine (HS.out _).mono ?_; rintro e w1 ⟨rfl, rfl⟩
          go_wp2_with fail
          refine (HCo.out _).mono ?_; rintro e w1 ⟨rfl, rfl⟩
          go_wp2_with fail
          go_round
          case rel => exact ⟨c, k, rfl, rfl, hc0, f1, by omega, HC.out, .inr HT.out⟩
          case measure => simp only [intOf]; omega
      · have hdd : d = c + 1 := by omega
        have HG : Hid (GrA M N c) := Lib.hid ⟨hc0, by omega, HC.out, by rw [← hdd]; exact HDD.out.imp (fun h => by omega) id⟩
        have HCG := Lib.hid (HU.out c HG.out)
        clear HC HDD HG hdd
        have hcg := HCG.out
        subst hcg
        clear HCG HU HOK HPS HPC HM
        by_cases hab : a < b
        · replace HD := Lib.hid (HD.out.trans (if_pos hab))
          have eq1 : c = 32400000 - Q := by have := HD.out; omega
          subst eq1
          have eq2 : (32400000 : Int) - (32400000 - Q) = Q := by omega
          clear HD
          have HE := Lib.hid (HV.out.trans (if_pos ⟨ha, hb⟩))
          go_wp2_with fail
          go_ret2
          exact ⟨ret_tup2 HE.out.symm rfl, rfl⟩
        · replace HD := Lib.hid (HD.out.trans (if_neg hab))
          obtain rfl := HD.out
          clear HD
          have HE := Lib.hid (HV.out.trans (if_pos ⟨ha, hb⟩))
          go_wp2_with fail
          go_ret2
          exact ⟨ret_tup2 HE.out.symm rfl, rfl⟩)
set_option maxRecDepth 100000 in
set_option maxHeartbeats 2000000 in
theorem rAt01 (a b : Int) (ha : 0 < a) (hb : 0 ≤ b) (ha1 : a ≤ 2147483647) (hb1 : b ≤ 2147483647) (hz : ¬ (a = 0 ∧ b = 0)) (w : World) : Calls Tryz.prog 118 #[.int .i64 b, .int .i64 (-a)] w fun e w' => e = .returned (.tuple #[.int .i64 (atV b (-a)), .int .i64 0]) ∧ w = w' := by
  have HO := Lib.hid (rOut7 b)
  have HP := Lib.hid (rOut7 (-a))
  have ho : outB b = false := by simp [outB]; omega
  have hp : outB (-a) = false := by simp [outB]; omega
  rw [ho] at HO
  rw [hp] at HP
  have HV := Lib.hid (atV_0 (y := b) (x := (-a)) (atE_0 (by rw [ho, hp]; rfl) (by omega)))
  clear ho hp
  have hq := atQ_bd b (-a)
  have HD := Lib.hid (show atQ b (-a) = if a < b then 32400000 - grV (max a b) (min a b) else grV (max a b) (min a b) by
    unfold atQ; rw [absV_neg (b := a) (by omega), absV_pos (b := b) (by omega)])
  have HU := Lib.hid (fun q => grV_eq (m := max a b) (n := min a b) (q := q) (by omega) (by omega))
  have hgb := grV_bd (max a b) (min a b)
  have HOK := Lib.hid (fun c => show okA (max a b) (min a b) c = decide (sinV c * max a b ≤ cosV c * min a b) from rfl)
  have HPS := Lib.hid (fun c => prod_at (sinV_bd c) (m := max a b) ⟨by omega, by omega⟩)
  have HPC := Lib.hid (fun c => prod_at (cosV_bd c) (m := min a b) ⟨by omega, by omega⟩)
  have HZT := Lib.hid (show (a == 0) = false ∨ (b == 0) = false by
    by_cases h : a = 0
    · exact .inr (beq_eq_false_iff_ne.2 fun h2 => hz ⟨h, h2⟩)
    · exact .inl (beq_eq_false_iff_ne.2 h))
  clear hz
  generalize atQ b (-a) = Q at *
  obtain ⟨q0, q1⟩ := hq
  have hmm : max a b = max b a := by omega
  have hmn : min a b = min b a := by omega
  obtain ⟨M, hM⟩ : ∃ M, max b a = M := ⟨_, rfl⟩
  obtain ⟨N, hN⟩ : ∃ N, min b a = N := ⟨_, rfl⟩
  rw [hmm, hmn, hM, hN] at HD HU hgb HOK
  rw [hmm, hM] at HPS
  rw [hmn, hN] at HPC
  have HM := Lib.hid (And.intro hM hN)
  clear hM hN hmm hmn
  generalize grV M N = G at *
  obtain ⟨g0, g1⟩ := hgb
  have hyz : Hid (((b : Int) == 0) = false ∨ (((b : Int) == 0) = true ∧ (((-a) : Int) == 0) = false)) := Lib.hid (by
    cases h : ((b : Int) == 0)
    · exact .inl rfl
    · refine .inr ⟨rfl, ?_⟩
      rw [beq_iff_eq] at h
      rcases HZT.out with h2 | h2
      · rw [beq_eq_false_iff_ne] at h2 ⊢; omega
      · rw [beq_eq_false_iff_ne] at h2; omega)
  rcases hyz.out with hz | ⟨hz, hz2⟩
  all_goals (
    go_enter Tryz.func118, Tryz.ntmps118
    go_wp2_with fail
    refine (HO.out _).mono ?_; rintro e w1 ⟨rfl, rfl⟩
    go_wp2_with fail
    refine (HP.out _).mono ?_; rintro e w1 ⟨rfl, rfl⟩
    have c2 : ¬ b < 0 := by omega
    have c1 : 0 < a := ha
    go_wp2_with fail
    rw [HM.out.1, HM.out.2]
    try clear hz
    try clear hz2
    go_loop [10, 11] (fun u v => BiRel M N u v) (fun u v => (intOf v - intOf u).toNat)
    case atStart => exact ⟨0, 16200001, rfl, rfl, by decide, by decide, by decide, .inl rfl, .inl rfl⟩
    case round =>
      obtain ⟨c, d, rfl, rfl, hc0, hcd, hd1, hc, hd⟩ := hrel
      have HC := Lib.hid hc
      have HDD := Lib.hid hd
      clear hc hd
      by_cases hlt : 1 < d - c
      · obtain ⟨k, hk⟩ : ∃ k, (c + d) / 2 = k := ⟨_, rfl⟩
        have f1 : c < k := by omega
        have f2 : k < d := by omega
        have HKE := Lib.hid hk
        clear hk
        have HS := Lib.hid (rSin k ⟨by omega, by omega⟩)
        have HCo := Lib.hid (rCos k ⟨by omega, by omega⟩)
        have HK := Lib.hid (HOK.out k)
        have e1 := HPS.out k
        have e2 := HPC.out k
        generalize sinV k = s at *
        generalize cosV k = t at *
        by_cases ht : s * M ≤ t * N
        · have HT := Lib.hid (HK.out.trans (decide_eq_true ht))
          go_wp2_with fail
          rw [HKE.out]
          refine (HS.out _).mono ?_; rintro e w1 ⟨rfl, rfl⟩
          go_wp2_with fail
          refine (HCo.out _).mono ?_; rintro e w1 ⟨rfl, rfl⟩
          go_wp2_with fail
          go_round
          case rel => exact ⟨k, d, rfl, rfl, by omega, f2, hd1, .inr HT.out, HDD.out⟩
          case measure => simp only [intOf]; omega
        · have HT := Lib.hid (HK.out.trans (decide_eq_false ht))
          go_wp2_with fail
          rw [HKE.out]
          refine (HS.out _).mono ?_; rintro e w1 ⟨rfl, rfl⟩
          go_wp2_with fail
          refine (HCo.out _).mono ?_; rintro e w1 ⟨rfl, rfl⟩
          go_wp2_with fail
          go_round
          case rel => exact ⟨c, k, rfl, rfl, hc0, f1, by omega, HC.out, .inr HT.out⟩
          case measure => simp only [intOf]; omega
      · have hdd : d = c + 1 := by omega
        have HG : Hid (GrA M N c) := Lib.hid ⟨hc0, by omega, HC.out, by rw [← hdd]; exact HDD.out.imp (fun h => by omega) id⟩
        have HCG := Lib.hid (HU.out c HG.out)
        clear HC HDD HG hdd
        have hcg := HCG.out
        subst hcg
        clear HCG HU HOK HPS HPC HM
        by_cases hab : a < b
        · replace HD := Lib.hid (HD.out.trans (if_pos hab))
          have eq1 : c = 32400000 - Q := by have := HD.out; omega
          subst eq1
          have eq2 : (32400000 : Int) - (32400000 - Q) = Q := by omega
          clear HD
          have HE := Lib.hid (HV.out.trans ((if_neg (fun h => absurd h.1 (by omega))).trans (if_pos hb)))
          go_wp2_with fail
          go_ret2
          exact ⟨ret_tup2 HE.out.symm rfl, rfl⟩
        · replace HD := Lib.hid (HD.out.trans (if_neg hab))
          obtain rfl := HD.out
          clear HD
          have HE := Lib.hid (HV.out.trans ((if_neg (fun h => absurd h.1 (by omega))).trans (if_pos hb)))
          go_wp2_with fail
          go_ret2
          exact ⟨ret_tup2 HE.out.symm rfl, rfl⟩)
set_option maxRecDepth 100000 in
set_option maxHeartbeats 2000000 in
theorem rAt10 (a b : Int) (ha : 0 ≤ a) (hb : 0 < b) (ha1 : a ≤ 2147483647) (hb1 : b ≤ 2147483647) (hz : ¬ (a = 0 ∧ b = 0)) (w : World) : Calls Tryz.prog 118 #[.int .i64 (-b), .int .i64 a] w fun e w' => e = .returned (.tuple #[.int .i64 (atV (-b) a), .int .i64 0]) ∧ w = w' := by
  have HO := Lib.hid (rOut7 (-b))
  have HP := Lib.hid (rOut7 a)
  have ho : outB (-b) = false := by simp [outB]; omega
  have hp : outB a = false := by simp [outB]; omega
  rw [ho] at HO
  rw [hp] at HP
  have HV := Lib.hid (atV_0 (y := (-b)) (x := a) (atE_0 (by rw [ho, hp]; rfl) (by omega)))
  clear ho hp
  have hq := atQ_bd (-b) a
  have HD := Lib.hid (show atQ (-b) a = if a < b then 32400000 - grV (max a b) (min a b) else grV (max a b) (min a b) by
    unfold atQ; rw [absV_pos (b := a) (by omega), absV_neg (b := b) (by omega)])
  have HU := Lib.hid (fun q => grV_eq (m := max a b) (n := min a b) (q := q) (by omega) (by omega))
  have hgb := grV_bd (max a b) (min a b)
  have HOK := Lib.hid (fun c => show okA (max a b) (min a b) c = decide (sinV c * max a b ≤ cosV c * min a b) from rfl)
  have HPS := Lib.hid (fun c => prod_at (sinV_bd c) (m := max a b) ⟨by omega, by omega⟩)
  have HPC := Lib.hid (fun c => prod_at (cosV_bd c) (m := min a b) ⟨by omega, by omega⟩)
  have HZT := Lib.hid (show (a == 0) = false ∨ (b == 0) = false by
    by_cases h : a = 0
    · exact .inr (beq_eq_false_iff_ne.2 fun h2 => hz ⟨h, h2⟩)
    · exact .inl (beq_eq_false_iff_ne.2 h))
  clear hz
  generalize atQ (-b) a = Q at *
  obtain ⟨q0, q1⟩ := hq
  have hmm : max a b = max b a := by omega
  have hmn : min a b = min b a := by omega
  obtain ⟨M, hM⟩ : ∃ M, max b a = M := ⟨_, rfl⟩
  obtain ⟨N, hN⟩ : ∃ N, min b a = N := ⟨_, rfl⟩
  rw [hmm, hmn, hM, hN] at HD HU hgb HOK
  rw [hmm, hM] at HPS
  rw [hmn, hN] at HPC
  have HM := Lib.hid (And.intro hM hN)
  clear hM hN hmm hmn
  generalize grV M N = G at *
  obtain ⟨g0, g1⟩ := hgb
  have hyz : Hid ((((-b) : Int) == 0) = false ∨ ((((-b) : Int) == 0) = true ∧ ((a : Int) == 0) = false)) := Lib.hid (by
    cases h : (((-b) : Int) == 0)
    · exact .inl rfl
    · refine .inr ⟨rfl, ?_⟩
      rw [beq_iff_eq] at h
      rcases HZT.out with h2 | h2
      · rw [beq_eq_false_iff_ne] at h2 ⊢; omega
      · rw [beq_eq_false_iff_ne] at h2; omega)
  rcases hyz.out with hz | ⟨hz, hz2⟩
  all_goals (
    go_enter Tryz.func118, Tryz.ntmps118
    go_wp2_with fail
    refine (HO.out _).mono ?_; rintro e w1 ⟨rfl, rfl⟩
    go_wp2_with fail
    refine (HP.out _).mono ?_; rintro e w1 ⟨rfl, rfl⟩
    have c2 : 0 < b := hb
    have c1 : ¬ a < 0 := by omega
    go_wp2_with fail
    rw [HM.out.1, HM.out.2]
    try clear hz
    try clear hz2
    go_loop [10, 11] (fun u v => BiRel M N u v) (fun u v => (intOf v - intOf u).toNat)
    case atStart => exact ⟨0, 16200001, rfl, rfl, by decide, by decide, by decide, .inl rfl, .inl rfl⟩
    case round =>
      obtain ⟨c, d, rfl, rfl, hc0, hcd, hd1, hc, hd⟩ := hrel
      have HC := Lib.hid hc
      have HDD := Lib.hid hd
      clear hc hd
      by_cases hlt : 1 < d - c
      · obtain ⟨k, hk⟩ : ∃ k, (c + d) / 2 = k := ⟨_, rfl⟩
        have f1 : c < k := by omega
        have f2 : k < d := by omega
        have HKE := Lib.hid hk
        clear hk
        have HS := Lib.hid (rSin k ⟨by omega, by omega⟩)
        have HCo := Lib.hid (rCos k ⟨by omega, by omega⟩)
        have HK := Lib.hid (HOK.out k)
        have e1 := HPS.out k
        have e2 := HPC.out k
        generalize sinV k = s at *
        generalize cosV k = t at *
        by_cases ht : s * M ≤ t * N
        · have HT := Lib.hid (HK.out.trans (decide_eq_true ht))
          go_wp2_with fail
          rw [HKE.out]
          refine (HS.out _).mono ?_; rintro e w1 ⟨rfl, rfl⟩
          go_wp2_with fail
          refine (HCo.out _).mono ?_; rintro e w1 ⟨rfl, rfl⟩
          go_wp2_with fail
          go_round
          case rel => exact ⟨k, d, rfl, rfl, by omega, f2, hd1, .inr HT.out, HDD.out⟩
          case measure => simp only [intOf]; omega
        · have HT := Lib.hid (HK.out.trans (decide_eq_false ht))
          go_wp2_with fail
          rw [HKE.out]
          refine (HS.out _).mono ?_; rintro e w1 ⟨rfl, rfl⟩
          go_wp2_with fail
          refine (HCo.out _).mono ?_; rintro e w1 ⟨rfl, rfl⟩
          go_wp2_with fail
          go_round
          case rel => exact ⟨c, k, rfl, rfl, hc0, f1, by omega, HC.out, .inr HT.out⟩
          case measure => simp only [intOf]; omega
      · have hdd : d = c + 1 := by omega
        have HG : Hid (GrA M N c) := Lib.hid ⟨hc0, by omega, HC.out, by rw [← hdd]; exact HDD.out.imp (fun h => by omega) id⟩
        have HCG := Lib.hid (HU.out c HG.out)
        clear HC HDD HG hdd
        have hcg := HCG.out
        subst hcg
        clear HCG HU HOK HPS HPC HM
        by_cases hab : a < b
        · replace HD := Lib.hid (HD.out.trans (if_pos hab))
          have eq1 : c = 32400000 - Q := by have := HD.out; omega
          subst eq1
          have eq2 : (32400000 : Int) - (32400000 - Q) = Q := by omega
          clear HD
          have HE := Lib.hid (HV.out.trans ((if_neg (fun h => absurd h.2 (by omega))).trans ((if_neg (by omega)).trans (if_neg (by omega)))))
          have HN := Lib.hid (rNorm (-Q) ⟨by omega, by omega⟩)
          go_wp2_with fail
          refine (HN.out _).mono ?_; rintro e wn ⟨rfl, rfl⟩
          go_wp2_with fail
          go_ret2
          exact ⟨ret_tup2 HE.out.symm rfl, rfl⟩
        · replace HD := Lib.hid (HD.out.trans (if_neg hab))
          obtain rfl := HD.out
          clear HD
          have HE := Lib.hid (HV.out.trans ((if_neg (fun h => absurd h.2 (by omega))).trans ((if_neg (by omega)).trans (if_neg (by omega)))))
          have HN := Lib.hid (rNorm (-Q) ⟨by omega, by omega⟩)
          go_wp2_with fail
          refine (HN.out _).mono ?_; rintro e wn ⟨rfl, rfl⟩
          go_wp2_with fail
          go_ret2
          exact ⟨ret_tup2 HE.out.symm rfl, rfl⟩)
set_option maxRecDepth 100000 in
set_option maxHeartbeats 2000000 in
theorem rAt11 (a b : Int) (ha : 0 < a) (hb : 0 < b) (ha1 : a ≤ 2147483647) (hb1 : b ≤ 2147483647) (hz : ¬ (a = 0 ∧ b = 0)) (w : World) : Calls Tryz.prog 118 #[.int .i64 (-b), .int .i64 (-a)] w fun e w' => e = .returned (.tuple #[.int .i64 (atV (-b) (-a)), .int .i64 0]) ∧ w = w' := by
  have HO := Lib.hid (rOut7 (-b))
  have HP := Lib.hid (rOut7 (-a))
  have ho : outB (-b) = false := by simp [outB]; omega
  have hp : outB (-a) = false := by simp [outB]; omega
  rw [ho] at HO
  rw [hp] at HP
  have HV := Lib.hid (atV_0 (y := (-b)) (x := (-a)) (atE_0 (by rw [ho, hp]; rfl) (by omega)))
  clear ho hp
  have hq := atQ_bd (-b) (-a)
  have HD := Lib.hid (show atQ (-b) (-a) = if a < b then 32400000 - grV (max a b) (min a b) else grV (max a b) (min a b) by
    unfold atQ; rw [absV_neg (b := a) (by omega), absV_neg (b := b) (by omega)])
  have HU := Lib.hid (fun q => grV_eq (m := max a b) (n := min a b) (q := q) (by omega) (by omega))
  have hgb := grV_bd (max a b) (min a b)
  have HOK := Lib.hid (fun c => show okA (max a b) (min a b) c = decide (sinV c * max a b ≤ cosV c * min a b) from rfl)
  have HPS := Lib.hid (fun c => prod_at (sinV_bd c) (m := max a b) ⟨by omega, by omega⟩)
  have HPC := Lib.hid (fun c => prod_at (cosV_bd c) (m := min a b) ⟨by omega, by omega⟩)
  have HZT := Lib.hid (show (a == 0) = false ∨ (b == 0) = false by
    by_cases h : a = 0
    · exact .inr (beq_eq_false_iff_ne.2 fun h2 => hz ⟨h, h2⟩)
    · exact .inl (beq_eq_false_iff_ne.2 h))
  clear hz
  generalize atQ (-b) (-a) = Q at *
  obtain ⟨q0, q1⟩ := hq
  have hmm : max a b = max b a := by omega
  have hmn : min a b = min b a := by omega
  obtain ⟨M, hM⟩ : ∃ M, max b a = M := ⟨_, rfl⟩
  obtain ⟨N, hN⟩ : ∃ N, min b a = N := ⟨_, rfl⟩
  rw [hmm, hmn, hM, hN] at HD HU hgb HOK
  rw [hmm, hM] at HPS
  rw [hmn, hN] at HPC
  have HM := Lib.hid (And.intro hM hN)
  clear hM hN hmm hmn
  generalize grV M N = G at *
  obtain ⟨g0, g1⟩ := hgb
  have hyz : Hid ((((-b) : Int) == 0) = false ∨ ((((-b) : Int) == 0) = true ∧ (((-a) : Int) == 0) = false)) := Lib.hid (by
    cases h : (((-b) : Int) == 0)
    · exact .inl rfl
    · refine .inr ⟨rfl, ?_⟩
      rw [beq_iff_eq] at h
      rcases HZT.out with h2 | h2
      · rw [beq_eq_false_iff_ne] at h2 ⊢; omega
      · rw [beq_eq_false_iff_ne] at h2; omega)
  rcases hyz.out with hz | ⟨hz, hz2⟩
  all_goals (
    go_enter Tryz.func118, Tryz.ntmps118
    go_wp2_with fail
    refine (HO.out _).mono ?_; rintro e w1 ⟨rfl, rfl⟩
    go_wp2_with fail
    refine (HP.out _).mono ?_; rintro e w1 ⟨rfl, rfl⟩
    have c2 : 0 < b := hb
    have c1 : 0 < a := ha
    go_wp2_with fail
    rw [HM.out.1, HM.out.2]
    try clear hz
    try clear hz2
    go_loop [10, 11] (fun u v => BiRel M N u v) (fun u v => (intOf v - intOf u).toNat)
    case atStart => exact ⟨0, 16200001, rfl, rfl, by decide, by decide, by decide, .inl rfl, .inl rfl⟩
    case round =>
      obtain ⟨c, d, rfl, rfl, hc0, hcd, hd1, hc, hd⟩ := hrel
      have HC := Lib.hid hc
      have HDD := Lib.hid hd
      clear hc hd
      by_cases hlt : 1 < d - c
      · obtain ⟨k, hk⟩ : ∃ k, (c + d) / 2 = k := ⟨_, rfl⟩
        have f1 : c < k := by omega
        have f2 : k < d := by omega
        have HKE := Lib.hid hk
        clear hk
        have HS := Lib.hid (rSin k ⟨by omega, by omega⟩)
        have HCo := Lib.hid (rCos k ⟨by omega, by omega⟩)
        have HK := Lib.hid (HOK.out k)
        have e1 := HPS.out k
        have e2 := HPC.out k
        generalize sinV k = s at *
        generalize cosV k = t at *
        by_cases ht : s * M ≤ t * N
        · have HT := Lib.hid (HK.out.trans (decide_eq_true ht))
          go_wp2_with fail
          rw [HKE.out]
          refine (HS.out _).mono ?_; rintro e w1 ⟨rfl, rfl⟩
          go_wp2_with fail
          refine (HCo.out _).mono ?_; rintro e w1 ⟨rfl, rfl⟩
          go_wp2_with fail
          go_round
          case rel => exact ⟨k, d, rfl, rfl, by omega, f2, hd1, .inr HT.out, HDD.out⟩
          case measure => simp only [intOf]; omega
        · have HT := Lib.hid (HK.out.trans (decide_eq_false ht))
          go_wp2_with fail
          rw [HKE.out]
          refine (HS.out _).mono ?_; rintro e w1 ⟨rfl, rfl⟩
          go_wp2_with fail
          refine (HCo.out _).mono ?_; rintro e w1 ⟨rfl, rfl⟩
          go_wp2_with fail
          go_round
          case rel => exact ⟨c, k, rfl, rfl, hc0, f1, by omega, HC.out, .inr HT.out⟩
          case measure => simp only [intOf]; omega
      · have hdd : d = c + 1 := by omega
        have HG : Hid (GrA M N c) := Lib.hid ⟨hc0, by omega, HC.out, by rw [← hdd]; exact HDD.out.imp (fun h => by omega) id⟩
        have HCG := Lib.hid (HU.out c HG.out)
        clear HC HDD HG hdd
        have hcg := HCG.out
        subst hcg
        clear HCG HU HOK HPS HPC HM
        by_cases hab : a < b
        · replace HD := Lib.hid (HD.out.trans (if_pos hab))
          have eq1 : c = 32400000 - Q := by have := HD.out; omega
          subst eq1
          have eq2 : (32400000 : Int) - (32400000 - Q) = Q := by omega
          clear HD
          have HE := Lib.hid (HV.out.trans ((if_neg (fun h => absurd h.1 (by omega))).trans ((if_neg (by omega)).trans (if_pos (by omega)))))
          go_wp2_with fail
          go_ret2
          exact ⟨ret_tup2 HE.out.symm rfl, rfl⟩
        · replace HD := Lib.hid (HD.out.trans (if_neg hab))
          obtain rfl := HD.out
          clear HD
          have HE := Lib.hid (HV.out.trans ((if_neg (fun h => absurd h.1 (by omega))).trans ((if_neg (by omega)).trans (if_pos (by omega)))))
          go_wp2_with fail
          go_ret2
          exact ⟨ret_tup2 HE.out.symm rfl, rfl⟩)
set_option maxRecDepth 100000 in
set_option maxHeartbeats 2000000 in
theorem rAtan2 (y x : Int) (hy : I64 y) (hx : I64 x) (w : World) : Calls Tryz.prog 118 #[.int .i64 y, .int .i64 x] w fun e w' => e = .returned (.tuple #[.int .i64 (atV y x), .int .i64 (atE y x)]) ∧ Below w.heap.size w w' := by
  cases ho : outB y
  rotate_left
  · have HO := Lib.hid (rOut7 y)
    rw [ho] at HO
    have HE := Lib.hid (atE_2 (y := y) (x := x) (by rw [ho]; rfl))
    have HV := Lib.hid (atV_e (y := y) (x := x) (by rw [HE.out]; decide))
    clear ho
    go_enter Tryz.func118, Tryz.ntmps118
    go_wp2_with fail
    refine (HO.out _).mono ?_; rintro e w1 ⟨rfl, rfl⟩
    go_wp2_with fail
    go_ret2
    exact ⟨ret_tup2 HV.out.symm HE.out.symm, Below.refl _ _⟩
  have HO := Lib.hid (rOut7 y)
  rw [ho] at HO
  have yb := outB_no ho
  cases hp : outB x
  rotate_left
  · have HP := Lib.hid (rOut7 x)
    rw [hp] at HP
    have HE := Lib.hid (atE_2 (y := y) (x := x) (by rw [ho, hp]; rfl))
    have HV := Lib.hid (atV_e (y := y) (x := x) (by rw [HE.out]; decide))
    clear ho hp
    go_enter Tryz.func118, Tryz.ntmps118
    go_wp2_with fail
    refine (HO.out _).mono ?_; rintro e w1 ⟨rfl, rfl⟩
    go_wp2_with fail
    refine (HP.out _).mono ?_; rintro e w1 ⟨rfl, rfl⟩
    go_wp2_with fail
    go_ret2
    exact ⟨ret_tup2 HV.out.symm HE.out.symm, Below.refl _ _⟩
  have HP := Lib.hid (rOut7 x)
  rw [hp] at HP
  have xb := outB_no hp
  have HQ0 := Lib.hid (show (outB y || outB x) = false by rw [ho, hp]; rfl)
  clear ho hp hy hx
  by_cases hz : x = 0 ∧ y = 0
  · have HE := Lib.hid (atE_1 HQ0.out hz)
    have HV := Lib.hid (atV_e (y := y) (x := x) (by rw [HE.out]; decide))
    have z1 : (x == 0) = true := beq_iff_eq.2 hz.1
    have z2 : (y == 0) = true := beq_iff_eq.2 hz.2
    clear hz
    go_enter Tryz.func118, Tryz.ntmps118
    go_wp2_with fail
    refine (HO.out _).mono ?_; rintro e w1 ⟨rfl, rfl⟩
    go_wp2_with fail
    refine (HP.out _).mono ?_; rintro e w1 ⟨rfl, rfl⟩
    go_wp2_with fail
    go_ret2
    exact ⟨ret_tup2 HV.out.symm HE.out.symm, Below.refl _ _⟩
  rw [atE_0 HQ0.out hz]
  by_cases s2 : y < 0 <;> by_cases s1 : x < 0
  · have := rAt11 (-x) (-y) (by omega) (by omega) (by omega) (by omega) (by omega) w
    rw [Int.neg_neg, Int.neg_neg] at this
    exact this.mono fun e w' ⟨h1, h2⟩ => ⟨h1, h2 ▸ Below.refl _ _⟩
  · have := rAt10 x (-y) (by omega) (by omega) (by omega) (by omega) (by omega) w
    rw [Int.neg_neg] at this
    exact this.mono fun e w' ⟨h1, h2⟩ => ⟨h1, h2 ▸ Below.refl _ _⟩
  · have := rAt01 (-x) y (by omega) (by omega) (by omega) (by omega) (by omega) w
    rw [Int.neg_neg] at this
    exact this.mono fun e w' ⟨h1, h2⟩ => ⟨h1, h2 ▸ Below.refl _ _⟩
  · exact (rAt00 x y (by omega) (by omega) (by omega) (by omega) (by omega) w).mono fun e w' ⟨h1, h2⟩ => ⟨h1, h2 ▸ Below.refl _ _⟩
end Go.Proofs.YtcmdpfdhmbpahaaGreat
