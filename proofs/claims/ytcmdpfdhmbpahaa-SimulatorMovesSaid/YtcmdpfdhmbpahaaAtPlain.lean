/- Plain arithmetic of layer 29 (no program in sight): the tables of the atmosphere, and what is read out of them. -/
import Derived.Test.YtcmdpfdhmbpahaaFxRootP
namespace Go.Proofs.At
set_option linter.unusedSimpArgs false
set_option linter.unusedVariables false

def interp (r0 r1 : Int × Int) (alt : Int) : Int := r0.2 + ((r1.2 - r0.2) * (alt - r0.1 * 100)) / ((r1.1 - r0.1) * 100)
/-- the value of a table -/
def tv : List (Int × Int) → Int → Int
  | [], _ => 0
  | [_], _ => 0
  | [r0, r1], alt => interp r0 r1 alt
  | r0 :: r1 :: r2 :: rest, alt => if alt ≤ r1.1 * 100 then interp r0 r1 alt else tv (r1 :: r2 :: rest) alt
theorem tv_at : ∀ (L : List (Int × Int)) (k : Nat) (r0 r1 : Int × Int) (alt : Int), L[k]? = some r0 → L[k + 1]? = some r1 → (∀ j, 1 ≤ j → j ≤ k → ∀ r, L[j]? = some r → r.1 * 100 < alt) →
    (k + 2 = L.length ∨ alt ≤ r1.1 * 100) → tv L alt = interp r0 r1 alt
  | [], k, r0, r1, alt, h0, _, _, _ => by simp at h0
  | [x], k, r0, r1, alt, _, h1, _, _ => by simp at h1
  | [x, y], k, r0, r1, alt, h0, h1, _, _ => by
    have hk : k = 0 := by
      rcases Nat.eq_zero_or_pos k with h | h
      · exact h
      · obtain ⟨m, rfl⟩ : ∃ m, k = m + 1 := ⟨k - 1, by omega⟩
        simp at h1
    subst hk
    simp at h0 h1
    subst h0 h1
    rfl
  | x :: y :: z :: rest, k, r0, r1, alt, h0, h1, h2, h3 => by
    unfold tv
    cases k with
    | zero =>
      simp at h0 h1
      subst h0 h1
      rcases h3 with h3 | h3
      · simp at h3
      · rw [if_pos h3]
    | succ m =>
      have hy := h2 1 (by omega) (by omega) y rfl
      rw [if_neg (by omega)]
      refine tv_at (y :: z :: rest) m r0 r1 alt (by simpa using h0) (by simpa using h1) (fun j j1 j2 r hr => h2 (j + 1) (by omega) (by omega) r (by simpa using hr)) ?_
      rcases h3 with h3 | h3
      · exact .inl (by simp at h3 ⊢; omega)
      · exact .inr h3
def tabP : List (Int × Int) := [(-2000, 1074400), (0, 1000000), (5000, 832000), (10000, 687700), (15000, 564300), (20000, 459500), (25000, 371100), (30000, 297000), (35000, 235300), (40000, 185100), (45000, 145500), (50000, 114500), (55000, 90000), (60000, 70800)]
def vP (alt : Int) : Int := if alt ≤ 0 then 1074400 + (-74400 * (alt - (-200000))) / 200000 else if alt ≤ 500000 then 1000000 + (-168000 * (alt - (0))) / 500000 else if alt ≤ 1000000 then 832000 + (-144300 * (alt - (500000))) / 500000 else if alt ≤ 1500000 then 687700 + (-123400 * (alt - (1000000))) / 500000 else if alt ≤ 2000000 then 564300 + (-104800 * (alt - (1500000))) / 500000 else if alt ≤ 2500000 then 459500 + (-88400 * (alt - (2000000))) / 500000 else if alt ≤ 3000000 then 371100 + (-74100 * (alt - (2500000))) / 500000 else if alt ≤ 3500000 then 297000 + (-61700 * (alt - (3000000))) / 500000 else if alt ≤ 4000000 then 235300 + (-50200 * (alt - (3500000))) / 500000 else if alt ≤ 4500000 then 185100 + (-39600 * (alt - (4000000))) / 500000 else if alt ≤ 5000000 then 145500 + (-31000 * (alt - (4500000))) / 500000 else if alt ≤ 5500000 then 114500 + (-24500 * (alt - (5000000))) / 500000 else 90000 + (-19200 * (alt - (5500000))) / 500000
theorem tv_P (alt : Int) : tv tabP alt = vP alt := by
  simp [tabP, tv, vP, interp]
theorem sP0 (alt : Int) (h1 : alt ≤ 0) : vP alt = 1074400 + (-74400 * (alt - (-200000))) / 200000 := by
  unfold vP; rw [if_pos h1]
theorem sP1 (alt : Int) (h0 : 0 ≤ alt) (h1 : alt ≤ 500000) : vP alt = 1000000 + (-168000 * (alt - (0))) / 500000 := by
  rcases Int.lt_or_eq_of_le h0 with h | h
  · unfold vP; rw [if_neg (by omega), if_pos h1]
  · subst h; decide
theorem sP2 (alt : Int) (h0 : 500000 ≤ alt) (h1 : alt ≤ 1000000) : vP alt = 832000 + (-144300 * (alt - (500000))) / 500000 := by
  rcases Int.lt_or_eq_of_le h0 with h | h
  · unfold vP; rw [if_neg (by omega), if_neg (by omega), if_pos h1]
  · subst h; decide
theorem sP3 (alt : Int) (h0 : 1000000 ≤ alt) (h1 : alt ≤ 1500000) : vP alt = 687700 + (-123400 * (alt - (1000000))) / 500000 := by
  rcases Int.lt_or_eq_of_le h0 with h | h
  · unfold vP; rw [if_neg (by omega), if_neg (by omega), if_neg (by omega), if_pos h1]
  · subst h; decide
theorem sP4 (alt : Int) (h0 : 1500000 ≤ alt) (h1 : alt ≤ 2000000) : vP alt = 564300 + (-104800 * (alt - (1500000))) / 500000 := by
  rcases Int.lt_or_eq_of_le h0 with h | h
  · unfold vP; rw [if_neg (by omega), if_neg (by omega), if_neg (by omega), if_neg (by omega), if_pos h1]
  · subst h; decide
theorem sP5 (alt : Int) (h0 : 2000000 ≤ alt) (h1 : alt ≤ 2500000) : vP alt = 459500 + (-88400 * (alt - (2000000))) / 500000 := by
  rcases Int.lt_or_eq_of_le h0 with h | h
  · unfold vP; rw [if_neg (by omega), if_neg (by omega), if_neg (by omega), if_neg (by omega), if_neg (by omega), if_pos h1]
  · subst h; decide
theorem sP6 (alt : Int) (h0 : 2500000 ≤ alt) (h1 : alt ≤ 3000000) : vP alt = 371100 + (-74100 * (alt - (2500000))) / 500000 := by
  rcases Int.lt_or_eq_of_le h0 with h | h
  · unfold vP; rw [if_neg (by omega), if_neg (by omega), if_neg (by omega), if_neg (by omega), if_neg (by omega), if_neg (by omega), if_pos h1]
  · subst h; decide
theorem sP7 (alt : Int) (h0 : 3000000 ≤ alt) (h1 : alt ≤ 3500000) : vP alt = 297000 + (-61700 * (alt - (3000000))) / 500000 := by
  rcases Int.lt_or_eq_of_le h0 with h | h
  · unfold vP; rw [if_neg (by omega), if_neg (by omega), if_neg (by omega), if_neg (by omega), if_neg (by omega), if_neg (by omega), if_neg (by omega), if_pos h1]
  · subst h; decide
theorem sP8 (alt : Int) (h0 : 3500000 ≤ alt) (h1 : alt ≤ 4000000) : vP alt = 235300 + (-50200 * (alt - (3500000))) / 500000 := by
  rcases Int.lt_or_eq_of_le h0 with h | h
  · unfold vP; rw [if_neg (by omega), if_neg (by omega), if_neg (by omega), if_neg (by omega), if_neg (by omega), if_neg (by omega), if_neg (by omega), if_neg (by omega), if_pos h1]
  · subst h; decide
theorem sP9 (alt : Int) (h0 : 4000000 ≤ alt) (h1 : alt ≤ 4500000) : vP alt = 185100 + (-39600 * (alt - (4000000))) / 500000 := by
  rcases Int.lt_or_eq_of_le h0 with h | h
  · unfold vP; rw [if_neg (by omega), if_neg (by omega), if_neg (by omega), if_neg (by omega), if_neg (by omega), if_neg (by omega), if_neg (by omega), if_neg (by omega), if_neg (by omega), if_pos h1]
  · subst h; decide
theorem sP10 (alt : Int) (h0 : 4500000 ≤ alt) (h1 : alt ≤ 5000000) : vP alt = 145500 + (-31000 * (alt - (4500000))) / 500000 := by
  rcases Int.lt_or_eq_of_le h0 with h | h
  · unfold vP; rw [if_neg (by omega), if_neg (by omega), if_neg (by omega), if_neg (by omega), if_neg (by omega), if_neg (by omega), if_neg (by omega), if_neg (by omega), if_neg (by omega), if_neg (by omega), if_pos h1]
  · subst h; decide
theorem sP11 (alt : Int) (h0 : 5000000 ≤ alt) (h1 : alt ≤ 5500000) : vP alt = 114500 + (-24500 * (alt - (5000000))) / 500000 := by
  rcases Int.lt_or_eq_of_le h0 with h | h
  · unfold vP; rw [if_neg (by omega), if_neg (by omega), if_neg (by omega), if_neg (by omega), if_neg (by omega), if_neg (by omega), if_neg (by omega), if_neg (by omega), if_neg (by omega), if_neg (by omega), if_neg (by omega), if_pos h1]
  · subst h; decide
theorem sP12 (alt : Int) (h0 : 5500000 ≤ alt) (h1 : alt ≤ 6000000) : vP alt = 90000 + (-19200 * (alt - (5500000))) / 500000 := by
  rcases Int.lt_or_eq_of_le h0 with h | h
  · unfold vP; rw [if_neg (by omega), if_neg (by omega), if_neg (by omega), if_neg (by omega), if_neg (by omega), if_neg (by omega), if_neg (by omega), if_neg (by omega), if_neg (by omega), if_neg (by omega), if_neg (by omega), if_neg (by omega)]
  · subst h; decide
theorem stepP (alt : Int) (h0 : -200000 ≤ alt) (h1 : alt < 6000000) : vP alt - 1 ≤ vP (alt + 1) ∧ vP (alt + 1) ≤ vP alt := by
  rcases Int.lt_or_le alt 0 with g0 | g0
  · rw [sP0 alt (by omega), sP0 (alt + 1) (by omega)]; omega
  rcases Int.lt_or_le alt 500000 with g1 | g1
  · rw [sP1 alt (by omega) (by omega), sP1 (alt + 1) (by omega) (by omega)]; omega
  rcases Int.lt_or_le alt 1000000 with g2 | g2
  · rw [sP2 alt (by omega) (by omega), sP2 (alt + 1) (by omega) (by omega)]; omega
  rcases Int.lt_or_le alt 1500000 with g3 | g3
  · rw [sP3 alt (by omega) (by omega), sP3 (alt + 1) (by omega) (by omega)]; omega
  rcases Int.lt_or_le alt 2000000 with g4 | g4
  · rw [sP4 alt (by omega) (by omega), sP4 (alt + 1) (by omega) (by omega)]; omega
  rcases Int.lt_or_le alt 2500000 with g5 | g5
  · rw [sP5 alt (by omega) (by omega), sP5 (alt + 1) (by omega) (by omega)]; omega
  rcases Int.lt_or_le alt 3000000 with g6 | g6
  · rw [sP6 alt (by omega) (by omega), sP6 (alt + 1) (by omega) (by omega)]; omega
  rcases Int.lt_or_le alt 3500000 with g7 | g7
  · rw [sP7 alt (by omega) (by omega), sP7 (alt + 1) (by omega) (by omega)]; omega
  rcases Int.lt_or_le alt 4000000 with g8 | g8
  · rw [sP8 alt (by omega) (by omega), sP8 (alt + 1) (by omega) (by omega)]; omega
  rcases Int.lt_or_le alt 4500000 with g9 | g9
  · rw [sP9 alt (by omega) (by omega), sP9 (alt + 1) (by omega) (by omega)]; omega
  rcases Int.lt_or_le alt 5000000 with g10 | g10
  · rw [sP10 alt (by omega) (by omega), sP10 (alt + 1) (by omega) (by omega)]; omega
  rcases Int.lt_or_le alt 5500000 with g11 | g11
  · rw [sP11 alt (by omega) (by omega), sP11 (alt + 1) (by omega) (by omega)]; omega
  rw [sP12 alt (by omega) (by omega), sP12 (alt + 1) (by omega) (by omega)]; omega
theorem bdP (alt : Int) (h0 : -200000 ≤ alt) (h1 : alt ≤ 6000000) : 70800 ≤ vP alt ∧ vP alt ≤ 1074400 := by
  rcases Int.lt_or_le alt 0 with g0 | g0
  · rw [sP0 alt (by omega)]; omega
  rcases Int.lt_or_le alt 500000 with g1 | g1
  · rw [sP1 alt (by omega) (by omega)]; omega
  rcases Int.lt_or_le alt 1000000 with g2 | g2
  · rw [sP2 alt (by omega) (by omega)]; omega
  rcases Int.lt_or_le alt 1500000 with g3 | g3
  · rw [sP3 alt (by omega) (by omega)]; omega
  rcases Int.lt_or_le alt 2000000 with g4 | g4
  · rw [sP4 alt (by omega) (by omega)]; omega
  rcases Int.lt_or_le alt 2500000 with g5 | g5
  · rw [sP5 alt (by omega) (by omega)]; omega
  rcases Int.lt_or_le alt 3000000 with g6 | g6
  · rw [sP6 alt (by omega) (by omega)]; omega
  rcases Int.lt_or_le alt 3500000 with g7 | g7
  · rw [sP7 alt (by omega) (by omega)]; omega
  rcases Int.lt_or_le alt 4000000 with g8 | g8
  · rw [sP8 alt (by omega) (by omega)]; omega
  rcases Int.lt_or_le alt 4500000 with g9 | g9
  · rw [sP9 alt (by omega) (by omega)]; omega
  rcases Int.lt_or_le alt 5000000 with g10 | g10
  · rw [sP10 alt (by omega) (by omega)]; omega
  rcases Int.lt_or_le alt 5500000 with g11 | g11
  · rw [sP11 alt (by omega) (by omega)]; omega
  rw [sP12 alt (by omega) (by omega)]; omega
def tabR : List (Int × Int) := [(-2000, 971400), (0, 1000000), (5000, 1077300), (10000, 1163700), (15000, 1260600), (20000, 1370000), (25000, 1493800), (30000, 1634900), (35000, 1796400), (40000, 2015500), (45000, 2272700), (50000, 2562800), (55000, 2890100), (60000, 3259100)]
def vR (alt : Int) : Int := if alt ≤ 0 then 971400 + (28600 * (alt - (-200000))) / 200000 else if alt ≤ 500000 then 1000000 + (77300 * (alt - (0))) / 500000 else if alt ≤ 1000000 then 1077300 + (86400 * (alt - (500000))) / 500000 else if alt ≤ 1500000 then 1163700 + (96900 * (alt - (1000000))) / 500000 else if alt ≤ 2000000 then 1260600 + (109400 * (alt - (1500000))) / 500000 else if alt ≤ 2500000 then 1370000 + (123800 * (alt - (2000000))) / 500000 else if alt ≤ 3000000 then 1493800 + (141100 * (alt - (2500000))) / 500000 else if alt ≤ 3500000 then 1634900 + (161500 * (alt - (3000000))) / 500000 else if alt ≤ 4000000 then 1796400 + (219100 * (alt - (3500000))) / 500000 else if alt ≤ 4500000 then 2015500 + (257200 * (alt - (4000000))) / 500000 else if alt ≤ 5000000 then 2272700 + (290100 * (alt - (4500000))) / 500000 else if alt ≤ 5500000 then 2562800 + (327300 * (alt - (5000000))) / 500000 else 2890100 + (369000 * (alt - (5500000))) / 500000
theorem tv_R (alt : Int) : tv tabR alt = vR alt := by
  simp [tabR, tv, vR, interp]
theorem sR0 (alt : Int) (h1 : alt ≤ 0) : vR alt = 971400 + (28600 * (alt - (-200000))) / 200000 := by
  unfold vR; rw [if_pos h1]
theorem sR1 (alt : Int) (h0 : 0 ≤ alt) (h1 : alt ≤ 500000) : vR alt = 1000000 + (77300 * (alt - (0))) / 500000 := by
  rcases Int.lt_or_eq_of_le h0 with h | h
  · unfold vR; rw [if_neg (by omega), if_pos h1]
  · subst h; decide
theorem sR2 (alt : Int) (h0 : 500000 ≤ alt) (h1 : alt ≤ 1000000) : vR alt = 1077300 + (86400 * (alt - (500000))) / 500000 := by
  rcases Int.lt_or_eq_of_le h0 with h | h
  · unfold vR; rw [if_neg (by omega), if_neg (by omega), if_pos h1]
  · subst h; decide
theorem sR3 (alt : Int) (h0 : 1000000 ≤ alt) (h1 : alt ≤ 1500000) : vR alt = 1163700 + (96900 * (alt - (1000000))) / 500000 := by
  rcases Int.lt_or_eq_of_le h0 with h | h
  · unfold vR; rw [if_neg (by omega), if_neg (by omega), if_neg (by omega), if_pos h1]
  · subst h; decide
theorem sR4 (alt : Int) (h0 : 1500000 ≤ alt) (h1 : alt ≤ 2000000) : vR alt = 1260600 + (109400 * (alt - (1500000))) / 500000 := by
  rcases Int.lt_or_eq_of_le h0 with h | h
  · unfold vR; rw [if_neg (by omega), if_neg (by omega), if_neg (by omega), if_neg (by omega), if_pos h1]
  · subst h; decide
theorem sR5 (alt : Int) (h0 : 2000000 ≤ alt) (h1 : alt ≤ 2500000) : vR alt = 1370000 + (123800 * (alt - (2000000))) / 500000 := by
  rcases Int.lt_or_eq_of_le h0 with h | h
  · unfold vR; rw [if_neg (by omega), if_neg (by omega), if_neg (by omega), if_neg (by omega), if_neg (by omega), if_pos h1]
  · subst h; decide
theorem sR6 (alt : Int) (h0 : 2500000 ≤ alt) (h1 : alt ≤ 3000000) : vR alt = 1493800 + (141100 * (alt - (2500000))) / 500000 := by
  rcases Int.lt_or_eq_of_le h0 with h | h
  · unfold vR; rw [if_neg (by omega), if_neg (by omega), if_neg (by omega), if_neg (by omega), if_neg (by omega), if_neg (by omega), if_pos h1]
  · subst h; decide
theorem sR7 (alt : Int) (h0 : 3000000 ≤ alt) (h1 : alt ≤ 3500000) : vR alt = 1634900 + (161500 * (alt - (3000000))) / 500000 := by
  rcases Int.lt_or_eq_of_le h0 with h | h
  · unfold vR; rw [if_neg (by omega), if_neg (by omega), if_neg (by omega), if_neg (by omega), if_neg (by omega), if_neg (by omega), if_neg (by omega), if_pos h1]
  · subst h; decide
theorem sR8 (alt : Int) (h0 : 3500000 ≤ alt) (h1 : alt ≤ 4000000) : vR alt = 1796400 + (219100 * (alt - (3500000))) / 500000 := by
  rcases Int.lt_or_eq_of_le h0 with h | h
  · unfold vR; rw [if_neg (by omega), if_neg (by omega), if_neg (by omega), if_neg (by omega), if_neg (by omega), if_neg (by omega), if_neg (by omega), if_neg (by omega), if_pos h1]
  · subst h; decide
theorem sR9 (alt : Int) (h0 : 4000000 ≤ alt) (h1 : alt ≤ 4500000) : vR alt = 2015500 + (257200 * (alt - (4000000))) / 500000 := by
  rcases Int.lt_or_eq_of_le h0 with h | h
  · unfold vR; rw [if_neg (by omega), if_neg (by omega), if_neg (by omega), if_neg (by omega), if_neg (by omega), if_neg (by omega), if_neg (by omega), if_neg (by omega), if_neg (by omega), if_pos h1]
  · subst h; decide
theorem sR10 (alt : Int) (h0 : 4500000 ≤ alt) (h1 : alt ≤ 5000000) : vR alt = 2272700 + (290100 * (alt - (4500000))) / 500000 := by
  rcases Int.lt_or_eq_of_le h0 with h | h
  · unfold vR; rw [if_neg (by omega), if_neg (by omega), if_neg (by omega), if_neg (by omega), if_neg (by omega), if_neg (by omega), if_neg (by omega), if_neg (by omega), if_neg (by omega), if_neg (by omega), if_pos h1]
  · subst h; decide
theorem sR11 (alt : Int) (h0 : 5000000 ≤ alt) (h1 : alt ≤ 5500000) : vR alt = 2562800 + (327300 * (alt - (5000000))) / 500000 := by
  rcases Int.lt_or_eq_of_le h0 with h | h
  · unfold vR; rw [if_neg (by omega), if_neg (by omega), if_neg (by omega), if_neg (by omega), if_neg (by omega), if_neg (by omega), if_neg (by omega), if_neg (by omega), if_neg (by omega), if_neg (by omega), if_neg (by omega), if_pos h1]
  · subst h; decide
theorem sR12 (alt : Int) (h0 : 5500000 ≤ alt) (h1 : alt ≤ 6000000) : vR alt = 2890100 + (369000 * (alt - (5500000))) / 500000 := by
  rcases Int.lt_or_eq_of_le h0 with h | h
  · unfold vR; rw [if_neg (by omega), if_neg (by omega), if_neg (by omega), if_neg (by omega), if_neg (by omega), if_neg (by omega), if_neg (by omega), if_neg (by omega), if_neg (by omega), if_neg (by omega), if_neg (by omega), if_neg (by omega)]
  · subst h; decide
theorem stepR (alt : Int) (h0 : -200000 ≤ alt) (h1 : alt < 6000000) : vR alt ≤ vR (alt + 1) ∧ vR (alt + 1) ≤ vR alt + 1 := by
  rcases Int.lt_or_le alt 0 with g0 | g0
  · rw [sR0 alt (by omega), sR0 (alt + 1) (by omega)]; omega
  rcases Int.lt_or_le alt 500000 with g1 | g1
  · rw [sR1 alt (by omega) (by omega), sR1 (alt + 1) (by omega) (by omega)]; omega
  rcases Int.lt_or_le alt 1000000 with g2 | g2
  · rw [sR2 alt (by omega) (by omega), sR2 (alt + 1) (by omega) (by omega)]; omega
  rcases Int.lt_or_le alt 1500000 with g3 | g3
  · rw [sR3 alt (by omega) (by omega), sR3 (alt + 1) (by omega) (by omega)]; omega
  rcases Int.lt_or_le alt 2000000 with g4 | g4
  · rw [sR4 alt (by omega) (by omega), sR4 (alt + 1) (by omega) (by omega)]; omega
  rcases Int.lt_or_le alt 2500000 with g5 | g5
  · rw [sR5 alt (by omega) (by omega), sR5 (alt + 1) (by omega) (by omega)]; omega
  rcases Int.lt_or_le alt 3000000 with g6 | g6
  · rw [sR6 alt (by omega) (by omega), sR6 (alt + 1) (by omega) (by omega)]; omega
  rcases Int.lt_or_le alt 3500000 with g7 | g7
  · rw [sR7 alt (by omega) (by omega), sR7 (alt + 1) (by omega) (by omega)]; omega
  rcases Int.lt_or_le alt 4000000 with g8 | g8
  · rw [sR8 alt (by omega) (by omega), sR8 (alt + 1) (by omega) (by omega)]; omega
  rcases Int.lt_or_le alt 4500000 with g9 | g9
  · rw [sR9 alt (by omega) (by omega), sR9 (alt + 1) (by omega) (by omega)]; omega
  rcases Int.lt_or_le alt 5000000 with g10 | g10
  · rw [sR10 alt (by omega) (by omega), sR10 (alt + 1) (by omega) (by omega)]; omega
  rcases Int.lt_or_le alt 5500000 with g11 | g11
  · rw [sR11 alt (by omega) (by omega), sR11 (alt + 1) (by omega) (by omega)]; omega
  rw [sR12 alt (by omega) (by omega), sR12 (alt + 1) (by omega) (by omega)]; omega
theorem bdR (alt : Int) (h0 : -200000 ≤ alt) (h1 : alt ≤ 6000000) : 971400 ≤ vR alt ∧ vR alt ≤ 3259100 := by
  rcases Int.lt_or_le alt 0 with g0 | g0
  · rw [sR0 alt (by omega)]; omega
  rcases Int.lt_or_le alt 500000 with g1 | g1
  · rw [sR1 alt (by omega) (by omega)]; omega
  rcases Int.lt_or_le alt 1000000 with g2 | g2
  · rw [sR2 alt (by omega) (by omega)]; omega
  rcases Int.lt_or_le alt 1500000 with g3 | g3
  · rw [sR3 alt (by omega) (by omega)]; omega
  rcases Int.lt_or_le alt 2000000 with g4 | g4
  · rw [sR4 alt (by omega) (by omega)]; omega
  rcases Int.lt_or_le alt 2500000 with g5 | g5
  · rw [sR5 alt (by omega) (by omega)]; omega
  rcases Int.lt_or_le alt 3000000 with g6 | g6
  · rw [sR6 alt (by omega) (by omega)]; omega
  rcases Int.lt_or_le alt 3500000 with g7 | g7
  · rw [sR7 alt (by omega) (by omega)]; omega
  rcases Int.lt_or_le alt 4000000 with g8 | g8
  · rw [sR8 alt (by omega) (by omega)]; omega
  rcases Int.lt_or_le alt 4500000 with g9 | g9
  · rw [sR9 alt (by omega) (by omega)]; omega
  rcases Int.lt_or_le alt 5000000 with g10 | g10
  · rw [sR10 alt (by omega) (by omega)]; omega
  rcases Int.lt_or_le alt 5500000 with g11 | g11
  · rw [sR11 alt (by omega) (by omega)]; omega
  rw [sR12 alt (by omega) (by omega)]; omega
def tabT : List (Int × Int) := [(-2000, 29211), (0, 28815), (36089, 21665), (60000, 21665)]
def vT (alt : Int) : Int := if alt ≤ 0 then 29211 + (-396 * (alt - (-200000))) / 200000 else if alt ≤ 3608900 then 28815 + (-7150 * (alt - (0))) / 3608900 else 21665 + (0 * (alt - (3608900))) / 2391100
theorem tv_T (alt : Int) : tv tabT alt = vT alt := by
  simp [tabT, tv, vT, interp]
theorem sT0 (alt : Int) (h1 : alt ≤ 0) : vT alt = 29211 + (-396 * (alt - (-200000))) / 200000 := by
  unfold vT; rw [if_pos h1]
theorem sT1 (alt : Int) (h0 : 0 ≤ alt) (h1 : alt ≤ 3608900) : vT alt = 28815 + (-7150 * (alt - (0))) / 3608900 := by
  rcases Int.lt_or_eq_of_le h0 with h | h
  · unfold vT; rw [if_neg (by omega), if_pos h1]
  · subst h; decide
theorem sT2 (alt : Int) (h0 : 3608900 ≤ alt) (h1 : alt ≤ 6000000) : vT alt = 21665 + (0 * (alt - (3608900))) / 2391100 := by
  rcases Int.lt_or_eq_of_le h0 with h | h
  · unfold vT; rw [if_neg (by omega), if_neg (by omega)]
  · subst h; decide
theorem stepT (alt : Int) (h0 : -200000 ≤ alt) (h1 : alt < 6000000) : vT alt - 1 ≤ vT (alt + 1) ∧ vT (alt + 1) ≤ vT alt := by
  rcases Int.lt_or_le alt 0 with g0 | g0
  · rw [sT0 alt (by omega), sT0 (alt + 1) (by omega)]; omega
  rcases Int.lt_or_le alt 3608900 with g1 | g1
  · rw [sT1 alt (by omega) (by omega), sT1 (alt + 1) (by omega) (by omega)]; omega
  rw [sT2 alt (by omega) (by omega), sT2 (alt + 1) (by omega) (by omega)]; omega
theorem bdT (alt : Int) (h0 : -200000 ≤ alt) (h1 : alt ≤ 6000000) : 21665 ≤ vT alt ∧ vT alt ≤ 29211 := by
  rcases Int.lt_or_le alt 0 with g0 | g0
  · rw [sT0 alt (by omega)]; omega
  rcases Int.lt_or_le alt 3608900 with g1 | g1
  · rw [sT1 alt (by omega) (by omega)]; omega
  rw [sT2 alt (by omega) (by omega)]; omega

theorem falls (f : Int → Int) (h : ∀ x, -200000 ≤ x → x < 6000000 → f (x + 1) ≤ f x) (a : Int) (ha : -200000 ≤ a) : ∀ k : Nat, a + k ≤ 6000000 → f (a + k) ≤ f a
  | 0, _ => by simp
  | k + 1, hk => by
    have h1 := falls f h a ha k (by omega)
    have h2 := h (a + k) (by omega) (by omega)
    have e : a + ((k + 1 : Nat) : Int) = a + k + 1 := by omega
    rw [e]; omega
theorem fallsI (f : Int → Int) (h : ∀ x, -200000 ≤ x → x < 6000000 → f (x + 1) ≤ f x) {a b : Int} (ha : -200000 ≤ a) (hab : a ≤ b) (hb : b ≤ 6000000) : f b ≤ f a := by
  have := falls f h a ha (b - a).toNat (by omega)
  have e : a + ((b - a).toNat : Int) = b := by omega
  rw [e] at this; exact this
theorem fallP {a b : Int} (ha : -200000 ≤ a) (hab : a ≤ b) (hb : b ≤ 6000000) : vP b ≤ vP a := fallsI vP (fun x h0 h1 => (stepP x h0 h1).2) ha hab hb
theorem fallT {a b : Int} (ha : -200000 ≤ a) (hab : a ≤ b) (hb : b ≤ 6000000) : vT b ≤ vT a := fallsI vT (fun x h0 h1 => (stepT x h0 h1).2) ha hab hb
theorem riseR {a b : Int} (ha : -200000 ≤ a) (hab : a ≤ b) (hb : b ≤ 6000000) : vR a ≤ vR b := by
  have := fallsI (fun x => -vR x) (fun x h0 h1 => by have := (stepR x h0 h1).1; show -vR (x + 1) ≤ -vR x; omega) ha hab hb
  have h : -vR b ≤ -vR a := this
  omega

/-- the altitude of a pressure -/
structure LevP (p L : Int) : Prop where
  lo : -200000 ≤ L
  hi : L ≤ 6000000
  met : vP L ≤ p
  least : L = -200000 ∨ p < vP (L - 1)
theorem lev_unique {p a b : Int} (ha : LevP p a) (hb : LevP p b) : a = b := by
  have key : ∀ {x y : Int}, LevP p x → LevP p y → x < y → False := by
    intro x y hx hy h
    rcases hy.least with h1 | h1
    · have := hx.lo; omega
    · have := fallP hx.lo (show x ≤ y - 1 by omega) (by have := hy.hi; omega)
      have := hx.met
      omega
  rcases Int.lt_trichotomy a b with h | h | h
  · exact (key ha hb h).elim
  · exact h
  · exact (key hb ha h).elim

/-- the ratio with a deviation -/
def ratV (alt dev : Int) : Int := vR alt * (57630 + dev) / 57630
theorem ratV_zero (alt : Int) : ratV alt 0 = vR alt := by unfold ratV; omega
theorem ratV_mono {a b d e : Int} (ha : 0 ≤ vR a) (hab : vR a ≤ vR b) (hd : -57630 ≤ d) (hde : d ≤ e) : ratV a d ≤ ratV b e := by
  unfold ratV
  refine Int.ediv_le_ediv (by decide) ?_
  exact Int.mul_le_mul hab (by omega) (by omega) (by omega)
def tempV (alt dev : Int) : Int := vT alt + dev
def soundV (alt dev : Int) : Int := (Fx.isq (388734 * tempV alt dev / 100).toNat : Int)
theorem soundV_mono {a b d e : Int} (h : tempV a d ≤ tempV b e) : soundV a d ≤ soundV b e := by
  unfold soundV
  have : (388734 * tempV a d / 100).toNat ≤ (388734 * tempV b e / 100).toNat := by omega
  have := Fx.isq_mono this
  omega
theorem soundV_pos {a d : Int} (h : 1 ≤ tempV a d) : 1 ≤ soundV a d := by
  unfold soundV
  have : 0 < (388734 * tempV a d / 100).toNat := by omega
  have := Fx.isq_pos this
  omega
end Go.Proofs.At
