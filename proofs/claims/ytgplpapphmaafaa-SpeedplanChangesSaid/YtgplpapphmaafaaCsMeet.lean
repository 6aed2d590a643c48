/- Plain arithmetic of layers 33 and 34 (no program in sight): the values that meet windows and steps. -/
import Derived.Test.YtgplpapphmaafaaCsPlain
namespace Go.Proofs.Cs
set_option linter.unusedSimpArgs false
set_option linter.unusedVariables false
open Pf (inB)

/-- values that meet the windows and the steps -/
structure Sol (ws st : Wins) (v : Nat → Int) : Prop where
  win : ∀ i, i < ws.length → lo ws i ≤ v i ∧ v i ≤ hi ws i
  stp : ∀ i, i + 1 < ws.length → v (i + 1) - v i ≤ up st i ∧ v i - v (i + 1) ≤ dn st i
theorem rise_succ (st : Wins) (k i : Nat) : rise st k (i + 1) = rise st k i + up st i := by
  unfold rise
  have : psum (up st) (i + 1) = psum (up st) i + up st i := rfl
  omega
theorem fall_succ (st : Wins) (k i : Nat) : fall st k (i + 1) = fall st k i + dn st i := by
  unfold fall
  have : psum (dn st) (i + 1) = psum (dn st) i + dn st i := rfl
  omega
theorem rise_self (st : Wins) (i : Nat) : rise st i i = 0 := by unfold rise; omega
theorem fall_self (st : Wins) (i : Nat) : fall st i i = 0 := by unfold fall; omega
theorem Sol.tele {ws st : Wins} {v : Nat → Int} (h : Sol ws st v) {k : Nat} : ∀ {i : Nat}, k ≤ i → i < ws.length → v i - v k ≤ rise st k i ∧ v k - v i ≤ fall st k i
  | 0, hk, _ => by
    obtain rfl : k = 0 := by omega
    rw [rise_self, fall_self]; omega
  | i + 1, hk, hi' => by
    rcases Nat.lt_or_ge k (i + 1) with hl | hl
    · have h1 := h.tele (show k ≤ i by omega) (show i < ws.length by omega)
      have h2 := h.stp i hi'
      rw [rise_succ, fall_succ]; omega
    · obtain rfl : k = i + 1 := by omega
      rw [rise_self, fall_self]; omega
theorem Sol.le_gH {ws st : Wins} {v : Nat → Int} (h : Sol ws st v) {i k : Nat} (hi' : i < ws.length) (hk : k < ws.length) : v i ≤ gH ws st i k ∧ gL ws st i k ≤ v i := by
  unfold gH gL
  have hwk := h.win k hk
  have hwi := h.win i hi'
  rcases Nat.lt_trichotomy k i with hl | hl | hl
  · rw [if_pos hl, if_pos hl]
    have := h.tele (show k ≤ i by omega) hi'; omega
  · rw [if_neg (by omega), if_neg (by omega), if_neg (by omega), if_neg (by omega)]; omega
  · rw [if_neg (show ¬ k < i by omega), if_pos hl, if_neg (show ¬ k < i by omega), if_pos hl]
    have := h.tele (show i ≤ k by omega) hk; omega
theorem Sol.between {ws st : Wins} {v : Nat → Int} (h : Sol ws st v) {i : Nat} (hi' : i < ws.length) : tL ws st i ≤ v i ∧ v i ≤ tH ws st i :=
  ⟨(tL_le hi').2 fun k hk => (h.le_gH hi' hk).2, (le_tH hi').2 fun k hk => (h.le_gH hi' hk).1⟩
theorem Sol.noConf {ws st : Wins} {v : Nat → Int} (h : Sol ws st v) : NoConf ws st := by
  intro i j hij hj
  have hwi := h.win i (by omega)
  have hwj := h.win j hj
  have ht := h.tele hij hj
  unfold exc
  split
  · omega
  · split
    · omega
    · omega
theorem noConf_win {ws st : Wins} (h : NoConf ws st) {i : Nat} (hi' : i < ws.length) : lo ws i ≤ hi ws i := by
  have := h i i (Nat.le_refl _) hi'
  unfold exc at this
  rw [if_pos rfl] at this
  omega
theorem noConf_pair {ws st : Wins} (h : NoConf ws st) {i j : Nat} (hij : i < j) (hj : j < ws.length) : lo ws j ≤ hi ws i + rise st i j ∧ lo ws i - fall st i j ≤ hi ws j := by
  have h1 := h i j (by omega) hj
  have h2 := noConf_win h (show i < ws.length by omega)
  have h3 := noConf_win h hj
  unfold exc at h1
  rw [if_neg (by omega), if_neg (by omega)] at h1
  omega
theorem gH_step {ws st : Wins} (hok : CsOk ws st) {i k : Nat} (hi' : i + 1 < ws.length) : gH ws st (i + 1) k ≤ gH ws st i k + up st i ∧ gH ws st i k ≤ gH ws st (i + 1) k + dn st i := by
  have hu := hok.ups i
  have hd := hok.dns i
  unfold gH
  rcases Nat.lt_trichotomy k i with hl | hl | hl
  · rw [if_pos (by omega), if_pos hl, rise_succ]; omega
  · subst hl
    rw [if_pos (by omega), if_neg (by omega), if_neg (by omega), rise_succ, rise_self]; omega
  · rw [if_neg (show ¬ k < i + 1 by omega), if_neg (show ¬ k < i by omega), if_pos hl]
    have e : fall st i k = fall st (i + 1) k + dn st i := by
      unfold fall
      have : psum (dn st) (i + 1) = psum (dn st) i + dn st i := rfl
      omega
    rcases Nat.lt_or_ge (i + 1) k with hl2 | hl2
    · rw [if_pos hl2, e]; omega
    · obtain rfl : k = i + 1 := by omega
      rw [if_neg (by omega), e, fall_self]; omega
theorem gL_step {ws st : Wins} (hok : CsOk ws st) {i k : Nat} (hi' : i + 1 < ws.length) : gL ws st (i + 1) k ≤ gL ws st i k + up st i ∧ gL ws st i k ≤ gL ws st (i + 1) k + dn st i := by
  have hu := hok.ups i
  have hd := hok.dns i
  unfold gL
  rcases Nat.lt_trichotomy k i with hl | hl | hl
  · rw [if_pos (by omega), if_pos hl, fall_succ]; omega
  · subst hl
    rw [if_pos (by omega), if_neg (by omega), if_neg (by omega), fall_succ, fall_self]; omega
  · rw [if_neg (show ¬ k < i + 1 by omega), if_neg (show ¬ k < i by omega), if_pos hl]
    have e : rise st i k = rise st (i + 1) k + up st i := by
      unfold rise
      have : psum (up st) (i + 1) = psum (up st) i + up st i := rfl
      omega
    rcases Nat.lt_or_ge (i + 1) k with hl2 | hl2
    · rw [if_pos hl2, e]; omega
    · obtain rfl : k = i + 1 := by omega
      rw [if_neg (by omega), e, rise_self]; omega
theorem tH_win {ws st : Wins} (h : NoConf ws st) {i : Nat} (hi' : i < ws.length) : lo ws i ≤ tH ws st i ∧ tH ws st i ≤ hi ws i := by
  constructor
  · rw [le_tH hi']
    intro k hk
    unfold gH
    rcases Nat.lt_trichotomy k i with hl | hl | hl
    · rw [if_pos hl]; exact (noConf_pair h hl hi').1
    · rw [if_neg (by omega), if_neg (by omega)]; exact noConf_win h hi'
    · rw [if_neg (by omega), if_pos hl]; have := (noConf_pair h hl hk).2; omega
  · have := tH_le (st := st) hi' hi'
    unfold gH at this
    rwa [if_neg (by omega), if_neg (by omega)] at this
theorem tL_win {ws st : Wins} (h : NoConf ws st) {i : Nat} (hi' : i < ws.length) : lo ws i ≤ tL ws st i ∧ tL ws st i ≤ hi ws i := by
  constructor
  · have := le_tL (st := st) hi' hi'
    unfold gL at this
    rwa [if_neg (by omega), if_neg (by omega)] at this
  · rw [tL_le hi']
    intro k hk
    unfold gL
    rcases Nat.lt_trichotomy k i with hl | hl | hl
    · rw [if_pos hl]; have := (noConf_pair h hl hi').2; omega
    · rw [if_neg (by omega), if_neg (by omega)]; exact noConf_win h hi'
    · rw [if_neg (by omega), if_pos hl]; have := (noConf_pair h hl hk).1; omega
theorem sol_tH {ws st : Wins} (hok : CsOk ws st) (h : NoConf ws st) : Sol ws st (tH ws st) := by
  refine ⟨fun i hi' => tH_win h hi', fun i hi' => ⟨?_, ?_⟩⟩
  · have : tH ws st (i + 1) - up st i ≤ tH ws st i := by
      rw [le_tH (by omega)]
      intro k hk
      have h1 := tH_le (st := st) hi' hk
      have h2 := (gH_step hok (k := k) hi').1
      omega
    omega
  · have : tH ws st i - dn st i ≤ tH ws st (i + 1) := by
      rw [le_tH hi']
      intro k hk
      have h1 := tH_le (st := st) (show i < ws.length by omega) hk
      have h2 := (gH_step hok (k := k) hi').2
      omega
    omega
theorem sol_tL {ws st : Wins} (hok : CsOk ws st) (h : NoConf ws st) : Sol ws st (tL ws st) := by
  refine ⟨fun i hi' => tL_win h hi', fun i hi' => ⟨?_, ?_⟩⟩
  · have : tL ws st (i + 1) ≤ tL ws st i + up st i := by
      rw [tL_le hi']
      intro k hk
      have h1 := le_tL (st := st) (show i < ws.length by omega) hk
      have h2 := (gL_step hok (k := k) hi').1
      omega
    omega
  · have : tL ws st i ≤ tL ws st (i + 1) + dn st i := by
      rw [tL_le (show i < ws.length by omega)]
      intro k hk
      have h1 := le_tL (st := st) hi' hk
      have h2 := (gL_step hok (k := k) hi').2
      omega
    omega
/-- if a value above the greatest profile or below the least one met, it would be no such profile -/
theorem tL_le_tH {ws st : Wins} (hok : CsOk ws st) (h : NoConf ws st) {i : Nat} (hi' : i < ws.length) : tL ws st i ≤ tH ws st i := ((sol_tH hok h).between hi').1
end Go.Proofs.Cs
