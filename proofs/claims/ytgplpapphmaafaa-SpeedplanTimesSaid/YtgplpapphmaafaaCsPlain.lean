/- Plain arithmetic of layers 33 and 34 (no program in sight): windows and steps on a chain, their conflicts, and the tightened windows. -/
import Derived.Test.YtgplpapphmaafaaPfPlain
namespace Go.Proofs.Cs
set_option linter.unusedSimpArgs false
set_option linter.unusedVariables false
open Pf (inB)

def okS (x : Int) : Prop := 0 ≤ x ∧ x ≤ 1099511627776
instance (x : Int) : Decidable (okS x) := by unfold okS; infer_instance
def okW (p : Int × Int) : Prop := inB p.1 ∧ inB p.2
instance (p : Int × Int) : Decidable (okW p) := by unfold okW; infer_instance
def okT (p : Int × Int) : Prop := okS p.1 ∧ okS p.2
instance (p : Int × Int) : Decidable (okT p) := by unfold okT; infer_instance
abbrev Wins := List (Int × Int)
/-- the error of windows and steps -/
def chkE (ws st : Wins) : Int := if 64 < ws.length then 3 else if st.length ≠ ws.length - 1 then 1 else if (∀ p ∈ ws, okW p) ∧ ∀ p ∈ st, okT p then 0 else 2
structure CsOk (ws st : Wins) : Prop where
  len : ws.length ≤ 64
  slen : st.length = ws.length - 1
  wok : ∀ p ∈ ws, okW p
  tok : ∀ p ∈ st, okT p
theorem csOk_of {ws st : Wins} (h : chkE ws st = 0) : CsOk ws st := by
  unfold chkE at h
  by_cases h1 : 64 < ws.length
  · rw [if_pos h1] at h; omega
  · rw [if_neg h1] at h
    by_cases h2 : st.length ≠ ws.length - 1
    · rw [if_pos h2] at h; omega
    · rw [if_neg h2] at h
      by_cases h3 : (∀ p ∈ ws, okW p) ∧ ∀ p ∈ st, okT p
      · exact ⟨by omega, by omega, h3.1, h3.2⟩
      · rw [if_neg h3] at h; omega
theorem CsOk.err {ws st : Wins} (h : CsOk ws st) : chkE ws st = 0 := by
  have h1 := h.len
  have h2 := h.slen
  unfold chkE
  rw [if_neg (by omega), if_neg (by omega), if_pos ⟨h.wok, h.tok⟩]
theorem chkE_cases (ws st : Wins) : chkE ws st = 0 ∨ chkE ws st = 1 ∨ chkE ws st = 2 ∨ chkE ws st = 3 := by
  unfold chkE
  split
  · omega
  · split
    · omega
    · split <;> omega

def lo (ws : Wins) (i : Nat) : Int := (ws.getD i (0, 0)).1
def hi (ws : Wins) (i : Nat) : Int := (ws.getD i (0, 0)).2
def up (st : Wins) (i : Nat) : Int := (st.getD i (0, 0)).1
def dn (st : Wins) (i : Nat) : Int := (st.getD i (0, 0)).2
theorem get_ex2 {ws : Wins} {i : Nat} (h : i < ws.length) : ws[i]? = some (lo ws i, hi ws i) := by
  unfold lo hi
  rw [List.getD_eq_getElem?_getD, List.getElem?_eq_getElem h]; rfl
theorem lo_of {ws : Wins} {i : Nat} {p : Int × Int} (h : ws[i]? = some p) : lo ws i = p.1 ∧ hi ws i = p.2 := by
  unfold lo hi
  rw [List.getD_eq_getElem?_getD, h]; exact ⟨rfl, rfl⟩
theorem up_of {st : Wins} {i : Nat} {p : Int × Int} (h : st[i]? = some p) : up st i = p.1 ∧ dn st i = p.2 := lo_of h
theorem CsOk.win {ws st : Wins} (h : CsOk ws st) {i : Nat} (hi' : i < ws.length) : inB (lo ws i) ∧ inB (hi ws i)   := h.wok _ (List.mem_of_getElem? (get_ex2 hi'))
theorem CsOk.step {ws st : Wins} (h : CsOk ws st) (i : Nat) : okS (up st i) ∧ okS (dn st i) := by
  rcases Nat.lt_or_ge i st.length with hl | hl
  · exact h.tok _ (List.mem_of_getElem? (get_ex2 hl))
  · unfold up dn
    rw [List.getD_eq_getElem?_getD, List.getElem?_eq_none hl]
    simp [okS]

/-- sums of the first terms -/
def psum (f : Nat → Int) : Nat → Int
  | 0 => 0
  | k + 1 => psum f k + f k
theorem psum_mono {f : Nat → Int} (h : ∀ i, 0 ≤ f i) {j k : Nat} (hjk : j ≤ k) : psum f j ≤ psum f k := by
  induction k with
  | zero => obtain rfl : j = 0 := by omega
            exact Int.le_refl _
  | succ k ih =>
    rcases Nat.lt_or_ge j (k + 1) with hl | hl
    · have := ih (by omega)
      have := h k
      show psum f j ≤ psum f k + f k
      omega
    · obtain rfl : j = k + 1 := by omega
      exact Int.le_refl _
theorem psum_bd {f : Nat → Int} (h : ∀ i, okS (f i)) (k : Nat) : 0 ≤ psum f k ∧ psum f k ≤ 1099511627776 * k := by
  induction k with
  | zero => simp [psum]
  | succ k ih =>
    have := h k
    unfold okS at this
    show 0 ≤ psum f k + f k ∧ psum f k + f k ≤ _
    omega
theorem psum_congr {f g : Nat → Int} (k : Nat) (h : ∀ i, i < k → f i = g i) : psum f k = psum g k := by
  induction k with
  | zero => rfl
  | succ k ih =>
    show psum f k + f k = psum g k + g k
    rw [ih (fun i hi => h i (by omega)), h k (by omega)]
def rise (st : Wins) (i j : Nat) : Int := psum (up st) j - psum (up st) i
def fall (st : Wins) (i j : Nat) : Int := psum (dn st) j - psum (dn st) i
/-- by how much two windows exclude each other -/
def exc (ws st : Wins) (i j : Nat) : Int :=
  if i = j then lo ws i - hi ws i else if hi ws i < lo ws i ∨ hi ws j < lo ws j then 0 else max (lo ws j - (hi ws i + rise st i j)) (lo ws i - fall st i j - hi ws j)
def NoConf (ws st : Wins) : Prop := ∀ i j, i ≤ j → j < ws.length → exc ws st i j ≤ 0
/-- the bound that window k lays on node i from above, from below -/
def gH (ws st : Wins) (i k : Nat) : Int := if k < i then hi ws k + rise st k i else if i < k then hi ws k + fall st i k else hi ws i
def gL (ws st : Wins) (i k : Nat) : Int := if k < i then lo ws k - fall st k i else if i < k then lo ws k - rise st i k else lo ws i
/-- the least of a and the first k values, the greatest -/
def mn (f : Nat → Int) (a : Int) : Nat → Int
  | 0 => a
  | k + 1 => min (mn f a k) (f k)
def mx (f : Nat → Int) (a : Int) : Nat → Int
  | 0 => a
  | k + 1 => max (mx f a k) (f k)
theorem le_mn {f : Nat → Int} {a x : Int} {k : Nat} : x ≤ mn f a k ↔ x ≤ a ∧ ∀ j, j < k → x ≤ f j := by
  induction k with
  | zero => simp [mn]
  | succ k ih =>
    show x ≤ min (mn f a k) (f k) ↔ _
    constructor
    · intro h
      have h1 := ih.1 (show x ≤ mn f a k by omega)
      refine ⟨h1.1, fun j hj => ?_⟩
      rcases Nat.lt_or_ge j k with hl | hl
      · exact h1.2 j hl
      · obtain rfl : j = k := by omega
        omega
    · intro h
      have h1 := ih.2 ⟨h.1, fun j hj => h.2 j (by omega)⟩
      have h2 := h.2 k (by omega)
      omega
theorem mx_le {f : Nat → Int} {a x : Int} {k : Nat} : mx f a k ≤ x ↔ a ≤ x ∧ ∀ j, j < k → f j ≤ x := by
  induction k with
  | zero => simp [mx]
  | succ k ih =>
    show max (mx f a k) (f k) ≤ x ↔ _
    constructor
    · intro h
      have h1 := ih.1 (show mx f a k ≤ x by omega)
      refine ⟨h1.1, fun j hj => ?_⟩
      rcases Nat.lt_or_ge j k with hl | hl
      · exact h1.2 j hl
      · obtain rfl : j = k := by omega
        omega
    · intro h
      have h1 := ih.2 ⟨h.1, fun j hj => h.2 j (by omega)⟩
      have h2 := h.2 k (by omega)
      omega
/-- the tightened window of node i -/
def tH (ws st : Wins) (i : Nat) : Int := mn (gH ws st i) (hi ws i) ws.length
def tL (ws st : Wins) (i : Nat) : Int := mx (gL ws st i) (lo ws i) ws.length
theorem le_tH {ws st : Wins} {i : Nat} {x : Int} (hi' : i < ws.length) : x ≤ tH ws st i ↔ ∀ k, k < ws.length → x ≤ gH ws st i k := by
  unfold tH
  rw [le_mn]
  refine ⟨fun h => h.2, fun h => ⟨?_, h⟩⟩
  have := h i hi'
  unfold gH at this
  rwa [if_neg (by omega), if_neg (by omega)] at this
theorem tL_le {ws st : Wins} {i : Nat} {x : Int} (hi' : i < ws.length) : tL ws st i ≤ x ↔ ∀ k, k < ws.length → gL ws st i k ≤ x := by
  unfold tL
  rw [mx_le]
  refine ⟨fun h => h.2, fun h => ⟨?_, h⟩⟩
  have := h i hi'
  unfold gL at this
  rwa [if_neg (by omega), if_neg (by omega)] at this
theorem tH_le {ws st : Wins} {i k : Nat} (hi' : i < ws.length) (hk : k < ws.length) : tH ws st i ≤ gH ws st i k := (le_tH hi').1 (Int.le_refl _) k hk
theorem le_tL {ws st : Wins} {i k : Nat} (hi' : i < ws.length) (hk : k < ws.length) : gL ws st i k ≤ tL ws st i := (tL_le hi').1 (Int.le_refl _) k hk

/-- the passes of the program: forward, then backward (k nodes from the last one) -/
def fH (ws st : Wins) : Nat → Int
  | 0 => hi ws 0
  | i + 1 => min (hi ws (i + 1)) (fH ws st i + up st i)
def fL (ws st : Wins) : Nat → Int
  | 0 => lo ws 0
  | i + 1 => max (lo ws (i + 1)) (fL ws st i - dn st i)
def bH (ws st : Wins) (n : Nat) : Nat → Int
  | 0 => fH ws st (n - 1)
  | k + 1 => min (fH ws st (n - 1 - (k + 1))) (bH ws st n k + dn st (n - 1 - (k + 1)))
def bL (ws st : Wins) (n : Nat) : Nat → Int
  | 0 => fL ws st (n - 1)
  | k + 1 => max (fL ws st (n - 1 - (k + 1))) (bL ws st n k - up st (n - 1 - (k + 1)))
theorem le_fH {ws st : Wins} {x : Int} : ∀ {i : Nat}, x ≤ fH ws st i ↔ ∀ k, k ≤ i → x ≤ hi ws k + rise st k i
  | 0 => by
    constructor
    · intro h k hk
      obtain rfl : k = 0 := by omega
      simpa [rise, fH] using h
    · intro h
      simpa [rise, fH] using h 0 (Nat.le_refl _)
  | i + 1 => by
    show x ≤ min (hi ws (i + 1)) (fH ws st i + up st i) ↔ _
    have ih := @le_fH ws st (x - up st i) i
    have e : ∀ k, rise st k (i + 1) = rise st k i + up st i := fun k => by unfold rise; show psum (up st) i + up st i - _ = _; omega
    have e0 : rise st (i + 1) (i + 1) = 0 := by unfold rise; omega
    constructor
    · intro h k hk
      rcases Nat.lt_or_ge k (i + 1) with hl | hl
      · have := ih.1 (by omega) k (by omega)
        rw [e]; omega
      · obtain rfl : k = i + 1 := by omega
        rw [e0]; omega
    · intro h
      have h1 := h (i + 1) (Nat.le_refl _)
      rw [e0] at h1
      have h2 := ih.2 (fun k hk => by have := h k (by omega); rw [e] at this; omega)
      omega
theorem fL_le {ws st : Wins} {x : Int} : ∀ {i : Nat}, fL ws st i ≤ x ↔ ∀ k, k ≤ i → lo ws k - fall st k i ≤ x
  | 0 => by
    constructor
    · intro h k hk
      obtain rfl : k = 0 := by omega
      simpa [fall, fL] using h
    · intro h
      simpa [fall, fL] using h 0 (Nat.le_refl _)
  | i + 1 => by
    show max (lo ws (i + 1)) (fL ws st i - dn st i) ≤ x ↔ _
    have ih := @fL_le ws st (x + dn st i) i
    have e : ∀ k, fall st k (i + 1) = fall st k i + dn st i := fun k => by unfold fall; show psum (dn st) i + dn st i - _ = _; omega
    have e0 : fall st (i + 1) (i + 1) = 0 := by unfold fall; omega
    constructor
    · intro h k hk
      rcases Nat.lt_or_ge k (i + 1) with hl | hl
      · have := ih.1 (by omega) k (by omega)
        rw [e]; omega
      · obtain rfl : k = i + 1 := by omega
        rw [e0]; omega
    · intro h
      have h1 := h (i + 1) (Nat.le_refl _)
      rw [e0] at h1
      have h2 := ih.2 (fun k hk => by have := h k (by omega); rw [e] at this; omega)
      omega
theorem CsOk.ups {ws st : Wins} (h : CsOk ws st) : ∀ i, 0 ≤ up st i := fun i => (h.step i).1.1
theorem CsOk.dns {ws st : Wins} (h : CsOk ws st) : ∀ i, 0 ≤ dn st i := fun i => (h.step i).2.1
theorem CsOk.rise_nn {ws st : Wins} (h : CsOk ws st) {i j : Nat} (hij : i ≤ j) : 0 ≤ rise st i j := by have := psum_mono h.ups hij; unfold rise; omega
theorem CsOk.fall_nn {ws st : Wins} (h : CsOk ws st) {i j : Nat} (hij : i ≤ j) : 0 ≤ fall st i j := by have := psum_mono h.dns hij; unfold fall; omega
theorem le_bH {ws st : Wins} (hok : CsOk ws st) {x : Int} (hn : 0 < ws.length) : ∀ {k : Nat}, k < ws.length → (x ≤ bH ws st ws.length k ↔ ∀ j, j < ws.length → x ≤ gH ws st (ws.length - 1 - k) j)
  | 0, hk => by
    show x ≤ fH ws st (ws.length - 1) ↔ _
    rw [le_fH]
    constructor
    · intro h j hj
      have := h j (by omega)
      unfold gH
      rcases Nat.lt_or_ge j (ws.length - 1) with hl | hl
      · rw [if_pos (by omega)]; exact this
      · rw [if_neg (by omega), if_neg (by omega)]
        obtain rfl : j = ws.length - 1 := by omega
        have e : rise st (ws.length - 1) (ws.length - 1) = 0 := by unfold rise; omega
        rw [e] at this
        simpa using this
    · intro h j hj
      have := h j (by omega)
      unfold gH at this
      rcases Nat.lt_or_ge j (ws.length - 1) with hl | hl
      · rw [if_pos (by omega)] at this; exact this
      · rw [if_neg (by omega), if_neg (by omega)] at this
        obtain rfl : j = ws.length - 1 := by omega
        have e : rise st (ws.length - 1) (ws.length - 1) = 0 := by unfold rise; omega
        rw [e]
        simpa using this
  | k + 1, hk => by
    show x ≤ min (fH ws st (ws.length - 1 - (k + 1))) (bH ws st ws.length k + dn st (ws.length - 1 - (k + 1))) ↔ _
    obtain ⟨i, hi'⟩ : ∃ i, i = ws.length - 1 - (k + 1) := ⟨_, rfl⟩
    have hi1 : ws.length - 1 - k = i + 1 := by omega
    have ih := @le_bH ws st hok (x - dn st i) hn k (by omega)
    rw [hi1] at ih
    rw [← hi']
    have hil : i + 1 < ws.length := by omega
    have ef : ∀ j, fall st i j = fall st (i + 1) j + dn st i := fun j => by
      unfold fall
      have : psum (dn st) (i + 1) = psum (dn st) i + dn st i := rfl
      omega
    have er : ∀ j, rise st j (i + 1) = rise st j i + up st i := fun j => by
      unfold rise
      have : psum (up st) (i + 1) = psum (up st) i + up st i := rfl
      omega
    have hu := hok.ups i
    have hd := hok.dns i
    constructor
    · intro h j hj
      have h1 : x ≤ fH ws st i := by omega
      have h2 := ih.1 (by omega) j hj
      rw [le_fH] at h1
      unfold gH at h2 ⊢
      rcases Nat.lt_trichotomy j i with hl | hl | hl
      · rw [if_pos hl]; exact h1 j (by omega)
      · rw [if_neg (by omega), if_neg (by omega)]
        have := h1 j (by omega)
        subst hl
        have e : rise st j j = 0 := by unfold rise; omega
        rw [e] at this
        simpa using this
      · rw [if_neg (by omega), if_pos hl, ef]
        rcases Nat.lt_or_ge (i + 1) j with hl2 | hl2
        · rw [if_neg (by omega), if_pos hl2] at h2; omega
        · rw [if_neg (by omega), if_neg (by omega)] at h2
          obtain rfl : j = i + 1 := by omega
          have e : fall st (i + 1) (i + 1) = 0 := by unfold fall; omega
          rw [e]; omega
    · intro h
      have h1 : x ≤ fH ws st i := by
        rw [le_fH]
        intro j hj
        have := h j (by omega)
        unfold gH at this
        rcases Nat.lt_or_ge j i with hl | hl
        · rw [if_pos hl] at this; exact this
        · rw [if_neg (by omega), if_neg (by omega)] at this
          obtain rfl : j = i := by omega
          have e : rise st j j = 0 := by unfold rise; omega
          rw [e]; simpa using this
      have h2 : x - dn st i ≤ bH ws st ws.length k := by
        rw [ih]
        intro j hj
        have := h j hj
        unfold gH at this ⊢
        rcases Nat.lt_trichotomy j i with hl | hl | hl
        · rw [if_pos hl] at this
          rw [if_pos (by omega), er]; omega
        · rw [if_neg (by omega), if_neg (by omega)] at this
          rw [if_pos (by omega), er]
          subst hl
          have e : rise st j j = 0 := by unfold rise; omega
          rw [e]; omega
        · rw [if_neg (by omega), if_pos hl, ef] at this
          rcases Nat.lt_or_ge (i + 1) j with hl2 | hl2
          · rw [if_neg (by omega), if_pos hl2]; omega
          · rw [if_neg (by omega), if_neg (by omega)]
            obtain rfl : j = i + 1 := by omega
            have e : fall st (i + 1) (i + 1) = 0 := by unfold fall; omega
            rw [e] at this; omega
      omega
theorem bL_le {ws st : Wins} (hok : CsOk ws st) {x : Int} (hn : 0 < ws.length) : ∀ {k : Nat}, k < ws.length → (bL ws st ws.length k ≤ x ↔ ∀ j, j < ws.length → gL ws st (ws.length - 1 - k) j ≤ x)
  | 0, hk => by
    show fL ws st (ws.length - 1) ≤ x ↔ _
    rw [fL_le]
    constructor
    · intro h j hj
      have := h j (by omega)
      unfold gL
      rcases Nat.lt_or_ge j (ws.length - 1) with hl | hl
      · rw [if_pos (by omega)]; exact this
      · rw [if_neg (by omega), if_neg (by omega)]
        obtain rfl : j = ws.length - 1 := by omega
        have e : fall st (ws.length - 1) (ws.length - 1) = 0 := by unfold fall; omega
        rw [e] at this
        simpa using this
    · intro h j hj
      have := h j (by omega)
      unfold gL at this
      rcases Nat.lt_or_ge j (ws.length - 1) with hl | hl
      · rw [if_pos (by omega)] at this; exact this
      · rw [if_neg (by omega), if_neg (by omega)] at this
        obtain rfl : j = ws.length - 1 := by omega
        have e : fall st (ws.length - 1) (ws.length - 1) = 0 := by unfold fall; omega
        rw [e]
        simpa using this
  | k + 1, hk => by
    show max (fL ws st (ws.length - 1 - (k + 1))) (bL ws st ws.length k - up st (ws.length - 1 - (k + 1))) ≤ x ↔ _
    obtain ⟨i, hi'⟩ : ∃ i, i = ws.length - 1 - (k + 1) := ⟨_, rfl⟩
    have hi1 : ws.length - 1 - k = i + 1 := by omega
    have ih := @bL_le ws st hok (x + up st i) hn k (by omega)
    rw [hi1] at ih
    rw [← hi']
    have hil : i + 1 < ws.length := by omega
    have er : ∀ j, rise st i j = rise st (i + 1) j + up st i := fun j => by
      unfold rise
      have : psum (up st) (i + 1) = psum (up st) i + up st i := rfl
      omega
    have ef : ∀ j, fall st j (i + 1) = fall st j i + dn st i := fun j => by
      unfold fall
      have : psum (dn st) (i + 1) = psum (dn st) i + dn st i := rfl
      omega
    have hu := hok.ups i
    have hd := hok.dns i
    constructor
    · intro h j hj
      have h1 : fL ws st i ≤ x := by omega
      have h2 := ih.1 (by omega) j hj
      rw [fL_le] at h1
      unfold gL at h2 ⊢
      rcases Nat.lt_trichotomy j i with hl | hl | hl
      · rw [if_pos hl]; exact h1 j (by omega)
      · rw [if_neg (by omega), if_neg (by omega)]
        have := h1 j (by omega)
        subst hl
        have e : fall st j j = 0 := by unfold fall; omega
        rw [e] at this
        simpa using this
      · rw [if_neg (by omega), if_pos hl, er]
        rcases Nat.lt_or_ge (i + 1) j with hl2 | hl2
        · rw [if_neg (by omega), if_pos hl2] at h2; omega
        · rw [if_neg (by omega), if_neg (by omega)] at h2
          obtain rfl : j = i + 1 := by omega
          have e : rise st (i + 1) (i + 1) = 0 := by unfold rise; omega
          rw [e]; omega
    · intro h
      have h1 : fL ws st i ≤ x := by
        rw [fL_le]
        intro j hj
        have := h j (by omega)
        unfold gL at this
        rcases Nat.lt_or_ge j i with hl | hl
        · rw [if_pos hl] at this; exact this
        · rw [if_neg (by omega), if_neg (by omega)] at this
          obtain rfl : j = i := by omega
          have e : fall st j j = 0 := by unfold fall; omega
          rw [e]; simpa using this
      have h2 : bL ws st ws.length k ≤ x + up st i := by
        rw [ih]
        intro j hj
        have := h j hj
        unfold gL at this ⊢
        rcases Nat.lt_trichotomy j i with hl | hl | hl
        · rw [if_pos hl] at this
          rw [if_pos (by omega), ef]; omega
        · rw [if_neg (by omega), if_neg (by omega)] at this
          rw [if_pos (by omega), ef]
          subst hl
          have e : fall st j j = 0 := by unfold fall; omega
          rw [e]; omega
        · rw [if_neg (by omega), if_pos hl, er] at this
          rcases Nat.lt_or_ge (i + 1) j with hl2 | hl2
          · rw [if_neg (by omega), if_pos hl2]; omega
          · rw [if_neg (by omega), if_neg (by omega)]
            obtain rfl : j = i + 1 := by omega
            have e : rise st (i + 1) (i + 1) = 0 := by unfold rise; omega
            rw [e] at this; omega
      omega
/-- the two passes compute the tightened windows -/
theorem bH_eq {ws st : Wins} (hok : CsOk ws st) {i : Nat} (hi' : i < ws.length) : bH ws st ws.length (ws.length - 1 - i) = tH ws st i := by
  have e : ws.length - 1 - (ws.length - 1 - i) = i := by omega
  have h1 : ∀ x, x ≤ bH ws st ws.length (ws.length - 1 - i) ↔ x ≤ tH ws st i := fun x => by
    rw [le_bH hok (by omega) (by omega), e, le_tH hi']
  have a := (h1 _).1 (Int.le_refl _)
  have b := (h1 _).2 (Int.le_refl _)
  omega
theorem bL_eq {ws st : Wins} (hok : CsOk ws st) {i : Nat} (hi' : i < ws.length) : bL ws st ws.length (ws.length - 1 - i) = tL ws st i := by
  have e : ws.length - 1 - (ws.length - 1 - i) = i := by omega
  have h1 : ∀ x, bL ws st ws.length (ws.length - 1 - i) ≤ x ↔ tL ws st i ≤ x := fun x => by
    rw [bL_le hok (by omega) (by omega), e, tL_le hi']
  have a := (h1 _).1 (Int.le_refl _)
  have b := (h1 _).2 (Int.le_refl _)
  omega
end Go.Proofs.Cs
