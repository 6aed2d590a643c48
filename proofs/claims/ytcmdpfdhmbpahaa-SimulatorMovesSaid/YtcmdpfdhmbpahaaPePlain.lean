/- Layer 31 in plain words: tables of performance. -/
namespace Go.Proofs.Pe
set_option linter.unusedSimpArgs false
set_option linter.unusedVariables false
/-- between two places -/
def ip (a b u v x : Int) : Int := u + (v - u) * (x - a) / (b - a)
/-- the value of a list of places and values at x -/
def iv : List (Int × Int) → Int → Int
  | [], _ => 0
  | [r], _ => r.2
  | r :: s :: t, x => if x ≤ r.1 then r.2 else if x ≤ s.1 then ip r.1 s.1 r.2 s.2 x else iv (s :: t) x
theorem ip_hi (a b u v : Int) (h : a < b) : ip a b u v b = v := by
  unfold ip
  rw [Int.mul_ediv_cancel _ (by omega)]
  omega
theorem ip_lo (a b u v : Int) : ip a b u v a = u := by
  unfold ip
  simp
theorem ip_up {a b u v x : Int} (h0 : a ≤ x) (h1 : x ≤ b) (hab : a < b) (h : u ≤ v) : u ≤ ip a b u v x ∧ ip a b u v x ≤ v := by
  unfold ip
  have p1 : 0 ≤ (v - u) * (x - a) := Int.mul_nonneg (by omega) (by omega)
  have p2 : (v - u) * (x - a) ≤ (v - u) * (b - a) := Int.mul_le_mul_of_nonneg_left (by omega) (by omega)
  have q1 : 0 ≤ (v - u) * (x - a) / (b - a) := Int.ediv_nonneg p1 (by omega)
  have q2 : (v - u) * (x - a) / (b - a) ≤ v - u := Int.ediv_le_of_le_mul (by omega) p2
  omega
theorem ip_down {a b u v x : Int} (h0 : a ≤ x) (h1 : x ≤ b) (hab : a < b) (h : v ≤ u) : v ≤ ip a b u v x ∧ ip a b u v x ≤ u := by
  unfold ip
  have p1 : 0 ≤ (u - v) * (x - a) := Int.mul_nonneg (by omega) (by omega)
  have p2 : (u - v) * (x - a) ≤ (u - v) * (b - a) := Int.mul_le_mul_of_nonneg_left (by omega) (by omega)
  have e : (v - u) * (x - a) = -((u - v) * (x - a)) := by rw [← Int.neg_mul]; congr 1; omega
  have e2 : (v - u) * (b - a) = -((u - v) * (b - a)) := by rw [← Int.neg_mul]; congr 1; omega
  have q1 : (v - u) * (x - a) / (b - a) ≤ 0 := by
    have := Int.ediv_le_ediv (show 0 < b - a by omega) (show (v - u) * (x - a) ≤ 0 by omega)
    simpa using this
  have q2 : v - u ≤ (v - u) * (x - a) / (b - a) := by
    rw [Int.le_ediv_iff_mul_le (by omega)]
    omega
  omega
theorem ip_bd {a b u v x lo hi : Int} (h0 : a ≤ x) (h1 : x ≤ b) (hab : a < b) (hu : lo ≤ u ∧ u ≤ hi) (hv : lo ≤ v ∧ v ≤ hi) : lo ≤ ip a b u v x ∧ ip a b u v x ≤ hi := by
  rcases Int.le_total u v with h | h
  · have := ip_up h0 h1 hab h; omega
  · have := ip_down h0 h1 hab h; omega
theorem ip_mono {a b u v u' v' x : Int} (h0 : a ≤ x) (h1 : x ≤ b) (hab : a < b) (hu : u ≤ u') (hv : v ≤ v') : ip a b u v x ≤ ip a b u' v' x := by
  unfold ip
  have e : ∀ p q : Int, p + (q - p) * (x - a) / (b - a) = (p * (b - x) + q * (x - a)) / (b - a) := by
    intro p q
    have : p * (b - x) + q * (x - a) = (q - p) * (x - a) + p * (b - a) := by
      simp only [Int.mul_sub, Int.sub_mul]; omega
    rw [this, Int.add_mul_ediv_right _ _ (by omega)]
    omega
  rw [e, e]
  have m1 : u * (b - x) ≤ u' * (b - x) := Int.mul_le_mul_of_nonneg_right hu (by omega)
  have m2 : v * (x - a) ≤ v' * (x - a) := Int.mul_le_mul_of_nonneg_right hv (by omega)
  exact Int.ediv_le_ediv (by omega) (by omega)
theorem ip_x {a b u v x y : Int} (hxy : x ≤ y) (hab : a < b) (h : u ≤ v) : ip a b u v x ≤ ip a b u v y := by
  unfold ip
  have : (v - u) * (x - a) ≤ (v - u) * (y - a) := Int.mul_le_mul_of_nonneg_left (by omega) (by omega)
  have := Int.ediv_le_ediv (show 0 < b - a by omega) this
  omega
/-! ### what iv is -/
theorem iv_head {L : List (Int × Int)} {r : Int × Int} {x : Int} (h : L[0]? = some r) (hx : x ≤ r.1) : iv L x = r.2 := by
  match L, h with
  | [q], h => simp at h; subst h; rfl
  | q :: s :: t, h => simp at h; subst h; unfold iv; rw [if_pos hx]
theorem iv_seg : ∀ (L : List (Int × Int)) (k : Nat) (r s : Int × Int) (x : Int), L[k]? = some r → L[k + 1]? = some s → (∀ (j : Nat) (q : Int × Int), j ≤ k → L[j]? = some q → q.1 < x) → x ≤ s.1 → iv L x = ip r.1 s.1 r.2 s.2 x
  | [], k, r, s, x, h, _, _, _ => by simp at h
  | [q], k, r, s, x, _, h, _, _ => by simp at h
  | q :: p :: t, 0, r, s, x, h0, h1, hb, hx => by
    simp at h0 h1
    subst h0 h1
    have := hb 0 q (Nat.le_refl _) rfl
    unfold iv
    rw [if_neg (by omega), if_pos hx]
  | q :: p :: t, k + 1, r, s, x, h0, h1, hb, hx => by
    have hq := hb 0 q (by omega) rfl
    have hp := hb 1 p (by omega) rfl
    unfold iv
    rw [if_neg (by omega), if_neg (by omega)]
    exact iv_seg (p :: t) k r s x (by simpa using h0) (by simpa using h1) (fun j z hj hz => hb (j + 1) z (by omega) (by simpa using hz)) hx
theorem iv_last : ∀ (L : List (Int × Int)) (k : Nat) (r : Int × Int) (x : Int), L.length = k + 1 → L[k]? = some r → (∀ (j : Nat) (q : Int × Int), L[j]? = some q → q.1 < x) → iv L x = r.2
  | [], k, r, x, h, _, _ => by simp at h
  | [q], k, r, x, h, h0, _ => by
    have : k = 0 := by simpa using h.symm
    subst this
    simp at h0; subst h0; rfl
  | q :: p :: t, 0, r, x, h, h0, hb => by simp at h
  | q :: p :: t, k + 1, r, x, h, h0, hb => by
    have hq := hb 0 q rfl
    have hp := hb 1 p rfl
    unfold iv
    rw [if_neg (by omega), if_neg (by omega)]
    exact iv_last (p :: t) k r x (by simpa using h) (by simpa using h0) (fun j z hz => hb (j + 1) z (by simpa using hz))
/-- places that rise strictly -/
def Asc (l : List Int) : Prop := ∀ i, i + 1 < l.length → l.getD i 0 < l.getD (i + 1) 0
def Up (l : List Int) : Prop := ∀ i, i + 1 < l.length → l.getD i 0 ≤ l.getD (i + 1) 0
def Down (l : List Int) : Prop := ∀ i, i + 1 < l.length → l.getD (i + 1) 0 ≤ l.getD i 0
instance (l : List Int) : Decidable (Asc l) := decidable_of_iff (∀ i, i < l.length - 1 → l.getD i 0 < l.getD (i + 1) 0) (by unfold Asc; constructor <;> (intro h i hi; exact h i (by omega)))
instance (l : List Int) : Decidable (Up l) := decidable_of_iff (∀ i, i < l.length - 1 → l.getD i 0 ≤ l.getD (i + 1) 0) (by unfold Up; constructor <;> (intro h i hi; exact h i (by omega)))
instance (l : List Int) : Decidable (Down l) := decidable_of_iff (∀ i, i < l.length - 1 → l.getD (i + 1) 0 ≤ l.getD i 0) (by unfold Down; constructor <;> (intro h i hi; exact h i (by omega)))
def AscP (L : List (Int × Int)) : Prop := Asc (L.map (·.1))
theorem ascP_cons {r s : Int × Int} {t : List (Int × Int)} (h : AscP (r :: s :: t)) : r.1 < s.1 ∧ AscP (s :: t) := by
  refine ⟨by simpa using h 0 (by simp), fun i hi => ?_⟩
  have := h (i + 1) (by simpa using hi)
  simpa using this
theorem iv_bd {lo hi : Int} : ∀ (L : List (Int × Int)) (x : Int), L ≠ [] → AscP L → (∀ r ∈ L, lo ≤ r.2 ∧ r.2 ≤ hi) → lo ≤ iv L x ∧ iv L x ≤ hi
  | [], x, h, _, _ => absurd rfl h
  | [r], x, _, _, hb => hb r (by simp)
  | r :: s :: t, x, _, ha, hb => by
    obtain ⟨h1, h2⟩ := ascP_cons ha
    unfold iv
    by_cases c1 : x ≤ r.1
    · rw [if_pos c1]; exact hb r (by simp)
    · rw [if_neg c1]
      by_cases c2 : x ≤ s.1
      · rw [if_pos c2]; exact ip_bd (by omega) c2 h1 (hb r (by simp)) (hb s (by simp))
      · rw [if_neg c2]; exact iv_bd (s :: t) x (by simp) h2 (fun q hq => hb q (List.mem_cons_of_mem _ hq))
/-- greater values at the same places -/
theorem iv_mono : ∀ (p u v : List Int) (x : Int), u.length = p.length → v.length = p.length → Asc p → (∀ i, i < p.length → u.getD i 0 ≤ v.getD i 0) → iv (p.zip u) x ≤ iv (p.zip v) x
  | [], u, v, x, _, _, _, _ => by simp [iv]
  | [a], u, v, x, hu, hv, _, h => by
    match u, hu, v, hv with
    | [c], _, [d], _ => have := h 0 (by simp); simpa [iv] using this
  | a :: b :: p, u, v, x, hu, hv, ha, h => by
    match u, hu, v, hv with
    | c :: c' :: u, hu, d :: d' :: v, hv =>
      have h0 := h 0 (by simp)
      have h1 := h 1 (by simp)
      have hab : a < b := by simpa using ha 0 (by simp)
      simp at h0 h1
      simp only [List.zip_cons_cons]
      unfold iv
      by_cases c1 : x ≤ a
      · rw [if_pos c1, if_pos c1]; exact h0
      · rw [if_neg c1, if_neg c1]
        by_cases c2 : x ≤ b
        · rw [if_pos c2, if_pos c2]; exact ip_mono (by omega) c2 hab h0 h1
        · rw [if_neg c2, if_neg c2]
          have := iv_mono (b :: p) (c' :: u) (d' :: v) x (by simpa using hu) (by simpa using hv) (fun i hi => by have := ha (i + 1) (by simpa using hi); simpa using this) (fun i hi => by have := h (i + 1) (by simpa using hi); simpa using this)
          simpa only [List.zip_cons_cons] using this
theorem iv_ge_head : ∀ (L : List (Int × Int)) (r : Int × Int) (x : Int), AscP (r :: L) → Up ((r :: L).map (·.2)) → r.2 ≤ iv (r :: L) x
  | [], r, x, _, _ => Int.le_refl _
  | s :: t, r, x, ha, hu => by
    obtain ⟨h1, h2⟩ := ascP_cons ha
    have h3 : r.2 ≤ s.2 := by simpa using hu 0 (by simp)
    have h4 : Up ((s :: t).map (·.2)) := fun i hi => by have := hu (i + 1) (by simpa using hi); simpa using this
    have h5 := iv_ge_head t s x h2 h4
    unfold iv
    by_cases c1 : x ≤ r.1
    · rw [if_pos c1]; exact Int.le_refl _
    · rw [if_neg c1]
      by_cases c2 : x ≤ s.1
      · rw [if_pos c2]; exact (ip_up (by omega) c2 h1 h3).1
      · rw [if_neg c2]; omega
/-- values that rise, at a greater x -/
theorem iv_x : ∀ (L : List (Int × Int)) (x y : Int), AscP L → Up (L.map (·.2)) → x ≤ y → iv L x ≤ iv L y
  | [], x, y, _, _, _ => Int.le_refl _
  | [r], x, y, _, _, _ => Int.le_refl _
  | r :: s :: t, x, y, ha, hu, hxy => by
    obtain ⟨h1, h2⟩ := ascP_cons ha
    have h3 : r.2 ≤ s.2 := by simpa using hu 0 (by simp)
    have h4 : Up ((s :: t).map (·.2)) := fun i hi => by have := hu (i + 1) (by simpa using hi); simpa using this
    by_cases c1 : x ≤ r.1
    · have e : iv (r :: s :: t) x = r.2 := by unfold iv; rw [if_pos c1]
      rw [e]; exact iv_ge_head (s :: t) r y ha hu
    · have c1' : ¬ y ≤ r.1 := by omega
      unfold iv
      rw [if_neg c1, if_neg c1']
      by_cases c2 : x ≤ s.1
      · rw [if_pos c2]
        by_cases c3 : y ≤ s.1
        · rw [if_pos c3]; exact ip_x hxy h1 h3
        · rw [if_neg c3]
          have := (ip_up (a := r.1) (x := x) (by omega) c2 h1 h3).2
          have := iv_ge_head t s y h2 h4
          omega
      · rw [if_neg c2, if_neg (by omega)]
        exact iv_x (s :: t) x y h2 h4 hxy
/-! ### the other search: the last place that is not above x -/
theorem asc_lt {l : List Int} (h : Asc l) {i j : Nat} (hij : i < j) (hj : j < l.length) : l.getD i 0 < l.getD j 0 := by
  induction j with
  | zero => omega
  | succ j ih =>
    have h1 := h j (by omega)
    by_cases e : i = j
    · subst e; exact h1
    · have := ih (by omega) (by omega); omega
theorem zip_get {p l : List Int} {i : Nat} (hl : l.length = p.length) (hi : i < p.length) : (p.zip l)[i]? = some (p.getD i 0, l.getD i 0) := by
  rw [List.getElem?_zip_eq_some]
  constructor
  · show p[i]? = some (p.getD i 0); rw [List.getD_eq_getElem?_getD, List.getElem?_eq_getElem hi]; rfl
  · show l[i]? = some (l.getD i 0); rw [List.getD_eq_getElem?_getD, List.getElem?_eq_getElem (by omega)]; rfl
theorem zip_get_inv {p l : List Int} {i : Nat} {q : Int × Int} (h : (p.zip l)[i]? = some q) : i < p.length ∧ q.1 = p.getD i 0 := by
  rw [List.getElem?_zip_eq_some] at h
  have := List.getElem?_eq_some_iff.1 h.1
  obtain ⟨h1, h2⟩ := this
  exact ⟨h1, by rw [List.getD_eq_getElem?_getD, h.1]; rfl⟩
theorem iv_ref_hd {p l : List Int} {x : Int} (hl : l.length = p.length) (h0 : 0 < p.length) (hx : x ≤ p.getD 0 0) : iv (p.zip l) x = l.getD 0 0 :=
  iv_head (zip_get hl h0) hx
theorem iv_ref_tl {p l : List Int} {x : Int} {n : Nat} (hl : l.length = p.length) (hn : p.length = n + 1) (ha : Asc p) (hx : p.getD n 0 ≤ x) : iv (p.zip l) x = l.getD n 0 := by
  by_cases h : p.getD n 0 < x
  · exact iv_last (p.zip l) n (p.getD n 0, l.getD n 0) x (by simp; omega) (zip_get hl (by omega)) (fun j q hq => by
      obtain ⟨h1, h2⟩ := zip_get_inv hq
      rw [h2]
      by_cases e : j = n
      · subst e; exact h
      · have := asc_lt ha (show j < n by omega) (by omega); omega)
  · have e : x = p.getD n 0 := by omega
    subst e
    match n, hn with
    | 0, hn => exact iv_head (zip_get hl (by omega)) (Int.le_refl _)
    | k + 1, hn =>
      rw [iv_seg (p.zip l) k _ _ _ (zip_get hl (by omega)) (zip_get hl (by omega)) (fun j q hj hq => by
        obtain ⟨h1, h2⟩ := zip_get_inv hq
        rw [h2]; exact asc_lt ha (by omega) (by omega)) (Int.le_refl _)]
      exact ip_hi _ _ _ _ (asc_lt ha (by omega) (by omega))
theorem iv_ref_mid {p l : List Int} {x : Int} {i : Nat} (hl : l.length = p.length) (hi : i + 1 < p.length) (ha : Asc p) (h0 : p.getD i 0 ≤ x) (h1 : x < p.getD (i + 1) 0) :
    iv (p.zip l) x = ip (p.getD i 0) (p.getD (i + 1) 0) (l.getD i 0) (l.getD (i + 1) 0) x := by
  by_cases h : p.getD i 0 < x
  · exact iv_seg (p.zip l) i _ _ _ (zip_get hl (by omega)) (zip_get hl hi) (fun j q hj hq => by
      obtain ⟨h1, h2⟩ := zip_get_inv hq
      rw [h2]
      by_cases e : j = i
      · subst e; exact h
      · have := asc_lt ha (show j < i by omega) (by omega); omega) (by simpa using Int.le_of_lt h1)
  · have e : x = p.getD i 0 := by omega
    subst e
    rw [ip_lo]
    match i, hi with
    | 0, hi => exact iv_head (zip_get hl (by omega)) (Int.le_refl _)
    | k + 1, hi =>
      rw [iv_seg (p.zip l) k _ _ _ (zip_get hl (by omega)) (zip_get hl (by omega)) (fun j q hj hq => by
        obtain ⟨h1, h2⟩ := zip_get_inv hq
        rw [h2]; exact asc_lt ha (by omega) (by omega)) (Int.le_refl _)]
      exact ip_hi _ _ _ _ (asc_lt ha (by omega) (by omega))
end Go.Proofs.Pe
