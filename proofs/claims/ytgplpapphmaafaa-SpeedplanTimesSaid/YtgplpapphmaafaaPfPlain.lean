/- Plain arithmetic of layer 34 (no program in sight): the value of a chain between its nodes. -/
import Derived.Test.YtgplpapphmaafaaFxMath
namespace Go.Proofs.Pf
set_option linter.unusedSimpArgs false
set_option linter.unusedVariables false

def inB (x : Int) : Prop := -1099511627776 ≤ x ∧ x ≤ 1099511627776
instance (x : Int) : Decidable (inB x) := by unfold inB; infer_instance
def okD (d : Int) : Prop := 0 ≤ d ∧ d ≤ 8000000
instance (x : Int) : Decidable (okD x) := by unfold okD; infer_instance
/-- the error of a chain -/
def chE (v d : List Int) : Int := if 64 < v.length then 3 else if v.length = 0 ∨ d.length + 1 ≠ v.length then 1 else if (∀ x ∈ v, inB x) ∧ ∀ x ∈ d, okD x then 0 else 2
structure ChOk (v d : List Int) : Prop where
  len : v.length ≤ 64
  two : v.length = d.length + 1
  vs : ∀ x ∈ v, inB x
  ds : ∀ x ∈ d, okD x
theorem chOk_of {v d : List Int} (h : chE v d = 0) : ChOk v d := by
  unfold chE at h
  by_cases h1 : 64 < v.length
  · rw [if_pos h1] at h; omega
  · rw [if_neg h1] at h
    by_cases h2 : v.length = 0 ∨ d.length + 1 ≠ v.length
    · rw [if_pos h2] at h; omega
    · rw [if_neg h2] at h
      by_cases h3 : (∀ x ∈ v, inB x) ∧ ∀ x ∈ d, okD x
      · exact ⟨by omega, by omega, h3.1, h3.2⟩
      · rw [if_neg h3] at h; omega
theorem ChOk.err {v d : List Int} (h : ChOk v d) : chE v d = 0 := by
  have h1 := h.len
  have h2 := h.two
  unfold chE
  rw [if_neg (by omega), if_neg (by omega), if_pos ⟨h.vs, h.ds⟩]
theorem chE_cases (v d : List Int) : chE v d = 0 ∨ chE v d = 1 ∨ chE v d = 2 ∨ chE v d = 3 := by
  unfold chE
  split
  · omega
  · split
    · omega
    · split <;> omega
def chV (v d : List Int) : Int := if chE v d = 0 then d.sum else 0
theorem sum_nn : ∀ {d : List Int}, (∀ x ∈ d, okD x) → 0 ≤ d.sum ∧ d.sum ≤ 8000000 * d.length
  | [], _ => by simp
  | x :: t, h => by
    have h1 := h x (by simp)
    have h2 := sum_nn (d := t) (fun y hy => h y (by simp [hy]))
    unfold okD at h1
    simp only [List.sum_cons, List.length_cons]
    omega
theorem sum_take_le {d : List Int} (h : ∀ x ∈ d, okD x) (k : Nat) : 0 ≤ (d.take k).sum ∧ (d.take k).sum ≤ 8000000 * k ∧ (d.take k).sum ≤ d.sum := by
  have h1 := sum_nn (d := d.take k) (fun x hx => h x (List.mem_of_mem_take hx))
  have h2 := sum_nn (d := d.drop k) (fun x hx => h x (List.mem_of_mem_drop hx))
  have h3 : (d.take k).sum + (d.drop k).sum = d.sum := by rw [← List.sum_append, List.take_append_drop]
  have h4 := List.length_take_le k d
  omega
theorem sum_snoc (l : List Int) (x : Int) : (l ++ [x]).sum = l.sum + x := by simp [List.sum_append]

/-- the value s units behind the chain's beginning -/
def btw : List Int → List Int → Int → Int
  | a :: b :: vs, d :: ds, s => if d ≤ s then btw (b :: vs) ds (s - d) else a + (b - a) * s / d
  | [a], _, _ => a
  | a :: _, [], _ => a
  | [], _, _ => 0
def bwE (v d : List Int) (s : Int) : Int := if chE v d ≠ 0 then chE v d else if s < 0 ∨ d.sum < s then 2 else 0
def bwV (v d : List Int) (s : Int) : Int := if bwE v d s = 0 then btw v d s else 0
theorem bwE_ch {v d : List Int} {s : Int} (h : chE v d ≠ 0) : bwE v d s = chE v d ∧ bwV v d s = 0 := by
  have : bwE v d s = chE v d := by unfold bwE; rw [if_pos h]
  exact ⟨this, by unfold bwV; rw [this, if_neg h]⟩
theorem bwE_out {v d : List Int} {s : Int} (h : chE v d = 0) (hs : s < 0 ∨ d.sum < s) : bwE v d s = 2 ∧ bwV v d s = 0 := by
  have : bwE v d s = 2 := by unfold bwE; rw [if_neg (by omega), if_pos hs]
  exact ⟨this, by unfold bwV; rw [this, if_neg (by omega)]⟩
theorem bwE_in {v d : List Int} {s : Int} (h : chE v d = 0) (h0 : 0 ≤ s) (h1 : s ≤ d.sum) : bwE v d s = 0 ∧ bwV v d s = btw v d s := by
  have : bwE v d s = 0 := by unfold bwE; rw [if_neg (by omega), if_neg (by omega)]
  exact ⟨this, by unfold bwV; rw [this, if_pos rfl]⟩
/-- the value a distance k behind a node, on a leg of length d -/
def onV (a b k d : Int) : Int := if k = 0 then a else a + (b - a) * k / d
theorem onV_eq (a b k d : Int) : onV a b k d = a + (b - a) * k / d := by
  unfold onV
  split
  · rename_i h; subst h; simp
  · rfl
theorem drop_two {α : Type} {l : List α} {k : Nat} {a b : α} (h0 : l[k]? = some a) (h1 : l[k + 1]? = some b) : l.drop k = a :: b :: l.drop (k + 2) := by
  obtain ⟨hk, rfl⟩ := List.getElem?_eq_some_iff.1 h0
  obtain ⟨hk1, rfl⟩ := List.getElem?_eq_some_iff.1 h1
  rw [List.drop_eq_getElem_cons hk, List.drop_eq_getElem_cons hk1]
theorem drop_one {α : Type} {l : List α} {k : Nat} {a : α} (h0 : l[k]? = some a) : l.drop k = a :: l.drop (k + 1) := by
  obtain ⟨hk, rfl⟩ := List.getElem?_eq_some_iff.1 h0
  rw [List.drop_eq_getElem_cons hk]
theorem btw_step {v d : List Int} {k : Nat} {a b x s : Int} (h0 : v[k]? = some a) (h1 : v[k + 1]? = some b) (hd : d[k]? = some x) (h : x ≤ s) :
    btw (v.drop k) (d.drop k) s = btw (v.drop (k + 1)) (d.drop (k + 1)) (s - x) := by
  rw [drop_two h0 h1, drop_one hd, drop_one h1]
  rw [btw, if_pos h]
theorem btw_stop {v d : List Int} {k : Nat} {a b x s : Int} (h0 : v[k]? = some a) (h1 : v[k + 1]? = some b) (hd : d[k]? = some x) (h : s < x) :
    btw (v.drop k) (d.drop k) s = onV a b s x := by
  rw [drop_two h0 h1, drop_one hd, onV_eq]
  rw [btw, if_neg (by omega)]
theorem btw_end {v d : List Int} {k : Nat} {a s : Int} (h0 : v[k]? = some a) (hd : d.length ≤ k) : btw (v.drop k) (d.drop k) s = a := by
  rw [drop_one h0, List.drop_of_length_le hd]
  cases v.drop (k + 1) <;> rfl
theorem prod_bd {a b k : Int} (ha : inB a) (hb : inB b) (h0 : 0 ≤ k) (h1 : k ≤ 8000000) : -17592186044416000000 ≤ (b - a) * k ∧ (b - a) * k ≤ 17592186044416000000 := by
  unfold inB at ha hb
  have h : ((b - a) * k).natAbs ≤ 2199023255552 * 8000000 := by
    rw [Int.natAbs_mul]
    exact Nat.mul_le_mul (by omega) (by omega)
  omega
/-- between two nodes the rise is at most their difference -/
theorem frac_bd {a b k d : Int} (h0 : 0 ≤ k) (h1 : k ≤ d) (hd : 0 < d) : (0 ≤ b - a → 0 ≤ (b - a) * k / d ∧ (b - a) * k / d ≤ b - a) ∧ (b - a ≤ 0 → b - a ≤ (b - a) * k / d ∧ (b - a) * k / d ≤ 0) := by
  generalize b - a = z
  refine ⟨fun hz => ⟨Int.ediv_nonneg (Int.mul_nonneg hz h0) (by omega), ?_⟩, fun hz => ⟨?_, ?_⟩⟩
  · have : z * k ≤ z * d := Int.mul_le_mul_of_nonneg_left h1 hz
    have h2 : z * k / d ≤ z * d / d := Int.ediv_le_ediv hd this
    rwa [Int.mul_ediv_cancel z (by omega)] at h2
  · have : z * d ≤ z * k := Int.mul_le_mul_of_nonpos_left hz h1
    have h2 : z * d / d ≤ z * k / d := Int.ediv_le_ediv hd this
    rwa [Int.mul_ediv_cancel z (by omega)] at h2
  · have : z * k ≤ 0 := Int.mul_nonpos_of_nonpos_of_nonneg hz h0
    have h2 : z * k / d ≤ 0 / d := Int.ediv_le_ediv hd this
    simpa using h2
/-- what MulDiv returns on a leg -/
theorem leg_sc {a b k d : Int} (ha : inB a) (hb : inB b) (h0 : 0 ≤ k) (h1 : k ≤ d) (hd : 0 < d) (hd2 : d ≤ 8000000) : Fx.scV 0 (b - a) k d = (b - a) * k / d := by
  have f := frac_bd (a := a) (b := b) h0 h1 hd
  have e : Fx.rqz 0 ((b - a) * k) d = (b - a) * k / d := by unfold Fx.rqz Fx.rq; rw [if_neg (by omega), if_pos rfl]
  have hr : Fx.inR ((b - a) * k / d) := by
    unfold Fx.inR
    unfold inB at ha hb
    rcases Int.lt_or_le (b - a) 0 with h | h
    · have := f.2 (by omega); omega
    · have := f.1 h; omega
  rw [Fx.scV_eq 0 _ k d (by omega), e, if_pos hr]
theorem leg_sc' {a b k d : Int} (ha : inB a) (hb : inB b) (h0 : 0 ≤ k) (h1 : k ≤ d) (hd : 0 < d) (hd2 : d ≤ 8000000) : Fx.scE 0 (b - a) k d = 0 := by
  have f := frac_bd (a := a) (b := b) h0 h1 hd
  have e : Fx.rqz 0 ((b - a) * k) d = (b - a) * k / d := by unfold Fx.rqz Fx.rq; rw [if_neg (by omega), if_pos rfl]
  have hr : Fx.inR ((b - a) * k / d) := by
    unfold Fx.inR
    unfold inB at ha hb
    rcases Int.lt_or_le (b - a) 0 with h | h
    · have := f.2 (by omega); omega
    · have := f.1 h; omega
  rw [Fx.scE_eq 0 _ k d (by omega), e, if_pos hr]
theorem onV_bd {a b k d : Int} (ha : inB a) (hb : inB b) (h0 : 0 ≤ k) (h1 : k ≤ d) (hd : 0 < d) : inB (onV a b k d) ∧ inB (a + (b - a) * k / d) := by
  have f := frac_bd (a := a) (b := b) h0 h1 hd
  rw [onV_eq]
  unfold inB at ha hb ⊢
  rcases Int.lt_or_le (b - a) 0 with h | h
  · have := f.2 (by omega); omega
  · have := f.1 h; omega
end Go.Proofs.Pf
