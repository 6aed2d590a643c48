/- Plain arithmetic of layer 34 (no program in sight): the greatest distance at which a value is reached. -/
import Derived.Test.YtgmpaffoajmmmaaPfRPlain
namespace Go.Proofs.Pf
set_option linter.unusedSimpArgs false
set_option linter.unusedVariables false

/-- s is the greatest distance at which the value is at least a level -/
def WhP (v d : List Int) (lv s : Int) : Prop := 0 ≤ s ∧ s ≤ d.sum ∧ lv ≤ btw v d s ∧ ∀ t, s < t → t ≤ d.sum → btw v d t < lv
def Bey (v d : List Int) (lv a : Int) : Prop := ∀ t, a ≤ t → t ≤ d.sum → btw v d t < lv
theorem WhP.uniq {v d : List Int} {lv s t : Int} (h : WhP v d lv s) (g : WhP v d lv t) : s = t := by
  obtain ⟨h0, h1, h2, h3⟩ := h
  obtain ⟨g0, g1, g2, g3⟩ := g
  rcases Int.lt_trichotomy s t with hl | hl | hl
  · have := h3 t hl g1; omega
  · exact hl
  · have := g3 s hl h1; omega
theorem Bey.not {v d : List Int} {lv s : Int} (h : Bey v d lv 0) (g : WhP v d lv s) : False := by
  have := h s g.1 g.2.1
  have := g.2.2.1
  omega
theorem onV_up {a b x k l : Int} (hx : 0 < x) (hab : a ≤ b) (hkl : k ≤ l) : onV a b k x ≤ onV a b l x := by
  rw [onV_eq, onV_eq]
  have h1 : (b - a) * k ≤ (b - a) * l := Int.mul_le_mul_of_nonneg_left hkl (by omega)
  have h2 := Int.ediv_le_ediv hx h1
  omega
theorem onV_dn {a b x k l : Int} (hx : 0 < x) (hab : b ≤ a) (hkl : k ≤ l) : onV a b l x ≤ onV a b k x := by
  rw [onV_eq, onV_eq]
  have h1 : (b - a) * l ≤ (b - a) * k := Int.mul_le_mul_of_nonpos_left (by omega) hkl
  have h2 := Int.ediv_le_ediv hx h1
  omega
theorem onV_0 (a b x : Int) : onV a b 0 x = a := by unfold onV; rw [if_pos rfl]
/-- a leg of a chain: its place, its ends, its length -/
structure LegAt (v d : List Int) (i : Nat) (a b x P : Int) : Prop where
  va : v[i]? = some a
  vb : v[i + 1]? = some b
  dx : d[i]? = some x
  pl : (d.take i).sum = P
theorem LegAt.next {v d : List Int} {i : Nat} {a b x P : Int} (h : LegAt v d i a b x P) : (d.take (i + 1)).sum = P + x := by
  rw [take_sum_succ h.dx, h.pl]
theorem LegAt.val {v d : List Int} {i : Nat} {a b x P t : Int} (hok : ChOk v d) (h : LegAt v d i a b x P) (h0 : P ≤ t) (h1 : t < P + x) : btw v d t = onV a b (t - P) x := by
  have hp := h.pl
  subst hp
  exact btw_in hok h.va h.vb h.dx h0 h1
theorem bey_end {v d : List Int} {lv a : Int} (hok : ChOk v d) (ha : v[d.length]? = some a) (h : a < lv) : Bey v d lv d.sum := by
  intro t h0 h1
  have e : btw v d t = a := btw_at hok (Nat.le_refl _) ha (by rw [List.take_length]; omega) (fun x hx => by
    have := (List.getElem?_eq_some_iff.1 hx).1; omega)
  omega
theorem whP_end {v d : List Int} {lv a : Int} (hok : ChOk v d) (ha : v[d.length]? = some a) (h : lv ≤ a) : WhP v d lv d.sum := by
  refine ⟨(sum_nn hok.ds).1, Int.le_refl _, ?_, fun t h0 h1 => by omega⟩
  rw [btw_at hok (Nat.le_refl _) ha (by rw [List.take_length]) (fun x hx => by
    have := (List.getElem?_eq_some_iff.1 hx).1; omega)]
  exact h
theorem LegAt.place {v d : List Int} {i : Nat} {a b x P : Int} (hok : ChOk v d) (h : LegAt v d i a b x P) : 0 ≤ P ∧ P ≤ 8000000 * i ∧ 0 ≤ x ∧ x ≤ 8000000 ∧ P + x ≤ d.sum := by
  have h1 := sum_take_le hok.ds i
  have h2 := sum_take_le hok.ds (i + 1)
  have h3 := hok.ds x (List.mem_of_getElem? h.dx)
  rw [h.next] at h2
  rw [h.pl] at h1
  unfold okD at h3
  omega
theorem bey_skip {v d : List Int} {lv a b P : Int} {i : Nat} (h : LegAt v d i a b 0 P) (hb : Bey v d lv (P + 0)) : Bey v d lv P := by
  intro t h0 h1
  exact hb t (by omega) h1
/-- the last unit of a leg -/
theorem whP_last {v d : List Int} {lv a b x P : Int} {i : Nat} (hok : ChOk v d) (h : LegAt v d i a b x P) (hx : 0 < x) (hb : Bey v d lv (P + x)) (hv : lv ≤ onV a b (x - 1) x) : WhP v d lv (P + x - 1) := by
  have hp := h.place hok
  refine ⟨by omega, by omega, ?_, fun t h0 h1 => hb t (by omega) h1⟩
  rw [h.val hok (by omega) (by omega), show P + x - 1 - P = x - 1 by omega]
  exact hv
/-- what a search over a falling leg finds -/
theorem whP_find {v d : List Int} {lv a b x P : Int} {i k : Nat} (hok : ChOk v d) (h : LegAt v d i a b x P) (hx : 0 < x) (hb : Bey v d lv (P + x)) (hl : onV a b (x - 1) x < lv) (ha : lv ≤ a)
    (h1 : (k : Int) = x ∨ onV a b k x < lv) (h2 : k = 0 ∨ ¬ onV a b ((k : Int) - 1) x < lv) (hk : (k : Int) ≤ x) : 0 < k ∧ WhP v d lv (P + k - 1) := by
  have hp := h.place hok
  have hab : b ≤ a := by
    rcases Int.lt_or_le a b with hc | hc
    · have := onV_up (k := 0) (l := x - 1) hx (show a ≤ b by omega) (by omega)
      rw [onV_0] at this
      omega
    · exact hc
  have hk0 : 0 < k := by
    rcases Nat.eq_zero_or_pos k with hc | hc
    · subst hc
      rcases h1 with h1 | h1
      · simp at h1; omega
      · rw [show ((0 : Nat) : Int) = 0 from rfl, onV_0] at h1; omega
    · exact hc
  have h3 : lv ≤ onV a b ((k : Int) - 1) x := by
    rcases h2 with h2 | h2 <;> omega
  refine ⟨hk0, by omega, by omega, ?_, fun t h0 h4 => ?_⟩
  · rw [h.val hok (by omega) (by omega), show P + k - 1 - P = (k : Int) - 1 by omega]
    exact h3
  · rcases Int.lt_or_le t (P + x) with hc | hc
    · rw [h.val hok (by omega) hc]
      rcases h1 with h1 | h1
      · omega
      · have := onV_dn (k := (k : Int)) (l := t - P) hx hab (by omega)
        omega
    · exact hb t hc h4
/-- a leg that reaches the level nowhere -/
theorem bey_leg {v d : List Int} {lv a b x P : Int} {i : Nat} (hok : ChOk v d) (h : LegAt v d i a b x P) (hx : 0 < x) (hb : Bey v d lv (P + x)) (hl : onV a b (x - 1) x < lv) (ha : a < lv) : Bey v d lv P := by
  intro t h0 h1
  rcases Int.lt_or_le t (P + x) with hc | hc
  · rw [h.val hok h0 hc]
    rcases Int.lt_or_le a b with hd | hd
    · have := onV_up (k := t - P) (l := x - 1) hx (show a ≤ b by omega) (by omega)
      omega
    · have := onV_dn (k := 0) (l := t - P) hx hd (by omega)
      rw [onV_0] at this
      omega
  · exact hb t hc h1
/-- the reference: beyond node i (that node left out) nothing reaches the level -/
def Bex (v d : List Int) (lv a : Int) : Prop := ∀ t, a < t → t ≤ d.sum → btw v d t < lv
theorem Bey.bex {v d : List Int} {lv a : Int} (h : Bey v d lv a) : Bex v d lv a := fun t h0 h1 => h t (by omega) h1
theorem Bex.bey {v d : List Int} {lv a : Int} (h : Bex v d lv a) (ha : btw v d a < lv) : Bey v d lv a := fun t h0 h1 => by
  rcases Int.lt_or_eq_of_le h0 with hc | hc
  · exact h t hc h1
  · rw [← hc]; exact ha
theorem Bex.wh {v d : List Int} {lv a : Int} (h : Bex v d lv a) (ha : lv ≤ btw v d a) (h0 : 0 ≤ a) (h1 : a ≤ d.sum) : WhP v d lv a := ⟨h0, h1, ha, h⟩
theorem bex_last (v d : List Int) (lv : Int) : Bex v d lv d.sum := fun t h0 h1 => by omega
/-- a rising leg: its last unit decides -/
theorem bex_up {v d : List Int} {lv a b x P : Int} {i : Nat} (hok : ChOk v d) (h : LegAt v d i a b x P) (hab : a ≤ b) (hb : Bey v d lv (P + x)) (hl : P < P + x - 1 → btw v d (P + x - 1) < lv) : Bex v d lv P := by
  intro t h0 h1
  rcases Int.lt_or_le t (P + x) with hc | hc
  · have hp : P < P + x - 1 := by
      rcases Int.lt_or_le P (P + x - 1) with hd | hd
      · exact hd
      · omega
    have e := hl hp
    rw [h.val hok (by omega) (by omega)] at e
    rw [h.val hok (by omega) hc]
    have := onV_up (k := t - P) (l := P + x - 1 - P) (x := x) (a := a) (b := b) (by omega) hab (by omega)
    omega
  · exact hb t hc h1
theorem wh_up {v d : List Int} {lv x P : Int} (hb : Bey v d lv (P + x)) (h0 : 0 ≤ P) (h1 : P + x ≤ d.sum) (hp : P < P + x - 1) (hl : lv ≤ btw v d (P + x - 1)) : WhP v d lv (P + x - 1) :=
  ⟨by omega, by omega, hl, fun t h2 h3 => hb t (by omega) h3⟩
/-- the bisection on a falling leg -/
def BisR (v d : List Int) (lv P lo hi : Int) : Prop := P ≤ lo ∧ (lo ≤ hi ∨ lo = P) ∧ (lo = P ∨ lv ≤ btw v d lo) ∧ ∀ t, hi < t → t ≤ d.sum → P < t → btw v d t < lv
theorem bis_start {v d : List Int} {lv x P : Int} (hx : 0 ≤ x) (hb : Bey v d lv (P + x)) : BisR v d lv P P (P + x - 1) :=
  ⟨Int.le_refl _, .inr rfl, .inl rfl, fun t h0 h1 h2 => hb t (by omega) h1⟩
theorem bis_hi {v d : List Int} {lv P lo hi m : Int} (h : BisR v d lv P lo hi) (h1 : lo < m) (h2 : m ≤ hi) (hv : lv ≤ btw v d m) : BisR v d lv P m hi :=
  ⟨by have := h.1; omega, .inl h2, .inr hv, h.2.2.2⟩
theorem bis_lo {v d : List Int} {lv a b x P lo hi m : Int} {i : Nat} (hok : ChOk v d) (hL : LegAt v d i a b x P) (hab : b ≤ a) (hb : Bey v d lv (P + x)) (h : BisR v d lv P lo hi) (h1 : lo < m) (h2 : m ≤ hi) (h3 : hi < P + x) (hv : btw v d m < lv) : BisR v d lv P lo (m - 1) := by
  obtain ⟨g0, g1, g2, g3⟩ := h
  refine ⟨g0, by omega, g2, fun t h4 h5 h6 => ?_⟩
  rcases Int.lt_or_le t (P + x) with hc | hc
  · rw [hL.val hok (by omega) (by omega)] at hv
    rw [hL.val hok (by omega) hc]
    have := onV_dn (k := m - P) (l := t - P) (x := x) (a := a) (b := b) (by omega) hab (by omega)
    omega
  · exact hb t hc h5
theorem bis_wh {v d : List Int} {lv P lo hi : Int} (h : BisR v d lv P lo hi) (h1 : hi ≤ lo) (h2 : P < lo) (h0 : 0 ≤ P) (h3 : lo ≤ d.sum) : lv ≤ btw v d lo ∧ WhP v d lv lo := by
  obtain ⟨g0, g1, g2, g3⟩ := h
  have hv : lv ≤ btw v d lo := by rcases g2 with g2 | g2 <;> omega
  exact ⟨hv, by omega, h3, hv, fun t h4 h5 => g3 t (by omega) h5 (by omega)⟩
theorem bis_none {v d : List Int} {lv P hi : Int} (h : BisR v d lv P P hi) (h1 : hi ≤ P) : Bex v d lv P := fun t h2 h3 => h.2.2.2 t (by omega) h3 h2
end Go.Proofs.Pf
