/- Plain arithmetic of layer 51 (no program in sight). -/
import Derived.Test.YtgclfkgnkohgdaaPfRPlain
namespace Go.Proofs.Vt
set_option linter.unusedSimpArgs false
set_option linter.unusedVariables false

def okAlt (a : Int) : Prop := -200000 ≤ a ∧ a ≤ 6000000
instance (x : Int) : Decidable (okAlt x) := by unfold okAlt; infer_instance
def okRate (a : Int) : Prop := -10000 ≤ a ∧ a ≤ 10000
instance (x : Int) : Decidable (okRate x) := by unfold okRate; infer_instance
/-- the command towards a target: its size -/
def mag (d m : Int) : Int := min ((d + 15) / 16) m
def okCm (a t m : Int) : Prop := okAlt a ∧ okAlt t ∧ 0 ≤ m ∧ m ≤ 10000
instance (a t m : Int) : Decidable (okCm a t m) := by unfold okCm; infer_instance
def cmV (a t m : Int) : Int := if okCm a t m then (if t < a then -mag (a - t) m else mag (t - a) m) else 0
def cmE (a t m : Int) : Int := if okCm a t m then 0 else 2
def clmp (x lo hi : Int) : Int := if x < lo then lo else if hi < x then hi else x
def okLm (l x : Int) : Prop := okRate l ∧ okRate x
instance (l x : Int) : Decidable (okLm l x) := by unfold okLm; infer_instance
def lmV (l x : Int) : Int := if okLm l x then clmp x (l - 40) (l + 40) else 0
def lmE (l x : Int) : Int := if okLm l x then 0 else 2
def okCp (a v t : Int) : Prop := okAlt a ∧ okAlt t ∧ okRate v
instance (a v t : Int) : Decidable (okCp a v t) := by unfold okCp; infer_instance
def cpB (a v t : Int) : Bool := if okCp a v t then (if t = a then true else if a < t then decide (t - a ≤ 16 * v) else decide (16 * v ≤ t - a)) else false
def cpE (a v t : Int) : Int := if okCp a v t then 0 else 2
theorem mag_bd {d m : Int} (h0 : 0 ≤ d) (h1 : 0 ≤ m) : 0 ≤ mag d m ∧ mag d m ≤ m ∧ mag d m ≤ d ∧ (0 < d → 0 < m → 0 < mag d m) := by
  unfold mag
  omega
theorem ceil16 {d : Int} (h0 : 0 ≤ d) (h1 : d ≤ 10000000) : Fx.scV 1 d 1 16 = (d + 15) / 16 ∧ Fx.scE 1 d 1 16 = 0 := by
  have e : Fx.rqz 1 (d * 1) 16 = (d + 15) / 16 := by
    unfold Fx.rqz Fx.rq
    rw [if_neg (by omega), if_neg (by omega), if_pos rfl]
    omega
  have hr : Fx.inR ((d + 15) / 16) := by unfold Fx.inR; omega
  rw [Fx.scV_eq 1 d 1 16 (by omega), Fx.scE_eq 1 d 1 16 (by omega), e, if_pos hr, if_pos hr]
  exact ⟨rfl, rfl⟩
theorem okCm_no {a t m : Int} (h : ¬ okCm a t m) : cmV a t m = 0 ∧ cmE a t m = 2 := by unfold cmV cmE; rw [if_neg h, if_neg h]; exact ⟨rfl, rfl⟩
theorem okCm_up {a t m : Int} (h : okCm a t m) (h2 : ¬ t < a) : cmV a t m = mag (t - a) m ∧ cmE a t m = 0 := by unfold cmV cmE; rw [if_pos h, if_pos h, if_neg h2]; exact ⟨rfl, rfl⟩
theorem okCm_dn {a t m : Int} (h : okCm a t m) (h2 : t < a) : cmV a t m = -mag (a - t) m ∧ cmE a t m = 0 := by unfold cmV cmE; rw [if_pos h, if_pos h, if_pos h2]; exact ⟨rfl, rfl⟩
theorem clmp_eq (x lo hi : Int) (h : lo ≤ hi) : clmp x lo hi = min (max x lo) hi := by
  unfold clmp
  split
  · omega
  · split <;> omega
/-- the vertical speed along the path -/
def ptw : List Int → List Int → Int → Int → Int
  | a :: b :: vs, x :: ds, s, g => if x ≤ s then ptw (b :: vs) ds (s - x) g else clmp ((b - a) * g / x) (-10000) 10000
  | _, _, _, _ => 0
def ptE (v d : List Int) (s g : Int) : Int := if Pf.bwE v d s ≠ 0 then Pf.bwE v d s else if g < 1 ∨ 5000 < g then 2 else 0
def ptV (v d : List Int) (s g : Int) : Int := if ptE v d s g = 0 then ptw v d s g else 0
theorem ptE_bw {v d : List Int} {s g : Int} (h : Pf.bwE v d s ≠ 0) : ptE v d s g = Pf.bwE v d s ∧ ptV v d s g = 0 := by
  have : ptE v d s g = Pf.bwE v d s := by unfold ptE; rw [if_pos h]
  exact ⟨this, by unfold ptV; rw [this, if_neg h]⟩
theorem ptE_g {v d : List Int} {s g : Int} (h : Pf.bwE v d s = 0) (hg : g < 1 ∨ 5000 < g) : ptE v d s g = 2 ∧ ptV v d s g = 0 := by
  have : ptE v d s g = 2 := by unfold ptE; rw [if_neg (by omega), if_pos hg]
  exact ⟨this, by unfold ptV; rw [this, if_neg (by omega)]⟩
theorem ptE_ok {v d : List Int} {s g : Int} (h : Pf.bwE v d s = 0) (hg : ¬ (g < 1 ∨ 5000 < g)) : ptE v d s g = 0 ∧ ptV v d s g = ptw v d s g := by
  have : ptE v d s g = 0 := by unfold ptE; rw [if_neg (by omega), if_neg hg]
  exact ⟨this, by unfold ptV; rw [this, if_pos rfl]⟩
theorem ptw_step {v d : List Int} {k : Nat} {a b x s g : Int} (h0 : v[k]? = some a) (h1 : v[k + 1]? = some b) (hd : d[k]? = some x) (h : x ≤ s) :
    ptw (v.drop k) (d.drop k) s g = ptw (v.drop (k + 1)) (d.drop (k + 1)) (s - x) g := by
  rw [Pf.drop_two h0 h1, Pf.drop_one hd, Pf.drop_one h1, ptw, if_pos h]
theorem ptw_stop {v d : List Int} {k : Nat} {a b x s g : Int} (h0 : v[k]? = some a) (h1 : v[k + 1]? = some b) (hd : d[k]? = some x) (h : s < x) :
    ptw (v.drop k) (d.drop k) s g = clmp ((b - a) * g / x) (-10000) 10000 := by
  rw [Pf.drop_two h0 h1, Pf.drop_one hd, ptw, if_neg (by omega)]
theorem ptw_end {v d : List Int} {k : Nat} {s g : Int} (hd : d.length ≤ k) : ptw (v.drop k) (d.drop k) s g = 0 := by
  rw [List.drop_of_length_le hd]
  rcases v.drop k with _ | ⟨a, _ | ⟨b, t⟩⟩ <;> rfl
theorem ptw_skip {v d : List Int} (hok : Pf.ChOk v d) {s g : Int} : ∀ k : Nat, k ≤ d.length → (d.take k).sum ≤ s → ptw v d s g = ptw (v.drop k) (d.drop k) (s - (d.take k).sum) g
  | 0, _, _ => by simp
  | k + 1, hk, hs => by
    have h2 := hok.two
    obtain ⟨x, hx⟩ : ∃ x, d[k]? = some x := ⟨_, List.getElem?_eq_getElem (by omega)⟩
    obtain ⟨a, ha⟩ : ∃ x, v[k]? = some x := ⟨_, List.getElem?_eq_getElem (by omega)⟩
    obtain ⟨b, hb⟩ : ∃ x, v[k + 1]? = some x := ⟨_, List.getElem?_eq_getElem (by omega)⟩
    have h3 := Pf.take_sum_succ hx
    have h4 := Pf.take_mono hok.ds (show k ≤ k + 1 by omega)
    rw [ptw_skip hok k (by omega) (by omega), ptw_step ha hb hx (by omega), h3]
    congr 1
    omega
/-- rates on a leg fit -/
theorem rate_sc {a b g x : Int} (ha : Pf.inB a) (hb : Pf.inB b) (h0 : 1 ≤ g) (h1 : g ≤ 5000) (hx : 0 < x) : -10995116277760000 ≤ (b - a) * g ∧ (b - a) * g ≤ 10995116277760000 ∧ -10995116277760000 ≤ (b - a) * g / x ∧ (b - a) * g / x ≤ 10995116277760000 ∧
    Fx.scV 0 (b - a) g x = (b - a) * g / x ∧ Fx.scV 0 ((b - a) * g) 1 x = (b - a) * g / x := by
  unfold Pf.inB at ha hb
  have h : ((b - a) * g).natAbs ≤ 2199023255552 * 5000 := by
    rw [Int.natAbs_mul]
    exact Nat.mul_le_mul (by omega) (by omega)
  have e : Fx.rqz 0 ((b - a) * g) x = (b - a) * g / x := by unfold Fx.rqz Fx.rq; rw [if_neg (by omega), if_pos rfl]
  have E1 := Fx.scV_eq 0 (b - a) g x (by omega)
  have E2 := Fx.scV_eq 0 ((b - a) * g) 1 x (by omega)
  rw [Int.mul_one] at E2
  rw [e] at E1 E2
  rw [E1, E2]
  clear E1 E2 e
  generalize (b - a) * g = X at *
  have b1 : -10995116277760000 ≤ X / x := by
    rw [Int.le_ediv_iff_mul_le hx]
    have : (-10995116277760000) * x ≤ (-10995116277760000) * 1 := Int.mul_le_mul_of_nonpos_left (by omega) (by omega)
    omega
  have b2 : X / x ≤ 10995116277760000 := by
    have : X / x < 10995116277760000 + 1 := by
      rw [Int.ediv_lt_iff_lt_mul hx]
      have : (10995116277760000 + 1) * 1 ≤ (10995116277760000 + 1) * x := Int.mul_le_mul_of_nonneg_left (by omega) (by omega)
      omega
    omega
  have hr : Fx.inR (X / x) := by unfold Fx.inR; omega
  rw [if_pos hr]
  exact ⟨by omega, by omega, b1, b2, rfl, rfl⟩
/-- the targets at a distance: error, altitude, vertical speed, speed -/
def stOk (va d : List Int) (s alt last : Int) : Prop := okAlt alt ∧ okAlt (Pf.bwV va d s) ∧ okRate last
instance (va d : List Int) (s alt last : Int) : Decidable (stOk va d s alt last) := by unfold stOk; infer_instance
def stE (va vc d : List Int) (s g alt last : Int) : Int := if ptE va d s g ≠ 0 then ptE va d s g else if stOk va d s alt last then Pf.bwE vc d s else 2
def stT (va vc d : List Int) (s g alt last : Int) : Int := if stE va vc d s g alt last = 0 then Pf.bwV va d s else 0
def stW (va vc d : List Int) (s g alt last : Int) : Int := if stE va vc d s g alt last = 0 then clmp (clmp (ptV va d s g + cmV alt (Pf.bwV va d s) 10000) (-10000) 10000) (last - 40) (last + 40) else 0
def stS (va vc d : List Int) (s g alt last : Int) : Int := if stE va vc d s g alt last = 0 then Pf.bwV vc d s else 0
theorem st_bad {va vc d : List Int} {s g alt last E : Int} (h : stE va vc d s g alt last = E) (hE : E ≠ 0) : stT va vc d s g alt last = 0 ∧ stW va vc d s g alt last = 0 ∧ stS va vc d s g alt last = 0 := by
  unfold stT stW stS
  rw [h, if_neg hE, if_neg hE, if_neg hE]
  exact ⟨rfl, rfl, rfl⟩
theorem st_good {va vc d : List Int} {s g alt last : Int} (h : stE va vc d s g alt last = 0) : stT va vc d s g alt last = Pf.bwV va d s ∧ stW va vc d s g alt last = clmp (clmp (ptV va d s g + cmV alt (Pf.bwV va d s) 10000) (-10000) 10000) (last - 40) (last + 40) ∧ stS va vc d s g alt last = Pf.bwV vc d s := by
  unfold stT stW stS
  rw [h, if_pos rfl, if_pos rfl, if_pos rfl]
  exact ⟨rfl, rfl, rfl⟩
theorem clmp_bd (x lo hi : Int) (h : lo ≤ hi) : lo ≤ clmp x lo hi ∧ clmp x lo hi ≤ hi := by
  rw [clmp_eq x lo hi h]; omega
theorem ptw_bd : ∀ (v d : List Int) (s g : Int), -10000 ≤ ptw v d s g ∧ ptw v d s g ≤ 10000
  | a :: b :: vs, x :: ds, s, g => by
    unfold ptw
    split
    · exact ptw_bd (b :: vs) ds (s - x) g
    · exact clmp_bd _ _ _ (by omega)
  | [], _, _, _ => by simp [ptw]
  | [_], _, _, _ => by simp [ptw]
  | _ :: _ :: _, [], _, _ => by simp [ptw]
theorem ptV_bd (v d : List Int) (s g : Int) : -10000 ≤ ptV v d s g ∧ ptV v d s g ≤ 10000 := by
  unfold ptV
  split
  · exact ptw_bd v d s g
  · omega
theorem cmV_bd (a t m : Int) (h0 : 0 ≤ m) (h1 : m ≤ 10000) : -10000 ≤ cmV a t m ∧ cmV a t m ≤ 10000 := by
  unfold cmV
  split
  · split
    · have := mag_bd (d := a - t) (m := m) (by omega) h0; omega
    · have := mag_bd (d := t - a) (m := m) (by omega) h0; omega
  · omega
theorem cmE_ok {a t : Int} (ha : okAlt a) (ht : okAlt t) : cmE a t 10000 = 0 := by unfold cmE; rw [if_pos ⟨ha, ht, by omega, by omega⟩]
theorem cmE_no {a t : Int} (h : ¬ (okAlt a ∧ okAlt t)) : cmE a t 10000 = 2 ∧ cmV a t 10000 = 0 := by unfold cmE cmV; rw [if_neg (fun k => h ⟨k.1, k.2.1⟩), if_neg (fun k => h ⟨k.1, k.2.1⟩)]; exact ⟨rfl, rfl⟩
theorem lm_ok {l x : Int} (hl : okRate l) (hx : okRate x) : lmE l x = 0 ∧ lmV l x = clmp x (l - 40) (l + 40) := by unfold lmE lmV; rw [if_pos ⟨hl, hx⟩, if_pos ⟨hl, hx⟩]; exact ⟨rfl, rfl⟩
theorem lm_no {l x : Int} (hl : ¬ okRate l) : lmE l x = 2 ∧ lmV l x = 0 := by unfold lmE lmV; rw [if_neg (fun k => hl k.1), if_neg (fun k => hl k.1)]; exact ⟨rfl, rfl⟩
theorem ptE_0 {v d : List Int} {s g : Int} (h : ptE v d s g = 0) : Pf.bwE v d s = 0 := by
  unfold ptE at h
  by_cases hb : Pf.bwE v d s = 0
  · exact hb
  · rw [if_pos hb] at h; exact absurd h hb
end Go.Proofs.Vt
