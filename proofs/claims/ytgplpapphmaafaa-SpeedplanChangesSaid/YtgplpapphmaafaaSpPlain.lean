/- Plain arithmetic of layer 35 (no program in sight): steps, limits, the family of schedules, times of legs. -/
import Derived.Test.YtgplpapphmaafaaCsMeet
import Derived.Test.YtgplpapphmaafaaCsTPlain
namespace Go.Proofs.Sp
set_option linter.unusedSimpArgs false
set_option linter.unusedVariables false
open Pf (okD)
abbrev Wins := List (Int × Int)

def okV (x : Int) : Prop := 0 ≤ x ∧ x ≤ 1000
instance (x : Int) : Decidable (okV x) := by unfold okV; infer_instance
def okP (p : Int × Int) : Prop := okV p.1 ∧ okV p.2
instance (p : Int × Int) : Decidable (okP p) := by unfold okP; infer_instance
/-- Steps -/
def stE (d : List Int) (a c : Int) : Int := if 64 ≤ d.length then 3 else if ¬ (okV a ∧ okV c) then 2 else if ∀ x ∈ d, okD x then 0 else 2
def stF (a c x : Int) : Int × Int := (a * x / 6000, c * x / 6000)
def stL (d : List Int) (a c : Int) : Wins := d.map (stF a c)
theorem stE_3 {d : List Int} {a c : Int} (h : 64 ≤ d.length) : stE d a c = 3 := by unfold stE; rw [if_pos h]
theorem stE_2 {d : List Int} {a c : Int} (h : ¬ 64 ≤ d.length) (h2 : ¬ (okV a ∧ okV c)) : stE d a c = 2 := by unfold stE; rw [if_neg h, if_pos h2]
theorem stE_b {d : List Int} {a c x : Int} (h : ¬ 64 ≤ d.length) (h2 : okV a ∧ okV c) (hx : x ∈ d) (h3 : ¬ okD x) : stE d a c = 2 := by unfold stE; rw [if_neg h, if_neg (fun k => k h2), if_neg (fun k => h3 (k x hx))]
theorem stE_0 {d : List Int} {a c : Int} (h : ¬ 64 ≤ d.length) (h2 : okV a ∧ okV c) (h3 : ∀ x ∈ d, okD x) : stE d a c = 0 := by unfold stE; rw [if_neg h, if_neg (fun k => k h2), if_pos h3]
theorem st_prod {a x : Int} (ha : okV a) (hx : okD x) : 0 ≤ a * x ∧ a * x ≤ 8000000000 ∧ 0 ≤ a * x / 6000 ∧ a * x / 6000 ≤ 1333334 := by
  unfold okV at ha
  unfold okD at hx
  have h1 : 0 ≤ a * x := Int.mul_nonneg ha.1 hx.1
  have h2 : a * x ≤ 1000 * 8000000 := Int.mul_le_mul ha.2 hx.2 hx.1 (by omega)
  refine ⟨h1, by omega, by omega, by omega⟩
/-- Limit -/
def liE (zs : Wins) (al : List Int) (sp : Int) : Int := if 64 < zs.length then 3 else if al.length ≠ zs.length then 1 else if okV sp then 0 else 2
def liF (at_ sp : Int) (p : Int × Int) (h : Int) : Int × Int := if h < at_ then (p.1, min p.2 sp) else p
def liL (zs : Wins) (al : List Int) (at_ sp : Int) : Wins := List.zipWith (liF at_ sp) zs al
theorem liE_3 {zs : Wins} {al : List Int} {sp : Int} (h : 64 < zs.length) : liE zs al sp = 3 := by unfold liE; rw [if_pos h]
theorem liE_1 {zs : Wins} {al : List Int} {sp : Int} (h : ¬ 64 < zs.length) (h2 : al.length ≠ zs.length) : liE zs al sp = 1 := by unfold liE; rw [if_neg h, if_pos h2]
theorem liE_2 {zs : Wins} {al : List Int} {sp : Int} (h : ¬ 64 < zs.length) (h2 : al.length = zs.length) (h3 : ¬ okV sp) : liE zs al sp = 2 := by unfold liE; rw [if_neg h, if_neg (by omega), if_neg h3]
theorem liE_0 {zs : Wins} {al : List Int} {sp : Int} (h : ¬ 64 < zs.length) (h2 : al.length = zs.length) (h3 : okV sp) : liE zs al sp = 0 := by unfold liE; rw [if_neg h, if_neg (by omega), if_pos h3]
theorem liL_len {zs : Wins} {al : List Int} {a s : Int} (h : al.length = zs.length) : (liL zs al a s).length = zs.length := by unfold liL; rw [List.length_zipWith]; omega
theorem liL_get {zs : Wins} {al : List Int} {a s : Int} {k : Nat} {p : Int × Int} {h : Int} (hp : zs[k]? = some p) (hh : al[k]? = some h) : (liL zs al a s)[k]? = some (liF a s p h) := by
  unfold liL
  rw [List.getElem?_zipWith, hp, hh]
/-- the error of a chain of speeds -/
def rdE (zs ys : Wins) : Int := if Cs.chkE zs ys ≠ 0 then Cs.chkE zs ys else if ∀ p ∈ zs, okP p then 0 else 2
theorem rdE_c {zs ys : Wins} (h : Cs.chkE zs ys ≠ 0) : rdE zs ys = Cs.chkE zs ys := by unfold rdE; rw [if_pos h]
theorem rdE_b {zs ys : Wins} {p : Int × Int} (h : Cs.chkE zs ys = 0) (hp : p ∈ zs) (h2 : ¬ okP p) : rdE zs ys = 2 := by unfold rdE; rw [if_neg (by omega), if_neg (fun k => h2 (k p hp))]
theorem rdE_ok {zs ys : Wins} (h : Cs.chkE zs ys = 0) (h2 : ∀ p ∈ zs, okP p) : rdE zs ys = 0 := by unfold rdE; rw [if_neg (by omega), if_pos h2]
theorem rdE_0 {zs ys : Wins} (h : rdE zs ys = 0) : Cs.chkE zs ys = 0 ∧ ∀ p ∈ zs, okP p := by
  by_cases hc : Cs.chkE zs ys = 0
  · by_cases h2 : ∀ p ∈ zs, okP p
    · exact ⟨hc, h2⟩
    · unfold rdE at h; rw [if_neg (by omega), if_neg h2] at h; omega
  · rw [rdE_c hc] at h; omega
/-- Family and Span -/
def faE (zs ys : Wins) (k : Int) : Int := if rdE zs ys ≠ 0 then rdE zs ys else if okV k then Cs.tgE zs ys else 2
def faF (k : Int) (p : Int × Int) : Int := min p.2 (p.1 + k)
def faL (zs ys : Wins) (k : Int) : List Int := (Cs.tight zs ys).map (faF k)
def spE (zs ys : Wins) : Int := if rdE zs ys ≠ 0 then rdE zs ys else Cs.tgE zs ys
def spM : Wins → Int → Int
  | [], m => m
  | p :: t, m => spM t (max m (p.2 - p.1))
def spV (zs ys : Wins) : Int := spM (Cs.tight zs ys) 0
theorem spM_append (l t : Wins) (m : Int) : spM (l ++ t) m = spM t (spM l m) := by
  induction l generalizing m with
  | nil => rfl
  | cons p l ih => exact ih _
theorem faE_r {zs ys : Wins} {k : Int} (h : rdE zs ys ≠ 0) : faE zs ys k = rdE zs ys := by unfold faE; rw [if_pos h]
theorem faE_k {zs ys : Wins} {k : Int} (h : rdE zs ys = 0) (h2 : ¬ okV k) : faE zs ys k = 2 := by unfold faE; rw [if_neg (by omega), if_neg h2]
theorem faE_t {zs ys : Wins} {k : Int} (h : rdE zs ys = 0) (h2 : okV k) : faE zs ys k = Cs.tgE zs ys := by unfold faE; rw [if_neg (by omega), if_pos h2]
theorem spE_r {zs ys : Wins} (h : rdE zs ys ≠ 0) : spE zs ys = rdE zs ys := by unfold spE; rw [if_pos h]
theorem spE_t {zs ys : Wins} (h : rdE zs ys = 0) : spE zs ys = Cs.tgE zs ys := by unfold spE; rw [if_neg (by omega)]
/-- the tightened windows of speeds are windows of speeds -/
theorem tight_ok {zs ys : Wins} (h : rdE zs ys = 0) (ht : Cs.tgE zs ys = 0) {i : Nat} (hi : i < zs.length) : okV (Cs.tL zs ys i) ∧ okV (Cs.tH zs ys i) ∧ Cs.tL zs ys i ≤ Cs.tH zs ys i := by
  obtain ⟨hc, hp⟩ := rdE_0 h
  have hok := Cs.csOk_of hc
  have hnc := Cs.confL_nil.1 (Cs.tgE_0 ht).2
  have h1 := Cs.tH_win hnc hi
  have h2 := Cs.tL_win hnc hi
  have h3 := Cs.tL_le_tH hok hnc hi
  have h4 := hp _ (List.mem_of_getElem? (Cs.get_ex2 hi))
  unfold okP okV at h4
  unfold okV
  simp only at h4
  omega
theorem tight_mem {zs ys : Wins} (h : rdE zs ys = 0) (ht : Cs.tgE zs ys = 0) {k : Nat} {p : Int × Int} (hp : (Cs.tight zs ys)[k]? = some p) : okV p.1 ∧ okV p.2 ∧ p.1 ≤ p.2 := by
  have hk := (List.getElem?_eq_some_iff.1 hp).1
  rw [Cs.tight_len] at hk
  rw [Cs.tight_get hk] at hp
  obtain rfl := Option.some.inj hp
  exact tight_ok h ht hk
/-- Ticks -/
def okG (x : Int) : Prop := 1 ≤ x ∧ x ≤ 5000
instance (x : Int) : Decidable (okG x) := by unfold okG; infer_instance
def tkE (d g : List Int) : Int := if d.length ≠ g.length then 1 else if 64 < d.length then 3 else if (∀ x ∈ d, okD x) ∧ ∀ x ∈ g, okG x then 0 else 2
def tkF (d g : Int) : Int := (d + g - 1) / g
def tkL (d g : List Int) : List Int := List.zipWith tkF d g
theorem tkE_1 {d g : List Int} (h : d.length ≠ g.length) : tkE d g = 1 := by unfold tkE; rw [if_pos h]
theorem tkE_3 {d g : List Int} (h : d.length = g.length) (h2 : 64 < d.length) : tkE d g = 3 := by unfold tkE; rw [if_neg (by omega), if_pos h2]
theorem tkE_b {d g : List Int} (h : d.length = g.length) (h2 : ¬ 64 < d.length) (h3 : ¬ ((∀ x ∈ d, okD x) ∧ ∀ x ∈ g, okG x)) : tkE d g = 2 := by unfold tkE; rw [if_neg (by omega), if_neg h2, if_neg h3]
theorem tkE_0 {d g : List Int} (h : d.length = g.length) (h2 : ¬ 64 < d.length) (h3 : ∀ x ∈ d, okD x) (h4 : ∀ x ∈ g, okG x) : tkE d g = 0 := by unfold tkE; rw [if_neg (by omega), if_neg h2, if_pos ⟨h3, h4⟩]
theorem tkE_ok {d g : List Int} (h : tkE d g = 0) : d.length = g.length ∧ d.length ≤ 64 ∧ (∀ x ∈ d, okD x) ∧ ∀ x ∈ g, okG x := by
  by_cases h1 : d.length = g.length
  · by_cases h2 : 64 < d.length
    · rw [tkE_3 h1 h2] at h; omega
    · by_cases h3 : (∀ x ∈ d, okD x) ∧ ∀ x ∈ g, okG x
      · exact ⟨h1, by omega, h3.1, h3.2⟩
      · rw [tkE_b h1 h2 h3] at h; omega
  · rw [tkE_1 h1] at h; omega
theorem tkL_len {d g : List Int} (h : d.length = g.length) : (tkL d g).length = d.length := by unfold tkL; rw [List.length_zipWith]; omega
theorem tkL_get {d g : List Int} {k : Nat} {x y : Int} (hx : d[k]? = some x) (hy : g[k]? = some y) : (tkL d g)[k]? = some (tkF x y) := by
  unfold tkL
  rw [List.getElem?_zipWith, hx, hy]
theorem tk_bd {x y : Int} (hx : okD x) (hy : okG y) : 0 ≤ tkF x y ∧ tkF x y ≤ x ∧ x ≤ tkF x y * y ∧ (0 < tkF x y → (tkF x y - 1) * y < x) := by
  unfold okD at hx
  unfold okG at hy
  unfold tkF
  have h1 := Int.emod_add_mul_ediv (x + y - 1) y
  have h2 := Int.emod_nonneg (x + y - 1) (show y ≠ 0 by omega)
  have h3 := Int.emod_lt_of_pos (x + y - 1) (show 0 < y by omega)
  have h0 : 0 ≤ (x + y - 1) / y := Int.ediv_nonneg (by omega) (by omega)
  have e : (x + y - 1) / y * y = y * ((x + y - 1) / y) := Int.mul_comm _ _
  refine ⟨h0, ?_, by omega, fun _ => ?_⟩
  · rcases Int.lt_or_le x 1 with h | h
    · obtain rfl : x = 0 := by omega
      rw [Int.ediv_eq_zero_of_lt (by omega) (by omega)]
      omega
    · have h5 : x + y - 1 ≤ x * y := by
        have : (x - 1) * (y - 1) ≥ 0 := Int.mul_nonneg (by omega) (by omega)
        rw [Int.sub_mul, Int.mul_sub, Int.one_mul, Int.mul_one] at this
        omega
      have h6 := Int.ediv_le_ediv (show 0 < y by omega) h5
      rwa [Int.mul_ediv_cancel x (by omega)] at h6
  · rw [Int.sub_mul]; omega
theorem tk_mono {x y z : Int} (hx : okD x) (hy : okG y) (hyz : y ≤ z) : tkF x z ≤ tkF x y := by
  have h1 := tk_bd hx hy
  unfold okD at hx
  unfold okG at hy
  have h2 : x ≤ tkF x y * z := Int.le_trans h1.2.2.1 (Int.mul_le_mul_of_nonneg_left hyz h1.1)
  unfold tkF at h2 ⊢
  have h3 : x + z - 1 < ((x + y - 1) / y + 1) * z := by rw [Int.add_mul]; omega
  have h4 := Int.ediv_lt_of_lt_mul (show 0 < z by omega) h3
  omega
end Go.Proofs.Sp
