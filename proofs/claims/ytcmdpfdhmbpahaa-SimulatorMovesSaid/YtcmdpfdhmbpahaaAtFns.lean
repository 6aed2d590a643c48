/- Layer 29: the contracts of package atmosphere. -/
import Derived.Test.YtcmdpfdhmbpahaaAtVal
namespace Go.Proofs.Ytcmdpfdhmbpahaa
set_option linter.unusedSimpArgs false
set_option linter.unusedVariables false
open Go.RowKit

def flat : List (Int × Int) → List Value
  | [] => []
  | r :: t => .int .i64 r.1 :: .int .i64 r.2 :: flat t
theorem flat_get : ∀ (L : List (Int × Int)) (k : Nat) (r : Int × Int), L[k]? = some r → (flat L)[k * 2]? = some (.int .i64 r.1) ∧ (flat L)[k * 2 + 1]? = some (.int .i64 r.2)
  | [], k, r, h => by simp at h
  | x :: t, 0, r, h => by simp at h; subst h; exact ⟨rfl, rfl⟩
  | x :: t, k + 1, r, h => by
    have h2 := flat_get t k r (by simpa using h)
    rw [show (k + 1) * 2 = k * 2 + 1 + 1 from by omega, show k * 2 + 1 + 1 + 1 = (k * 2 + 1) + 1 + 1 from rfl]
    simpa [flat] using h2
theorem tabAt_new (w : World) (L : List (Int × Int)) (cs : Array Value) (t : TypeId) (h : cs.toList = flat L) : TabAt (w.alloc (.cells cs t)) w.heap.size 0 L := by
  refine ⟨by simp, fun k r hr => ?_⟩
  obtain ⟨h1, h2⟩ := flat_get L k r hr
  rw [← h, Array.getElem?_toList] at h1 h2
  rw [World.cell?_alloc_new, World.cell?_alloc_new, Nat.zero_add]
  exact ⟨h1, h2⟩
def risesB : List (Int × Int) → Bool
  | a :: b :: t => decide (a.1 < b.1) && risesB (b :: t)
  | _ => true
theorem rises_ok : ∀ (L : List (Int × Int)), risesB L = true → ∀ k r s, L[k]? = some r → L[k + 1]? = some s → r.1 < s.1
  | [], _, k, r, s, h, _ => by simp at h
  | [x], _, k, r, s, _, h => by simp at h
  | x :: y :: t, hB, k, r, s, h, h' => by
    simp only [risesB, Bool.and_eq_true, decide_eq_true_eq] at hB
    cases k with
    | zero => simp at h h'; subst h h'; exact hB.1
    | succ k => exact rises_ok (y :: t) hB.2 k r s (by simpa using h) (by simpa using h')
def smallB (L : List (Int × Int)) : Bool := L.all fun r => decide (-100000 ≤ r.1) && decide (r.1 ≤ 100000) && decide (-4000000 ≤ r.2) && decide (r.2 ≤ 4000000)
theorem tabOk_of (L : List (Int × Int)) (h1 : 2 ≤ L.length) (h2 : L.length ≤ 100) (h3 : smallB L = true) (h4 : risesB L = true) : TabOk L := by
  refine ⟨h1, h2, fun r hr => ?_, rises_ok L h4⟩
  have := List.all_eq_true.1 h3 r hr
  simp only [Bool.and_eq_true, decide_eq_true_eq] at this
  exact ⟨this.1.1.1, this.1.1.2, this.1.2, this.2⟩
theorem okP : TabOk At.tabP := tabOk_of _ (by decide) (by decide) (by decide) (by decide)
theorem okR : TabOk At.tabR := tabOk_of _ (by decide) (by decide) (by decide) (by decide)
theorem okT : TabOk At.tabT := tabOk_of _ (by decide) (by decide) (by decide) (by decide)
def tabPPost (w : World) (e : Ending) (w' : World) : Prop := ∃ b, e = .returned (.slice (some ⟨b, 0, none⟩) 14 14) ∧ TabAt w' b 0 At.tabP ∧ Below w.heap.size w w'
def tabRPost (w : World) (e : Ending) (w' : World) : Prop := ∃ b, e = .returned (.slice (some ⟨b, 0, none⟩) 14 14) ∧ TabAt w' b 0 At.tabR ∧ Below w.heap.size w w'
set_option maxRecDepth 100000 in
set_option maxHeartbeats 1000000 in
theorem tabR_any (w : World) : Calls Try.prog 98 #[] w (tabRPost w) := by
  go_enter Try.func98, Try.ntmps98
  go_wp2
  go_ret
  exact ⟨w.heap.size, rfl, tabAt_new w At.tabR _ _ (by rfl), (Below.refl _ _).alloc (Nat.le_refl _) _⟩
def tabTPost (w : World) (e : Ending) (w' : World) : Prop := ∃ b, e = .returned (.slice (some ⟨b, 0, none⟩) 4 4) ∧ TabAt w' b 0 At.tabT ∧ Below w.heap.size w w'
theorem outside_yes (alt : Int) (h : alt < -200000 ∨ 6000000 < alt) (w : World) : Calls Try.prog 122 #[.int .i64 alt] w fun e w' => e = .returned (.bool true) ∧ w = w' := by
  rcases h with h | h
  · go_enter Try.func122, Try.ntmps122
    go_wp2
    go_ret
    exact ⟨rfl, rfl⟩
  · have h' : ¬ alt < -200000 := by omega
    go_enter Try.func122, Try.ntmps122
    go_wp2
    go_ret
    exact ⟨rfl, rfl⟩
theorem outside_no (alt : Int) (h0 : -200000 ≤ alt) (h1 : alt ≤ 6000000) (w : World) : Calls Try.prog 122 #[.int .i64 alt] w fun e w' => e = .returned (.bool false) ∧ w = w' := by
  have p1 : ¬ alt < -200000 := by omega
  have p2 : ¬ 6000000 < alt := by omega
  go_enter Try.func122, Try.ntmps122
  go_wp2
  go_ret
  exact ⟨rfl, rfl⟩

/-- is an altitude in range? -/
def inAlt (alt : Int) : Prop := -200000 ≤ alt ∧ alt ≤ 6000000
instance (alt : Int) : Decidable (inAlt alt) := by unfold inAlt; infer_instance
def presV (alt : Int) : Int := if inAlt alt then At.vP alt else 0
def presE (alt : Int) : Int := if inAlt alt then 0 else 2

end Go.Proofs.Ytcmdpfdhmbpahaa
