/- Layer 34: the contracts of profile.check, on and Between. -/
import Derived.Test.YtgplpapphmaafaaFxOps
import Derived.Test.YtgplpapphmaafaaMem
import Derived.Test.YtgplpapphmaafaaPfPlain
import Derived.Deep.QuietTactic
import Derived.BigQuiet
namespace Go.Proofs.Ytgplpapphmaafaa
set_option linter.unusedSimpArgs false
set_option linter.unusedVariables false
open Go.RowKit

theorem inBound_yes (x : Int) (h : Pf.inB x) (w : World) : Calls Try.prog 41 #[.int .i64 x] w fun e w' => e = .returned (.bool true) ∧ w = w' := by
  obtain ⟨h0, h1⟩ := h
  go_enter Try.func41, Try.ntmps41
  go_wp2_with fail
  go_ret
  exact ⟨rfl, rfl⟩
theorem inBound_no (x : Int) (h : ¬ Pf.inB x) (w : World) : Calls Try.prog 41 #[.int .i64 x] w fun e w' => e = .returned (.bool false) ∧ w = w' := by
  have h' : x < -1099511627776 ∨ 1099511627776 < x := by unfold Pf.inB at h; omega
  clear h
  rcases h' with h | h
  · have h0 : ¬ -1099511627776 ≤ x := by omega
    go_enter Try.func41, Try.ntmps41
    go_wp2_with fail
    go_ret
    exact ⟨rfl, rfl⟩
  · have h0 : -1099511627776 ≤ x := by omega
    have h1 : ¬ x ≤ 1099511627776 := by omega
    go_enter Try.func41, Try.ntmps41
    go_wp2_with fail
    go_ret
    exact ⟨rfl, rfl⟩

def VRel1 (v : List Int) (n : Nat) (t : Value) : Prop := ∃ k : Nat, k ≤ n ∧ t = .int .i64 k ∧ ∀ x ∈ v.take k, Pf.inB x
def DRel1 (d : List Int) (m : Nat) (s t : Value) : Prop := ∃ k : Nat, k ≤ m ∧ t = .int .i64 k ∧ s = .int .i64 (d.take k).sum ∧ ∀ x ∈ d.take k, Pf.okD x
theorem take_all_of {α : Type} {l : List α} {p : α → Prop} {k : Nat} {x : α} (h : ∀ y ∈ l.take k, p y) (hx : l[k]? = some x) (hp : p x) : ∀ y ∈ l.take (k + 1), p y := by
  rw [take_succ_get l k x hx]
  intro y hy
  rw [List.mem_append, List.mem_singleton] at hy
  rcases hy with hy | hy
  · exact h y hy
  · rw [hy]; exact hp
theorem take_len_all {α : Type} {l : List α} {p : α → Prop} {n : Nat} (hl : l.length = n) (h : ∀ y ∈ l.take n, p y) : ∀ y ∈ l, p y := by
  rw [List.take_of_length_le (by omega)] at h
  exact h
theorem chE_1 {v d : List Int} (h : 64 < v.length) : Pf.chV v d = 0 ∧ Pf.chE v d = 3 := by
  have : Pf.chE v d = 3 := by unfold Pf.chE; rw [if_pos h]
  exact ⟨by unfold Pf.chV; rw [this, if_neg (by omega)], this⟩
theorem chE_2 {v d : List Int} (h0 : ¬ 64 < v.length) (h : v.length = 0 ∨ d.length + 1 ≠ v.length) : Pf.chV v d = 0 ∧ Pf.chE v d = 1 := by
  have : Pf.chE v d = 1 := by unfold Pf.chE; rw [if_neg h0, if_pos h]
  exact ⟨by unfold Pf.chV; rw [this, if_neg (by omega)], this⟩
theorem chE_3 {v d : List Int} (h0 : ¬ 64 < v.length) (h : ¬ (v.length = 0 ∨ d.length + 1 ≠ v.length)) (h2 : ¬ ((∀ x ∈ v, Pf.inB x) ∧ ∀ x ∈ d, Pf.okD x)) : Pf.chV v d = 0 ∧ Pf.chE v d = 2 := by
  have : Pf.chE v d = 2 := by unfold Pf.chE; rw [if_neg h0, if_neg h, if_neg h2]
  exact ⟨by unfold Pf.chV; rw [this, if_neg (by omega)], this⟩
theorem chE_4 {v d : List Int} (h0 : ¬ 64 < v.length) (h : ¬ (v.length = 0 ∨ d.length + 1 ≠ v.length)) (h1 : ∀ x ∈ v, Pf.inB x) (h2 : ∀ x ∈ d, Pf.okD x) : Pf.chV v d = d.sum ∧ Pf.chE v d = 0 := by
  have : Pf.chE v d = 0 := by unfold Pf.chE; rw [if_neg h0, if_neg h, if_pos ⟨h1, h2⟩]
  exact ⟨by unfold Pf.chV; rw [this, if_pos rfl], this⟩

def BRel (v d : List Int) (s0 : Int) (m : Nat) (s t : Value) : Prop := ∃ (k : Nat) (S : Int), k ≤ m ∧ t = .int .i64 k ∧ s = .int .i64 S ∧ 0 ≤ S ∧ S ≤ (d.drop k).sum ∧ Pf.btw (v.drop k) (d.drop k) S = Pf.btw v d s0
theorem drop_sum {d : List Int} {k : Nat} {x : Int} (h : d[k]? = some x) : (d.drop k).sum = x + (d.drop (k + 1)).sum := by
  rw [Pf.drop_one h]; simp
def BwPost (V E : Int) (w : World) (e : Ending) (w' : World) : Prop := e = .returned (.tuple #[.int .i64 V, .int .i64 E]) ∧ ∃ q, w' = w.drewN q

end Go.Proofs.Ytgplpapphmaafaa
