/- sort.Search over a function value: the least index at which it says yes, if it says no before and yes from there on. -/
import Derived.Test.YtkomooeohlcnaaaMem
namespace Go.Proofs.Ytkomooeohlcnaaa
set_option linter.unusedSimpArgs false
set_option linter.unusedVariables false
open Go.RowKit

/-- what the search hands back -/
def SPost (pr : Int → Prop) (N : Nat) (w : World) (e : Ending) (w' : World) : Prop := ∃ k : Nat, e = .returned (.int .i64 k) ∧ k ≤ N ∧ (k = N ∨ pr k) ∧ (k = 0 ∨ ¬ pr ((k : Int) - 1)) ∧ Below w.heap.size w w'
def SRelL (pr : Int → Prop) (N : Nat) (w : World) (vi vj : Value) (w' : World) : Prop :=
  ∃ i j : Nat, vi = .int .i64 i ∧ vj = .int .i64 j ∧ i ≤ j ∧ j ≤ N ∧ (j = N ∨ pr j) ∧ (i = 0 ∨ ¬ pr ((i : Int) - 1)) ∧ Below w.heap.size w w'

set_option maxRecDepth 100000 in
set_option maxHeartbeats 2000000 in
theorem search_any (pr : Int → Prop) [DecidablePred pr] (N : Nat) (hN : N ≤ 1000000000) (g : FuncId) (lb : Array Value) (w : World)
    (eg : ∀ args w, (callFunc g args).run Try.prog w = .ok (.enter g args) w)
    (hf : ∀ (W : World) (i : Nat), i < N → Below w.heap.size w W → Calls Try.prog g (#[.int .i64 i] ++ lb) W fun e w' => e = .returned (.bool (decide (pr i))) ∧ Below W.heap.size W w') :
    Calls Try.prog 91 #[.int .i64 N, .func (.func g) #[] lb] w (SPost pr N w) := by
  have HF := Lib.hid hf
  clear hf
  go_enter Try.func91, Try.ntmps91
  go_wp2_with fail
  go_loopw [5, 6] (fun vi vj wr => SRelL pr N w vi vj wr) (fun vi vj _ => (intOf vj).toNat - (intOf vi).toNat)
  case atStart => exact ⟨0, N, rfl, rfl, Nat.zero_le _, Nat.le_refl _, .inl rfl, .inl rfl, Below.refl _ _⟩
  case round =>
    obtain ⟨i, j, rfl, rfl, hij, hjN, h1, h2, hB⟩ := hrel
    have H1 := Lib.hid h1
    have H2 := Lib.hid h2
    have HB := Lib.hid hB
    clear h1 h2 hB
    by_cases hlt : (i : Int) < j
    · have hm : ((i : Int) + j) / 2 = (((i + j) / 2 : Nat) : Int) := by omega
      have m1 : i ≤ (i + j) / 2 := by omega
      have m2 : (i + j) / 2 < j := by omega
      generalize (i + j) / 2 = m at *
      by_cases hp : pr (m : Int)
      · have hd : decide (pr (m : Int)) = true := decide_eq_true hp
        have HP := Lib.hid hp
        have HM := Lib.hid hm
        clear hp hm
        go_wp2_with fail
        rw [HM.out]
        refine (HF.out wr m (by omega) HB.out).mono ?_; rintro e w2 ⟨rfl, hB2⟩
        go_wp2_with fail
        go_roundw
        case rel => exact ⟨i, m, rfl, rfl, m1, by omega, .inr HP.out, H2.out, HB.out.trans (hB2.mono HB.out.size)⟩
        case measure => simp only [intOf, HM.out]; omega
      · have hd : decide (pr (m : Int)) = false := decide_eq_false hp
        have HP := Lib.hid hp
        have HM := Lib.hid hm
        clear hp hm
        go_wp2_with fail
        rw [HM.out]
        refine (HF.out wr m (by omega) HB.out).mono ?_; rintro e w2 ⟨rfl, hB2⟩
        go_wp2_with fail
        go_roundw
        case rel => exact ⟨m + 1, j, by (try rw [HM.out]); rfl, rfl, by omega, hjN, H1.out, .inr (by rw [show ((m + 1 : Nat) : Int) - 1 = m from by omega]; exact HP.out), HB.out.trans (hB2.mono HB.out.size)⟩
        case measure => simp only [intOf, HM.out]; omega
    · have hij' : i = j := by omega
      have HIJ := Lib.hid hij'
      clear hij'
      go_wp2_with fail
      go_ret
      exact ⟨i, rfl, by omega, by rw [HIJ.out]; exact H1.out, H2.out, HB.out⟩
end Go.Proofs.Ytkomooeohlcnaaa
