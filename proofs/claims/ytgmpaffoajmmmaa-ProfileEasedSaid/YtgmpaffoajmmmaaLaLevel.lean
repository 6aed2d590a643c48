/- Layer 34: what is read of a Level and of two lists among the arguments; Meets as a Bool. -/
import Derived.Test.YtgmpaffoajmmmaaLaSpot
import Derived.Test.YtgmpaffoajmmmaaCrPlain
namespace Go.Proofs.Ytgmpaffoajmmmaa
set_option linter.unusedSimpArgs false
set_option linter.unusedVariables false
open Go.RowKit Go.ChangeShapes Go.WideShapes Go.Deep

theorem open_level {H : Type} {enc : TypeId × Value → H} {w : World} {base : Nat} {spare : Nat → Bool} {held : Bool} {r : Reach} {b0 : Nat} {v : Value} {d : DataW H} {p : List MemPlace}
    (hv : Value.okWide Try.prog w r b0 47 v) (h : DataW.Trod enc Try.prog w base spare held 47 v d p) :
    ∃ (A : Option Addr) (n c : Nat) (xs : List Int) (lv : Int), v = .agg #[.slice A n c, .int .i64 lv] ∧ n ≤ maxLen ∧ Ints w A n xs ∧ (∀ x ∈ xs, (Lit.int .i64 x).wf = true) ∧ (Lit.int .i64 lv).wf = true := by
  obtain ⟨cs, fu, rfl, h2⟩ := open_agg_list Try.underlying47 hv h
  obtain ⟨xs, n', _, hxx, hl, hx, hf⟩ := DataW.trod_struct Try.underlying47 h2
  rw [show Try.prog.cellsOf 47 = 2 by kernel_rfl] at hl
  match cs, hl with
  | [c0, c1], _ =>
    have e0 : DataW.trod enc Try.prog w base spare held n' 25 (([c0, c1].drop 0).take (Try.prog.cellsOf 25)) = xs[0]? := hf 0 _ rfl
    rw [show Try.prog.cellsOf 25 = 1 by kernel_rfl] at e0
    have hi : 0 < xs.length := by rw [hx]; decide
    rw [List.getElem?_eq_getElem hi] at e0
    have e1 : DataW.trod enc Try.prog w base spare held n' 2 (([c0, c1].drop 1).take (Try.prog.cellsOf 2)) = xs[1]? := hf 1 _ rfl
    rw [show Try.prog.cellsOf 2 = 1 by kernel_rfl] at e1
    obtain ⟨lv, hlv, wlv⟩ := int_field (i := 1) Try.underlying2 (by rw [hx]; decide) e1
    obtain ⟨A, n, c, zs, h1, h3, h4, h5, h6, h7⟩ := open_ints_arg Try.underlying25 Try.underlying2 (by kernel_rfl) e0
    simp at hlv
    subst h1 hlv
    exact ⟨A, n, c, zs, lv, rfl, h3, h5, h6, wlv⟩
theorem open_two {H : Type} {enc : TypeId × Value → H} {w : World} {base : Nat} {spare : Nat → Bool} {held : Bool} {r : Reach} {b0 : Nat} {v : Value} {d : DataW H} {p : List MemPlace}
    (hv : Value.okWide Try.prog w r b0 44 v) (h : DataW.Trod enc Try.prog w base spare held 44 v d p) :
    ∃ (A : Option Addr) (n c : Nat) (xs : List Int) (B : Option Addr) (m k : Nat) (ys : List Int), v = .agg #[.slice A n c, .slice B m k] ∧ n ≤ maxLen ∧ Ints w A n xs ∧ (∀ x ∈ xs, (Lit.int .i64 x).wf = true) ∧ m ≤ maxLen ∧ Ints w B m ys ∧ (∀ x ∈ ys, (Lit.int .i64 x).wf = true) := by
  simp only [Value.okWide, Try.underlying44] at hv
  obtain ⟨cs, rfl, hsz, _⟩ := hv
  obtain ⟨l⟩ := cs
  match l, hsz.trans (show Try.prog.cellsOf 44 = 2 by kernel_rfl) with
  | [c0, c1], _ =>
    obtain ⟨fuel, hf⟩ := h
    obtain ⟨xs, m, _, _, _, hl, hel⟩ := DataW.trod_array Try.underlying44 hf
    have e0 := hel 0 (by omega)
    have e1 := hel 1 (by omega)
    rw [show Try.prog.cellsOf 25 = 1 by kernel_rfl] at e0 e1
    rw [List.getElem?_eq_getElem (show 0 < xs.length by omega)] at e0
    rw [List.getElem?_eq_getElem (show 1 < xs.length by omega)] at e1
    obtain ⟨A, n, c, zs, h1, h3, h4, h5, h6, h7⟩ := open_ints_arg Try.underlying25 Try.underlying2 (by kernel_rfl) e0
    obtain ⟨B, m2, k, ys, g1, g3, g4, g5, g6, g7⟩ := open_ints_arg Try.underlying25 Try.underlying2 (by kernel_rfl) e1
    subst h1 g1
    exact ⟨A, n, c, zs, B, m2, k, ys, rfl, h3, h5, h6, g3, g5, g6⟩
noncomputable def meetB (ws st : Cs.Wins) (vs : List Int) : Bool := open Classical in decide (Meet ws st vs)
theorem meetB_yes {ws st : Cs.Wins} {vs : List Int} : meetB ws st vs = true ↔ Meet ws st vs := by unfold meetB; simp
theorem meetB_no {ws st : Cs.Wins} {vs : List Int} : meetB ws st vs = false ↔ ¬ Meet ws st vs := by unfold meetB; simp
def MbPost (M : Bool) (w : World) (e : Ending) (w' : World) : Prop := e = .returned (.bool M) ∧ Below w.heap.size w w'
theorem mt_any {F : FuncId} {args : Array Value} {ws st : Cs.Wins} {vs : List Int} {w : World} (h : Calls Try.prog F args w (MtPost ws st vs w)) : Calls Try.prog F args w (MbPost (meetB ws st vs) w) := by
  refine h.mono fun e w' ⟨h1, h2, h3⟩ => ?_
  by_cases hm : Meet ws st vs
  · exact ⟨by rw [meetB_yes.2 hm]; exact h1 hm, h3⟩
  · exact ⟨by rw [meetB_no.2 hm]; exact h2 hm, h3⟩
theorem mt_is {F : FuncId} {args : Array Value} {ws st : Cs.Wins} {vs : List Int} {w : World} (hm : Meet ws st vs) (h : Calls Try.prog F args w (MtPost ws st vs w)) : Calls Try.prog F args w (MbPost true w) :=
  h.mono fun e w' ⟨h1, h2, h3⟩ => ⟨h1 hm, h3⟩
/-- whether the first k values are at most a level, beside what was known -/
def mB (M : Bool) (l : List Int) (lv : Int) : Nat → Bool
  | 0 => M
  | k + 1 => mB M l lv k && decide (l.getD k 0 ≤ lv)
theorem mB_spec {M : Bool} {l : List Int} {lv : Int} : ∀ k : Nat, k ≤ l.length → (mB M l lv k = true ↔ M = true ∧ ∀ x ∈ l.take k, x ≤ lv)
  | 0, _ => by simp [mB]
  | k + 1, hk => by
    obtain ⟨x, hx⟩ : ∃ x, l[k]? = some x := ⟨_, List.getElem?_eq_getElem (by omega)⟩
    show (mB M l lv k && decide (l.getD k 0 ≤ lv)) = true ↔ _
    rw [Bool.and_eq_true, mB_spec k (by omega), take_succ_get l k x hx, getD_of hx, decide_eq_true_eq]
    constructor
    · rintro ⟨⟨h1, h2⟩, h3⟩
      refine ⟨h1, fun y hy => ?_⟩
      rw [List.mem_append, List.mem_singleton] at hy
      rcases hy with hy | rfl
      · exact h2 y hy
      · exact h3
    · rintro ⟨h1, h2⟩
      exact ⟨⟨h1, fun y hy => h2 y (List.mem_append_left _ hy)⟩, h2 x (by simp)⟩
theorem mB_all {M : Bool} {l : List Int} {lv : Int} : mB M l lv l.length = true ↔ M = true ∧ ∀ x ∈ l, x ≤ lv := by
  rw [mB_spec l.length (Nat.le_refl _), List.take_length]
def McRel (M : Bool) (l : List Int) (lv : Int) (n : Nat) (b t : Value) : Prop := ∃ k : Nat, k ≤ n ∧ t = .int .i64 k ∧ b = .bool (mB M l lv k)
def CnRel (n : Nat) (t : Value) : Prop := ∃ k : Nat, k ≤ n ∧ t = .int .i64 k
end Go.Proofs.Ytgmpaffoajmmmaa
