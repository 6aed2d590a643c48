/- Layer 34: the results of its functions in one form, with an error or without. -/
import Derived.Test.YtgmpaffoajmmmaaLaBase34
import Derived.Test.YtgmpaffoajmmmaaOpenW
namespace Go.Proofs.Ytgmpaffoajmmmaa
set_option linter.unusedSimpArgs false
set_option linter.unusedVariables false
open Go.RowKit

theorem gr_any {F : FuncId} {args : Array Value} {f : Int × Int → Int} {ws st : Cs.Wins} {n : Nat} {w : World} (h : Calls Try.prog F args w (GrPost f ws st n w)) : Calls Try.prog F args w (SlRes (okL (Cs.tgE ws st) ((Cs.tight ws st).map f)) (okN (Cs.tgE ws st) n) (Cs.tgE ws st) w) := by
  refine h.mono fun e w' ⟨h1, h2, h3⟩ => ?_
  unfold okL okN
  by_cases hc : Cs.tgE ws st = 0
  · obtain ⟨A, c, he, hI⟩ := h1 hc
    rw [if_pos hc, if_pos hc, hc]
    exact ⟨A, c, he, hI, h3⟩
  · rw [if_neg hc, if_neg hc]
    exact ⟨none, 0, h2 hc, Ints.nil _, h3⟩
theorem bel_any {F : FuncId} {args : Array Value} {ws st : Cs.Wins} {wish : List Int} {n : Nat} {w : World} (h : Calls Try.prog F args w (BelPost ws st wish n w)) : Calls Try.prog F args w (SlRes (okL (Cs.belE ws st wish) ((Cs.tight (Cs.lowL ws wish) st).map fun p => p.2)) (okN (Cs.belE ws st wish) n) (Cs.belE ws st wish) w) := by
  refine h.mono fun e w' ⟨h1, h2, h3⟩ => ?_
  unfold okL okN
  by_cases hc : Cs.belE ws st wish = 0
  · obtain ⟨A, c, he, hI⟩ := h1 hc
    rw [if_pos hc, if_pos hc, hc]
    exact ⟨A, c, he, hI, h3⟩
  · rw [if_neg hc, if_neg hc]
    exact ⟨none, 0, h2 hc, Ints.nil _, h3⟩
def CrRes (l : List Int) (n : Nat) (i j E : Int) (w : World) (e : Ending) (w' : World) : Prop := ∃ A c, e = .returned (.tuple #[.slice A n c, .int .i64 i, .int .i64 j, .int .i64 E]) ∧ Ints w' A n l ∧ Below w.heap.size w w'
theorem cr_any {F : FuncId} {args : Array Value} {ws st : Cs.Wins} {lv : Int} {n : Nat} {w : World} (h : Calls Try.prog F args w (CrPost ws st lv n w)) :
    Calls Try.prog F args w (CrRes (okL (crE ws st lv) (crV ws st lv)) (okN (crE ws st lv) n) (okI (crE ws st lv) (scn (crV ws st lv) lv n).1) (okI (crE ws st lv) (scn (crV ws st lv) lv n).2) (crE ws st lv) w) := by
  refine h.mono fun e w' ⟨h1, h2, h3⟩ => ?_
  unfold okL okN okI
  by_cases hc : crE ws st lv = 0
  · obtain ⟨A, c, he, hI⟩ := h1 hc
    rw [if_pos hc, if_pos hc, if_pos hc, if_pos hc, hc]
    exact ⟨A, c, he, hI, h3⟩
  · rw [if_neg hc, if_neg hc, if_neg hc, if_neg hc]
    exact ⟨none, 0, h2 hc, Ints.nil _, h3⟩
end Go.Proofs.Ytgmpaffoajmmmaa
