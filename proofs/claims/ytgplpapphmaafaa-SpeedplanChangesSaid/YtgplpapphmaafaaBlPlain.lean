/- Plain arithmetic of layer 34 (no program in sight): windows lowered by wishes. -/
import Derived.Test.YtgplpapphmaafaaCsTPlain
import Derived.Test.YtgplpapphmaafaaCsMeet
namespace Go.Proofs.Cs
set_option linter.unusedSimpArgs false
set_option linter.unusedVariables false
open Pf (inB)

/-- the windows after the first k wishes -/
def lowF (ws : Wins) (wish : List Int) (k : Nat) : Nat → Int × Int := fun j => if j < k then (lo ws j, min (hi ws j) (wish.getD j 0)) else (lo ws j, hi ws j)
def lowL (ws : Wins) (wish : List Int) : Wins := (List.range ws.length).map (lowF ws wish ws.length)
theorem lowF_zero {ws : Wins} {wish : List Int} (j : Nat) : ws.getD j (0, 0) = lowF ws wish 0 j := by unfold lowF lo hi; rw [if_neg (by omega)]
theorem lowF_cells {ws : Wins} {wish : List Int} (k : Nat) : lowF ws wish k k = (lo ws k, hi ws k) := by unfold lowF; rw [if_neg (by omega)]
theorem lowL_len (ws : Wins) (wish : List Int) : (lowL ws wish).length = ws.length := by simp [lowL]
def belE (ws st : Wins) (wish : List Int) : Int := if chkE ws st ≠ 0 then chkE ws st else if wish.length ≠ ws.length then 1 else if ∀ x ∈ wish, inB x then tgE (lowL ws wish) st else 2
theorem belE_chk {ws st : Wins} {wish : List Int} (h : chkE ws st ≠ 0) : belE ws st wish = chkE ws st := by unfold belE; rw [if_pos h]
theorem belE_len {ws st : Wins} {wish : List Int} (h : chkE ws st = 0) (h2 : wish.length ≠ ws.length) : belE ws st wish = 1 := by unfold belE; rw [if_neg (by omega), if_pos h2]
theorem belE_rng {ws st : Wins} {wish : List Int} (h : chkE ws st = 0) (h2 : wish.length = ws.length) {x : Int} (hx : x ∈ wish) (h3 : ¬ inB x) : belE ws st wish = 2 := by unfold belE; rw [if_neg (by omega), if_neg (by omega), if_neg (fun k => h3 (k x hx))]
theorem belE_ok {ws st : Wins} {wish : List Int} (h : chkE ws st = 0) (h2 : wish.length = ws.length) (h3 : ∀ x ∈ wish, inB x) : belE ws st wish = tgE (lowL ws wish) st := by unfold belE; rw [if_neg (by omega), if_neg (by omega), if_pos h3]
end Go.Proofs.Cs
