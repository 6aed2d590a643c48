/- Plain facts on the passes of Tighten (no program in sight): their bounds, and the rows while they run. -/
import Derived.Test.YtgplpapphmaafaaCsConf
namespace Go.Proofs.Cs
set_option linter.unusedSimpArgs false
set_option linter.unusedVariables false
open Pf (inB)

theorem fH_bd {ws st : Wins} (hok : CsOk ws st) : ∀ {i : Nat}, i < ws.length → inB (fH ws st i)
  | 0, h => (hok.win h).2
  | i + 1, h => by
    have h1 := (hok.win h).2
    have h2 := fH_bd hok (show i < ws.length by omega)
    have h3 := hok.ups i
    show inB (min (hi ws (i + 1)) (fH ws st i + up st i))
    unfold inB at *
    omega
theorem fL_bd {ws st : Wins} (hok : CsOk ws st) : ∀ {i : Nat}, i < ws.length → inB (fL ws st i)
  | 0, h => (hok.win h).1
  | i + 1, h => by
    have h1 := (hok.win h).1
    have h2 := fL_bd hok (show i < ws.length by omega)
    have h3 := hok.dns i
    show inB (max (lo ws (i + 1)) (fL ws st i - dn st i))
    unfold inB at *
    omega
theorem bH_bd {ws st : Wins} (hok : CsOk ws st) : ∀ {k : Nat}, k < ws.length → inB (bH ws st ws.length k)
  | 0, h => fH_bd hok (by omega)
  | k + 1, h => by
    have h1 := fH_bd hok (show ws.length - 1 - (k + 1) < ws.length by omega)
    have h2 := bH_bd hok (show k < ws.length by omega)
    have h3 := hok.dns (ws.length - 1 - (k + 1))
    show inB (min (fH ws st (ws.length - 1 - (k + 1))) (bH ws st ws.length k + dn st (ws.length - 1 - (k + 1))))
    unfold inB at *
    omega
theorem bL_bd {ws st : Wins} (hok : CsOk ws st) : ∀ {k : Nat}, k < ws.length → inB (bL ws st ws.length k)
  | 0, h => fL_bd hok (by omega)
  | k + 1, h => by
    have h1 := fL_bd hok (show ws.length - 1 - (k + 1) < ws.length by omega)
    have h2 := bL_bd hok (show k < ws.length by omega)
    have h3 := hok.ups (ws.length - 1 - (k + 1))
    show inB (max (fL ws st (ws.length - 1 - (k + 1))) (bL ws st ws.length k - up st (ws.length - 1 - (k + 1))))
    unfold inB at *
    omega
/-- the row while the forward pass runs, while the backward pass runs -/
def fwd (ws st : Wins) (k : Nat) : Nat → Int × Int := fun j => if j < k then (fL ws st j, fH ws st j) else (lo ws j, hi ws j)
def bwd (ws st : Wins) (k : Nat) : Nat → Int × Int := fun j => if k ≤ j then (bL ws st ws.length (ws.length - 1 - j), bH ws st ws.length (ws.length - 1 - j)) else (fL ws st j, fH ws st j)
theorem fwd_start {ws st : Wins} (j : Nat) : ws.getD j (0, 0) = fwd ws st 1 j := by
  unfold fwd
  by_cases h : j < 1
  · obtain rfl : j = 0 := by omega
    rw [if_pos h]; rfl
  · rw [if_neg h]; rfl
/-- the tightened windows -/
def tight (ws st : Wins) : Wins := (List.range ws.length).map fun i => (tL ws st i, tH ws st i)
theorem bwd_last {ws st : Wins} (h : 0 < ws.length) (j : Nat) (hj : j < ws.length) : fwd ws st ws.length j = bwd ws st (ws.length - 1) j := by
  unfold fwd bwd
  rw [if_pos hj]
  rcases Nat.lt_or_ge j (ws.length - 1) with hl | hl
  · rw [if_neg (by omega)]
  · obtain rfl : j = ws.length - 1 := by omega
    rw [if_pos (Nat.le_refl _), Nat.sub_self]
    rfl
theorem bwd_done {ws st : Wins} (hok : CsOk ws st) : (List.range ws.length).map (bwd ws st 0) = tight ws st := by
  unfold tight
  apply List.map_congr_left
  intro i hi'
  rw [List.mem_range] at hi'
  unfold bwd
  rw [if_pos (by omega), bL_eq hok hi', bH_eq hok hi']
def tgE (ws st : Wins) : Int := if chkE ws st ≠ 0 then chkE ws st else if confL ws st = [] then 0 else 11
theorem tgE_chk {ws st : Wins} (h : chkE ws st ≠ 0) : tgE ws st = chkE ws st := by unfold tgE; rw [if_pos h]
theorem tgE_conf {ws st : Wins} (h : chkE ws st = 0) (h2 : confL ws st ≠ []) : tgE ws st = 11 := by unfold tgE; rw [if_neg (by omega), if_neg h2]
theorem tgE_ok {ws st : Wins} (h : chkE ws st = 0) (h2 : confL ws st = []) : tgE ws st = 0 := by unfold tgE; rw [if_neg (by omega), if_pos h2]
theorem tgE_0 {ws st : Wins} (h : tgE ws st = 0) : chkE ws st = 0 ∧ confL ws st = [] := by
  by_cases h1 : chkE ws st = 0
  · by_cases h2 : confL ws st = []
    · exact ⟨h1, h2⟩
    · rw [tgE_conf h1 h2] at h; omega
  · rw [tgE_chk h1] at h; exact absurd h h1
theorem tight_len (ws st : Wins) : (tight ws st).length = ws.length := by simp [tight]
theorem tight_get {ws st : Wins} {i : Nat} (h : i < ws.length) : (tight ws st)[i]? = some (tL ws st i, tH ws st i) := by
  unfold tight
  rw [List.getElem?_map, List.getElem?_range h]
  rfl
end Go.Proofs.Cs
