/- A row of pairs of the call's own that is read and written in place; windows copied into such a row. -/
import Derived.Test.YtgplpapphmaafaaCsAll
import Derived.StillTailTactics
namespace Go.Proofs.Ytgplpapphmaafaa
set_option linter.unusedSimpArgs false
set_option linter.unusedVariables false
open Go.RowKit

/-- row g of the call's own holds the pairs F 0 .. F (n - 1) -/
structure RowF (w0 : World) (g n : Nat) (F : Nat → Int × Int) (w : World) : Prop where
  lo : ∀ j, j < n → w.cell? ⟨g, j * 2, none⟩ = some (.int .i64 (F j).1)
  hi : ∀ j, j < n → w.cell? ⟨g, j * 2 + 1, none⟩ = some (.int .i64 (F j).2)
  fr : ∀ o, w.frozen? ⟨g, o, none⟩ = false
  lt : g < w.heap.size
  ge : w0.heap.size ≤ g
  bel : Below w0.heap.size w0 w
theorem RowF.drew {w0 w : World} {g n : Nat} {F : Nat → Int × Int} (h : RowF w0 g n F w) : RowF w0 g n F w.drew := ⟨h.lo, h.hi, h.fr, h.lt, h.ge, h.bel.drew⟩
def updH (F : Nat → Int × Int) (k : Nat) (v : Int) : Nat → Int × Int := fun j => if j = k then ((F j).1, v) else F j
def updL (F : Nat → Int × Int) (k : Nat) (v : Int) : Nat → Int × Int := fun j => if j = k then (v, (F j).2) else F j
theorem RowF.setH {w0 w : World} {g n k : Nat} {F : Nat → Int × Int} (h : RowF w0 g n F w) (hk : k < n) (v : Int) : RowF w0 g n (updH F k v) (w.setCell ⟨g, k * 2 + 1, none⟩ (.int .i64 v)) := by
  refine ⟨fun j hj => ?_, fun j hj => ?_, fun o => by rw [World.frozen?_setCell]; exact h.fr o, by simpa [World.setCell] using h.lt, h.ge, h.bel.setCell (p := ⟨g, k * 2 + 1, none⟩) h.ge _⟩
  · rw [World.cell?_setCell_other w ⟨g, k * 2 + 1, none⟩ ⟨g, j * 2, none⟩ _ (by intro e; injection e with _ e; omega), h.lo j hj]
    unfold updH
    split <;> rfl
  · by_cases hjk : j = k
    · subst hjk
      rw [World.cell?_setCell_same w ⟨g, j * 2 + 1, none⟩ _ (h.hi j hj)]
      unfold updH
      rw [if_pos rfl]
    · rw [World.cell?_setCell_other w ⟨g, k * 2 + 1, none⟩ ⟨g, j * 2 + 1, none⟩ _ (by intro e; injection e with _ e; omega), h.hi j hj]
      unfold updH
      rw [if_neg hjk]
theorem RowF.setL {w0 w : World} {g n k : Nat} {F : Nat → Int × Int} (h : RowF w0 g n F w) (hk : k < n) (v : Int) : RowF w0 g n (updL F k v) (w.setCell ⟨g, k * 2, none⟩ (.int .i64 v)) := by
  refine ⟨fun j hj => ?_, fun j hj => ?_, fun o => by rw [World.frozen?_setCell]; exact h.fr o, by simpa [World.setCell] using h.lt, h.ge, h.bel.setCell (p := ⟨g, k * 2, none⟩) h.ge _⟩
  · by_cases hjk : j = k
    · subst hjk
      rw [World.cell?_setCell_same w ⟨g, j * 2, none⟩ _ (h.lo j hj)]
      unfold updL
      rw [if_pos rfl]
    · rw [World.cell?_setCell_other w ⟨g, k * 2, none⟩ ⟨g, j * 2, none⟩ _ (by intro e; injection e with _ e; omega), h.lo j hj]
      unfold updL
      rw [if_neg hjk]
  · rw [World.cell?_setCell_other w ⟨g, k * 2, none⟩ ⟨g, j * 2 + 1, none⟩ _ (by intro e; injection e with _ e; omega), h.hi j hj]
    unfold updL
    split <;> rfl
theorem RowF.congr {w0 w : World} {g n : Nat} {F G : Nat → Int × Int} (h : RowF w0 g n F w) (hfg : ∀ j, j < n → F j = G j) : RowF w0 g n G w :=
  ⟨fun j hj => by rw [← hfg j hj]; exact h.lo j hj, fun j hj => by rw [← hfg j hj]; exact h.hi j hj, h.fr, h.lt, h.ge, h.bel⟩
theorem RowF.pairs {w0 w : World} {g n : Nat} {F : Nat → Int × Int} (h : RowF w0 g n F w) : Pairs w (some ⟨g, 0, none⟩) n ((List.range n).map F) := by
  refine ⟨by simp, fun _ => ⟨g, 0, rfl, h.lt, fun k x hk j v hv => ?_⟩⟩
  rw [List.getElem?_map] at hk
  rcases Nat.lt_or_ge k n with hkn | hkn
  · rw [List.getElem?_range hkn] at hk
    obtain rfl : F k = x := by simpa using hk
    match j, hv with
    | 0, hv => rw [Nat.zero_add, Nat.add_zero]; simp [win] at hv; rw [← hv]; exact h.lo k hkn
    | 1, hv => rw [Nat.zero_add]; simp [win] at hv; rw [← hv]; exact h.hi k hkn
    | j + 2, hv => simp [win] at hv
  · rw [List.getElem?_eq_none (by simpa using hkn)] at hk
    simp at hk
/-- an owned row of pairs, as such a row -/
theorem RowF.of_own {w0 w : World} {e : TypeId} {g n cap : Nat} {l : List (Int × Int)} (hl : l.length = n) (h : w.ownsRow w0.heap.size e 2 (.slice (some ⟨g, 0, none⟩) n cap) n (l.flatMap win)) (hb : Below w0.heap.size w0 w) :
    RowF w0 g n (fun j => l.getD j (0, 0)) w := by
  have hg := h.lt g rfl
  have hc : ∀ j r v, j < n → (win (l.getD j (0, 0)))[r]? = some v → r < 2 → w.cell? ⟨g, j * 2 + r, none⟩ = some v := by
    intro j r v hj hv hr
    rw [h.cellAt (j * 2 + r) (by omega)]
    exact flatMap_get (f := win) (sz := 2) (fun _ => rfl) hv l j (by rw [List.getD_eq_getElem?_getD, List.getElem?_eq_getElem (by omega)]; rfl)
  exact ⟨fun j hj => hc j 0 _ hj rfl (by omega), fun j hj => hc j 1 _ hj rfl (by omega), fun o => h.frozenAt o, hg.2, hg.1, hb⟩
/-- the cells of a slice of pairs, in a row -/
theorem pairs_flat {w : World} {b off n : Nat} {l : List (Int × Int)} (h : Pairs w (some ⟨b, off, none⟩) n l) : ∀ j u, (l.flatMap win)[j]? = some u → w.cell? ((⟨b, off, none⟩ : Addr).add j) = some u := by
  intro j u hu
  have e : (⟨b, off, none⟩ : Addr).add j = ⟨b, off + j, none⟩ := by unfold Addr.add; split <;> simp_all
  rw [e]
  have hlen : (l.flatMap win).length = l.length * 2 := by
    clear h hu
    induction l with
    | nil => rfl
    | cons x t ih => rw [List.flatMap_cons, List.length_append, ih, List.length_cons]; simp [win]; omega
  have hj : j < l.length * 2 := by rw [← hlen]; exact (List.getElem?_eq_some_iff.1 hu).1
  have hl := h.len
  obtain ⟨x, hx⟩ : ∃ x, l[j / 2]? = some x := ⟨_, List.getElem?_eq_getElem (by omega)⟩
  obtain ⟨b', off', he, _, hc⟩ := h.cells (by omega)
  injection he with he
  injection he with e1 e2
  subst e1 e2
  have hr : j % 2 < 2 := Nat.mod_lt _ (by decide)
  obtain ⟨v, hv⟩ : ∃ v, (win x)[j % 2]? = some v := ⟨_, List.getElem?_eq_getElem (by rw [win_len]; exact hr)⟩
  have h1 := flatMap_get (f := win) (sz := 2) (fun _ => rfl) hv l (j / 2) hx
  have h2 : j / 2 * 2 + j % 2 = j := by omega
  rw [h2, hu] at h1
  obtain rfl := Option.some.inj h1
  have h3 := hc (j / 2) x hx (j % 2) _ hv
  rw [show off + j / 2 * 2 + j % 2 = off + j from by omega] at h3
  exact h3
theorem flat_one (l : List (Int × Int)) : ∀ u ∈ l.flatMap win, u.oneCell' = true := by
  intro u hu
  rw [List.mem_flatMap] at hu
  obtain ⟨q, _, hq⟩ := hu
  simp [win] at hq
  rcases hq with rfl | rfl <;> rfl
theorem flat_len (l : List (Int × Int)) : (l.flatMap win).length = l.length * 2 := by
  induction l with
  | nil => rfl
  | cons x t ih => rw [List.flatMap_cons, List.length_append, ih, List.length_cons]; simp [win]; omega
/-- append of nothing to a nil slice -/
theorem wpList_append_nil0 {P : Program} {w : World} {ops : Array Oper} {rest : List Oper} {o : Oper} {a : Act} {Q : Exit → Act → World → Prop} (hgd : o.guard = none) (s x : Operand) (t : TypeId)
    (ho : o.op = .call { callee := .builtin .append, args := #[s, x], argTypes := #[t, t] }) (e : TypeId) (i : TypeInfo) (ht : P.underlying t = some (.slice e)) (hi : P.info? e = some i)
    (c : Nat) (hs : a.eval s = .slice none 0 0) (hx : a.eval x = .slice none 0 c) (h : wpList P ops Q rest (a.put o.dst (.slice none 0 0)) w) : wpList P ops Q (o :: rest) a w := by
  refine wpList_plain hgd fun K hK => ?_
  have hrun : (Builtin.append_ #[t, t] o.type #[.slice none 0 0, .slice none 0 c]).run P w = .ok (.slice none 0 0) w := by
    simp [Builtin.append_, run_underlying ht, sizeOf, typeInfo, hi, Builtin.lenOf, Builtin.firstCells]
  unfold Oper.wp
  simp [execOp, ho, resolve, invoke, builtin, hs, hx, hrun, Result.andThen]
  exact hK _ _ h
end Go.Proofs.Ytgplpapphmaafaa
