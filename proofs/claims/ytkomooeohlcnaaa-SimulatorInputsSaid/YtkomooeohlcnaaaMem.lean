/- Slices in memory that read as lists: of integers, and of structs of any number of cells; nil let in. -/
import Derived.Test.YtkomooeohlcnaaaFrame
import Derived.Lib.Hide
import Derived.Deep.Slices
import Derived.Deep.Fields
import Derived.ChangeSame
import Derived.Laws.AppendOwn
import Derived.Laws.OwnMore
import Derived.Maps.AppendAt
import Derived.Deep.AppendLies
namespace Go.Proofs.Ytkomooeohlcnaaa
set_option linter.unusedSimpArgs false
set_option linter.unusedVariables false
open Go.RowKit Go.ChangeShapes Go.WideShapes Go.Deep

/-- a slice of integers of one kind that reads as a list -/
structure Ints (w : World) (A : Option Addr) (n : Nat) (xs : List Int) : Prop where
  len : xs.length = n
  cells : 0 < n → ∃ b off, A = some ⟨b, off, none⟩ ∧ b < w.heap.size ∧ ∀ k v, xs[k]? = some v → w.cell? ⟨b, off + k, none⟩ = some (.int .i64 v)
/-- a slice of structs that reads as a list: element k lies in the cells f x -/
structure Recs {α : Type} (f : α → List Value) (sz : Nat) (w : World) (A : Option Addr) (n : Nat) (xs : List α) : Prop where
  len : xs.length = n
  cells : 0 < n → ∃ b off, A = some ⟨b, off, none⟩ ∧ b < w.heap.size ∧ ∀ k x, xs[k]? = some x → ∀ j v, (f x)[j]? = some v → w.cell? ⟨b, off + k * sz + j, none⟩ = some v

theorem Ints.below {w w' : World} {A : Option Addr} {n : Nat} {xs : List Int} (h : Ints w A n xs) (hb : Below w.heap.size w w') : Ints w' A n xs :=
  ⟨h.len, fun hn => by
    obtain ⟨b, off, e, hlt, hc⟩ := h.cells hn
    exact ⟨b, off, e, Nat.lt_of_lt_of_le hlt hb.size, fun k v hk => (hb.cell (p := ⟨b, _, none⟩) hlt).trans (hc k v hk)⟩⟩
theorem Recs.below {α : Type} {f : α → List Value} {sz : Nat} {w w' : World} {A : Option Addr} {n : Nat} {xs : List α} (h : Recs f sz w A n xs) (hb : Below w.heap.size w w') : Recs f sz w' A n xs :=
  ⟨h.len, fun hn => by
    obtain ⟨b, off, e, hlt, hc⟩ := h.cells hn
    exact ⟨b, off, e, Nat.lt_of_lt_of_le hlt hb.size, fun k x hk j v hv => (hb.cell (p := ⟨b, _, none⟩) hlt).trans (hc k x hk j v hv)⟩⟩
theorem Ints.heap {w w' : World} {A : Option Addr} {n : Nat} {xs : List Int} (h : Ints w A n xs) (hh : w'.heap = w.heap) : Ints w' A n xs :=
  ⟨h.len, fun hn => by
    obtain ⟨b, off, e, hlt, hc⟩ := h.cells hn
    exact ⟨b, off, e, by rw [hh]; exact hlt, fun k v hk => by
      have := hc k v hk
      unfold World.cell? at this ⊢
      rw [hh]; exact this⟩⟩
theorem Recs.heap {α : Type} {f : α → List Value} {sz : Nat} {w w' : World} {A : Option Addr} {n : Nat} {xs : List α} (h : Recs f sz w A n xs) (hh : w'.heap = w.heap) : Recs f sz w' A n xs :=
  ⟨h.len, fun hn => by
    obtain ⟨b, off, e, hlt, hc⟩ := h.cells hn
    exact ⟨b, off, e, by rw [hh]; exact hlt, fun k x hk j v hv => by
      have := hc k x hk j v hv
      unfold World.cell? at this ⊢
      rw [hh]; exact this⟩⟩
theorem Ints.nil (w : World) : Ints w none 0 [] := ⟨rfl, fun h => absurd h (by omega)⟩
theorem Recs.nil {α : Type} (f : α → List Value) (sz : Nat) (w : World) : Recs f sz w none 0 [] := ⟨rfl, fun h => absurd h (by omega)⟩
theorem Ints.of_own {w : World} {base : Nat} {e : TypeId} {A : Option Addr} {n c : Nat} {xs : List Int} (h : w.ownsRow base e 1 (.slice A n c) n (xs.map fun v => .int .i64 v)) : Ints w A n xs := by
  have hl : xs.length = n := by have := h.1; simpa using this
  refine ⟨hl, fun hn => ?_⟩
  rcases h.2 with ⟨_, h0⟩ | ⟨g, cap, cur, hv, _, hh, hnc, _, hs, ht⟩
  · omega
  · injection hv with hA
    subst hA
    refine ⟨g, 0, rfl, (Array.getElem?_eq_some_iff.1 hh).1, fun k v hk => ?_⟩
    rw [Nat.zero_add, cell_of_row w g k cur e (0, 0) hh]
    have hk' : k < n := by rw [← hl]; exact (List.getElem?_eq_some_iff.1 hk).1
    have h2 : (cur.toList.take (n * 1))[k]? = some (.int .i64 v) := by rw [ht, List.getElem?_map, hk]; rfl
    rw [List.getElem?_take, if_pos (by omega)] at h2
    simpa using h2
theorem Recs.of_own {α : Type} {f : α → List Value} {sz : Nat} (hf : ∀ x, (f x).length = sz) {w : World} {base : Nat} {e : TypeId} {A : Option Addr} {n c : Nat} {xs : List α} (hl : xs.length = n)
    (h : w.ownsRow base e sz (.slice A n c) n (xs.flatMap f)) : Recs f sz w A n xs := by
  refine ⟨hl, fun hn => ?_⟩
  rcases h.2 with ⟨_, h0⟩ | ⟨g, cap, cur, hv, _, hh, hnc, _, hs, ht⟩
  · omega
  · injection hv with hA
    subst hA
    refine ⟨g, 0, rfl, (Array.getElem?_eq_some_iff.1 hh).1, fun k x hk j v hv => ?_⟩
    have hk' : k < n := by rw [← hl]; exact (List.getElem?_eq_some_iff.1 hk).1
    have hj : j < sz := by rw [← hf x]; exact (List.getElem?_eq_some_iff.1 hv).1
    rw [Nat.zero_add, cell_of_row w g (k * sz + j) cur e (0, 0) hh]
    have key : ∀ (l : List α) (k : Nat), l[k]? = some x → (l.flatMap f)[k * sz + j]? = some v := by
      intro l
      induction l with
      | nil => intro k h; simp at h
      | cons y t ih =>
        intro k h
        cases k with
        | zero =>
          simp at h
          subst h
          rw [List.flatMap_cons, Nat.zero_mul, Nat.zero_add, List.getElem?_append_left (by rw [hf]; exact hj)]
          exact hv
        | succ k =>
          rw [List.flatMap_cons, List.getElem?_append_right (by rw [hf]; rw [Nat.succ_mul]; omega), hf, show (k + 1) * sz + j - sz = k * sz + j from by rw [Nat.succ_mul]; omega]
          exact ih k (by simpa using h)
    have h2 : (cur.toList.take (n * sz))[k * sz + j]? = some v := by rw [ht]; exact key xs k hk
    have hlt : k * sz + j < n * sz := by
      have : (k + 1) * sz ≤ n * sz := Nat.mul_le_mul_right _ hk'
      rw [Nat.succ_mul] at this
      omega
    rw [List.getElem?_take, if_pos hlt] at h2
    simpa using h2
theorem take_succ_get {α : Type} (l : List α) (k : Nat) (x : α) (h : l[k]? = some x) : l.take (k + 1) = l.take k ++ [x] := by
  obtain ⟨hk, rfl⟩ := List.getElem?_eq_some_iff.1 h
  exact List.take_succ_eq_append_getElem hk
theorem get_ex {α : Type} {l : List α} {n k : Nat} (hl : l.length = n) (hk : k < n) : ∃ x, l[k]? = some x := ⟨_, List.getElem?_eq_getElem (by omega)⟩
theorem addr_add0 (b j : Nat) : (⟨b, 0, none⟩ : Addr).add j = ⟨b, j, none⟩ := by unfold Addr.add; split <;> simp_all
/-- what is appended lies in a block of its own -/
theorem news_new (w : World) (H : Nat) (hH : H = w.heap.size) (cs : Array Value) (t : TypeId) (l : List Value) (hl : l = cs.toList) :
    ∀ j u, l[j]? = some u → (w.alloc (.cells cs t)).cell? ((⟨H, 0, none⟩ : Addr).add j) = some u := by
  intro j u hu
  subst hH hl
  rw [addr_add0, World.cell?_alloc_new]
  simpa using hu
/-- what an append in a loop leaves, of a slice of the call's own -/
theorem own_block_ge {w : World} {base : Nat} {e : TypeId} {size : Nat} {v : Value} {n : Nat} {xs : List Value} (h : w.ownsRow base e size v n xs) : ∀ k, v.ownBlock = some k → base ≤ k := fun k hk => (h.lt k hk).1
theorem own_form {w : World} {base : Nat} {e : TypeId} {size : Nat} {v : Value} {n : Nat} {xs : List Value} (h : w.ownsRow base e size v n xs) : ∃ A c, v = .slice A n c := by
  rcases h.2 with ⟨rfl, rfl⟩ | ⟨g, cap, cur, rfl, _⟩
  · exact ⟨none, 0, rfl⟩
  · exact ⟨_, _, rfl⟩
theorem infoI64 : (Try.prog.info? 2).map (fun i => (i.zero, i.size, i.bytes)) = some (some (.int .i64 0), 1, 8) := by kernel_rfl
theorem flip {F : FuncId} {args : Array Value} {w : World} {v : Value} (h : Calls Try.prog F args w fun e w' => e = .returned v ∧ w = w') : Calls Try.prog F args w fun e w' => e = .returned v ∧ w' = w :=
  h.mono fun _ _ ⟨h1, h2⟩ => ⟨h1, h2.symm⟩
theorem quiet_more {F : FuncId} {args : Array Value} {w : World} {a n : Nat} {v : Value} (h : Calls Try.prog F args (w.drewN (a + n)) fun e w' => e = .returned v ∧ w' = w.drewN (a + n)) :
    Calls Try.prog F args (w.drewN (a + n)) fun e w' => e = .returned v ∧ ∃ m, w' = w.drewN (a + m) := h.mono fun _ _ ⟨he, hm⟩ => ⟨he, n, hm⟩
theorem results_tmp4 {fn : Func} {t u v x : Tmp} (h : fn.results = #[.tmp t, .tmp u, .tmp v, .tmp x]) (tmps : Array Value) (P : Program) (w : World) :
    (results fn tmps).run P w = .ok (.tuple #[tmps.getD t undef, tmps.getD u undef, tmps.getD v undef, tmps.getD x undef]) w := by simp [results, h]
theorem bel_trans {w w1 w2 : World} (h1 : Below w.heap.size w w1) (h2 : Below w1.heap.size w1 w2) : Below w.heap.size w w2 := h1.trans (h2.mono h1.size)
theorem bel_alloc {w w1 : World} {o : Obj} (h : Below (w.alloc o).heap.size (w.alloc o) w1) : Below w.heap.size w w1 := ((Below.refl _ w).alloc (Nat.le_refl _) _).trans (h.mono (by simp))
theorem Ints.of_alloc (w : World) (cs : Array Value) (t : TypeId) (xs : List Int) (n : Nat) (hn : xs.length = n) (h : cs.toList = xs.map fun v => .int .i64 v) (H : Nat) (hH : H = w.heap.size) : Ints (w.alloc (.cells cs t)) (some ⟨H, 0, none⟩) n xs := by
  subst hH
  refine ⟨hn, fun _ => ⟨w.heap.size, 0, rfl, by simp, fun k v hk => ?_⟩⟩
  rw [World.cell?_alloc_new, ← Array.getElem?_toList, h, Nat.zero_add, List.getElem?_map, hk]
  rfl
theorem flatMap_get {α : Type} {f : α → List Value} {sz : Nat} (hf : ∀ x, (f x).length = sz) {j : Nat} {v : Value} {x : α} (hv : (f x)[j]? = some v) : ∀ (l : List α) (k : Nat), l[k]? = some x → (l.flatMap f)[k * sz + j]? = some v := by
  have hj : j < sz := by rw [← hf x]; exact (List.getElem?_eq_some_iff.1 hv).1
  intro l
  induction l with
  | nil => intro k h; simp at h
  | cons y t ih =>
    intro k h
    cases k with
    | zero =>
      simp at h
      subst h
      rw [List.flatMap_cons, Nat.zero_mul, Nat.zero_add, List.getElem?_append_left (by rw [hf]; exact hj)]
      exact hv
    | succ k =>
      rw [List.flatMap_cons, List.getElem?_append_right (by rw [hf]; rw [Nat.succ_mul]; omega), hf, show (k + 1) * sz + j - sz = k * sz + j from by rw [Nat.succ_mul]; omega]
      exact ih k (by simpa using h)
theorem Recs.of_alloc {α : Type} {f : α → List Value} {sz : Nat} (hf : ∀ x, (f x).length = sz) (w : World) (cs : Array Value) (t : TypeId) (xs : List α) (n : Nat) (hn : xs.length = n) (h : cs.toList = xs.flatMap f) (H : Nat) (hH : H = w.heap.size) : Recs f sz (w.alloc (.cells cs t)) (some ⟨H, 0, none⟩) n xs := by
  subst hH
  refine ⟨hn, fun _ => ⟨w.heap.size, 0, rfl, by simp, fun k x hk j v hv => ?_⟩⟩
  rw [World.cell?_alloc_new, ← Array.getElem?_toList, h, Nat.zero_add]
  exact flatMap_get hf hv xs k hk
end Go.Proofs.Ytkomooeohlcnaaa
