/- What is read of an argument, opened to what a walk wants: slices of integers and of structs, structs by value; and what their sizes are. -/
import Derived.Test.YtkomooeohlcnaaaMem
import Derived.SizedLaws
import Derived.ChangeArms
import Derived.ChangeOld
namespace Go.Proofs.Ytkomooeohlcnaaa
set_option linter.unusedSimpArgs false
set_option linter.unusedVariables false
open Go.RowKit Go.ChangeShapes Go.WideShapes Go.Deep
section
variable {H : Type} {enc : TypeId × Value → H} {P : Program} {w : World} {base : Nat} {spare : Nat → Bool} {held : Bool}

theorem int_field {k : IntKind} {t : TypeId} {n i : Nat} {cs : List Value} {xs : List (DataW H × List MemPlace)} (ht : P.underlying t = some (.int k)) (hi : i < xs.length) (h : DataW.trod enc P w base spare held n t cs = xs[i]?) :
    ∃ m, cs = [.int k m] ∧ (Lit.int k m).wf = true := by
  rw [List.getElem?_eq_getElem hi] at h
  obtain ⟨m, h1, _, h2⟩ := DataW.trod_int ht h
  exact ⟨m, h1, h2⟩
theorem el_two {k : IntKind} {t u : TypeId} {n : Nat} {cs : List Value} {y : DataW H × List MemPlace} {f0 f1 : Field} (ht : P.underlying t = some (.struct #[f0, f1])) (hu : P.underlying u = some (.int k)) (h0 : f0.type = u) (h1 : f1.type = u) (o0 : f0.offset = 0) (o1 : f1.offset = 1)
    (hC : P.cellsOf t = 2) (hE : P.cellsOf u = 1) (h : DataW.trod enc P w base spare held n t cs = some y) : ∃ a b, cs = [.int k a, .int k b] ∧ (Lit.int k a).wf = true ∧ (Lit.int k b).wf = true := by
  obtain ⟨xs, n', _, _, hl, hx, hf⟩ := DataW.trod_struct ht h
  have e0 := hf 0 f0 rfl
  have e1 := hf 1 f1 rfl
  rw [h0, o0, hE] at e0
  rw [h1, o1, hE] at e1
  obtain ⟨a, ha, wa⟩ := int_field hu (by rw [hx]; simp) e0
  obtain ⟨b, hb, wb⟩ := int_field hu (by rw [hx]; simp) e1
  rw [hC] at hl
  match cs, hl with
  | [c0, c1], _ =>
    simp at ha hb
    subst ha hb
    exact ⟨a, b, rfl, wa, wb⟩
theorem two_field {k : IntKind} {t u : TypeId} {n i : Nat} {cs : List Value} {xs : List (DataW H × List MemPlace)} {f0 f1 : Field} (ht : P.underlying t = some (.struct #[f0, f1])) (hu : P.underlying u = some (.int k)) (h0 : f0.type = u) (h1 : f1.type = u) (o0 : f0.offset = 0) (o1 : f1.offset = 1)
    (hC : P.cellsOf t = 2) (hE : P.cellsOf u = 1) (hi : i < xs.length) (h : DataW.trod enc P w base spare held n t cs = xs[i]?) : ∃ a b, cs = [.int k a, .int k b] ∧ (Lit.int k a).wf = true ∧ (Lit.int k b).wf = true := by
  rw [List.getElem?_eq_getElem hi] at h
  exact el_two ht hu h0 h1 o0 o1 hC hE h
theorem el_int {k : IntKind} {u : TypeId} (hu : P.underlying u = some (.int k)) (n : Nat) (cs : List Value) (y : DataW H × List MemPlace) (h : DataW.trod enc P w base spare held n u cs = some y) : ∃ m, cs = [.int k m] ∧ (Lit.int k m).wf = true := by
  obtain ⟨m, h1, _, h2⟩ := DataW.trod_int hu h
  exact ⟨m, h1, h2⟩

/-- what is known of a slice's capacity -/
structure CapOk (A : Option Addr) (n c : Nat) : Prop where
  le : n ≤ c
  mx : c ≤ maxLen
  nil : A = none → c = 0

theorem open_recs {α : Type} [Inhabited α] (f : α → List Value) (sz : Nat) (hsz : 0 < sz) (hf : ∀ x, (f x).length = sz) (ok : α → Prop) {t e : TypeId} {fuel : Nat} {v : Value} {y : DataW H × List MemPlace} (ht : P.underlying t = some (.slice e)) (hC : P.cellsOf e = sz)
    (hel : ∀ n cs y, DataW.trod enc P w base spare held n e cs = some y → ∃ x, cs = f x ∧ ok x) (h : DataW.trod enc P w base spare held fuel t [v] = some y) :
    ∃ (A : Option Addr) (n c : Nat) (xs : List α), v = .slice A n c ∧ n ≤ maxLen ∧ CapOk A n c ∧ Recs f sz w A n xs ∧ (∀ x ∈ xs, ok x) ∧ ((∀ q ∈ y.1.weights P t, q ≤ reachBytes) → n * P.bytesOf e ≤ reachBytes) := by
  rcases open_slice ht h with ⟨hc, rfl⟩ | ⟨a, len, cap, m, fu, D, Pl, hc, hb, hl, hm, hmm, rfl, hi⟩
  · injection hc with hc _
    subst hc
    exact ⟨none, 0, 0, [], rfl, Nat.zero_le _, ⟨Nat.le_refl _, Nat.zero_le _, fun _ => rfl⟩, Recs.nil f sz w, by simp, fun _ => by omega⟩
  · injection hc with hc _
    subst hc
    have hlm : len ≤ m := by rw [hmm]; split <;> omega
    have each : ∀ i, i < len → ∃ x, (w.cells? base (a.add (i * P.cellsOf e)) (P.cellsOf e) = some (f x) ∧ ok x) := by
      intro i hi'
      obtain ⟨cs', h1, h2⟩ := hi i (by omega)
      obtain ⟨x, rfl, hx⟩ := hel _ _ _ h2
      exact ⟨x, h1, hx⟩
    obtain ⟨F, hF⟩ := choose_lt each
    refine ⟨some a, len, cap, (List.range len).map F, rfl, by omega, ⟨hl, hm, fun h => absurd h (by simp)⟩, ⟨by simp, fun hn => ?_⟩, ?_, fun hq => ?_⟩
    · obtain ⟨b, off, spot⟩ := a
      have c0 := (World.cells?_some (hF 0 hn).1).2.2 0 (by omega)
      have hx0 : ((f (F 0))[0]?) = some ((f (F 0))[0]'(by rw [hf]; exact hsz)) := List.getElem?_eq_getElem _
      rw [hx0] at c0
      have e0 : ((⟨b, off, spot⟩ : Addr).add (0 * P.cellsOf e)).add 0 = ⟨b, off, spot⟩ := by simp [Addr.add]
      rw [e0] at c0
      have hspot : spot = none := by simpa using World.cell?_spot c0
      subst hspot
      refine ⟨b, off, rfl, World.block_lt_of_cell? w ⟨b, off, none⟩ c0, fun k x hk j v hv => ?_⟩
      rw [List.getElem?_map] at hk
      rcases Nat.lt_or_ge k len with hkl | hkl
      · rw [List.getElem?_range hkl] at hk
        obtain rfl : F k = x := by simpa using hk
        have hj : j < sz := by rw [← hf (F k)]; exact (List.getElem?_eq_some_iff.1 hv).1
        have cc := (World.cells?_some (hF k hkl).1).2.2 j (by rw [hC]; exact hj)
        rw [hv, hC] at cc
        have e1 : ((⟨b, off, none⟩ : Addr).add (k * sz)).add j = ⟨b, off + k * sz + j, none⟩ := by
          rw [Go.Deep.add_add]
          unfold Addr.add
          split
          · rename_i h0; simp <;> omega
          · simp <;> omega
        rw [e1] at cc
        exact cc
      · rw [List.getElem?_eq_none (by simpa using hkl)] at hk
        simp at hk
    · intro x hx
      simp only [List.mem_map, List.mem_range] at hx
      obtain ⟨i, hi', rfl⟩ := hx
      exact (hF i hi').2
    · have := hq ((((List.range len).map D).length + ((List.range (m - len)).map fun j => D (len + j)).length) * P.bytesOf e) (by simp [DataW.weights, ht])
      simp only [List.length_map, List.length_range] at this
      have h2 : len * P.bytesOf e ≤ (len + (m - len)) * P.bytesOf e := Nat.mul_le_mul_right _ (by omega)
      omega
theorem ints_of_recs {A : Option Addr} {n : Nat} {xs : List Int} (h : Recs (fun v : Int => [Value.int .i64 v]) 1 w A n xs) : Ints w A n xs :=
  ⟨h.len, fun hn => by
    obtain ⟨b, off, e, hlt, hc⟩ := h.cells hn
    exact ⟨b, off, e, hlt, fun k v hk => by
      have := hc k v hk 0 (.int .i64 v) rfl
      simpa using this⟩⟩
theorem open_ints_arg {t e : TypeId} {fuel : Nat} {v : Value} {y : DataW H × List MemPlace} (ht : P.underlying t = some (.slice e)) (he : P.underlying e = some (.int .i64)) (hC : P.cellsOf e = 1) (h : DataW.trod enc P w base spare held fuel t [v] = some y) :
    ∃ (A : Option Addr) (n c : Nat) (xs : List Int), v = .slice A n c ∧ n ≤ maxLen ∧ CapOk A n c ∧ Ints w A n xs ∧ (∀ x ∈ xs, (Lit.int .i64 x).wf = true) ∧ ((∀ q ∈ y.1.weights P t, q ≤ reachBytes) → n * P.bytesOf e ≤ reachBytes) := by
  obtain ⟨A, n, c, xs, h1, h2, h3, h4, h5, h6⟩ := open_recs (fun v : Int => [Value.int .i64 v]) 1 (by omega) (fun _ => rfl) (fun x => (Lit.int .i64 x).wf = true) ht hC (fun n cs y hy => el_int he n cs y hy) h
  exact ⟨A, n, c, xs, h1, h2, h3, ints_of_recs h4, h5, h6⟩
theorem weights_arg {ts : List TypeId} {ds : List (DataW H)} (h : (DataW.weightsEach P ts ds).all (· ≤ reachBytes) = true) {j : Nat} {t : TypeId} {d : DataW H} (ht : ts[j]? = some t) (hd : ds[j]? = some d) : ∀ q ∈ d.weights P t, q ≤ reachBytes := by
  intro q hq
  simpa using List.all_eq_true.1 h q (DataW.weights_mem_each ht hd q hq)
theorem weights_part {t : TypeId} {fs : Array Field} {parts : List (DataW H)} (hu : P.underlying t = some (.struct fs)) (h : ∀ q ∈ (DataW.agg parts).weights P t, q ≤ reachBytes) {j : Nat} {f : Field} {d : DataW H} (hj : fs[j]? = some f) (hd : parts[j]? = some d) : ∀ q ∈ d.weights P f.type, q ≤ reachBytes := by
  intro q hq
  refine h q ?_
  simp only [DataW.weights, hu]
  exact DataW.weights_mem_each (j := j) (by simp [hj]) hd q hq
theorem open_agg_list {r : Reach} {b0 : Nat} {t : TypeId} {fs : Array Field} {v : Value} {d : DataW H} {p : List MemPlace} (hs : P.underlying t = some (.struct fs))
    (hv : Value.okWide P w r b0 t v) (h : DataW.Trod enc P w base spare held t v d p) : ∃ cs n, v = .agg ⟨cs⟩ ∧ DataW.trod enc P w base spare held n t cs = some (d, p) := by
  obtain ⟨cs, rfl, hsz⟩ := okWide_struct hs hv
  obtain ⟨l⟩ := cs
  obtain ⟨fuel, hf⟩ := h
  exact ⟨l, fuel, rfl, by simpa [Value.cells] using hf⟩
theorem open_ints_Trod {r : Reach} {b0 : Nat} {t e : TypeId} {v : Value} {d : DataW H} {p : List MemPlace} (ht : P.underlying t = some (.slice e)) (he : P.underlying e = some (.int .i64)) (hC : P.cellsOf e = 1) (hv : Value.okWide P w r b0 t v) (h : DataW.Trod enc P w base spare held t v d p) :
    ∃ (A : Option Addr) (n c : Nat) (xs : List Int), v = .slice A n c ∧ n ≤ maxLen ∧ CapOk A n c ∧ Ints w A n xs ∧ (∀ x ∈ xs, (Lit.int .i64 x).wf = true) ∧ ((∀ q ∈ d.weights P t, q ≤ reachBytes) → n * P.bytesOf e ≤ reachBytes) := by
  obtain ⟨a, len, cap, rfl⟩ := okWide_slice ht hv
  obtain ⟨fuel, hf⟩ := h
  exact open_ints_arg ht he hC (y := (d, p)) (by simpa [Value.cells] using hf)
theorem open_recs_Trod {α : Type} [Inhabited α] (f : α → List Value) (sz : Nat) (hsz : 0 < sz) (hf : ∀ x, (f x).length = sz) (ok : α → Prop) {r : Reach} {b0 : Nat} {t e : TypeId} {v : Value} {d : DataW H} {p : List MemPlace} (ht : P.underlying t = some (.slice e)) (hC : P.cellsOf e = sz)
    (hel : ∀ n cs y, DataW.trod enc P w base spare held n e cs = some y → ∃ x, cs = f x ∧ ok x) (hv : Value.okWide P w r b0 t v) (h : DataW.Trod enc P w base spare held t v d p) :
    ∃ (A : Option Addr) (n c : Nat) (xs : List α), v = .slice A n c ∧ n ≤ maxLen ∧ CapOk A n c ∧ Recs f sz w A n xs ∧ (∀ x ∈ xs, ok x) ∧ ((∀ q ∈ d.weights P t, q ≤ reachBytes) → n * P.bytesOf e ≤ reachBytes) := by
  obtain ⟨a, len, cap, rfl⟩ := okWide_slice ht hv
  obtain ⟨fuel, hf'⟩ := h
  exact open_recs f sz hsz hf ok ht hC hel (y := (d, p)) (by simpa [Value.cells] using hf')
theorem two_box (w : World) (X Y : Array Value) (t u : TypeId) : (∀ i, ((w.alloc (.cells X t)).alloc (.cells Y u)).cell? ⟨w.heap.size, i, none⟩ = X[i]?) ∧ ∀ i, ((w.alloc (.cells X t)).alloc (.cells Y u)).cell? ⟨w.heap.size + 1, i, none⟩ = Y[i]? := by
  refine ⟨fun i => ?_, fun i => ?_⟩
  · rw [World.cell?_alloc_lt (w.alloc (.cells X t)) _ ⟨w.heap.size, i, none⟩ (by simp), World.cell?_alloc_new]
  · have e : w.heap.size + 1 = (w.alloc (.cells X t)).heap.size := by simp
    rw [e, World.cell?_alloc_new]
theorem one_box (w : World) (X : Array Value) (t : TypeId) (i : Nat) : (w.alloc (.cells X t)).cell? ⟨w.heap.size, i, none⟩ = X[i]? := by rw [World.cell?_alloc_new]
theorem bel_alloc2 {w w1 : World} {o o2 : Obj} (h : Below ((w.alloc o).alloc o2).heap.size ((w.alloc o).alloc o2) w1) : Below w.heap.size w w1 := (((Below.refl _ w).alloc (Nat.le_refl _) _).alloc (by simp) _).trans (h.mono (by simp; omega))
end
end Go.Proofs.Ytkomooeohlcnaaa
