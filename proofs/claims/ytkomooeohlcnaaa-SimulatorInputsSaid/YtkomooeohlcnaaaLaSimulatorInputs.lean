/- The statement SimulatorInputs: for every input the law returns true, and every argument reads afterwards as before. No condition. -/
import Derived.Test.YtkomooeohlcnaaaRows
import Derived.Test.YtkomooeohlcnaaaLaBase59
import Derived.Test.YtkomooeohlcnaaaOpen59
import Derived.Test.YtkomooeohlcnaaaCkS
import Derived.Test.YtkomooeohlcnaaaInP
import Derived.Test.YtkomooeohlcnaaaInC
import Derived.Test.YtkomooeohlcnaaaCpt
import Derived.Test.YtkomooeohlcnaaaFau
import Derived.Test.YtkomooeohlcnaaaSoI
import Derived.SizedLaws
import Derived.WalkKit
import Derived.ProofKit
import Derived.OpenShut
import Derived.ShutString
import Derived.ChangeOld
import Derived.Below
namespace Go.Proofs.Ytkomooeohlcnaaa
set_option linter.unusedSimpArgs false
set_option linter.unusedVariables false
open Go.RowKit
theorem u16_bd {n : Int} (h : (Lit.int .u16 n).wf = true) : 0 ≤ n ∧ n < 65536 := by
  have := bounds_u16 h
  omega
/-- the state of the law's loops -/
structure InS (c : Cra) (m : Mom) (w : World) (NB : Nat) (L : List Int) (wr : World) : Prop where
  C : Has wr w.heap.size c.cells
  M : Has wr (w.heap.size + 1) m.cells
  D : Has wr NB (bdC L)
  B : Below w.heap.size w wr
  ge : w.heap.size + 2 ≤ NB
theorem InS.below {c : Cra} {m : Mom} {w wr w1 : World} {NB : Nat} {L : List Int} (h : InS c m w NB L wr) (hb : Below wr.heap.size wr w1) : InS c m w NB L w1 :=
  ⟨h.C.below hb, h.M.below hb, h.D.below hb, bel_trans h.B hb, h.ge⟩
theorem InS.old {c : Cra} {m : Mom} {w wr : World} {NB : Nat} {L M : List Int} (h : InS c m w NB L wr) (e : bdB M = bdB L) : InS c m w NB M wr :=
  ⟨h.C, h.M, (bd_same e).1 ▸ h.D, h.B, h.ge⟩
theorem InS.new {c : Cra} {m : Mom} {w wr : World} {NB j : Nat} {L M : List Int} (h : InS c m w NB L wr) (hj : j ≤ 8) (e : bdC M = (bdC L).set j (.bool true)) : InS c m w NB M (wr.setCell ⟨NB, j, none⟩ (.bool true)) :=
  ⟨h.C.other NB j _ (by have := h.ge; omega), h.M.other NB j _ (by have := h.ge; omega), e ▸ h.D.set j _ (by rw [bd_len]; omega), h.B.setCell (p := ⟨NB, j, none⟩) (by have := h.ge; show w.heap.size ≤ NB; omega) _, h.ge⟩
def IoRel (c : Cra) (l : List Sns) (m : Mom) (er : List (Int × Int)) (w : World) (NB : Nat) (v t : Value) (wr : World) : Prop :=
  ∃ k : Nat, k ≤ 2 ∧ t = .int .i64 ((k : Int) + 1) ∧ v = .int .i64 (bdN (flAll c l m er k)) ∧ InS c m w NB (flAll c l m er k) wr
def IiRel (c : Cra) (m : Mom) (w : World) (NB DB : Nat) (L : List Int) (RL : List Rep) (A1 A2 : Option Addr) (q : Nat) (S : List Value) (v t : Value) (wr : World) : Prop :=
  ∃ i : Nat, i ≤ q ∧ t = .int .i64 i ∧ v = .int .i64 (bdN (L ++ flOf c (RL.take i))) ∧ InS c m w NB (L ++ flOf c (RL.take i)) wr ∧ Has wr DB S ∧ Recs Rep.cells 8 wr A1 q RL ∧ Recs oneB 1 wr A2 q (RL.map (agR c)) ∧ NB < DB ∧ (∀ a, A1 = some a → NB < a.block) ∧ ∀ a, A2 = some a → NB < a.block
def IfRel (c : Cra) (m : Mom) (w : World) (NB : Nat) (L K : List Int) (A : Option Addr) (q : Nat) (t : Value) (wr : World) : Prop :=
  ∃ i : Nat, i ≤ q ∧ t = .int .i64 i ∧ InS c m w NB L wr ∧ Ints wr A q K
theorem Recs.set {α : Type} {f : α → List Value} {sz : Nat} {w : World} {A : Option Addr} {n : Nat} {xs : List α} (h : Recs f sz w A n xs) (b i : Nat) (v : Value) (hA : ∀ a, A = some a → b < a.block) : Recs f sz (w.setCell ⟨b, i, none⟩ v) A n xs :=
  ⟨h.len, fun hn => by
    obtain ⟨b1, off, e, hb, hc⟩ := h.cells hn
    have hne := hA _ e
    exact ⟨b1, off, e, by simpa [World.setCell] using hb, fun k x hx j v hv => by
      rw [World.cell?_setCell_other _ ⟨b, i, none⟩ _ _ (by intro e; injection e with e _; subst e; exact absurd hne (Nat.lt_irrefl _))]
      exact hc k x hx j v hv⟩⟩
theorem fl_src {c : Cra} {l : List Sns} {m : Mom} {er : List (Int × Int)} (hw : ∀ s ∈ l, s.wf) : ∀ k x, x ∈ flAll c l m er k → 1 ≤ x ∧ x ≤ 8
  | 0, x, h => by cases h
  | k + 1, x, h => by
    rw [fl_all2, List.mem_append] at h
    rcases h with h | h
    · exact fl_src hw k x h
    · unfold flOf at h
      obtain ⟨r, hr, rfl⟩ := List.mem_map.1 h
      exact rep_src (seRL_ok hw r (List.mem_filter.1 hr).1)
def RegP (c : Cra) (w wr : World) (b2 p2 : Nat) (ag : Bool) (R : List Value) (W : World) : Prop := Below wr.heap.size wr W ∧ Has W wr.heap.size R
theorem reg_cells {c : Cra} {m : Mom} {w wr W : World} {NB b2 p2 : Nat} {L : List Int} {ag : Bool} {j : Nat} {ki x y va bo we tk : Int} (h : RegP c w wr b2 p2 ag [.int .i64 (j : Int), .int .u8 ki, .int .i64 x, .int .i64 y, .int .i64 va, .int .i64 bo, .int .i64 we, .int .i64 tk] W) (hs : InS c m w NB L wr) (h2 : ∀ W, Below wr.heap.size wr W → W.cell? ⟨b2, p2, none⟩ = some (.bool ag)) :
    W.cell? ⟨wr.heap.size, 0, none⟩ = some (.int .i64 (j : Int)) ∧ W.cell? ⟨wr.heap.size, 1, none⟩ = some (.int .u8 ki) ∧ W.cell? ⟨wr.heap.size, 2, none⟩ = some (.int .i64 x) ∧ W.cell? ⟨wr.heap.size, 3, none⟩ = some (.int .i64 y) ∧ W.cell? ⟨wr.heap.size, 4, none⟩ = some (.int .i64 va) ∧ W.cell? ⟨wr.heap.size, 5, none⟩ = some (.int .i64 bo) ∧ W.cell? ⟨wr.heap.size, 6, none⟩ = some (.int .i64 we) ∧ W.cell? ⟨wr.heap.size, 7, none⟩ = some (.int .i64 tk) ∧ W.cell? ⟨w.heap.size, 1, none⟩ = some (.int .i64 c.px) ∧ W.cell? ⟨w.heap.size, 2, none⟩ = some (.int .i64 c.py) ∧ W.cell? ⟨b2, p2, none⟩ = some (.bool ag) := by
  have s := hs.below h.1
  exact ⟨h.2.cell 0 _ rfl, h.2.cell 1 _ rfl, h.2.cell 2 _ rfl, h.2.cell 3 _ rfl, h.2.cell 4 _ rfl, h.2.cell 5 _ rfl, h.2.cell 6 _ rfl, h.2.cell 7 _ rfl, s.C.cell 1 _ rfl, s.C.cell 2 _ rfl, h2 _ h.1⟩
theorem RegP.drew {c : Cra} {w wr W : World} {b2 p2 : Nat} {ag : Bool} {R : List Value} (h : RegP c w wr b2 p2 ag R W) : RegP c w wr b2 p2 ag R W.drew := ⟨h.1.drew, h.2.drew⟩
theorem RegP.below {c : Cra} {w wr W W1 : World} {b2 p2 : Nat} {ag : Bool} {R : List Value} (h : RegP c w wr b2 p2 ag R W) (hb : Below W.heap.size W W1) : RegP c w wr b2 p2 ag R W1 := ⟨bel_trans h.1 hb, h.2.below hb⟩
theorem bdC_nil : bdC [] = [.bool false, .bool false, .bool false, .bool false, .bool false, .bool false, .bool false, .bool false, .bool false] := rfl
theorem bdN_nil : bdN [] = 0 := rfl
theorem in_count {K L : List Int} (h : K = Lib.compact (L.mergeSort fun x y => decide (x ≤ y))) (hs : ∀ x ∈ L, 1 ≤ x ∧ x ≤ 8) : K.Pairwise (· < ·) ∧ (∀ x, x ∈ K ↔ x ∈ L) ∧ K.length = bdN L := by
  subst h
  obtain ⟨h1, h2⟩ := compact_sorted L
  exact ⟨h1, h2, bd_count h1 h2 (fun x hx => by have := hs x hx; omega)⟩
theorem bd_in {L : List Int} {x : Int} (h : x ∈ L) (h0 : 0 ≤ x) : bdB L x.toNat = true := by
  unfold bdB
  rw [Int.toNat_of_nonneg h0]
  exact decide_eq_true h
set_option maxRecDepth 100000 in
set_option maxHeartbeats 4000000 in
theorem in_err (c : Cra) (A : Option Addr) (n cp : Nat) (l : List Sns) (m : Mom) (er : List (Int × Int)) (w : World) (hl : Recs Sns.cells 7 w A n l) (hw : ∀ s ∈ l, s.wf) (hn : n ≤ maxLen) (_ : n * 56 ≤ reachBytes) (he : Recs er2 2 w m.E m.ne er) (hne : m.ne ≤ maxLen) (hsi : 0 ≤ m.si ∧ m.si < 65536) (h1 : seE c l 1 m.we m.wn m.se m.sn er m.s0 m.s1 ≠ 0) :
    Calls Try.prog 3 #[.agg #[.int .i64 c.tk, .int .i64 c.px, .int .i64 c.py, .int .i64 c.ve, .int .i64 c.vn, .int .i64 c.al, .int .i64 c.vs, .int .i64 c.hd, .int .i64 c.ca, .int .i64 c.fu, .int .i64 c.bk, .bool c.gr], .slice A n cp, .agg #[.int .i64 m.we, .int .i64 m.wn, .slice m.E m.ne m.ce, .int .i64 m.se, .int .i64 m.sn, .int .u16 m.si, .bool m.th, .bool m.st, .string m.s0, .string m.s1]] w fun e w' => e = .returned (.bool true) ∧ Below w.heap.size w w' := by
  have HX := Lib.hid (fun w' hB => (xSense c A n cp l 1 m er w' (hl.below (w' := w') hB) hn hw (he.below (w' := w') hB) hne hsi).mono fun e w1 h => se_u h)
  unfold SeU at HX
  have HY := Lib.hid (fun w' hB => xFaultyE c A n cp l m er w' (hl.below (w' := w') hB) hn hw (he.below (w' := w') hB) hne hsi h1)
  generalize seE c l 1 m.we m.wn m.se m.sn er m.s0 m.s1 = EE at *
  have e1 : (EE == 0) = false := beq_eq_false_iff_ne.2 h1
  have e2 : (EE != 0) = true := by rw [bne, e1]; rfl
  clear hl hw he hn hne hsi h1
  go_enter Try.func3, Try.ntmps3
  go_wp2_with fail
  refine (awake_any _).mono ?_; rintro e w1 ⟨rfl, hB⟩
  have KC : Hid (Has w1 w.heap.size c.cells) := Lib.hid (((Has.new w _ _).alloc _).below hB)
  have KM : Hid (Has w1 (w.heap.size + 1) m.cells) := Lib.hid ((Has.newAt (w.alloc _) _ _ (w.heap.size + 1) (by simp)).below hB)
  have HSZ := Lib.hid (show w.heap.size + 2 ≤ w1.heap.size by have := hB.size; simp at this; omega)
  have HB := Lib.hid (bel_alloc2 hB)
  clear hB
  go_wp2_with fail
  have HS : Hid (InS c m w w1.heap.size [] (w1.alloc (.cells #[.bool false, .bool false, .bool false, .bool false, .bool false, .bool false, .bool false, .bool false, .bool false] 36))) := Lib.hid ⟨KC.out.alloc _, KM.out.alloc _, bdC_nil ▸ Has.new w1 #[.bool false, .bool false, .bool false, .bool false, .bool false, .bool false, .bool false, .bool false, .bool false] 36, bel_alloc1 HB.out _, HSZ.out⟩
  generalize hWB : w1.alloc (.cells #[.bool false, .bool false, .bool false, .bool false, .bool false, .bool false, .bool false, .bool false, .bool false] 36) = WB at *
  generalize hNB : w1.heap.size = NB at *
  clear hWB hNB KC KM HB HSZ
  refine wp_loop_rounds 1 ?_
  rw [rounds_succ]
  have k0 : WB.cell? ⟨w.heap.size, 0, none⟩ = some (.int .i64 c.tk) := HS.out.C.cell 0 _ rfl
  have k1 : WB.cell? ⟨w.heap.size, 1, none⟩ = some (.int .i64 c.px) := HS.out.C.cell 1 _ rfl
  have k2 : WB.cell? ⟨w.heap.size, 2, none⟩ = some (.int .i64 c.py) := HS.out.C.cell 2 _ rfl
  have k3 : WB.cell? ⟨w.heap.size, 3, none⟩ = some (.int .i64 c.ve) := HS.out.C.cell 3 _ rfl
  have k4 : WB.cell? ⟨w.heap.size, 4, none⟩ = some (.int .i64 c.vn) := HS.out.C.cell 4 _ rfl
  have k5 : WB.cell? ⟨w.heap.size, 5, none⟩ = some (.int .i64 c.al) := HS.out.C.cell 5 _ rfl
  have k6 : WB.cell? ⟨w.heap.size, 6, none⟩ = some (.int .i64 c.vs) := HS.out.C.cell 6 _ rfl
  have k7 : WB.cell? ⟨w.heap.size, 7, none⟩ = some (.int .i64 c.hd) := HS.out.C.cell 7 _ rfl
  have k8 : WB.cell? ⟨w.heap.size, 8, none⟩ = some (.int .i64 c.ca) := HS.out.C.cell 8 _ rfl
  have k9 : WB.cell? ⟨w.heap.size, 9, none⟩ = some (.int .i64 c.fu) := HS.out.C.cell 9 _ rfl
  have k10 : WB.cell? ⟨w.heap.size, 10, none⟩ = some (.int .i64 c.bk) := HS.out.C.cell 10 _ rfl
  have k11 : WB.cell? ⟨w.heap.size, 11, none⟩ = some (.bool c.gr) := HS.out.C.cell 11 _ rfl
  have m0 : WB.cell? ⟨w.heap.size + 1, 0, none⟩ = some (.int .i64 m.we) := HS.out.M.cell 0 _ rfl
  have m1 : WB.cell? ⟨w.heap.size + 1, 1, none⟩ = some (.int .i64 m.wn) := HS.out.M.cell 1 _ rfl
  have m2 : WB.cell? ⟨w.heap.size + 1, 2, none⟩ = some (.slice m.E m.ne m.ce) := HS.out.M.cell 2 _ rfl
  have m3 : WB.cell? ⟨w.heap.size + 1, 3, none⟩ = some (.int .i64 m.se) := HS.out.M.cell 3 _ rfl
  have m4 : WB.cell? ⟨w.heap.size + 1, 4, none⟩ = some (.int .i64 m.sn) := HS.out.M.cell 4 _ rfl
  have m5 : WB.cell? ⟨w.heap.size + 1, 5, none⟩ = some (.int .u16 m.si) := HS.out.M.cell 5 _ rfl
  have m6 : WB.cell? ⟨w.heap.size + 1, 6, none⟩ = some (.bool m.th) := HS.out.M.cell 6 _ rfl
  have m7 : WB.cell? ⟨w.heap.size + 1, 7, none⟩ = some (.bool m.st) := HS.out.M.cell 7 _ rfl
  have m8 : WB.cell? ⟨w.heap.size + 1, 8, none⟩ = some (.string m.s0) := HS.out.M.cell 8 _ rfl
  have m9 : WB.cell? ⟨w.heap.size + 1, 9, none⟩ = some (.string m.s1) := HS.out.M.cell 9 _ rfl
  go_wp2_with fail
  refine (HX.out _ HS.out.B).mono ?_; rintro e w2 ⟨A1, A2, c1, c2, q1, rfl, r1, r2, hB, hq, _⟩
  clear k0 k1 k2 k3 k4 k5 k6 k7 k8 k9 k10 k11 m0 m1 m2 m3 m4 m5 m6 m7 m8 m9
  replace HS := Lib.hid (HS.out.below hB)
  clear r1 r2 hB hq
  generalize seQ c l 1 m er = Z at *
  obtain ⟨z0, z1, z2, z3, z4, z5, z6, z7, z8, z9, z10, z11⟩ := Z
  simp only [SeZ.cells]
  have HT := Lib.hid (HS.out.below (below_alloc1 w2 (.cells #[.int .i64 z0, .slice A1 q1 c1, .int .i64 z1, .int .i64 z2, .int .i64 z3, .int .i64 z4, .int .i64 z5, .int .i64 z6, .int .i64 z7, .bool z8, .bool z9, .bool z10, .string z11] 39)))
  have k0 : (w2.alloc (.cells #[.int .i64 z0, .slice A1 q1 c1, .int .i64 z1, .int .i64 z2, .int .i64 z3, .int .i64 z4, .int .i64 z5, .int .i64 z6, .int .i64 z7, .bool z8, .bool z9, .bool z10, .string z11] 39)).cell? ⟨w.heap.size, 0, none⟩ = some (.int .i64 c.tk) := HT.out.C.cell 0 _ rfl
  have k1 : (w2.alloc (.cells #[.int .i64 z0, .slice A1 q1 c1, .int .i64 z1, .int .i64 z2, .int .i64 z3, .int .i64 z4, .int .i64 z5, .int .i64 z6, .int .i64 z7, .bool z8, .bool z9, .bool z10, .string z11] 39)).cell? ⟨w.heap.size, 1, none⟩ = some (.int .i64 c.px) := HT.out.C.cell 1 _ rfl
  have k2 : (w2.alloc (.cells #[.int .i64 z0, .slice A1 q1 c1, .int .i64 z1, .int .i64 z2, .int .i64 z3, .int .i64 z4, .int .i64 z5, .int .i64 z6, .int .i64 z7, .bool z8, .bool z9, .bool z10, .string z11] 39)).cell? ⟨w.heap.size, 2, none⟩ = some (.int .i64 c.py) := HT.out.C.cell 2 _ rfl
  have k3 : (w2.alloc (.cells #[.int .i64 z0, .slice A1 q1 c1, .int .i64 z1, .int .i64 z2, .int .i64 z3, .int .i64 z4, .int .i64 z5, .int .i64 z6, .int .i64 z7, .bool z8, .bool z9, .bool z10, .string z11] 39)).cell? ⟨w.heap.size, 3, none⟩ = some (.int .i64 c.ve) := HT.out.C.cell 3 _ rfl
  have k4 : (w2.alloc (.cells #[.int .i64 z0, .slice A1 q1 c1, .int .i64 z1, .int .i64 z2, .int .i64 z3, .int .i64 z4, .int .i64 z5, .int .i64 z6, .int .i64 z7, .bool z8, .bool z9, .bool z10, .string z11] 39)).cell? ⟨w.heap.size, 4, none⟩ = some (.int .i64 c.vn) := HT.out.C.cell 4 _ rfl
  have k5 : (w2.alloc (.cells #[.int .i64 z0, .slice A1 q1 c1, .int .i64 z1, .int .i64 z2, .int .i64 z3, .int .i64 z4, .int .i64 z5, .int .i64 z6, .int .i64 z7, .bool z8, .bool z9, .bool z10, .string z11] 39)).cell? ⟨w.heap.size, 5, none⟩ = some (.int .i64 c.al) := HT.out.C.cell 5 _ rfl
  have k6 : (w2.alloc (.cells #[.int .i64 z0, .slice A1 q1 c1, .int .i64 z1, .int .i64 z2, .int .i64 z3, .int .i64 z4, .int .i64 z5, .int .i64 z6, .int .i64 z7, .bool z8, .bool z9, .bool z10, .string z11] 39)).cell? ⟨w.heap.size, 6, none⟩ = some (.int .i64 c.vs) := HT.out.C.cell 6 _ rfl
  have k7 : (w2.alloc (.cells #[.int .i64 z0, .slice A1 q1 c1, .int .i64 z1, .int .i64 z2, .int .i64 z3, .int .i64 z4, .int .i64 z5, .int .i64 z6, .int .i64 z7, .bool z8, .bool z9, .bool z10, .string z11] 39)).cell? ⟨w.heap.size, 7, none⟩ = some (.int .i64 c.hd) := HT.out.C.cell 7 _ rfl
  have k8 : (w2.alloc (.cells #[.int .i64 z0, .slice A1 q1 c1, .int .i64 z1, .int .i64 z2, .int .i64 z3, .int .i64 z4, .int .i64 z5, .int .i64 z6, .int .i64 z7, .bool z8, .bool z9, .bool z10, .string z11] 39)).cell? ⟨w.heap.size, 8, none⟩ = some (.int .i64 c.ca) := HT.out.C.cell 8 _ rfl
  have k9 : (w2.alloc (.cells #[.int .i64 z0, .slice A1 q1 c1, .int .i64 z1, .int .i64 z2, .int .i64 z3, .int .i64 z4, .int .i64 z5, .int .i64 z6, .int .i64 z7, .bool z8, .bool z9, .bool z10, .string z11] 39)).cell? ⟨w.heap.size, 9, none⟩ = some (.int .i64 c.fu) := HT.out.C.cell 9 _ rfl
  have k10 : (w2.alloc (.cells #[.int .i64 z0, .slice A1 q1 c1, .int .i64 z1, .int .i64 z2, .int .i64 z3, .int .i64 z4, .int .i64 z5, .int .i64 z6, .int .i64 z7, .bool z8, .bool z9, .bool z10, .string z11] 39)).cell? ⟨w.heap.size, 10, none⟩ = some (.int .i64 c.bk) := HT.out.C.cell 10 _ rfl
  have k11 : (w2.alloc (.cells #[.int .i64 z0, .slice A1 q1 c1, .int .i64 z1, .int .i64 z2, .int .i64 z3, .int .i64 z4, .int .i64 z5, .int .i64 z6, .int .i64 z7, .bool z8, .bool z9, .bool z10, .string z11] 39)).cell? ⟨w.heap.size, 11, none⟩ = some (.bool c.gr) := HT.out.C.cell 11 _ rfl
  have m0 : (w2.alloc (.cells #[.int .i64 z0, .slice A1 q1 c1, .int .i64 z1, .int .i64 z2, .int .i64 z3, .int .i64 z4, .int .i64 z5, .int .i64 z6, .int .i64 z7, .bool z8, .bool z9, .bool z10, .string z11] 39)).cell? ⟨w.heap.size + 1, 0, none⟩ = some (.int .i64 m.we) := HT.out.M.cell 0 _ rfl
  have m1 : (w2.alloc (.cells #[.int .i64 z0, .slice A1 q1 c1, .int .i64 z1, .int .i64 z2, .int .i64 z3, .int .i64 z4, .int .i64 z5, .int .i64 z6, .int .i64 z7, .bool z8, .bool z9, .bool z10, .string z11] 39)).cell? ⟨w.heap.size + 1, 1, none⟩ = some (.int .i64 m.wn) := HT.out.M.cell 1 _ rfl
  have m2 : (w2.alloc (.cells #[.int .i64 z0, .slice A1 q1 c1, .int .i64 z1, .int .i64 z2, .int .i64 z3, .int .i64 z4, .int .i64 z5, .int .i64 z6, .int .i64 z7, .bool z8, .bool z9, .bool z10, .string z11] 39)).cell? ⟨w.heap.size + 1, 2, none⟩ = some (.slice m.E m.ne m.ce) := HT.out.M.cell 2 _ rfl
  have m3 : (w2.alloc (.cells #[.int .i64 z0, .slice A1 q1 c1, .int .i64 z1, .int .i64 z2, .int .i64 z3, .int .i64 z4, .int .i64 z5, .int .i64 z6, .int .i64 z7, .bool z8, .bool z9, .bool z10, .string z11] 39)).cell? ⟨w.heap.size + 1, 3, none⟩ = some (.int .i64 m.se) := HT.out.M.cell 3 _ rfl
  have m4 : (w2.alloc (.cells #[.int .i64 z0, .slice A1 q1 c1, .int .i64 z1, .int .i64 z2, .int .i64 z3, .int .i64 z4, .int .i64 z5, .int .i64 z6, .int .i64 z7, .bool z8, .bool z9, .bool z10, .string z11] 39)).cell? ⟨w.heap.size + 1, 4, none⟩ = some (.int .i64 m.sn) := HT.out.M.cell 4 _ rfl
  have m5 : (w2.alloc (.cells #[.int .i64 z0, .slice A1 q1 c1, .int .i64 z1, .int .i64 z2, .int .i64 z3, .int .i64 z4, .int .i64 z5, .int .i64 z6, .int .i64 z7, .bool z8, .bool z9, .bool z10, .string z11] 39)).cell? ⟨w.heap.size + 1, 5, none⟩ = some (.int .u16 m.si) := HT.out.M.cell 5 _ rfl
  have m6 : (w2.alloc (.cells #[.int .i64 z0, .slice A1 q1 c1, .int .i64 z1, .int .i64 z2, .int .i64 z3, .int .i64 z4, .int .i64 z5, .int .i64 z6, .int .i64 z7, .bool z8, .bool z9, .bool z10, .string z11] 39)).cell? ⟨w.heap.size + 1, 6, none⟩ = some (.bool m.th) := HT.out.M.cell 6 _ rfl
  have m7 : (w2.alloc (.cells #[.int .i64 z0, .slice A1 q1 c1, .int .i64 z1, .int .i64 z2, .int .i64 z3, .int .i64 z4, .int .i64 z5, .int .i64 z6, .int .i64 z7, .bool z8, .bool z9, .bool z10, .string z11] 39)).cell? ⟨w.heap.size + 1, 7, none⟩ = some (.bool m.st) := HT.out.M.cell 7 _ rfl
  have m8 : (w2.alloc (.cells #[.int .i64 z0, .slice A1 q1 c1, .int .i64 z1, .int .i64 z2, .int .i64 z3, .int .i64 z4, .int .i64 z5, .int .i64 z6, .int .i64 z7, .bool z8, .bool z9, .bool z10, .string z11] 39)).cell? ⟨w.heap.size + 1, 8, none⟩ = some (.string m.s0) := HT.out.M.cell 8 _ rfl
  have m9 : (w2.alloc (.cells #[.int .i64 z0, .slice A1 q1 c1, .int .i64 z1, .int .i64 z2, .int .i64 z3, .int .i64 z4, .int .i64 z5, .int .i64 z6, .int .i64 z7, .bool z8, .bool z9, .bool z10, .string z11] 39)).cell? ⟨w.heap.size + 1, 9, none⟩ = some (.string m.s1) := HT.out.M.cell 9 _ rfl
  go_wp2_with fail
  refine (HY.out _ HT.out.B).mono ?_; rintro e w3 ⟨rfl, hB⟩
  clear k0 k1 k2 k3 k4 k5 k6 k7 k8 k9 k10 k11 m0 m1 m2 m3 m4 m5 m6 m7 m8 m9
  replace HT := Lib.hid (HT.out.below hB)
  clear hB
  go_wp2_with fail
  go_ret
  exact ⟨ret_bool (by simp), HT.out.B⟩
set_option maxRecDepth 100000 in
set_option maxHeartbeats 4000000 in
theorem in_ok (c : Cra) (A : Option Addr) (n cp : Nat) (l : List Sns) (m : Mom) (er : List (Int × Int)) (w : World) (hl : Recs Sns.cells 7 w A n l) (hw : ∀ s ∈ l, s.wf) (hn : n ≤ maxLen) (_ : n * 56 ≤ reachBytes) (he : Recs er2 2 w m.E m.ne er) (hne : m.ne ≤ maxLen) (hsi : 0 ≤ m.si ∧ m.si < 65536) (h1 : seE c l 1 m.we m.wn m.se m.sn er m.s0 m.s1 = 0) :
    Calls Try.prog 3 #[.agg #[.int .i64 c.tk, .int .i64 c.px, .int .i64 c.py, .int .i64 c.ve, .int .i64 c.vn, .int .i64 c.al, .int .i64 c.vs, .int .i64 c.hd, .int .i64 c.ca, .int .i64 c.fu, .int .i64 c.bk, .bool c.gr], .slice A n cp, .agg #[.int .i64 m.we, .int .i64 m.wn, .slice m.E m.ne m.ce, .int .i64 m.se, .int .i64 m.sn, .int .u16 m.si, .bool m.th, .bool m.st, .string m.s0, .string m.s1]] w fun e w' => e = .returned (.bool true) ∧ Below w.heap.size w w' := by
  have HX := Lib.hid (fun comp w' hB => (xSense c A n cp l comp m er w' (hl.below (w' := w') hB) hn hw (he.below (w' := w') hB) hne hsi).mono fun e w1 h => se_u h)
  have HY := Lib.hid (fun w' hB => xFaultyOk (fun N L v wr h hl => xSortOwn h hl) (fun N L v wr h hl => xCompactOwn h hl) c A n cp l m er w' (hl.below (w' := w') hB) hn hw (he.below (w' := w') hB) hne hsi h1)
  have HE1 := Lib.hid (fun comp hc => se_same (comp := comp) h1 hc)
  have HLE := Lib.hid (fun comp => seRL_le (c := c) (comp := comp) (m := m) (er := er) hw)
  have HRO := Lib.hid (fun comp => seRL_ok (c := c) (comp := comp) (m := m) (er := er) hw)
  have HQO := Lib.hid (fun comp hc => seQ_ok (c := c) (l := l) (comp := comp) (m := m) (er := er) (se_same (comp := comp) h1 hc))
  have HSR := Lib.hid (fl_src (c := c) (l := l) (m := m) (er := er) hw)
  clear hl hw he hn hne hsi h1
  go_enter Try.func3, Try.ntmps3
  go_wp2_with fail
  refine (awake_any _).mono ?_; rintro e w1 ⟨rfl, hB⟩
  have KC : Hid (Has w1 w.heap.size c.cells) := Lib.hid (((Has.new w _ _).alloc _).below hB)
  have KM : Hid (Has w1 (w.heap.size + 1) m.cells) := Lib.hid ((Has.newAt (w.alloc _) _ _ (w.heap.size + 1) (by simp)).below hB)
  have HSZ := Lib.hid (show w.heap.size + 2 ≤ w1.heap.size by have := hB.size; simp at this; omega)
  have HB := Lib.hid (bel_alloc2 hB)
  clear hB
  go_wp2_with fail
  have HS : Hid (InS c m w w1.heap.size [] (w1.alloc (.cells #[.bool false, .bool false, .bool false, .bool false, .bool false, .bool false, .bool false, .bool false, .bool false] 36))) := Lib.hid ⟨KC.out.alloc _, KM.out.alloc _, bdC_nil ▸ Has.new w1 #[.bool false, .bool false, .bool false, .bool false, .bool false, .bool false, .bool false, .bool false, .bool false] 36, bel_alloc1 HB.out _, HSZ.out⟩
  generalize hWB : w1.alloc (.cells #[.bool false, .bool false, .bool false, .bool false, .bool false, .bool false, .bool false, .bool false, .bool false] 36) = WB at *
  generalize hNB : w1.heap.size = NB at *
  clear hWB hNB KC KM HB HSZ
  go_loopw [8, 9] (fun v t wr => IoRel c l m er w NB v t wr) (fun _ t _ => 4 - (intOf t).toNat)
  case atStart => exact ⟨0, by omega, rfl, by rw [show flAll c l m er 0 = [] from rfl, bdN_nil]; rfl, HS.out⟩
  case round =>
    obtain ⟨k, hk, rfl, rfl, hs⟩ := hrel
    replace HS := Lib.hid hs
    clear hs
    by_cases hlt : k < 2
    rotate_left
    · have hk2 : k = 2 := by omega
      subst hk2
      have HSR2 := Lib.hid (HSR.out 2)
      clear HX HE1 HLE HRO HQO HSR
      have h3 : ¬ ((2 : Nat) : Int) + 1 ≤ 2 := by decide
      have k0 : wr.cell? ⟨w.heap.size, 0, none⟩ = some (.int .i64 c.tk) := HS.out.C.cell 0 _ rfl
      have k1 : wr.cell? ⟨w.heap.size, 1, none⟩ = some (.int .i64 c.px) := HS.out.C.cell 1 _ rfl
      have k2 : wr.cell? ⟨w.heap.size, 2, none⟩ = some (.int .i64 c.py) := HS.out.C.cell 2 _ rfl
      have k3 : wr.cell? ⟨w.heap.size, 3, none⟩ = some (.int .i64 c.ve) := HS.out.C.cell 3 _ rfl
      have k4 : wr.cell? ⟨w.heap.size, 4, none⟩ = some (.int .i64 c.vn) := HS.out.C.cell 4 _ rfl
      have k5 : wr.cell? ⟨w.heap.size, 5, none⟩ = some (.int .i64 c.al) := HS.out.C.cell 5 _ rfl
      have k6 : wr.cell? ⟨w.heap.size, 6, none⟩ = some (.int .i64 c.vs) := HS.out.C.cell 6 _ rfl
      have k7 : wr.cell? ⟨w.heap.size, 7, none⟩ = some (.int .i64 c.hd) := HS.out.C.cell 7 _ rfl
      have k8 : wr.cell? ⟨w.heap.size, 8, none⟩ = some (.int .i64 c.ca) := HS.out.C.cell 8 _ rfl
      have k9 : wr.cell? ⟨w.heap.size, 9, none⟩ = some (.int .i64 c.fu) := HS.out.C.cell 9 _ rfl
      have k10 : wr.cell? ⟨w.heap.size, 10, none⟩ = some (.int .i64 c.bk) := HS.out.C.cell 10 _ rfl
      have k11 : wr.cell? ⟨w.heap.size, 11, none⟩ = some (.bool c.gr) := HS.out.C.cell 11 _ rfl
      have m0 : wr.cell? ⟨w.heap.size + 1, 0, none⟩ = some (.int .i64 m.we) := HS.out.M.cell 0 _ rfl
      have m1 : wr.cell? ⟨w.heap.size + 1, 1, none⟩ = some (.int .i64 m.wn) := HS.out.M.cell 1 _ rfl
      have m2 : wr.cell? ⟨w.heap.size + 1, 2, none⟩ = some (.slice m.E m.ne m.ce) := HS.out.M.cell 2 _ rfl
      have m3 : wr.cell? ⟨w.heap.size + 1, 3, none⟩ = some (.int .i64 m.se) := HS.out.M.cell 3 _ rfl
      have m4 : wr.cell? ⟨w.heap.size + 1, 4, none⟩ = some (.int .i64 m.sn) := HS.out.M.cell 4 _ rfl
      have m5 : wr.cell? ⟨w.heap.size + 1, 5, none⟩ = some (.int .u16 m.si) := HS.out.M.cell 5 _ rfl
      have m6 : wr.cell? ⟨w.heap.size + 1, 6, none⟩ = some (.bool m.th) := HS.out.M.cell 6 _ rfl
      have m7 : wr.cell? ⟨w.heap.size + 1, 7, none⟩ = some (.bool m.st) := HS.out.M.cell 7 _ rfl
      have m8 : wr.cell? ⟨w.heap.size + 1, 8, none⟩ = some (.string m.s0) := HS.out.M.cell 8 _ rfl
      have m9 : wr.cell? ⟨w.heap.size + 1, 9, none⟩ = some (.string m.s1) := HS.out.M.cell 9 _ rfl
      go_wp2_with fail
      refine (HY.out _ HS.out.B).mono ?_; rintro e w2 ⟨A3, q, c3, rfl, hI, hB⟩
      clear k0 k1 k2 k3 k4 k5 k6 k7 k8 k9 k10 k11 m0 m1 m2 m3 m4 m5 m6 m7 m8 m9
      replace HS := Lib.hid (HS.out.below hB)
      generalize flAll c l m er 2 = L at *
      have hK : Hid (Lib.compact (L.mergeSort fun x y => decide (x ≤ y)) = Lib.compact (L.mergeSort fun x y => decide (x ≤ y))) := Lib.hid rfl
      have HIC := Lib.hid (in_count (K := Lib.compact (L.mergeSort fun x y => decide (x ≤ y))) (L := L) rfl HSR2.out)
      generalize Lib.compact (L.mergeSort fun x y => decide (x ≤ y)) = K at *
      have HII := Lib.hid hI
      have HLK := Lib.hid (show q = bdN L by rw [← HIC.out.2.2]; exact hI.len.symm)
      clear hI hB hK HY
      have hq9 : q ≤ 9 := by
        rw [HLK.out]
        unfold bdN
        have := List.length_filter_le (bdB L) (List.range 9)
        simpa using this
      go_wp2_with fail
      go_loopw [93] (fun t wr => IfRel c m w NB L K A3 q t wr) (fun t _ => q - (intOf t).toNat)
      case atStart => exact ⟨0, by omega, rfl, HS.out, HII.out⟩
      case round =>
        obtain ⟨i, hi, rfl, hs, hi3⟩ := hrel
        replace HS := Lib.hid hs
        replace HII := Lib.hid hi3
        clear hs hi3
        by_cases hil : i < q
        rotate_left
        · have hqe : ((q : Int) == (bdN L : Int)) = true := by rw [HLK.out]; simp
          go_wp2_with fail
          go_ret
          exact ⟨ret_bool (by first | exact hqe | rfl), HS.out.B⟩
        obtain ⟨x, hx⟩ := get_ex HII.out.len hil
        have hxm : x ∈ L := (HIC.out.2.1 x).1 (List.mem_of_getElem? hx)
        have hx8 := HSR2.out x hxm
        obtain ⟨j, rfl⟩ := Int.eq_ofNat_of_zero_le (show 0 ≤ x by omega)
        obtain ⟨b3, o3, rfl, hb3, c3'⟩ := HII.out.cells (by omega)
        have y0 : wr.cell? ⟨b3, o3 + i, none⟩ = some (.int .i64 (j : Int)) := c3' i _ hx
        have z0 : wr.cell? ⟨NB, j, none⟩ = some (.bool true) := HS.out.D.cell j _ (by rw [bdC_get (by omega)]; have := bd_in hxm (by omega); rw [Int.toNat_natCast] at this; rw [this])
        have f1 : ¬ (j : Int) < 1 := by omega
        have f2 : ¬ (8 : Int) < (j : Int) := by omega
        have f3 : (j : Int) < 9 := by omega
        have f4 : (0 : Int) ≤ (j : Int) := by omega
        by_cases h0 : i = 0
        · have g0 : decide (0 < i) = false := by simp [h0]
          have HX0 := Lib.hid h0
          clear hx hxm hx8 c3' h0
          go_wp2_with fail
          go_roundw
          case rel => exact ⟨i + 1, by omega, by go_num, HS.out, HII.out⟩
          case measure => simp only [intOf]; omega
        · obtain ⟨p, rfl⟩ : ∃ p, i = p + 1 := ⟨i - 1, by omega⟩
          obtain ⟨u, hu⟩ := get_ex HII.out.len (show p < q by omega)
          have hup : u < (j : Int) := by
            obtain ⟨a1, a2⟩ := List.getElem?_eq_some_iff.1 hu
            obtain ⟨a3, a4⟩ := List.getElem?_eq_some_iff.1 hx
            have := List.pairwise_iff_getElem.1 HIC.out.1 p (p + 1) a1 a3 (by omega)
            rw [a2, a4] at this
            exact this
          have y1 : wr.cell? ⟨b3, o3 + p, none⟩ = some (.int .i64 u) := c3' p _ hu
          have g0 : decide (0 < p + 1) = true := by simp
          have g1 : ¬ (j : Int) ≤ u := by omega
          have s1 : IntKind.i64.wrap ((p : Int) + 1 - 1) = (p : Int) := by rw [IntWalk.i64_in _ (by omega)]; omega
          have s2 : (((p + 1 : Nat) : Int)) = (p : Int) + 1 := by omega
          have s3 : (p : Int) < (q : Int) := by omega
          clear hx hxm hx8 c3' hu
          go_wp2_with fail
          go_roundw
          case rel => exact ⟨p + 1 + 1, by omega, by go_num, HS.out, HII.out⟩
          case measure => simp only [intOf]; omega
    have hlt2 : (k : Int) + 1 ≤ 2 := by omega
    have hkk : (k : Int) + 1 = 1 ∨ (k : Int) + 1 = 2 := by omega
    have HE := Lib.hid (HE1.out ((k : Int) + 1) hkk)
    have HQ0 := Lib.hid (HQO.out ((k : Int) + 1) hkk)
    have HRS := Lib.hid (HRO.out ((k : Int) + 1))
    have HL4 := Lib.hid (HLE.out ((k : Int) + 1))
    have HFA := Lib.hid (fl_all2 c l m er k)
    clear hkk
    have k0 : wr.cell? ⟨w.heap.size, 0, none⟩ = some (.int .i64 c.tk) := HS.out.C.cell 0 _ rfl
    have k1 : wr.cell? ⟨w.heap.size, 1, none⟩ = some (.int .i64 c.px) := HS.out.C.cell 1 _ rfl
    have k2 : wr.cell? ⟨w.heap.size, 2, none⟩ = some (.int .i64 c.py) := HS.out.C.cell 2 _ rfl
    have k3 : wr.cell? ⟨w.heap.size, 3, none⟩ = some (.int .i64 c.ve) := HS.out.C.cell 3 _ rfl
    have k4 : wr.cell? ⟨w.heap.size, 4, none⟩ = some (.int .i64 c.vn) := HS.out.C.cell 4 _ rfl
    have k5 : wr.cell? ⟨w.heap.size, 5, none⟩ = some (.int .i64 c.al) := HS.out.C.cell 5 _ rfl
    have k6 : wr.cell? ⟨w.heap.size, 6, none⟩ = some (.int .i64 c.vs) := HS.out.C.cell 6 _ rfl
    have k7 : wr.cell? ⟨w.heap.size, 7, none⟩ = some (.int .i64 c.hd) := HS.out.C.cell 7 _ rfl
    have k8 : wr.cell? ⟨w.heap.size, 8, none⟩ = some (.int .i64 c.ca) := HS.out.C.cell 8 _ rfl
    have k9 : wr.cell? ⟨w.heap.size, 9, none⟩ = some (.int .i64 c.fu) := HS.out.C.cell 9 _ rfl
    have k10 : wr.cell? ⟨w.heap.size, 10, none⟩ = some (.int .i64 c.bk) := HS.out.C.cell 10 _ rfl
    have k11 : wr.cell? ⟨w.heap.size, 11, none⟩ = some (.bool c.gr) := HS.out.C.cell 11 _ rfl
    have m0 : wr.cell? ⟨w.heap.size + 1, 0, none⟩ = some (.int .i64 m.we) := HS.out.M.cell 0 _ rfl
    have m1 : wr.cell? ⟨w.heap.size + 1, 1, none⟩ = some (.int .i64 m.wn) := HS.out.M.cell 1 _ rfl
    have m2 : wr.cell? ⟨w.heap.size + 1, 2, none⟩ = some (.slice m.E m.ne m.ce) := HS.out.M.cell 2 _ rfl
    have m3 : wr.cell? ⟨w.heap.size + 1, 3, none⟩ = some (.int .i64 m.se) := HS.out.M.cell 3 _ rfl
    have m4 : wr.cell? ⟨w.heap.size + 1, 4, none⟩ = some (.int .i64 m.sn) := HS.out.M.cell 4 _ rfl
    have m5 : wr.cell? ⟨w.heap.size + 1, 5, none⟩ = some (.int .u16 m.si) := HS.out.M.cell 5 _ rfl
    have m6 : wr.cell? ⟨w.heap.size + 1, 6, none⟩ = some (.bool m.th) := HS.out.M.cell 6 _ rfl
    have m7 : wr.cell? ⟨w.heap.size + 1, 7, none⟩ = some (.bool m.st) := HS.out.M.cell 7 _ rfl
    have m8 : wr.cell? ⟨w.heap.size + 1, 8, none⟩ = some (.string m.s0) := HS.out.M.cell 8 _ rfl
    have m9 : wr.cell? ⟨w.heap.size + 1, 9, none⟩ = some (.string m.s1) := HS.out.M.cell 9 _ rfl
    go_wp2_with fail
    refine (HX.out _ _ HS.out.B).mono ?_; rintro e w2 ⟨A1, A2, c1, c2, q1, rfl, r1, r2, hB, hq, f1, f2⟩
    clear k0 k1 k2 k3 k4 k5 k6 k7 k8 k9 k10 k11 m0 m1 m2 m3 m4 m5 m6 m7 m8 m9
    rw [HE.out]
    have HF1 := Lib.hid (show ∀ a, A1 = some a → NB < a.block from fun a e => by have := f1 a e; have := HS.out.D.lt; omega)
    have HF2 := Lib.hid (show ∀ a, A2 = some a → NB < a.block from fun a e => by have := f2 a e; have := HS.out.D.lt; omega)
    have HQ := Lib.hid hq
    have HR1 := Lib.hid r1
    have HR2 := Lib.hid r2
    replace HS := Lib.hid (HS.out.below hB)
    clear r1 r2 hB hq f1 f2 HE
    generalize seRL c l ((k : Int) + 1) m er = RL at *
    generalize seQ c l ((k : Int) + 1) m er = Z at *
    have HCK := Lib.hid (fun W (h : Recs Rep.cells 8 W A1 q1 RL) (h4 : q1 ≤ 4) => xCheckSense Z A1 q1 c1 RL W h h4 HQ0.out HRS.out)
    have HLN := Lib.hid HR1.out.len
    have hq4 : q1 ≤ 4 := by have := HL4.out; have := HLN.out; omega
    obtain ⟨z0, z1, z2, z3, z4, z5, z6, z7, z8, z9, z10, z11⟩ := Z
    simp only [SeZ.cells] at HCK ⊢
    have HT := Lib.hid (HS.out.below (below_alloc1 w2 (.cells #[.int .i64 z0, .slice A1 q1 c1, .int .i64 z1, .int .i64 z2, .int .i64 z3, .int .i64 z4, .int .i64 z5, .int .i64 z6, .int .i64 z7, .bool z8, .bool z9, .bool z10, .string z11] 39)))
    have HD : Hid (Has (w2.alloc (.cells #[.int .i64 z0, .slice A1 q1 c1, .int .i64 z1, .int .i64 z2, .int .i64 z3, .int .i64 z4, .int .i64 z5, .int .i64 z6, .int .i64 z7, .bool z8, .bool z9, .bool z10, .string z11] 39)) w2.heap.size [.int .i64 z0, .slice A1 q1 c1, .int .i64 z1, .int .i64 z2, .int .i64 z3, .int .i64 z4, .int .i64 z5, .int .i64 z6, .int .i64 z7, .bool z8, .bool z9, .bool z10, .string z11]) := Lib.hid (Has.new _ _ _)
    have HDN := Lib.hid HS.out.D.lt
    replace HR1 := Lib.hid (HR1.out.below (below_alloc1 w2 (.cells #[.int .i64 z0, .slice A1 q1 c1, .int .i64 z1, .int .i64 z2, .int .i64 z3, .int .i64 z4, .int .i64 z5, .int .i64 z6, .int .i64 z7, .bool z8, .bool z9, .bool z10, .string z11] 39)))
    replace HR2 := Lib.hid (HR2.out.below (below_alloc1 w2 (.cells #[.int .i64 z0, .slice A1 q1 c1, .int .i64 z1, .int .i64 z2, .int .i64 z3, .int .i64 z4, .int .i64 z5, .int .i64 z6, .int .i64 z7, .bool z8, .bool z9, .bool z10, .string z11] 39)))
    generalize flAll c l m er k = LL at *
    clear HS
    go_wp2_with fail
    refine (HCK.out _ HR1.out hq4).mono ?_; rintro e w3 ⟨rfl, hB⟩
    replace HT := Lib.hid (HT.out.below hB)
    replace HD := Lib.hid (HD.out.below hB)
    replace HR1 := Lib.hid (HR1.out.below hB)
    replace HR2 := Lib.hid (HR2.out.below hB)
    clear hB HCK
    generalize w2.heap.size = DB at *
    have d1 : w3.cell? ⟨DB, 1, none⟩ = some (.slice A1 q1 c1) := HD.out.cell 1 _ rfl
    have hqq : ((q1 : Int) != (q1 : Int)) = false := by simp
    go_wp2_with fail
    clear d1 hqq
    go_loopw [8, 55] (fun v t wr => IiRel c m w NB DB LL RL A1 A2 q1 [.int .i64 z0, .slice A1 q1 c1, .int .i64 z1, .int .i64 z2, .int .i64 z3, .int .i64 z4, .int .i64 z5, .int .i64 z6, .int .i64 z7, .bool z8, .bool z9, .bool z10, .string z11] v t wr) (fun _ t _ => q1 - (intOf t).toNat)
    case atStart => exact ⟨0, by omega, rfl, by rw [show flOf c (RL.take 0) = [] from rfl, List.append_nil], by rw [show flOf c (RL.take 0) = [] from rfl, List.append_nil]; exact HT.out, HD.out, HR1.out, HR2.out, HDN.out, HF1.out, HF2.out⟩
    case round =>
      obtain ⟨i, hi, rfl, rfl, hs, hd, hr1, hr2, hx, hy, hz⟩ := hrel
      have HT := Lib.hid hs
      have HD := Lib.hid hd
      have HR1 := Lib.hid hr1
      have HR2 := Lib.hid hr2
      have HXX := Lib.hid hx
      have HF1 := Lib.hid hy
      have HF2 := Lib.hid hz
      clear hs hd hr1 hr2 hx hy hz
      have hbn : bdN (LL ++ flOf c (RL.take i)) ≤ 9 := by
        unfold bdN
        have := List.length_filter_le (bdB (LL ++ flOf c (RL.take i))) (List.range 9)
        simpa using this
      by_cases hil : i < q1
      rotate_left
      · have HTK := Lib.hid (show RL.take i = RL from List.take_of_length_le (by have := HLN.out; omega))
        rw [HTK.out] at HT hbn ⊢
        rw [← HFA.out] at HT hbn ⊢
        go_wp2_with fail
        go_roundw
        case rel => exact ⟨k + 1, by omega, by go_num, rfl, HT.out⟩
        case measure => simp only [intOf]; omega
      obtain ⟨r, hr⟩ := get_ex HR1.out.len hil
      have hro := HRS.out r (List.mem_of_getElem? hr)
      have hsrc := rep_src hro
      have HTK := Lib.hid (fl_take (c := c) hr)
      have HAG := Lib.hid (fun W => xAgrees r.so r.ki r.x r.y r.va r.bo r.we r.tk c.px c.py hro.2.1 hro.2.2.1 hro.2.2.2 W)
      replace HAG := Lib.hid (show ∀ W, Calls Try.prog 8 #[.agg #[.int .i64 r.so, .int .u8 r.ki, .int .i64 r.x, .int .i64 r.y, .int .i64 r.va, .int .i64 r.bo, .int .i64 r.we, .int .i64 r.tk], .agg #[.int .i64 c.px, .int .i64 c.py]] W fun e w' => e = .returned (.bool (agR c r)) ∧ Below W.heap.size W w' from HAG.out)
      obtain ⟨b1, o1, rfl, hb1, hc1⟩ := HR1.out.cells (by omega)
      obtain ⟨b2, o2, rfl, hb2, hc2⟩ := HR2.out.cells (by omega)
      have HC2 := Lib.hid (show ∀ W, Below wr.heap.size wr W → W.cell? ⟨b2, o2 + i, none⟩ = some (.bool (agR c r)) from fun W hB => (hB.cell (p := ⟨b2, o2 + i, none⟩) hb2).trans (by have := hc2 i (agR c r) (by rw [List.getElem?_map, hr]; rfl) 0 _ rfl; rwa [Nat.mul_one] at this))
      have HC1 := Lib.hid (hc1 i r hr)
      generalize agR c r = ag at *
      obtain ⟨so, ki, x, y, va, bo, we, tk⟩ := r
      simp only [] at HAG HTK hsrc HC1
      obtain ⟨j, rfl⟩ := Int.eq_ofNat_of_zero_le (show 0 ≤ so by omega)
      have HJ := Lib.hid hsrc
      clear hr hro hsrc hc1 hc2
      have r0 : wr.cell? ⟨b1, o1 + i * 8, none⟩ = some (.int .i64 (j : Int)) := HC1.out 0 _ rfl
      have r1 : wr.cell? ⟨b1, o1 + i * 8 + 1, none⟩ = some (.int .u8 ki) := HC1.out 1 _ rfl
      have r2 : wr.cell? ⟨b1, o1 + i * 8 + 2, none⟩ = some (.int .i64 x) := HC1.out 2 _ rfl
      have r3 : wr.cell? ⟨b1, o1 + i * 8 + 3, none⟩ = some (.int .i64 y) := HC1.out 3 _ rfl
      have r4 : wr.cell? ⟨b1, o1 + i * 8 + 4, none⟩ = some (.int .i64 va) := HC1.out 4 _ rfl
      have r5 : wr.cell? ⟨b1, o1 + i * 8 + 5, none⟩ = some (.int .i64 bo) := HC1.out 5 _ rfl
      have r6 : wr.cell? ⟨b1, o1 + i * 8 + 6, none⟩ = some (.int .i64 we) := HC1.out 6 _ rfl
      have r7 : wr.cell? ⟨b1, o1 + i * 8 + 7, none⟩ = some (.int .i64 tk) := HC1.out 7 _ rfl
      have KR : Hid (RegP c w wr b2 (o2 + i) ag [.int .i64 (j : Int), .int .u8 ki, .int .i64 x, .int .i64 y, .int .i64 va, .int .i64 bo, .int .i64 we, .int .i64 tk] (wr.alloc (.cells #[.int .i64 (j : Int), .int .u8 ki, .int .i64 x, .int .i64 y, .int .i64 va, .int .i64 bo, .int .i64 we, .int .i64 tk] 49))) := Lib.hid ⟨below_alloc1 _ _, Has.new wr _ _⟩
      have eag : (ag != ag) = false := by cases ag <;> rfl
      have i0 : (0 : Int) ≤ (i : Int) := by omega
      have i1 : (i : Int) < (q1 : Int) := by omega
      go_wp2_with fail
      go_region_held3 (fun W => W.cell? ⟨wr.heap.size, 0, none⟩ = some (.int .i64 (j : Int)) ∧ W.cell? ⟨wr.heap.size, 1, none⟩ = some (.int .u8 ki) ∧ W.cell? ⟨wr.heap.size, 2, none⟩ = some (.int .i64 x) ∧ W.cell? ⟨wr.heap.size, 3, none⟩ = some (.int .i64 y) ∧ W.cell? ⟨wr.heap.size, 4, none⟩ = some (.int .i64 va) ∧ W.cell? ⟨wr.heap.size, 5, none⟩ = some (.int .i64 bo) ∧ W.cell? ⟨wr.heap.size, 6, none⟩ = some (.int .i64 we) ∧ W.cell? ⟨wr.heap.size, 7, none⟩ = some (.int .i64 tk) ∧ W.cell? ⟨w.heap.size, 1, none⟩ = some (.int .i64 c.px) ∧ W.cell? ⟨w.heap.size, 2, none⟩ = some (.int .i64 c.py) ∧ W.cell? ⟨b2, o2 + i, none⟩ = some (.bool ag)) ((first | exact reg_cells (Hid.out (by assumption)) HT.out HC2.out | exact reg_cells (RegP.drew (Hid.out (by assumption))) HT.out HC2.out)) ((go_at_call 8; refine (HAG.out _).mono ?_; rintro e wx ⟨rfl, hB⟩; have KS : Hid (RegP c w wr b2 (o2 + i) ag [.int .i64 (j : Int), .int .u8 ki, .int .i64 x, .int .i64 y, .int .i64 va, .int .i64 bo, .int .i64 we, .int .i64 tk] wx) := Lib.hid (RegP.below (by first | exact Hid.out (by assumption) | exact RegP.drew (Hid.out (by assumption))) hB); clear hB))
      all_goals (
        first
        | skip)
      all_goals (clear r0 r1 r2 r3 r4 r5 r6 r7)
      all_goals (
        have a2 := HC2.out _ KS.out.1
        have HT5 := Lib.hid (HT.out.below KS.out.1)
        have HD5 := Lib.hid (HD.out.below KS.out.1)
        have HR15 := Lib.hid (HR1.out.below KS.out.1)
        have HR25 := Lib.hid (HR2.out.below KS.out.1)
        have KB5 := Lib.hid KS.out.2
        clear KR KS HT HD HR1 HR2 HC2 HC1
        cases ag)
      · have HJ8 := Lib.hid (show (j : Int) ≤ 8 from HJ.out.2)
        have f3 : (j : Int) < 9 := by have := HJ.out; omega
        have f4 : (0 : Int) ≤ (j : Int) := by omega
        have r0 : wx.cell? ⟨wr.heap.size, 0, none⟩ = some (.int .i64 (j : Int)) := KB5.out.cell 0 _ rfl
        have HT2 := Lib.hid (show LL ++ flOf c (RL.take (i + 1)) = (LL ++ flOf c (RL.take i)) ++ [(j : Int)] by rw [HTK.out]; simp)
        generalize LL ++ flOf c (RL.take i) = M0 at *
        have b0 : wx.cell? ⟨NB, j, none⟩ = some (.bool (bdB M0 j)) := HT5.out.D.cell j _ (bdC_get (by omega))
        cases hb : bdB M0 j
        · rw [hb] at b0
          have HN := Lib.hid (bd_new (L := M0) (x := (j : Int)) (by omega) (by have := HJ8.out; omega) (by rw [Int.toNat_natCast]; exact hb))
          have hfr : wx.frozen? ⟨NB, j, none⟩ = false := HT5.out.D.fr j
          clear hb
          go_wp2_with fail
          go_roundw
          case rel => exact ⟨i + 1, by omega, by go_num, by rw [HT2.out, HN.out.2]; go_num, by rw [HT2.out]; exact HT5.out.new (by have := HJ8.out; omega) (by have := HN.out.1; rwa [Int.toNat_natCast] at this), HD5.out.other NB j _ (by have := HXX.out; omega), HR15.out.set NB j _ HF1.out, HR25.out.set NB j _ HF2.out, HXX.out, HF1.out, HF2.out⟩
          case measure => simp only [intOf]; omega
        · rw [hb] at b0
          have HN := Lib.hid (bd_old (L := M0) (x := (j : Int)) (by omega) (by rw [Int.toNat_natCast]; exact hb))
          clear hb
          go_wp2_with fail
          go_roundw
          case rel => exact ⟨i + 1, by omega, by go_num, by rw [HT2.out, (bd_same HN.out).2], by rw [HT2.out]; exact HT5.out.old HN.out, HD5.out, HR15.out, HR25.out, HXX.out, HF1.out, HF2.out⟩
          case measure => simp only [intOf]; omega
      · have HT2 := Lib.hid (show LL ++ flOf c (RL.take (i + 1)) = LL ++ flOf c (RL.take i) by rw [HTK.out]; simp)
        generalize LL ++ flOf c (RL.take i) = M0 at *
        go_wp2_with fail
        go_roundw
        case rel => exact ⟨i + 1, by omega, by go_num, by rw [HT2.out], by rw [HT2.out]; exact HT5.out, HD5.out, HR15.out, HR25.out, HXX.out, HF1.out, HF2.out⟩
        case measure => simp only [intOf]; omega
set_option maxRecDepth 100000 in
set_option maxHeartbeats 4000000 in
theorem walk_SimulatorInputs (c : Cra) (A : Option Addr) (n cp : Nat) (l : List Sns) (m : Mom) (er : List (Int × Int)) (w : World) (hl : Recs Sns.cells 7 w A n l) (hw : ∀ s ∈ l, s.wf) (hn : n ≤ maxLen) (_ : n * 56 ≤ reachBytes) (he : Recs er2 2 w m.E m.ne er) (hne : m.ne ≤ maxLen) (hsi : 0 ≤ m.si ∧ m.si < 65536) :
    Calls Try.prog 3 #[.agg #[.int .i64 c.tk, .int .i64 c.px, .int .i64 c.py, .int .i64 c.ve, .int .i64 c.vn, .int .i64 c.al, .int .i64 c.vs, .int .i64 c.hd, .int .i64 c.ca, .int .i64 c.fu, .int .i64 c.bk, .bool c.gr], .slice A n cp, .agg #[.int .i64 m.we, .int .i64 m.wn, .slice m.E m.ne m.ce, .int .i64 m.se, .int .i64 m.sn, .int .u16 m.si, .bool m.th, .bool m.st, .string m.s0, .string m.s1]] w fun e w' => e = .returned (.bool true) ∧ Below w.heap.size w w' := by
  by_cases h1 : seE c l 1 m.we m.wn m.se m.sn er m.s0 m.s1 = 0
  · exact in_ok c A n cp l m er w hl hw hn (by assumption) he hne hsi h1
  · exact in_err c A n cp l m er w hl hw hn (by assumption) he hne hsi h1
end Go.Proofs.Ytkomooeohlcnaaa
namespace Go.Proofs.Ytkomooeohlcnaaa.simulatorInputs
open Go.ChangeShapes Go.WideShapes Go.ChangeAt Go.RowKit
open Go.ChangeMaps (open_string shut_string)
set_option linter.unusedVariables false
set_option linter.unusedSimpArgs false

theorem own : ownKnob Try.prog.godebug = none := by kernel_rfl
theorem laidOut : laidOutB Try.prog = true := by kernel_rfl

set_option maxRecDepth 100000 in
theorem lifted (os : Os) (started : os.Started) (H : Type) (enc : TypeId × Value → H) :
    ReturnsInHanded {} Try.checked os 3 .any (Rows.simulatorInputsSpec.pre6 enc Try.prog Try.f3 Rows.simulatorInputsRow.domain false) (Rows.simulatorInputsSpec.post enc Try.prog Try.f3 false true false false) := by
  refine returnsInHanded_of_change_sized (C := Try.checked) own started (by kernel_rfl) Try.func3
    (ChangeSpec.witness6 (enc := enc) (C := Try.checked) false ⟨#[], #[.agg #[.int .i64 0, .int .i64 0, .int .i64 0, .int .i64 0, .int .i64 0, .int .i64 0, .int .i64 0, .int .i64 0, .int .i64 0, .int .i64 0, .int .i64 0, .bool false], .slice none 0 0, .agg #[.int .i64 0, .int .i64 0, .slice none 0 0, .int .i64 0, .int .i64 0, .int .u16 0, .bool false, .bool false, .string ⟨#[]⟩, .string ⟨#[]⟩]], []⟩ 8 (by kernel_rfl) (by kernel_rfl) (by kernel_rfl) (by kernel_rfl)) ?_
  intro W base args ds gs before hval0 hW hcnd hsz0 _
  have hval : ∀ (j : Nat) t v, Try.f3.params[j]? = some t → args[j]? = some v → Value.okWide Try.prog W .any base t v := hval0
  have hW' := hW
  obtain ⟨p, q, hA0, hV, rfl, hfz, hnd⟩ := hW
  have hA : DataW.TrodAll enc Try.prog W 0 (fun _ => true) true Try.f3.params.toList args.toList ds p := hA0
  have hsz : (DataW.weightsEach Try.prog (Try.f3.params.toList ++ Rows.simulatorInputsSpec.plain.varTypes Try.prog) (ds ++ gs)).all (· ≤ reachBytes) = true := hsz0
  rw [Try.params3] at hA hval hsz
  obtain ⟨v0, vs0, d0, ds0, p0, q0, hargs, rfl, rfl, h0, r0⟩ := trodAll_cons hA
  obtain ⟨v1, vs1, d1, ds1, p1, q1, rfl, rfl, rfl, h1, r1⟩ := trodAll_cons r0
  obtain ⟨v2, vs2, d2, ds2, p2, q2, rfl, rfl, rfl, h2, r2⟩ := trodAll_cons r1
  obtain ⟨rfl, rfl, rfl⟩ := trodAll_nil r2
  obtain rfl : args = #[v0, v1, v2] := by cases args; simp_all
  obtain ⟨rfl, rfl⟩ := trodVars_none hV
  have k0 := h0
  have lt0 : ∀ x ∈ p0, x.block < W.heap.size := by obtain ⟨m, hm⟩ := k0; exact DataW.trod_lt m _ _ _ hm
  have k1 := h1
  have lt1 : ∀ x ∈ p1, x.block < W.heap.size := by obtain ⟨m, hm⟩ := k1; exact DataW.trod_lt m _ _ _ hm
  have k2 := h2
  have lt2 : ∀ x ∈ p2, x.block < W.heap.size := by obtain ⟨m, hm⟩ := k2; exact DataW.trod_lt m _ _ _ hm
  obtain ⟨cs0, fu0, rfl, hh0⟩ := open_agg_list Try.underlying27 (hval 0 27 v0 rfl rfl) h0
  obtain ⟨tk_0, px_0, py_0, ve_0, vn_0, al_0, vs_0, hd_0, ca_0, fu_0, bk_0, gr_0, rfl, cf0_0, cf1_0, cf2_0, cf3_0, cf4_0, cf5_0, cf6_0, cf7_0, cf8_0, cf9_0, cf10_0⟩ := op_craft _ _ _ hh0
  obtain ⟨A1, n1, c1, z1, rfl, m1, qc1, w1, u1, o1⟩ := open_recs_Trod Sns.cells 7 (by decide) (fun _ => rfl) Sns.wf Try.underlying28 (by kernel_rfl) el_sns (hval 1 28 v1 rfl rfl) h1
  have o1' := o1 (weights_arg hsz (j := 1) rfl rfl)
  rw [show Try.prog.bytesOf 55 = 56 by kernel_rfl] at o1'
  obtain ⟨cs2, fu2, rfl, hh2⟩ := open_agg_list Try.underlying34 (hval 2 34 v2 rfl rfl) h2
  obtain ⟨we_2, wn_2, E_2, ne_2, ce_2, er_2, sve_2, svn_2, si_2, th_2, st_2, s0_2, s1_2, rfl, mf0_2, mf1_2, mf2_2, mf3_2, mf4_2, mf5_2, mf6_2, mf7_2, mf8_2, mf9_2, mf10_2⟩ := op_moment _ _ _ hh2
  clear hA0 hval0
  refine (Ytkomooeohlcnaaa.walk_SimulatorInputs ⟨tk_0, px_0, py_0, ve_0, vn_0, al_0, vs_0, hd_0, ca_0, fu_0, bk_0, gr_0⟩ A1 n1 c1 z1 ⟨we_2, wn_2, E_2, ne_2, ce_2, sve_2, svn_2, si_2, th_2, st_2, s0_2, s1_2⟩ er_2 W w1 u1 m1 o1' mf4_2 mf2_2 (u16_bd mf8_2)).mono fun e W' ⟨he, bel⟩ => ?_
  subst he
  exact ⟨_, rfl, _, _, _, [], _, [], hW', trodAll_mk1 (shut_bool Try.underlying4 _), (trodAll_cons_mk (Below.trod laidOut (by kernel_rfl) (of_decide_eq_true (by kernel_rfl)) k0 bel lt0) (trodAll_cons_mk (Below.trod laidOut (by kernel_rfl) (of_decide_eq_true (by kernel_rfl)) k1 bel lt1) (trodAll_cons_mk (Below.trod laidOut (by kernel_rfl) (of_decide_eq_true (by kernel_rfl)) k2 bel lt2) trodAll_mk0))), rfl, bel.frame _, fun h => by cases h⟩

theorem over : Rows.simulatorInputsRow.holds Try.pinned (OpenSpec.ofChange Rows.simulatorInputsSpec) :=
  OpenClaim.holds_of_wide 3 Try.f3 rfl rfl rfl rfl rfl rfl rfl ⟨rfl, rfl, rfl, rfl, rfl⟩ rfl rfl rfl rfl rfl (by kernel_rfl) Try.func3 (by kernel_rfl)
    (of_decide_eq_true (by kernel_rfl)) (by unfold Func.isWrapper; first | (rw [if_pos (by decide +kernel)]; kernel_rfl) | (rw [if_neg (by decide +kernel)]; exact ⟨rfl, rfl⟩))
    (fun os started H enc _ => lifted os started H enc)

/-- the statement -/
theorem proved : Rows.SimulatorInputsSaid := over
end Go.Proofs.Ytkomooeohlcnaaa.simulatorInputs
