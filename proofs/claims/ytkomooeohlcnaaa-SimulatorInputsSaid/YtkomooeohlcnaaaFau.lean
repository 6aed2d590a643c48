/- Layer 59: Faulty. -/
import Derived.Test.YtkomooeohlcnaaaInP
import Derived.Test.YtkomooeohlcnaaaSo
namespace Go.Proofs.Ytkomooeohlcnaaa
set_option linter.unusedSimpArgs false
set_option linter.unusedVariables false
open Go.RowKit
/-- the sources of the reports that do not agree -/
noncomputable def flOf (c : Cra) (RL : List Rep) : List Int := (RL.filter fun r => !agR c r).map Rep.so
noncomputable def flAll (c : Cra) (l : List Sns) (m : Mom) (er : List (Int × Int)) : Nat → List Int
  | 0 => []
  | k + 1 => flAll c l m er k ++ flOf c (seRL c l ((k : Int) + 1) m er)
structure FaS (c : Cra) (m : Mom) (w : World) (N : Nat) (L : List Int) (v : Value) (wr : World) : Prop where
  C : Has wr w.heap.size c.cells
  M : Has wr (w.heap.size + 1) m.cells
  B : Below w.heap.size w wr
  o : Ow oneI 1 3 N L v wr
  hN : w.heap.size + 2 ≤ N
  hS : N ≤ wr.heap.size
section
variable {c : Cra} {m : Mom} {w wr wa w1 : World} {N : Nat} {L : List Int} {v : Value}
theorem FaS.below (h : FaS c m w N L v wr) (hb : Below wr.heap.size wr w1) : FaS c m w N L v w1 :=
  ⟨h.C.below hb, h.M.below hb, bel_trans h.B hb, h.o.below hb, h.hN, Nat.le_trans h.hS hb.size⟩
theorem FaS.app {v' : Value} {x : Int} (h : FaS c m w N L v wr) (hb : Below wr.heap.size wr wa) (hown : w1.ownsRow N 3 1 v' (L.length + 1) (L.flatMap oneI ++ oneI x)) (hg : wa.grownBy w1 v.ownBlock) : FaS c m w N (L ++ [x]) v' w1 := by
  have ha := h.below hb
  have hl : ∀ k, v.ownBlock = some k → N ≤ k := fun k e => (h.o.lt e).1
  have h2 := h.hN
  refine ⟨ha.C.grown hg (fun e => by have := hl _ e.symm; omega), ha.M.grown hg (fun e => by have := hl _ e.symm; omega), below_grown ha.B (Nat.le_refl _) hg (fun k e => by have := hl k e; omega), Ow.next hown, h.hN, ?_⟩
  have := ha.hS
  have := hg.size
  omega
end
theorem Recs.grown {α : Type} {f : α → List Value} {sz : Nat} {w w1 : World} {A : Option Addr} {n : Nat} {xs : List α} {row : Option Nat} (h : Recs f sz w A n xs) (hg : w.grownBy w1 row) (hne : ∀ a, A = some a → some a.block ≠ row) : Recs f sz w1 A n xs :=
  ⟨h.len, fun hn => by
    obtain ⟨b, off, hA, hb, hc⟩ := h.cells hn
    exact ⟨b, off, hA, Nat.lt_of_lt_of_le hb hg.size, fun k x hx j v hv => (World.cell?_of_block (a := ⟨b, off + k * sz + j, none⟩) (hg.block b hb (by have := hne _ hA; exact this))).trans (hc k x hx j v hv)⟩⟩
theorem se_same {c : Cra} {l : List Sns} {comp we wn se sn : Int} {er : List (Int × Int)} {s0 s1 : ByteArray} (h : seE c l 1 we wn se sn er s0 s1 = 0) (hc : comp = 1 ∨ comp = 2) : seE c l comp we wn se sn er s0 s1 = 0 := by
  obtain ⟨h1, h2, h3, _⟩ := se_parts h
  unfold seE
  rw [if_neg (by simpa using h1), if_neg (by simpa using h2), if_neg (by simpa using h3), if_pos hc]
theorem fl_take {c : Cra} {RL : List Rep} {i : Nat} {r : Rep} (h : RL[i]? = some r) : flOf c (RL.take (i + 1)) = flOf c (RL.take i) ++ (if agR c r = true then [] else [r.so]) := by
  unfold flOf
  rw [take_succ_get RL i r h, List.filter_append, List.map_append]
  cases hr : agR c r <;> simp [List.filter_cons, hr]
theorem fl_len (c : Cra) (RL : List Rep) : (flOf c RL).length ≤ RL.length := by
  unfold flOf
  rw [List.length_map]
  exact List.length_filter_le _ _
theorem infoInt : (Try.prog.info? 3).map (fun i => (i.zero, i.size, i.bytes)) = some (some (.int .i64 0), 1, 8) := by kernel_rfl
def FoRel (c : Cra) (l : List Sns) (m : Mom) (er : List (Int × Int)) (w : World) (N : Nat) (v t : Value) (wr : World) : Prop :=
  ∃ (k : Nat) (v2 : Value), k ≤ 2 ∧ t = .int .i64 ((k : Int) + 1) ∧ v2 = v ∧ FaS c m w N (flAll c l m er k) v2 wr ∧ (flAll c l m er k).length ≤ 4 * k
structure FiS (c : Cra) (m : Mom) (w : World) (N D : Nat) (L : List Int) (RL : List Rep) (A1 A2 : Option Addr) (q : Nat) (S : List Value) (i : Nat) (v : Value) (wr : World) : Prop where
  s : FaS c m w N (L ++ flOf c (RL.take i)) v wr
  bx : Has wr D S
  r1 : Recs Rep.cells 8 wr A1 q RL
  r2 : Recs oneB 1 wr A2 q (RL.map (agR c))
  n1 : ∀ a, A1 = some a → v.ownBlock ≠ some a.block
  n2 : ∀ a, A2 = some a → v.ownBlock ≠ some a.block
  nD : v.ownBlock ≠ some D
  hD : N ≤ D
theorem FiS.app {c : Cra} {m : Mom} {w wr wa w1 : World} {N D : Nat} {L : List Int} {RL : List Rep} {A1 A2 : Option Addr} {q : Nat} {S : List Value} {i : Nat} {v v' : Value} {x : Int} {r : Rep} (h : FiS c m w N D L RL A1 A2 q S i v wr) (hq : i < q) (hr : RL[i]? = some r) (ha : agR c r = false) (hx : x = r.so)
    (hb : Below wr.heap.size wr wa) (hown : w1.ownsRow N 3 1 v' ((L ++ flOf c (RL.take i)).length + 1) ((L ++ flOf c (RL.take i)).flatMap oneI ++ oneI x)) (hg : wa.grownBy w1 v.ownBlock) (hat : v'.ownBlock = v.ownBlock ∨ v'.ownBlock = some wa.heap.size) :
    FiS c m w N D L RL A1 A2 q S (i + 1) v' w1 := by
  have e : L ++ flOf c (RL.take (i + 1)) = (L ++ flOf c (RL.take i)) ++ [x] := by rw [fl_take hr, if_neg (by rw [ha]; decide), hx, List.append_assoc]
  have lt1 : ∀ a, A1 = some a → a.block < wr.heap.size := fun a e => by
    obtain ⟨b, off, hA, hb, _⟩ := h.r1.cells (by omega)
    rw [hA] at e; injection e with e; subst e; exact hb
  have lt2 : ∀ a, A2 = some a → a.block < wr.heap.size := fun a e => by
    obtain ⟨b, off, hA, hb, _⟩ := h.r2.cells (by omega)
    rw [hA] at e; injection e with e; subst e; exact hb
  have hs := hb.size
  refine ⟨by rw [e]; exact h.s.app hb hown hg, (h.bx.below hb).grown hg (fun e => h.nD e.symm), (h.r1.below hb).grown hg (fun a ea e => h.n1 a ea e.symm), (h.r2.below hb).grown hg (fun a ea e => h.n2 a ea e.symm), fun a ea e => ?_, fun a ea e => ?_, fun e => ?_, h.hD⟩
  · rcases hat with g | g
    · exact h.n1 a ea (g ▸ e)
    · rw [g] at e; injection e with e; have := lt1 a ea; omega
  · rcases hat with g | g
    · exact h.n2 a ea (g ▸ e)
    · rw [g] at e; injection e with e; have := lt2 a ea; omega
  · rcases hat with g | g
    · exact h.nD (g ▸ e)
    · rw [g] at e; injection e with e; have := h.bx.lt; omega
theorem FiS.skip {c : Cra} {m : Mom} {w wr : World} {N D : Nat} {L : List Int} {RL : List Rep} {A1 A2 : Option Addr} {q : Nat} {S : List Value} {i : Nat} {v : Value} {r : Rep} (h : FiS c m w N D L RL A1 A2 q S i v wr) (hr : RL[i]? = some r) (ha : agR c r = true) : FiS c m w N D L RL A1 A2 q S (i + 1) v wr :=
  ⟨by rw [fl_take hr, if_pos ha, List.append_nil]; exact h.s, h.bx, h.r1, h.r2, h.n1, h.n2, h.nD, h.hD⟩
def FiRel (c : Cra) (m : Mom) (w : World) (N D : Nat) (L : List Int) (RL : List Rep) (A1 A2 : Option Addr) (q : Nat) (S : List Value) (v t : Value) (wr : World) : Prop :=
  ∃ (i : Nat) (v2 : Value), i ≤ q ∧ t = .int .i64 i ∧ v2 = v ∧ FiS c m w N D L RL A1 A2 q S i v2 wr
theorem fl_all2 (c : Cra) (l : List Sns) (m : Mom) (er : List (Int × Int)) (k : Nat) : flAll c l m er (k + 1) = flAll c l m er k ++ flOf c (seRL c l ((k : Int) + 1) m er) := rfl
/-- what Faulty hands back -/
def FaPost (c : Cra) (l : List Sns) (m : Mom) (er : List (Int × Int)) (w : World) (e : Ending) (w' : World) : Prop :=
  ∃ (A : Option Addr) (k c2 : Nat), e = .returned (.slice A k c2) ∧ Ints w' A k (Lib.compact ((flAll c l m er 2).mergeSort fun x y => decide (x ≤ y))) ∧ Below w.heap.size w w'
def SoC : Prop := ∀ (N : Nat) (L : List Int) (v : Value) (wr : World), Ow oneI 1 3 N L v wr → L.length ≤ 100 → Calls Try.prog 16 #[v] wr fun e w' => e = .returned (.tuple #[]) ∧ Ow oneI 1 3 N (L.mergeSort fun x y => decide (x ≤ y)) v w' ∧ wr.grownBy w' v.ownBlock
def CoC : Prop := ∀ (N : Nat) (L : List Int) (v : Value) (wr : World), Ow oneI 1 3 N L v wr → L.length ≤ 100 → Calls Try.prog 17 #[v] wr fun e w' => ∃ A c, e = .returned (.slice A (Lib.compact L).length c) ∧ Ints w' A (Lib.compact L).length (Lib.compact L) ∧ wr.grownBy w' v.ownBlock
set_option maxRecDepth 100000 in
set_option maxHeartbeats 2000000 in
theorem xFaultyOk (hso : SoC) (hco : CoC) (c : Cra) (A : Option Addr) (n cp : Nat) (l : List Sns) (m : Mom) (er : List (Int × Int)) (w : World) (hl : Recs Sns.cells 7 w A n l) (hn : n ≤ maxLen) (hw : ∀ s ∈ l, s.wf) (he : Recs er2 2 w m.E m.ne er) (hne : m.ne ≤ maxLen) (hsi : 0 ≤ m.si ∧ m.si < 65536) (h1 : seE c l 1 m.we m.wn m.se m.sn er m.s0 m.s1 = 0) : Calls Try.prog 6 #[.agg #[.int .i64 c.tk, .int .i64 c.px, .int .i64 c.py, .int .i64 c.ve, .int .i64 c.vn, .int .i64 c.al, .int .i64 c.vs, .int .i64 c.hd, .int .i64 c.ca, .int .i64 c.fu, .int .i64 c.bk, .bool c.gr], .slice A n cp, .agg #[.int .i64 m.we, .int .i64 m.wn, .slice m.E m.ne m.ce, .int .i64 m.se, .int .i64 m.sn, .int .u16 m.si, .bool m.th, .bool m.st, .string m.s0, .string m.s1]] w (FaPost c l m er w) := by
  have HX := Lib.hid (fun comp w' hB => (xSense c A n cp l comp m er w' (hl.below (w' := w') hB) hn hw (he.below (w' := w') hB) hne hsi).mono fun e w1 h => se_u h)
  have HE1 := Lib.hid (fun comp hc => se_same (comp := comp) h1 hc)
  have HLE := Lib.hid (fun comp => seRL_le (c := c) (comp := comp) (m := m) (er := er) hw)
  obtain ⟨i0, hi, hz0, hz1, hz2⟩ := info_parts infoInt
  have HSO := Lib.hid hso
  have HCO := Lib.hid hco
  clear hl hw he hn hne hsi h1 hso hco
  go_enter Try.func6, Try.ntmps6
  have HN2 := Lib.hid (show ((w.alloc (.cells #[.int .i64 c.tk, .int .i64 c.px, .int .i64 c.py, .int .i64 c.ve, .int .i64 c.vn, .int .i64 c.al, .int .i64 c.vs, .int .i64 c.hd, .int .i64 c.ca, .int .i64 c.fu, .int .i64 c.bk, .bool c.gr] 27)).alloc (.cells #[.int .i64 m.we, .int .i64 m.wn, .slice m.E m.ne m.ce, .int .i64 m.se, .int .i64 m.sn, .int .u16 m.si, .bool m.th, .bool m.st, .string m.s0, .string m.s1] 34)).heap.size = w.heap.size + 2 by simp)
  have HS : Hid (FaS c m w (w.heap.size + 2) [] (.slice none 0 0) ((w.alloc (.cells #[.int .i64 c.tk, .int .i64 c.px, .int .i64 c.py, .int .i64 c.ve, .int .i64 c.vn, .int .i64 c.al, .int .i64 c.vs, .int .i64 c.hd, .int .i64 c.ca, .int .i64 c.fu, .int .i64 c.bk, .bool c.gr] 27)).alloc (.cells #[.int .i64 m.we, .int .i64 m.wn, .slice m.E m.ne m.ce, .int .i64 m.se, .int .i64 m.sn, .int .u16 m.si, .bool m.th, .bool m.st, .string m.s0, .string m.s1] 34))) :=
    Lib.hid ⟨(Has.new w _ _).alloc _, Has.newAt (w.alloc _) _ _ (w.heap.size + 1) (by simp), below_alloc2 _ _ _, Ow.start _ _ _ _ _, Nat.le_refl _, by rw [HN2.out]; exact Nat.le_refl _⟩
  generalize w.heap.size + 2 = N at HS
  clear HN2
  go_wp2_with fail
  go_loopw [7, 8] (fun v t wr => FoRel c l m er w N v t wr) (fun _ t _ => 4 - (intOf t).toNat)
  case atStart => exact ⟨0, _, by omega, rfl, rfl, HS.out, Nat.le_refl _⟩
  case round =>
    obtain ⟨k, v2, hk, rfl, rfl, hs, hL⟩ := hrel
    replace HS := Lib.hid hs
    have HLL := Lib.hid hL
    clear hs hL
    by_cases hlt : k < 2
    rotate_left
    · have hk2 : k = 2 := by omega
      subst hk2
      go_wp2_with fail
      have HLL8 := Lib.hid (show (flAll c l m er 2).length ≤ 100 by have := HLL.out; omega)
      have HLS := Lib.hid (show ((flAll c l m er 2).mergeSort fun x y => decide (x ≤ y)).length ≤ 100 by rw [List.length_mergeSort]; exact HLL8.out)
      have HFL := Lib.hid (show ∀ (e : Ending) (W : World) (A : Option Addr) (q c2 : Nat), e = .returned (.slice A q c2) → Ints W A q (Lib.compact ((flAll c l m er 2).mergeSort fun x y => decide (x ≤ y))) → Below w.heap.size w W → FaPost c l m er w e W from fun e W A q c2 h1 h2 h3 => ⟨A, q, c2, h1, h2, h3⟩)
      generalize flAll c l m er 2 = FL at *
      refine (HSO.out _ _ _ _ HS.out.o HLL8.out).mono ?_; rintro e w2 ⟨rfl, ho, hg⟩
      have HO := Lib.hid ho
      have HB2 := Lib.hid (below_grown HS.out.B (Nat.le_refl _) hg (fun j e => by have := (HS.out.o.lt e).1; have := HS.out.hN; omega))
      have HNN := Lib.hid HS.out.hN
      clear ho hg HS
      generalize (FL.mergeSort fun x y => decide (x ≤ y)) = SL at *
      go_wp2_with fail
      refine (HCO.out _ _ _ _ HO.out HLS.out).mono ?_; rintro e w3 ⟨A3, c3, rfl, hI, hg⟩
      have HI3 := Lib.hid hI
      have HB3 := Lib.hid (below_grown HB2.out (Nat.le_refl _) hg (fun j e => by have := (HO.out.lt e).1; have := HNN.out; omega))
      clear hI hg
      generalize Lib.compact SL = K at *
      go_wp2_with fail
      go_ret
      exact HFL.out _ _ A3 K.length c3 rfl HI3.out HB3.out
    have hlt2 : (k : Int) + 1 ≤ 2 := by omega
    have HE := Lib.hid (HE1.out ((k : Int) + 1) (by omega))
    have k0 : wr.cell? ⟨w.heap.size, 0, none⟩ = some (.int .i64 c.tk) := HS.out.C.cell 0 _ rfl
    have k1 : wr.cell? ⟨w.heap.size, 1, none⟩ = some (.int .i64 c.px) := HS.out.C.cell 1 _ rfl
    have k2 : wr.cell? ⟨w.heap.size, 2, none⟩ = some (.int .i64 c.py) := HS.out.C.cell 2 _ rfl
    have k3 : wr.cell? ⟨w.heap.size, 3, none⟩ = some (.int .i64 c.ve) := HS.out.C.cell 3 _ rfl
    have k4 : wr.cell? ⟨w.heap.size, 4, none⟩ = some (.int .i64 c.vn) := HS.out.C.cell 4 _ rfl
    have k5 : wr.cell? ⟨w.heap.size, 5, none⟩ = some (.int .i64 c.al) := HS.out.C.cell 5 _ rfl
    have k6 : wr.cell? ⟨w.heap.size, 6, none⟩ = some (.int .i64 c.vs) := HS.out.C.cell 6 _ rfl
    have k7 : wr.cell? ⟨w.heap.size, 7, none⟩ = some (.int .i64 c.hd) := HS.out.C.cell 7 _ rfl
    have k8 : wr.cell? ⟨w.heap.size, 8, none⟩ = some (.int .i64 c.ca) := HS.out.C.cell 8 _ rfl
    have k9 : wr.cell? ⟨w.heap.size, 9, none⟩ = some (.int .i64 c.fu) := HS.out.C.cell 9 _ rfl
    have k10 : wr.cell? ⟨w.heap.size, 10, none⟩ = some (.int .i64 c.bk) := HS.out.C.cell 10 _ rfl
    have k11 : wr.cell? ⟨w.heap.size, 11, none⟩ = some (.bool c.gr) := HS.out.C.cell 11 _ rfl
    have m0 : wr.cell? ⟨w.heap.size + 1, 0, none⟩ = some (.int .i64 m.we) := HS.out.M.cell 0 _ rfl
    have m1 : wr.cell? ⟨w.heap.size + 1, 1, none⟩ = some (.int .i64 m.wn) := HS.out.M.cell 1 _ rfl
    have m2 : wr.cell? ⟨w.heap.size + 1, 2, none⟩ = some (.slice m.E m.ne m.ce) := HS.out.M.cell 2 _ rfl
    have m3 : wr.cell? ⟨w.heap.size + 1, 3, none⟩ = some (.int .i64 m.se) := HS.out.M.cell 3 _ rfl
    have m4 : wr.cell? ⟨w.heap.size + 1, 4, none⟩ = some (.int .i64 m.sn) := HS.out.M.cell 4 _ rfl
    have m5 : wr.cell? ⟨w.heap.size + 1, 5, none⟩ = some (.int .u16 m.si) := HS.out.M.cell 5 _ rfl
    have m6 : wr.cell? ⟨w.heap.size + 1, 6, none⟩ = some (.bool m.th) := HS.out.M.cell 6 _ rfl
    have m7 : wr.cell? ⟨w.heap.size + 1, 7, none⟩ = some (.bool m.st) := HS.out.M.cell 7 _ rfl
    have m8 : wr.cell? ⟨w.heap.size + 1, 8, none⟩ = some (.string m.s0) := HS.out.M.cell 8 _ rfl
    have m9 : wr.cell? ⟨w.heap.size + 1, 9, none⟩ = some (.string m.s1) := HS.out.M.cell 9 _ rfl
    go_wp2_with fail
    refine (HX.out _ _ HS.out.B).mono ?_; rintro e w2 ⟨A1, A2, c1, c2, q1, rfl, r1, r2, hB, hq, f1, f2⟩
    clear k0 k1 k2 k3 k4 k5 k6 k7 k8 k9 k10 k11 m0 m1 m2 m3 m4 m5 m6 m7 m8 m9
    rw [HE.out]
    have HF1 := Lib.hid f1
    have HF2 := Lib.hid f2
    have HQ := Lib.hid hq
    have HR1 := Lib.hid r1
    have HR2 := Lib.hid r2
    have HV := Lib.hid (fun j (e : v2.ownBlock = some j) => (HS.out.o.lt e).2)
    have HSZ := Lib.hid hB.size
    replace HS := Lib.hid (HS.out.below hB)
    have HFA := Lib.hid (fl_all2 c l m er k)
    have HRLE := Lib.hid (HLE.out ((k : Int) + 1))
    clear r1 r2 hB hq f1 f2 HE
    generalize seRL c l ((k : Int) + 1) m er = RL at *
    generalize seQ c l ((k : Int) + 1) m er = Z at *
    obtain ⟨z0, z1, z2, z3, z4, z5, z6, z7, z8, z9, z10, z11⟩ := Z
    simp only [SeZ.cells]
    have HI : Hid (FiS c m w N w2.heap.size (flAll c l m er k) RL A1 A2 q1 [.int .i64 z0, .slice A1 q1 c1, .int .i64 z1, .int .i64 z2, .int .i64 z3, .int .i64 z4, .int .i64 z5, .int .i64 z6, .int .i64 z7, .bool z8, .bool z9, .bool z10, .string z11] 0 v2 (w2.alloc (.cells #[.int .i64 z0, .slice A1 q1 c1, .int .i64 z1, .int .i64 z2, .int .i64 z3, .int .i64 z4, .int .i64 z5, .int .i64 z6, .int .i64 z7, .bool z8, .bool z9, .bool z10, .string z11] 39))) := Lib.hid
      ⟨by rw [show flOf c (RL.take 0) = [] from rfl, List.append_nil]; exact HS.out.below (below_alloc1 _ _), Has.new _ _ _, HR1.out.below (below_alloc1 _ _), HR2.out.below (below_alloc1 _ _),
       fun a ea e => by have := HV.out _ e; have := HF1.out a ea; omega, fun a ea e => by have := HV.out _ e; have := HF2.out a ea; omega, fun e => by have := HV.out _ e; have := HSZ.out; omega, HS.out.hS⟩
    clear HS HR1 HR2 HF1 HF2 HV HSZ
    generalize flAll c l m er k = LL at *
    go_wp2_with fail
    go_loopw [7, 31] (fun v t wr => FiRel c m w N w2.heap.size LL RL A1 A2 q1 [.int .i64 z0, .slice A1 q1 c1, .int .i64 z1, .int .i64 z2, .int .i64 z3, .int .i64 z4, .int .i64 z5, .int .i64 z6, .int .i64 z7, .bool z8, .bool z9, .bool z10, .string z11] v t wr) (fun _ t _ => q1 - (intOf t).toNat)
    case atStart => exact ⟨0, _, by omega, rfl, rfl, HI.out⟩
    case round =>
      obtain ⟨i, v3, hix, rfl, rfl, hs⟩ := hrel
      replace HI := Lib.hid hs
      clear hs
      have hq8 : q1 ≤ 8 := HQ.out
      have hlen : (LL ++ flOf c (RL.take i)).length ≤ 12 := by
        have g1 := fl_len c (RL.take i)
        have g2 := List.length_take_le i RL
        have g3 := HRLE.out
        have g4 := HLL.out
        have g5 : (RL.take i).length ≤ RL.length := List.length_take_le' i RL
        rw [List.length_append]
        omega
      by_cases hil : i < q1
      rotate_left
      · have HT := Lib.hid (show RL.take i = RL from List.take_of_length_le (by rw [HI.out.r1.len]; omega))
        have hs := HI.out.s
        rw [HT.out] at hs
        have HSF := Lib.hid hs
        have HLF := Lib.hid (show (LL ++ flOf c RL).length ≤ 4 * (k + 1) by
          have g1 := fl_len c RL
          have g3 := HRLE.out
          have g4 := HLL.out
          rw [List.length_append]
          omega)
        clear hs hlen
        go_wp2_with fail
        go_roundw
        case rel => exact ⟨k + 1, _, by omega, by go_num, rfl, by rw [HFA.out]; exact HSF.out, by rw [HFA.out]; exact HLF.out⟩
        case measure => simp only [intOf]; omega
      obtain ⟨r, hr⟩ := get_ex HI.out.r1.len hil
      obtain ⟨b2, off2, hA2, hb2, hc2⟩ := HI.out.r2.cells (by omega)
      subst hA2
      have y0 : wr.cell? ⟨b2, off2 + i * 1, none⟩ = some (.bool (agR c r)) := hc2 i (agR c r) (by rw [List.getElem?_map, hr]; rfl) 0 _ rfl
      rw [Nat.mul_one] at y0
      have HRR := Lib.hid hr
      cases hag : agR c r
      rotate_left
      · rw [hag] at y0
        have HAG := Lib.hid hag
        clear hag hr hc2
        go_wp2_with fail
        go_roundw
        case rel => exact ⟨i + 1, _, by omega, by go_num, rfl, HI.out.skip HRR.out HAG.out⟩
        case measure => simp only [intOf]; omega
      rw [hag] at y0
      have HAG := Lib.hid hag
      obtain ⟨b1, off1, hA1, hb1, hc1⟩ := HI.out.r1.cells (by omega)
      subst hA1
      have x0 : wr.cell? ⟨b1, off1 + i * 8, none⟩ = some (.int .i64 r.so) := hc1 i r hr 0 _ rfl
      have s1 := HI.out.bx.cell 1 (.slice (some ⟨b1, off1, none⟩) q1 c1) rfl
      clear hag hr hc2 hc1
      go_wp2_with (at_builtin; refine wpList_append_own_at _ rfl _ _ 44 rfl N 3 i0 (.int .i64 0) 1 8 Try.underlying44 hi hz0 hz1 hz2 rfl (by decide) _ _ _ rfl ((HI.out.s.below (below_alloc1 _ _)).o.own) ⟨wr.heap.size, 0, none⟩ 1 1 [.int .i64 r.so] rfl rfl (news_new _ _ rfl _ _ _ rfl) (by intro u hu; simp at hu; subst hu; rfl) (by unfold maxLen; omega) (by omega) (by have := HI.out.s.hS; simp; omega) ?_; intro v4 w5 hown hgrow hnil hat)
      go_roundw
      case rel => exact ⟨i + 1, _, by omega, by go_num, rfl, HI.out.app hil HRR.out HAG.out rfl (below_alloc1 _ _) hown hgrow hat⟩
      case measure => simp only [intOf]; omega
set_option maxRecDepth 100000 in
set_option maxHeartbeats 2000000 in
theorem xFaultyE (c : Cra) (A : Option Addr) (n cp : Nat) (l : List Sns) (m : Mom) (er : List (Int × Int)) (w : World) (hl : Recs Sns.cells 7 w A n l) (hn : n ≤ maxLen) (hw : ∀ s ∈ l, s.wf) (he : Recs er2 2 w m.E m.ne er) (hne : m.ne ≤ maxLen) (hsi : 0 ≤ m.si ∧ m.si < 65536) (h1 : seE c l 1 m.we m.wn m.se m.sn er m.s0 m.s1 ≠ 0) : Calls Try.prog 6 #[.agg #[.int .i64 c.tk, .int .i64 c.px, .int .i64 c.py, .int .i64 c.ve, .int .i64 c.vn, .int .i64 c.al, .int .i64 c.vs, .int .i64 c.hd, .int .i64 c.ca, .int .i64 c.fu, .int .i64 c.bk, .bool c.gr], .slice A n cp, .agg #[.int .i64 m.we, .int .i64 m.wn, .slice m.E m.ne m.ce, .int .i64 m.se, .int .i64 m.sn, .int .u16 m.si, .bool m.th, .bool m.st, .string m.s0, .string m.s1]] w fun e w' => e = .returned (.slice none 0 0) ∧ Below w.heap.size w w' := by
  have HX := Lib.hid (fun comp w' hB => (xSense c A n cp l comp m er w' (hl.below (w' := w') hB) hn hw (he.below (w' := w') hB) hne hsi).mono fun e w1 h => se_u h)
  have HE1 := Lib.hid h1
  clear hl hw he hn hne hsi h1
  go_enter Try.func6, Try.ntmps6
  have HN2 := Lib.hid (show ((w.alloc (.cells #[.int .i64 c.tk, .int .i64 c.px, .int .i64 c.py, .int .i64 c.ve, .int .i64 c.vn, .int .i64 c.al, .int .i64 c.vs, .int .i64 c.hd, .int .i64 c.ca, .int .i64 c.fu, .int .i64 c.bk, .bool c.gr] 27)).alloc (.cells #[.int .i64 m.we, .int .i64 m.wn, .slice m.E m.ne m.ce, .int .i64 m.se, .int .i64 m.sn, .int .u16 m.si, .bool m.th, .bool m.st, .string m.s0, .string m.s1] 34)).heap.size = w.heap.size + 2 by simp)
  have HS : Hid (FaS c m w (w.heap.size + 2) [] (.slice none 0 0) ((w.alloc (.cells #[.int .i64 c.tk, .int .i64 c.px, .int .i64 c.py, .int .i64 c.ve, .int .i64 c.vn, .int .i64 c.al, .int .i64 c.vs, .int .i64 c.hd, .int .i64 c.ca, .int .i64 c.fu, .int .i64 c.bk, .bool c.gr] 27)).alloc (.cells #[.int .i64 m.we, .int .i64 m.wn, .slice m.E m.ne m.ce, .int .i64 m.se, .int .i64 m.sn, .int .u16 m.si, .bool m.th, .bool m.st, .string m.s0, .string m.s1] 34))) :=
    Lib.hid ⟨(Has.new w _ _).alloc _, Has.newAt (w.alloc _) _ _ (w.heap.size + 1) (by simp), below_alloc2 _ _ _, Ow.start _ _ _ _ _, Nat.le_refl _, by rw [HN2.out]; exact Nat.le_refl _⟩
  generalize w.heap.size + 2 = N at HS
  clear HN2
  go_wp2_with fail
  go_loopw [7, 8] (fun v t wr => t = .int .i64 1 ∧ FaS c m w N [] (.slice none 0 0) wr) (fun _ t _ => 4 - (intOf t).toNat)
  case atStart => exact ⟨rfl, HS.out⟩
  case round =>
    obtain ⟨rfl, hs⟩ := hrel
    replace HS := Lib.hid hs
    clear hs
    have k0 : wr.cell? ⟨w.heap.size, 0, none⟩ = some (.int .i64 c.tk) := HS.out.C.cell 0 _ rfl
    have k1 : wr.cell? ⟨w.heap.size, 1, none⟩ = some (.int .i64 c.px) := HS.out.C.cell 1 _ rfl
    have k2 : wr.cell? ⟨w.heap.size, 2, none⟩ = some (.int .i64 c.py) := HS.out.C.cell 2 _ rfl
    have k3 : wr.cell? ⟨w.heap.size, 3, none⟩ = some (.int .i64 c.ve) := HS.out.C.cell 3 _ rfl
    have k4 : wr.cell? ⟨w.heap.size, 4, none⟩ = some (.int .i64 c.vn) := HS.out.C.cell 4 _ rfl
    have k5 : wr.cell? ⟨w.heap.size, 5, none⟩ = some (.int .i64 c.al) := HS.out.C.cell 5 _ rfl
    have k6 : wr.cell? ⟨w.heap.size, 6, none⟩ = some (.int .i64 c.vs) := HS.out.C.cell 6 _ rfl
    have k7 : wr.cell? ⟨w.heap.size, 7, none⟩ = some (.int .i64 c.hd) := HS.out.C.cell 7 _ rfl
    have k8 : wr.cell? ⟨w.heap.size, 8, none⟩ = some (.int .i64 c.ca) := HS.out.C.cell 8 _ rfl
    have k9 : wr.cell? ⟨w.heap.size, 9, none⟩ = some (.int .i64 c.fu) := HS.out.C.cell 9 _ rfl
    have k10 : wr.cell? ⟨w.heap.size, 10, none⟩ = some (.int .i64 c.bk) := HS.out.C.cell 10 _ rfl
    have k11 : wr.cell? ⟨w.heap.size, 11, none⟩ = some (.bool c.gr) := HS.out.C.cell 11 _ rfl
    have m0 : wr.cell? ⟨w.heap.size + 1, 0, none⟩ = some (.int .i64 m.we) := HS.out.M.cell 0 _ rfl
    have m1 : wr.cell? ⟨w.heap.size + 1, 1, none⟩ = some (.int .i64 m.wn) := HS.out.M.cell 1 _ rfl
    have m2 : wr.cell? ⟨w.heap.size + 1, 2, none⟩ = some (.slice m.E m.ne m.ce) := HS.out.M.cell 2 _ rfl
    have m3 : wr.cell? ⟨w.heap.size + 1, 3, none⟩ = some (.int .i64 m.se) := HS.out.M.cell 3 _ rfl
    have m4 : wr.cell? ⟨w.heap.size + 1, 4, none⟩ = some (.int .i64 m.sn) := HS.out.M.cell 4 _ rfl
    have m5 : wr.cell? ⟨w.heap.size + 1, 5, none⟩ = some (.int .u16 m.si) := HS.out.M.cell 5 _ rfl
    have m6 : wr.cell? ⟨w.heap.size + 1, 6, none⟩ = some (.bool m.th) := HS.out.M.cell 6 _ rfl
    have m7 : wr.cell? ⟨w.heap.size + 1, 7, none⟩ = some (.bool m.st) := HS.out.M.cell 7 _ rfl
    have m8 : wr.cell? ⟨w.heap.size + 1, 8, none⟩ = some (.string m.s0) := HS.out.M.cell 8 _ rfl
    have m9 : wr.cell? ⟨w.heap.size + 1, 9, none⟩ = some (.string m.s1) := HS.out.M.cell 9 _ rfl
    go_wp2_with fail
    refine (HX.out _ _ HS.out.B).mono ?_; rintro e w2 ⟨A1, A2, c1, c2, q1, rfl, r1, r2, hB, hq, f1, f2⟩
    clear k0 k1 k2 k3 k4 k5 k6 k7 k8 k9 k10 k11 m0 m1 m2 m3 m4 m5 m6 m7 m8 m9 r1 r2 hq f1 f2
    have HB := Lib.hid (bel_trans HS.out.B hB)
    clear hB
    generalize seE c l 1 m.we m.wn m.se m.sn er m.s0 m.s1 = EE at *
    have e1 : (EE == 0) = false := beq_of HE1.out
    have e2 := bne_of e1
    generalize seQ c l 1 m er = Z at *
    obtain ⟨z0, z1, z2, z3, z4, z5, z6, z7, z8, z9, z10, z11⟩ := Z
    simp only [SeZ.cells]
    go_wp2_with fail
    go_ret
    exact ⟨rfl, bel_alloc1 HB.out _⟩
end Go.Proofs.Ytkomooeohlcnaaa
