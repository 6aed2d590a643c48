/- Layer 59: Sense of the program. -/
import Derived.Test.YtkomooeohlcnaaaSeL
import Derived.Test.YtkomooeohlcnaaaAg
import Derived.OwnWalk
import Derived.Deep.RegionHeld3
import Derived.Deep.DeepCutAuto
import Derived.Laws.ShiftsVarLaws
import Derived.Laws.BitsAllLaws
import Derived.Outline
namespace Go.Proofs.Ytkomooeohlcnaaa
set_option linter.unusedSimpArgs false
set_option linter.unusedVariables false
open Go.RowKit
theorem SeB.drew {c : Cra} {m : Mom} {w wr : World} (h : SeB c m w wr) : SeB c m w wr.drew := h.drewN 1
theorem cells22t {c : Cra} {m : Mom} {w W : World} (h : SeB c m w W) : W.cell? ⟨w.heap.size, 0, none⟩ = some (.int .i64 c.tk) ∧ W.cell? ⟨w.heap.size, 1, none⟩ = some (.int .i64 c.px) ∧ W.cell? ⟨w.heap.size, 2, none⟩ = some (.int .i64 c.py) ∧ W.cell? ⟨w.heap.size, 3, none⟩ = some (.int .i64 c.ve) ∧ W.cell? ⟨w.heap.size, 4, none⟩ = some (.int .i64 c.vn) ∧ W.cell? ⟨w.heap.size, 5, none⟩ = some (.int .i64 c.al) ∧ W.cell? ⟨w.heap.size, 6, none⟩ = some (.int .i64 c.vs) ∧ W.cell? ⟨w.heap.size, 7, none⟩ = some (.int .i64 c.hd) ∧ W.cell? ⟨w.heap.size, 8, none⟩ = some (.int .i64 c.ca) ∧ W.cell? ⟨w.heap.size, 9, none⟩ = some (.int .i64 c.fu) ∧ W.cell? ⟨w.heap.size, 10, none⟩ = some (.int .i64 c.bk) ∧ W.cell? ⟨w.heap.size, 11, none⟩ = some (.bool c.gr) ∧ W.cell? ⟨w.heap.size + 1, 0, none⟩ = some (.int .i64 m.we) ∧ W.cell? ⟨w.heap.size + 1, 1, none⟩ = some (.int .i64 m.wn) ∧ W.cell? ⟨w.heap.size + 1, 2, none⟩ = some (.slice m.E m.ne m.ce) ∧ W.cell? ⟨w.heap.size + 1, 3, none⟩ = some (.int .i64 m.se) ∧ W.cell? ⟨w.heap.size + 1, 4, none⟩ = some (.int .i64 m.sn) ∧ W.cell? ⟨w.heap.size + 1, 5, none⟩ = some (.int .u16 m.si) ∧ W.cell? ⟨w.heap.size + 1, 6, none⟩ = some (.bool m.th) ∧ W.cell? ⟨w.heap.size + 1, 7, none⟩ = some (.bool m.st) ∧ W.cell? ⟨w.heap.size + 1, 8, none⟩ = some (.string m.s0) ∧ W.cell? ⟨w.heap.size + 1, 9, none⟩ = some (.string m.s1) :=
  ⟨h.C.cell 0 _ rfl, h.C.cell 1 _ rfl, h.C.cell 2 _ rfl, h.C.cell 3 _ rfl, h.C.cell 4 _ rfl, h.C.cell 5 _ rfl, h.C.cell 6 _ rfl, h.C.cell 7 _ rfl, h.C.cell 8 _ rfl, h.C.cell 9 _ rfl, h.C.cell 10 _ rfl, h.C.cell 11 _ rfl, h.M.cell 0 _ rfl, h.M.cell 1 _ rfl, h.M.cell 2 _ rfl, h.M.cell 3 _ rfl, h.M.cell 4 _ rfl, h.M.cell 5 _ rfl, h.M.cell 6 _ rfl, h.M.cell 7 _ rfl, h.M.cell 8 _ rfl, h.M.cell 9 _ rfl⟩
theorem cftE_bd {c : Cra} (h : c.E = 0) : (-2000 ≤ c.ve ∧ c.ve ≤ 2000) ∧ -2000 ≤ c.vn ∧ c.vn ≤ 2000 := by
  unfold Cra.E cftE crB at h
  split at h
  · next hb =>
    simp only [Bool.and_eq_true, inB_iff] at hb
    exact ⟨hb.1.2, hb.2⟩
  · exact absurd h (by decide)
theorem moE_bd {we wn se sn : Int} {er : List (Int × Int)} {s0 s1 : ByteArray} (h : moE we wn se sn er s0 s1 = 0) : ((-20 ≤ se ∧ se ≤ 20) ∧ -20 ≤ sn ∧ sn ≤ 20) ∧ er.length ≤ 8 ∧ ∀ p ∈ er, erB p = true := by
  unfold moE at h
  split at h
  · next hb =>
    unfold moA at hb
    simp only [Bool.and_eq_true, inB_iff] at hb
    split at h
    · exact absurd h (by decide)
    · next h2 =>
      split at h
      · next h3 => exact ⟨hb.2, by omega, fun p hp => List.all_eq_true.1 h3 p hp⟩
      · exact absurd h (by decide)
  · exact absurd h (by decide)
theorem cs_n8 {l : List Sns} {n : Nat} (h : csE l = 0) (hl : l.length = n) : n ≤ 8 := by
  unfold csE at h
  by_cases h8 : 8 < l.length
  · rw [if_pos h8] at h; exact absurd h (by decide)
  · omega
theorem bit_u16 {x : Int} {k : Nat} (h0 : 0 ≤ x) (h1 : x < 65536) (hk : k < 16) : (bits .and .u16 x (IntKind.u16.wrap (2 ^ k)) != 0) = silB x k := by
  have hw : IntKind.u16.wrap (2 ^ k) = (2 : Int) ^ min (k : Int).toNat 16 % 65536 := by
    rw [show min (k : Int).toNat 16 = k by omega]
    unfold IntKind.wrap
    simp [IntKind.bits, IntKind.signed]
  have hb : 0 ≤ (2 : Int) ^ min (k : Int).toNat 16 % 65536 ∧ (2 : Int) ^ min (k : Int).toNat 16 % 65536 < 65536 := by omega
  have h := u16_bit_test_var x k h0 (by omega)
  rw [hw, u16_and _ _ h0 h1 hb.1 hb.2, Bool.eq_iff_iff]
  unfold silB
  rw [bne_iff_ne, decide_eq_true_eq, Ne, h]
  have : (k : Int) < 16 := by omega
  simp [this]
theorem infoRep : (Try.prog.info? 49).map (fun i => (i.zero, i.size, i.bytes)) = some (some (.agg #[.int .i64 0, .int .u8 0, .int .i64 0, .int .i64 0, .int .i64 0, .int .i64 0, .int .i64 0, .int .i64 0]), 8, 64) := by kernel_rfl
theorem infoBool : (Try.prog.info? 4).map (fun i => (i.zero, i.size, i.bytes)) = some (some (.bool false), 1, 1) := by kernel_rfl
def SeRel (c : Cra) (m : Mom) (comp : Int) (er : List (Int × Int)) (l : List Sns) (n : Nat) (w : World) (H N : Nat) (v t : Value) (wr : World) : Prop :=
  ∃ k : Nat, k ≤ n ∧ t = .int .i64 k ∧ ∃ v1 v2, v2 = v ∧ SeL c m comp w H N (seR c comp m.si er l k) ((seR c comp m.si er l k).map (agR c)) v1 v2 wr
theorem se_skip {c : Cra} {comp si : Int} {er : List (Int × Int)} {k : Nat} {s : Sns} (h : (decide (s.co ≠ comp) || silB si k) = true) : seOne c comp si er k s = none := by
  unfold seOne
  by_cases h1 : s.co ≠ comp
  · rw [if_pos h1]
  · rw [decide_eq_false h1, Bool.false_or] at h
    rw [if_neg h1, if_pos h]
theorem se_one {c : Cra} {comp si : Int} {er : List (Int × Int)} {k : Nat} {s : Sns} (h : (decide (s.co ≠ comp) || silB si k) = false) : seOne c comp si er k s = if seM c s (er.getD k (0, 0)) ≠ 0 then none else some (seRp c s (er.getD k (0, 0))) := by
  rw [Bool.or_eq_false_iff, decide_eq_false_iff_not] at h
  unfold seOne
  rw [if_neg h.1, if_neg (by rw [h.2]; decide)]
/-- what Sense hands back -/
def SePost (c : Cra) (l : List Sns) (comp : Int) (m : Mom) (er : List (Int × Int)) (w : World) (e : Ending) (w' : World) : Prop :=
  (seE c l comp m.we m.wn m.se m.sn er m.s0 m.s1 ≠ 0 → e = .returned (.tuple #[.agg #[.int .i64 0, .slice none 0 0, .int .i64 0, .int .i64 0, .int .i64 0, .int .i64 0, .int .i64 0, .int .i64 0, .int .i64 0, .bool false, .bool false, .bool false, .string ⟨#[]⟩], .slice none 0 0, .int .i64 (seE c l comp m.we m.wn m.se m.sn er m.s0 m.s1)]) ∧ Below w.heap.size w w') ∧
  (seE c l comp m.we m.wn m.se m.sn er m.s0 m.s1 = 0 → ∃ (A1 A2 : Option Addr) (c1 c2 k : Nat), e = .returned (.tuple #[.agg (seC c comp m.se m.sn m.th m.st m.s0 m.s1 (.slice A1 k c1)).toArray, .slice A2 k c2, .int .i64 0]) ∧
    Recs Rep.cells 8 w' A1 k (seR c comp m.si er l l.length) ∧ Recs oneB 1 w' A2 k ((seR c comp m.si er l l.length).map (agR c)) ∧ Below w.heap.size w w' ∧ (∀ a, A1 = some a → w.heap.size ≤ a.block) ∧ ∀ a, A2 = some a → w.heap.size ≤ a.block)
set_option maxRecDepth 100000 in
set_option maxHeartbeats 8000000 in
theorem xSenseE1 (c : Cra) (A : Option Addr) (n cp : Nat) (l : List Sns) (comp : Int) (m : Mom) (er : List (Int × Int)) (w : World) (hl : Recs Sns.cells 7 w A n l) (hn : n ≤ maxLen) (hw : ∀ s ∈ l, s.wf) (he : Recs er2 2 w m.E m.ne er) (hne : m.ne ≤ maxLen) (hsi : 0 ≤ m.si ∧ m.si < 65536) (hE : c.E ≠ 0) : Calls Try.prog 5 #[.agg #[.int .i64 c.tk, .int .i64 c.px, .int .i64 c.py, .int .i64 c.ve, .int .i64 c.vn, .int .i64 c.al, .int .i64 c.vs, .int .i64 c.hd, .int .i64 c.ca, .int .i64 c.fu, .int .i64 c.bk, .bool c.gr], .slice A n cp, .int .i64 comp, .agg #[.int .i64 m.we, .int .i64 m.wn, .slice m.E m.ne m.ce, .int .i64 m.se, .int .i64 m.sn, .int .u16 m.si, .bool m.th, .bool m.st, .string m.s0, .string m.s1]] w (SePost c l comp m er w) := by
  have HC := Lib.hid (xCraft c.tk c.px c.py c.ve c.vn c.al c.vs c.hd c.ca c.fu c.bk c.gr)
  rw [show cftE c.tk c.px c.py c.ve c.vn c.al c.vs c.hd c.ca c.fu c.bk = c.E from rfl] at HC
  have HV := Lib.hid (show seE c l comp m.we m.wn m.se m.sn er m.s0 m.s1 = if c.E ≠ 0 then c.E else if csE l ≠ 0 then csE l else if moE m.we m.wn m.se m.sn er m.s0 m.s1 ≠ 0 then moE m.we m.wn m.se m.sn er m.s0 m.s1 else if comp = 1 ∨ comp = 2 then 0 else 1 from rfl)
  replace HV := Lib.hid (HV.out.trans (if_pos hE))
  have HE := Lib.hid hE
  generalize c.E = EE at *
  have e1 : (EE == 0) = false := beq_of hE
  have e2 := bne_of e1
  clear hE
  unfold SePost
  unfold maxLen at hn hne
  clear hl he hw hsi
  go_enter Try.func5, Try.ntmps5
  go_wp2_with fail
  refine (HC.out _).mono ?_; rintro e w1 ⟨rfl, hB⟩
  have HB : Hid (SeB c m w w1) := Lib.hid ⟨((((Has.new w _ _).alloc _).alloc _).below hB), ((Has.newAt (w.alloc _) _ _ (w.heap.size + 1) (by simp)).alloc _).below hB, (Has.newAt ((w.alloc _).alloc _) _ _ (w.heap.size + 1 + 1) (by simp)).below hB, (below_alloc3 w _ _ _).trans (hB.mono (by simp; omega))⟩
  clear hB
  clear HC
  have z0 := HB.out.R.cell 0 (.int .i64 0) rfl
  have z1 := HB.out.R.cell 1 (.slice none 0 0) rfl
  have z2 := HB.out.R.cell 2 (.int .i64 0) rfl
  have z3 := HB.out.R.cell 3 (.int .i64 0) rfl
  have z4 := HB.out.R.cell 4 (.int .i64 0) rfl
  have z5 := HB.out.R.cell 5 (.int .i64 0) rfl
  have z6 := HB.out.R.cell 6 (.int .i64 0) rfl
  have z7 := HB.out.R.cell 7 (.int .i64 0) rfl
  have z8 := HB.out.R.cell 8 (.int .i64 0) rfl
  have z9 := HB.out.R.cell 9 (.bool false) rfl
  have z10 := HB.out.R.cell 10 (.bool false) rfl
  have z11 := HB.out.R.cell 11 (.bool false) rfl
  have z12 := HB.out.R.cell 12 (.string ⟨#[]⟩) rfl
  have zf := HB.out.R.fr
  have zl := HB.out.R.lt
  go_wp2_with fail
  have HRS := Lib.hid (((((((((((((HB.out.R.set 0 (.int .i64 0) (by simp [seZ])).set 1 (.slice none 0 0) (by simp [seZ])).set 2 (.int .i64 0) (by simp [seZ])).set 3 (.int .i64 0) (by simp [seZ])).set 4 (.int .i64 0) (by simp [seZ])).set 5 (.int .i64 0) (by simp [seZ])).set 6 (.int .i64 0) (by simp [seZ])).set 7 (.int .i64 0) (by simp [seZ])).set 8 (.int .i64 0) (by simp [seZ])).set 9 (.bool false) (by simp [seZ])).set 10 (.bool false) (by simp [seZ])).set 11 (.bool false) (by simp [seZ])).set 12 (.string ⟨#[]⟩) (by simp [seZ]))
  have HBR := Lib.hid (((((((((((((HB.out.B.setCell (p := ⟨w.heap.size + 1 + 1, 0, none⟩) (by simp; omega) (.int .i64 0)).setCell (p := ⟨w.heap.size + 1 + 1, 1, none⟩) (by simp; omega) (.slice none 0 0)).setCell (p := ⟨w.heap.size + 1 + 1, 2, none⟩) (by simp; omega) (.int .i64 0)).setCell (p := ⟨w.heap.size + 1 + 1, 3, none⟩) (by simp; omega) (.int .i64 0)).setCell (p := ⟨w.heap.size + 1 + 1, 4, none⟩) (by simp; omega) (.int .i64 0)).setCell (p := ⟨w.heap.size + 1 + 1, 5, none⟩) (by simp; omega) (.int .i64 0)).setCell (p := ⟨w.heap.size + 1 + 1, 6, none⟩) (by simp; omega) (.int .i64 0)).setCell (p := ⟨w.heap.size + 1 + 1, 7, none⟩) (by simp; omega) (.int .i64 0)).setCell (p := ⟨w.heap.size + 1 + 1, 8, none⟩) (by simp; omega) (.int .i64 0)).setCell (p := ⟨w.heap.size + 1 + 1, 9, none⟩) (by simp; omega) (.bool false)).setCell (p := ⟨w.heap.size + 1 + 1, 10, none⟩) (by simp; omega) (.bool false)).setCell (p := ⟨w.heap.size + 1 + 1, 11, none⟩) (by simp; omega) (.bool false)).setCell (p := ⟨w.heap.size + 1 + 1, 12, none⟩) (by simp; omega) (.string ⟨#[]⟩))
  have y0 := HRS.out.cell 0 (.int .i64 0) rfl
  have y1 := HRS.out.cell 1 (.slice none 0 0) rfl
  have y2 := HRS.out.cell 2 (.int .i64 0) rfl
  have y3 := HRS.out.cell 3 (.int .i64 0) rfl
  have y4 := HRS.out.cell 4 (.int .i64 0) rfl
  have y5 := HRS.out.cell 5 (.int .i64 0) rfl
  have y6 := HRS.out.cell 6 (.int .i64 0) rfl
  have y7 := HRS.out.cell 7 (.int .i64 0) rfl
  have y8 := HRS.out.cell 8 (.int .i64 0) rfl
  have y9 := HRS.out.cell 9 (.bool false) rfl
  have y10 := HRS.out.cell 10 (.bool false) rfl
  have y11 := HRS.out.cell 11 (.bool false) rfl
  have y12 := HRS.out.cell 12 (.string ⟨#[]⟩) rfl
  exact bodyPost_ret (v := .tuple #[.agg #[.int .i64 0, .slice none 0 0, .int .i64 0, .int .i64 0, .int .i64 0, .int .i64 0, .int .i64 0, .int .i64 0, .int .i64 0, .bool false, .bool false, .bool false, .string ⟨#[]⟩], .slice none 0 0, .int .i64 EE]) (by simp [results, Try.results5, go_sem, y0, y1, y2, y3, y4, y5, y6, y7, y8, y9, y10, y11, y12]) rfl ⟨fun _ => ⟨by rw [HV.out], HBR.out⟩, fun h => absurd h (by rw [HV.out]; first | exact HE.out | decide)⟩
set_option maxRecDepth 100000 in
set_option maxHeartbeats 8000000 in
theorem xSenseE2 (c : Cra) (A : Option Addr) (n cp : Nat) (l : List Sns) (comp : Int) (m : Mom) (er : List (Int × Int)) (w : World) (hl : Recs Sns.cells 7 w A n l) (hn : n ≤ maxLen) (hw : ∀ s ∈ l, s.wf) (he : Recs er2 2 w m.E m.ne er) (hne : m.ne ≤ maxLen) (hsi : 0 ≤ m.si ∧ m.si < 65536) (h1 : c.E = 0) (hE : csE l ≠ 0) : Calls Try.prog 5 #[.agg #[.int .i64 c.tk, .int .i64 c.px, .int .i64 c.py, .int .i64 c.ve, .int .i64 c.vn, .int .i64 c.al, .int .i64 c.vs, .int .i64 c.hd, .int .i64 c.ca, .int .i64 c.fu, .int .i64 c.bk, .bool c.gr], .slice A n cp, .int .i64 comp, .agg #[.int .i64 m.we, .int .i64 m.wn, .slice m.E m.ne m.ce, .int .i64 m.se, .int .i64 m.sn, .int .u16 m.si, .bool m.th, .bool m.st, .string m.s0, .string m.s1]] w (SePost c l comp m er w) := by
  have HC := Lib.hid (xCraft c.tk c.px c.py c.ve c.vn c.al c.vs c.hd c.ca c.fu c.bk c.gr)
  rw [show cftE c.tk c.px c.py c.ve c.vn c.al c.vs c.hd c.ca c.fu c.bk = c.E from rfl] at HC
  have HV := Lib.hid (show seE c l comp m.we m.wn m.se m.sn er m.s0 m.s1 = if c.E ≠ 0 then c.E else if csE l ≠ 0 then csE l else if moE m.we m.wn m.se m.sn er m.s0 m.s1 ≠ 0 then moE m.we m.wn m.se m.sn er m.s0 m.s1 else if comp = 1 ∨ comp = 2 then 0 else 1 from rfl)
  replace HV := Lib.hid ((HV.out.trans (if_neg (by rw [h1]; simp))).trans (if_pos hE))
  rw [h1] at HC
  have HS := Lib.hid (fun w' hB => xSensors A n cp l w' (hl.below (w' := w') hB) hn hw)
  have HE := Lib.hid hE
  generalize csE l = EE at *
  have e1 : (EE == 0) = false := beq_of hE
  have e2 := bne_of e1
  clear hE
  unfold SePost
  unfold maxLen at hn hne
  clear hl he hw hsi h1
  go_enter Try.func5, Try.ntmps5
  go_wp2_with fail
  refine (HC.out _).mono ?_; rintro e w1 ⟨rfl, hB⟩
  have HB : Hid (SeB c m w w1) := Lib.hid ⟨((((Has.new w _ _).alloc _).alloc _).below hB), ((Has.newAt (w.alloc _) _ _ (w.heap.size + 1) (by simp)).alloc _).below hB, (Has.newAt ((w.alloc _).alloc _) _ _ (w.heap.size + 1 + 1) (by simp)).below hB, (below_alloc3 w _ _ _).trans (hB.mono (by simp; omega))⟩
  clear hB
  clear HC
  go_wp2_with fail
  refine (HS.out _ HB.out.B).mono ?_; rintro e w2 ⟨rfl, hB⟩
  replace HB := Lib.hid (HB.out.below hB)
  clear hB HS
  have z0 := HB.out.R.cell 0 (.int .i64 0) rfl
  have z1 := HB.out.R.cell 1 (.slice none 0 0) rfl
  have z2 := HB.out.R.cell 2 (.int .i64 0) rfl
  have z3 := HB.out.R.cell 3 (.int .i64 0) rfl
  have z4 := HB.out.R.cell 4 (.int .i64 0) rfl
  have z5 := HB.out.R.cell 5 (.int .i64 0) rfl
  have z6 := HB.out.R.cell 6 (.int .i64 0) rfl
  have z7 := HB.out.R.cell 7 (.int .i64 0) rfl
  have z8 := HB.out.R.cell 8 (.int .i64 0) rfl
  have z9 := HB.out.R.cell 9 (.bool false) rfl
  have z10 := HB.out.R.cell 10 (.bool false) rfl
  have z11 := HB.out.R.cell 11 (.bool false) rfl
  have z12 := HB.out.R.cell 12 (.string ⟨#[]⟩) rfl
  have zf := HB.out.R.fr
  have zl := HB.out.R.lt
  go_wp2_with fail
  have HRS := Lib.hid (((((((((((((HB.out.R.set 0 (.int .i64 0) (by simp [seZ])).set 1 (.slice none 0 0) (by simp [seZ])).set 2 (.int .i64 0) (by simp [seZ])).set 3 (.int .i64 0) (by simp [seZ])).set 4 (.int .i64 0) (by simp [seZ])).set 5 (.int .i64 0) (by simp [seZ])).set 6 (.int .i64 0) (by simp [seZ])).set 7 (.int .i64 0) (by simp [seZ])).set 8 (.int .i64 0) (by simp [seZ])).set 9 (.bool false) (by simp [seZ])).set 10 (.bool false) (by simp [seZ])).set 11 (.bool false) (by simp [seZ])).set 12 (.string ⟨#[]⟩) (by simp [seZ]))
  have HBR := Lib.hid (((((((((((((HB.out.B.setCell (p := ⟨w.heap.size + 1 + 1, 0, none⟩) (by simp; omega) (.int .i64 0)).setCell (p := ⟨w.heap.size + 1 + 1, 1, none⟩) (by simp; omega) (.slice none 0 0)).setCell (p := ⟨w.heap.size + 1 + 1, 2, none⟩) (by simp; omega) (.int .i64 0)).setCell (p := ⟨w.heap.size + 1 + 1, 3, none⟩) (by simp; omega) (.int .i64 0)).setCell (p := ⟨w.heap.size + 1 + 1, 4, none⟩) (by simp; omega) (.int .i64 0)).setCell (p := ⟨w.heap.size + 1 + 1, 5, none⟩) (by simp; omega) (.int .i64 0)).setCell (p := ⟨w.heap.size + 1 + 1, 6, none⟩) (by simp; omega) (.int .i64 0)).setCell (p := ⟨w.heap.size + 1 + 1, 7, none⟩) (by simp; omega) (.int .i64 0)).setCell (p := ⟨w.heap.size + 1 + 1, 8, none⟩) (by simp; omega) (.int .i64 0)).setCell (p := ⟨w.heap.size + 1 + 1, 9, none⟩) (by simp; omega) (.bool false)).setCell (p := ⟨w.heap.size + 1 + 1, 10, none⟩) (by simp; omega) (.bool false)).setCell (p := ⟨w.heap.size + 1 + 1, 11, none⟩) (by simp; omega) (.bool false)).setCell (p := ⟨w.heap.size + 1 + 1, 12, none⟩) (by simp; omega) (.string ⟨#[]⟩))
  have y0 := HRS.out.cell 0 (.int .i64 0) rfl
  have y1 := HRS.out.cell 1 (.slice none 0 0) rfl
  have y2 := HRS.out.cell 2 (.int .i64 0) rfl
  have y3 := HRS.out.cell 3 (.int .i64 0) rfl
  have y4 := HRS.out.cell 4 (.int .i64 0) rfl
  have y5 := HRS.out.cell 5 (.int .i64 0) rfl
  have y6 := HRS.out.cell 6 (.int .i64 0) rfl
  have y7 := HRS.out.cell 7 (.int .i64 0) rfl
  have y8 := HRS.out.cell 8 (.int .i64 0) rfl
  have y9 := HRS.out.cell 9 (.bool false) rfl
  have y10 := HRS.out.cell 10 (.bool false) rfl
  have y11 := HRS.out.cell 11 (.bool false) rfl
  have y12 := HRS.out.cell 12 (.string ⟨#[]⟩) rfl
  exact bodyPost_ret (v := .tuple #[.agg #[.int .i64 0, .slice none 0 0, .int .i64 0, .int .i64 0, .int .i64 0, .int .i64 0, .int .i64 0, .int .i64 0, .int .i64 0, .bool false, .bool false, .bool false, .string ⟨#[]⟩], .slice none 0 0, .int .i64 EE]) (by simp [results, Try.results5, go_sem, y0, y1, y2, y3, y4, y5, y6, y7, y8, y9, y10, y11, y12]) rfl ⟨fun _ => ⟨by rw [HV.out], HBR.out⟩, fun h => absurd h (by rw [HV.out]; first | exact HE.out | decide)⟩
set_option maxRecDepth 100000 in
set_option maxHeartbeats 8000000 in
theorem xSenseE3 (c : Cra) (A : Option Addr) (n cp : Nat) (l : List Sns) (comp : Int) (m : Mom) (er : List (Int × Int)) (w : World) (hl : Recs Sns.cells 7 w A n l) (hn : n ≤ maxLen) (hw : ∀ s ∈ l, s.wf) (he : Recs er2 2 w m.E m.ne er) (hne : m.ne ≤ maxLen) (hsi : 0 ≤ m.si ∧ m.si < 65536) (h1 : c.E = 0) (h2 : csE l = 0) (hE : moE m.we m.wn m.se m.sn er m.s0 m.s1 ≠ 0) : Calls Try.prog 5 #[.agg #[.int .i64 c.tk, .int .i64 c.px, .int .i64 c.py, .int .i64 c.ve, .int .i64 c.vn, .int .i64 c.al, .int .i64 c.vs, .int .i64 c.hd, .int .i64 c.ca, .int .i64 c.fu, .int .i64 c.bk, .bool c.gr], .slice A n cp, .int .i64 comp, .agg #[.int .i64 m.we, .int .i64 m.wn, .slice m.E m.ne m.ce, .int .i64 m.se, .int .i64 m.sn, .int .u16 m.si, .bool m.th, .bool m.st, .string m.s0, .string m.s1]] w (SePost c l comp m er w) := by
  have HC := Lib.hid (xCraft c.tk c.px c.py c.ve c.vn c.al c.vs c.hd c.ca c.fu c.bk c.gr)
  rw [show cftE c.tk c.px c.py c.ve c.vn c.al c.vs c.hd c.ca c.fu c.bk = c.E from rfl] at HC
  have HV := Lib.hid (show seE c l comp m.we m.wn m.se m.sn er m.s0 m.s1 = if c.E ≠ 0 then c.E else if csE l ≠ 0 then csE l else if moE m.we m.wn m.se m.sn er m.s0 m.s1 ≠ 0 then moE m.we m.wn m.se m.sn er m.s0 m.s1 else if comp = 1 ∨ comp = 2 then 0 else 1 from rfl)
  replace HV := Lib.hid (((HV.out.trans (if_neg (by rw [h1]; simp))).trans (if_neg (by rw [h2]; simp))).trans (if_pos hE))
  rw [h1] at HC
  have HS := Lib.hid (fun w' hB => xSensors A n cp l w' (hl.below (w' := w') hB) hn hw)
  rw [h2] at HS
  have HM := Lib.hid (fun w' hB => xMoment m.we m.wn m.se m.sn m.si m.th m.st m.E m.ne m.ce er m.s0 m.s1 w' (he.below (w' := w') hB) hne)
  have HE := Lib.hid hE
  generalize moE m.we m.wn m.se m.sn er m.s0 m.s1 = EE at *
  have e1 : (EE == 0) = false := beq_of hE
  have e2 := bne_of e1
  clear hE
  unfold SePost
  unfold maxLen at hn hne
  clear hl he hw hsi h1 h2
  go_enter Try.func5, Try.ntmps5
  go_wp2_with fail
  refine (HC.out _).mono ?_; rintro e w1 ⟨rfl, hB⟩
  have HB : Hid (SeB c m w w1) := Lib.hid ⟨((((Has.new w _ _).alloc _).alloc _).below hB), ((Has.newAt (w.alloc _) _ _ (w.heap.size + 1) (by simp)).alloc _).below hB, (Has.newAt ((w.alloc _).alloc _) _ _ (w.heap.size + 1 + 1) (by simp)).below hB, (below_alloc3 w _ _ _).trans (hB.mono (by simp; omega))⟩
  clear hB
  clear HC
  go_wp2_with fail
  refine (HS.out _ HB.out.B).mono ?_; rintro e w2 ⟨rfl, hB⟩
  replace HB := Lib.hid (HB.out.below hB)
  clear hB HS
  have m0 := HB.out.M.cell 0 (.int .i64 m.we) rfl
  have m1 := HB.out.M.cell 1 (.int .i64 m.wn) rfl
  have m2 := HB.out.M.cell 2 (.slice m.E m.ne m.ce) rfl
  have m3 := HB.out.M.cell 3 (.int .i64 m.se) rfl
  have m4 := HB.out.M.cell 4 (.int .i64 m.sn) rfl
  have m5 := HB.out.M.cell 5 (.int .u16 m.si) rfl
  have m6 := HB.out.M.cell 6 (.bool m.th) rfl
  have m7 := HB.out.M.cell 7 (.bool m.st) rfl
  have m8 := HB.out.M.cell 8 (.string m.s0) rfl
  have m9 := HB.out.M.cell 9 (.string m.s1) rfl
  go_wp2_with fail
  refine (HM.out _ HB.out.B).mono ?_; rintro e w3 ⟨rfl, hB⟩
  clear m0 m1 m2 m3 m4 m5 m6 m7 m8 m9 HM
  replace HB := Lib.hid (HB.out.below hB)
  clear hB
  have z0 := HB.out.R.cell 0 (.int .i64 0) rfl
  have z1 := HB.out.R.cell 1 (.slice none 0 0) rfl
  have z2 := HB.out.R.cell 2 (.int .i64 0) rfl
  have z3 := HB.out.R.cell 3 (.int .i64 0) rfl
  have z4 := HB.out.R.cell 4 (.int .i64 0) rfl
  have z5 := HB.out.R.cell 5 (.int .i64 0) rfl
  have z6 := HB.out.R.cell 6 (.int .i64 0) rfl
  have z7 := HB.out.R.cell 7 (.int .i64 0) rfl
  have z8 := HB.out.R.cell 8 (.int .i64 0) rfl
  have z9 := HB.out.R.cell 9 (.bool false) rfl
  have z10 := HB.out.R.cell 10 (.bool false) rfl
  have z11 := HB.out.R.cell 11 (.bool false) rfl
  have z12 := HB.out.R.cell 12 (.string ⟨#[]⟩) rfl
  have zf := HB.out.R.fr
  have zl := HB.out.R.lt
  go_wp2_with fail
  have HRS := Lib.hid (((((((((((((HB.out.R.set 0 (.int .i64 0) (by simp [seZ])).set 1 (.slice none 0 0) (by simp [seZ])).set 2 (.int .i64 0) (by simp [seZ])).set 3 (.int .i64 0) (by simp [seZ])).set 4 (.int .i64 0) (by simp [seZ])).set 5 (.int .i64 0) (by simp [seZ])).set 6 (.int .i64 0) (by simp [seZ])).set 7 (.int .i64 0) (by simp [seZ])).set 8 (.int .i64 0) (by simp [seZ])).set 9 (.bool false) (by simp [seZ])).set 10 (.bool false) (by simp [seZ])).set 11 (.bool false) (by simp [seZ])).set 12 (.string ⟨#[]⟩) (by simp [seZ]))
  have HBR := Lib.hid (((((((((((((HB.out.B.setCell (p := ⟨w.heap.size + 1 + 1, 0, none⟩) (by simp; omega) (.int .i64 0)).setCell (p := ⟨w.heap.size + 1 + 1, 1, none⟩) (by simp; omega) (.slice none 0 0)).setCell (p := ⟨w.heap.size + 1 + 1, 2, none⟩) (by simp; omega) (.int .i64 0)).setCell (p := ⟨w.heap.size + 1 + 1, 3, none⟩) (by simp; omega) (.int .i64 0)).setCell (p := ⟨w.heap.size + 1 + 1, 4, none⟩) (by simp; omega) (.int .i64 0)).setCell (p := ⟨w.heap.size + 1 + 1, 5, none⟩) (by simp; omega) (.int .i64 0)).setCell (p := ⟨w.heap.size + 1 + 1, 6, none⟩) (by simp; omega) (.int .i64 0)).setCell (p := ⟨w.heap.size + 1 + 1, 7, none⟩) (by simp; omega) (.int .i64 0)).setCell (p := ⟨w.heap.size + 1 + 1, 8, none⟩) (by simp; omega) (.int .i64 0)).setCell (p := ⟨w.heap.size + 1 + 1, 9, none⟩) (by simp; omega) (.bool false)).setCell (p := ⟨w.heap.size + 1 + 1, 10, none⟩) (by simp; omega) (.bool false)).setCell (p := ⟨w.heap.size + 1 + 1, 11, none⟩) (by simp; omega) (.bool false)).setCell (p := ⟨w.heap.size + 1 + 1, 12, none⟩) (by simp; omega) (.string ⟨#[]⟩))
  have y0 := HRS.out.cell 0 (.int .i64 0) rfl
  have y1 := HRS.out.cell 1 (.slice none 0 0) rfl
  have y2 := HRS.out.cell 2 (.int .i64 0) rfl
  have y3 := HRS.out.cell 3 (.int .i64 0) rfl
  have y4 := HRS.out.cell 4 (.int .i64 0) rfl
  have y5 := HRS.out.cell 5 (.int .i64 0) rfl
  have y6 := HRS.out.cell 6 (.int .i64 0) rfl
  have y7 := HRS.out.cell 7 (.int .i64 0) rfl
  have y8 := HRS.out.cell 8 (.int .i64 0) rfl
  have y9 := HRS.out.cell 9 (.bool false) rfl
  have y10 := HRS.out.cell 10 (.bool false) rfl
  have y11 := HRS.out.cell 11 (.bool false) rfl
  have y12 := HRS.out.cell 12 (.string ⟨#[]⟩) rfl
  exact bodyPost_ret (v := .tuple #[.agg #[.int .i64 0, .slice none 0 0, .int .i64 0, .int .i64 0, .int .i64 0, .int .i64 0, .int .i64 0, .int .i64 0, .int .i64 0, .bool false, .bool false, .bool false, .string ⟨#[]⟩], .slice none 0 0, .int .i64 EE]) (by simp [results, Try.results5, go_sem, y0, y1, y2, y3, y4, y5, y6, y7, y8, y9, y10, y11, y12]) rfl ⟨fun _ => ⟨by rw [HV.out], HBR.out⟩, fun h => absurd h (by rw [HV.out]; first | exact HE.out | decide)⟩
set_option maxRecDepth 100000 in
set_option maxHeartbeats 8000000 in
theorem xSenseE4 (c : Cra) (A : Option Addr) (n cp : Nat) (l : List Sns) (comp : Int) (m : Mom) (er : List (Int × Int)) (w : World) (hl : Recs Sns.cells 7 w A n l) (hn : n ≤ maxLen) (hw : ∀ s ∈ l, s.wf) (he : Recs er2 2 w m.E m.ne er) (hne : m.ne ≤ maxLen) (hsi : 0 ≤ m.si ∧ m.si < 65536) (h1 : c.E = 0) (h2 : csE l = 0) (h3 : moE m.we m.wn m.se m.sn er m.s0 m.s1 = 0) (hcp : ¬ (comp = 1 ∨ comp = 2)) : Calls Try.prog 5 #[.agg #[.int .i64 c.tk, .int .i64 c.px, .int .i64 c.py, .int .i64 c.ve, .int .i64 c.vn, .int .i64 c.al, .int .i64 c.vs, .int .i64 c.hd, .int .i64 c.ca, .int .i64 c.fu, .int .i64 c.bk, .bool c.gr], .slice A n cp, .int .i64 comp, .agg #[.int .i64 m.we, .int .i64 m.wn, .slice m.E m.ne m.ce, .int .i64 m.se, .int .i64 m.sn, .int .u16 m.si, .bool m.th, .bool m.st, .string m.s0, .string m.s1]] w (SePost c l comp m er w) := by
  have HC := Lib.hid (xCraft c.tk c.px c.py c.ve c.vn c.al c.vs c.hd c.ca c.fu c.bk c.gr)
  rw [show cftE c.tk c.px c.py c.ve c.vn c.al c.vs c.hd c.ca c.fu c.bk = c.E from rfl] at HC
  have HV := Lib.hid (show seE c l comp m.we m.wn m.se m.sn er m.s0 m.s1 = if c.E ≠ 0 then c.E else if csE l ≠ 0 then csE l else if moE m.we m.wn m.se m.sn er m.s0 m.s1 ≠ 0 then moE m.we m.wn m.se m.sn er m.s0 m.s1 else if comp = 1 ∨ comp = 2 then 0 else 1 from rfl)
  replace HV := Lib.hid ((((HV.out.trans (if_neg (by rw [h1]; simp))).trans (if_neg (by rw [h2]; simp))).trans (if_neg (by rw [h3]; simp))).trans (if_neg hcp))
  rw [h1] at HC
  have HS := Lib.hid (fun w' hB => xSensors A n cp l w' (hl.below (w' := w') hB) hn hw)
  rw [h2] at HS
  have HM := Lib.hid (fun w' hB => xMoment m.we m.wn m.se m.sn m.si m.th m.st m.E m.ne m.ce er m.s0 m.s1 w' (he.below (w' := w') hB) hne)
  rw [h3] at HM
  have d1 : (comp == 1) = false := beq_of (fun h => hcp (.inl h))
  have d2 : (comp == 2) = false := beq_of (fun h => hcp (.inr h))
  have d3 := bne_of d1
  have d4 := bne_of d2
  clear hcp
  unfold SePost
  unfold maxLen at hn hne
  clear hl he hw hsi h1 h2 h3
  go_enter Try.func5, Try.ntmps5
  go_wp2_with fail
  refine (HC.out _).mono ?_; rintro e w1 ⟨rfl, hB⟩
  have HB : Hid (SeB c m w w1) := Lib.hid ⟨((((Has.new w _ _).alloc _).alloc _).below hB), ((Has.newAt (w.alloc _) _ _ (w.heap.size + 1) (by simp)).alloc _).below hB, (Has.newAt ((w.alloc _).alloc _) _ _ (w.heap.size + 1 + 1) (by simp)).below hB, (below_alloc3 w _ _ _).trans (hB.mono (by simp; omega))⟩
  clear hB
  clear HC
  go_wp2_with fail
  refine (HS.out _ HB.out.B).mono ?_; rintro e w2 ⟨rfl, hB⟩
  replace HB := Lib.hid (HB.out.below hB)
  clear hB HS
  have m0 := HB.out.M.cell 0 (.int .i64 m.we) rfl
  have m1 := HB.out.M.cell 1 (.int .i64 m.wn) rfl
  have m2 := HB.out.M.cell 2 (.slice m.E m.ne m.ce) rfl
  have m3 := HB.out.M.cell 3 (.int .i64 m.se) rfl
  have m4 := HB.out.M.cell 4 (.int .i64 m.sn) rfl
  have m5 := HB.out.M.cell 5 (.int .u16 m.si) rfl
  have m6 := HB.out.M.cell 6 (.bool m.th) rfl
  have m7 := HB.out.M.cell 7 (.bool m.st) rfl
  have m8 := HB.out.M.cell 8 (.string m.s0) rfl
  have m9 := HB.out.M.cell 9 (.string m.s1) rfl
  go_wp2_with fail
  refine (HM.out _ HB.out.B).mono ?_; rintro e w3 ⟨rfl, hB⟩
  clear m0 m1 m2 m3 m4 m5 m6 m7 m8 m9 HM
  replace HB := Lib.hid (HB.out.below hB)
  clear hB
  have z0 := HB.out.R.cell 0 (.int .i64 0) rfl
  have z1 := HB.out.R.cell 1 (.slice none 0 0) rfl
  have z2 := HB.out.R.cell 2 (.int .i64 0) rfl
  have z3 := HB.out.R.cell 3 (.int .i64 0) rfl
  have z4 := HB.out.R.cell 4 (.int .i64 0) rfl
  have z5 := HB.out.R.cell 5 (.int .i64 0) rfl
  have z6 := HB.out.R.cell 6 (.int .i64 0) rfl
  have z7 := HB.out.R.cell 7 (.int .i64 0) rfl
  have z8 := HB.out.R.cell 8 (.int .i64 0) rfl
  have z9 := HB.out.R.cell 9 (.bool false) rfl
  have z10 := HB.out.R.cell 10 (.bool false) rfl
  have z11 := HB.out.R.cell 11 (.bool false) rfl
  have z12 := HB.out.R.cell 12 (.string ⟨#[]⟩) rfl
  have zf := HB.out.R.fr
  have zl := HB.out.R.lt
  go_wp2_with fail
  have HRS := Lib.hid (((((((((((((HB.out.R.set 0 (.int .i64 0) (by simp [seZ])).set 1 (.slice none 0 0) (by simp [seZ])).set 2 (.int .i64 0) (by simp [seZ])).set 3 (.int .i64 0) (by simp [seZ])).set 4 (.int .i64 0) (by simp [seZ])).set 5 (.int .i64 0) (by simp [seZ])).set 6 (.int .i64 0) (by simp [seZ])).set 7 (.int .i64 0) (by simp [seZ])).set 8 (.int .i64 0) (by simp [seZ])).set 9 (.bool false) (by simp [seZ])).set 10 (.bool false) (by simp [seZ])).set 11 (.bool false) (by simp [seZ])).set 12 (.string ⟨#[]⟩) (by simp [seZ]))
  have HBR := Lib.hid (((((((((((((HB.out.B.setCell (p := ⟨w.heap.size + 1 + 1, 0, none⟩) (by simp; omega) (.int .i64 0)).setCell (p := ⟨w.heap.size + 1 + 1, 1, none⟩) (by simp; omega) (.slice none 0 0)).setCell (p := ⟨w.heap.size + 1 + 1, 2, none⟩) (by simp; omega) (.int .i64 0)).setCell (p := ⟨w.heap.size + 1 + 1, 3, none⟩) (by simp; omega) (.int .i64 0)).setCell (p := ⟨w.heap.size + 1 + 1, 4, none⟩) (by simp; omega) (.int .i64 0)).setCell (p := ⟨w.heap.size + 1 + 1, 5, none⟩) (by simp; omega) (.int .i64 0)).setCell (p := ⟨w.heap.size + 1 + 1, 6, none⟩) (by simp; omega) (.int .i64 0)).setCell (p := ⟨w.heap.size + 1 + 1, 7, none⟩) (by simp; omega) (.int .i64 0)).setCell (p := ⟨w.heap.size + 1 + 1, 8, none⟩) (by simp; omega) (.int .i64 0)).setCell (p := ⟨w.heap.size + 1 + 1, 9, none⟩) (by simp; omega) (.bool false)).setCell (p := ⟨w.heap.size + 1 + 1, 10, none⟩) (by simp; omega) (.bool false)).setCell (p := ⟨w.heap.size + 1 + 1, 11, none⟩) (by simp; omega) (.bool false)).setCell (p := ⟨w.heap.size + 1 + 1, 12, none⟩) (by simp; omega) (.string ⟨#[]⟩))
  have y0 := HRS.out.cell 0 (.int .i64 0) rfl
  have y1 := HRS.out.cell 1 (.slice none 0 0) rfl
  have y2 := HRS.out.cell 2 (.int .i64 0) rfl
  have y3 := HRS.out.cell 3 (.int .i64 0) rfl
  have y4 := HRS.out.cell 4 (.int .i64 0) rfl
  have y5 := HRS.out.cell 5 (.int .i64 0) rfl
  have y6 := HRS.out.cell 6 (.int .i64 0) rfl
  have y7 := HRS.out.cell 7 (.int .i64 0) rfl
  have y8 := HRS.out.cell 8 (.int .i64 0) rfl
  have y9 := HRS.out.cell 9 (.bool false) rfl
  have y10 := HRS.out.cell 10 (.bool false) rfl
  have y11 := HRS.out.cell 11 (.bool false) rfl
  have y12 := HRS.out.cell 12 (.string ⟨#[]⟩) rfl
  exact bodyPost_ret (v := .tuple #[.agg #[.int .i64 0, .slice none 0 0, .int .i64 0, .int .i64 0, .int .i64 0, .int .i64 0, .int .i64 0, .int .i64 0, .int .i64 0, .bool false, .bool false, .bool false, .string ⟨#[]⟩], .slice none 0 0, .int .i64 1]) (by simp [results, Try.results5, go_sem, y0, y1, y2, y3, y4, y5, y6, y7, y8, y9, y10, y11, y12]) rfl ⟨fun _ => ⟨by rw [HV.out], HBR.out⟩, fun h => absurd h (by rw [HV.out]; first | exact HE.out | decide)⟩
set_option maxRecDepth 100000 in
set_option maxHeartbeats 8000000 in
theorem xSenseOk (c : Cra) (A : Option Addr) (n cp : Nat) (l : List Sns) (comp : Int) (m : Mom) (er : List (Int × Int)) (w : World) (hl : Recs Sns.cells 7 w A n l) (hn : n ≤ maxLen) (hw : ∀ s ∈ l, s.wf) (he : Recs er2 2 w m.E m.ne er) (hne : m.ne ≤ maxLen) (hsi : 0 ≤ m.si ∧ m.si < 65536) (h1 : c.E = 0) (h2 : csE l = 0) (h3 : moE m.we m.wn m.se m.sn er m.s0 m.s1 = 0) (hcp : comp = 1 ∨ comp = 2) : Calls Try.prog 5 #[.agg #[.int .i64 c.tk, .int .i64 c.px, .int .i64 c.py, .int .i64 c.ve, .int .i64 c.vn, .int .i64 c.al, .int .i64 c.vs, .int .i64 c.hd, .int .i64 c.ca, .int .i64 c.fu, .int .i64 c.bk, .bool c.gr], .slice A n cp, .int .i64 comp, .agg #[.int .i64 m.we, .int .i64 m.wn, .slice m.E m.ne m.ce, .int .i64 m.se, .int .i64 m.sn, .int .u16 m.si, .bool m.th, .bool m.st, .string m.s0, .string m.s1]] w (SePost c l comp m er w) := by
  have HC := Lib.hid (xCraft c.tk c.px c.py c.ve c.vn c.al c.vs c.hd c.ca c.fu c.bk c.gr)
  rw [show cftE c.tk c.px c.py c.ve c.vn c.al c.vs c.hd c.ca c.fu c.bk = c.E from rfl] at HC
  have HV := Lib.hid (show seE c l comp m.we m.wn m.se m.sn er m.s0 m.s1 = if c.E ≠ 0 then c.E else if csE l ≠ 0 then csE l else if moE m.we m.wn m.se m.sn er m.s0 m.s1 ≠ 0 then moE m.we m.wn m.se m.sn er m.s0 m.s1 else if comp = 1 ∨ comp = 2 then 0 else 1 from rfl)
  replace HV := Lib.hid ((((HV.out.trans (if_neg (by rw [h1]; simp))).trans (if_neg (by rw [h2]; simp))).trans (if_neg (by rw [h3]; simp))).trans (if_pos hcp))
  rw [h1] at HC
  have HS := Lib.hid (fun w' hB => xSensors A n cp l w' (hl.below (w' := w') hB) hn hw)
  rw [h2] at HS
  have HM := Lib.hid (fun w' hB => xMoment m.we m.wn m.se m.sn m.si m.th m.st m.E m.ne m.ce er m.s0 m.s1 w' (he.below (w' := w') hB) hne)
  rw [h3] at HM
  have HL := Lib.hid hl
  have HER := Lib.hid he
  have HLN := Lib.hid hl.len
  have HEN := Lib.hid he.len
  have HW := Lib.hid hw
  have HCP := Lib.hid hcp
  have HSI := Lib.hid hsi
  have HRc := Lib.hid (cftE_bd h1)
  have HRm := Lib.hid (moE_bd h3)
  have HN8 := Lib.hid (cs_n8 h2 hl.len)
  unfold maxLen at hn hne
  clear hl he hw hsi h1 h2 h3 hcp
  go_enter Try.func5, Try.ntmps5
  go_wp2_with fail
  refine (HC.out _).mono ?_; rintro e w1 ⟨rfl, hB⟩
  have HB : Hid (SeB c m w w1) := Lib.hid ⟨((((Has.new w _ _).alloc _).alloc _).below hB), ((Has.newAt (w.alloc _) _ _ (w.heap.size + 1) (by simp)).alloc _).below hB, (Has.newAt ((w.alloc _).alloc _) _ _ (w.heap.size + 1 + 1) (by simp)).below hB, (below_alloc3 w _ _ _).trans (hB.mono (by simp; omega))⟩
  clear hB
  clear HC
  go_wp2_with fail
  refine (HS.out _ HB.out.B).mono ?_; rintro e w2 ⟨rfl, hB⟩
  replace HB := Lib.hid (HB.out.below hB)
  clear hB HS
  have m0 := HB.out.M.cell 0 (.int .i64 m.we) rfl
  have m1 := HB.out.M.cell 1 (.int .i64 m.wn) rfl
  have m2 := HB.out.M.cell 2 (.slice m.E m.ne m.ce) rfl
  have m3 := HB.out.M.cell 3 (.int .i64 m.se) rfl
  have m4 := HB.out.M.cell 4 (.int .i64 m.sn) rfl
  have m5 := HB.out.M.cell 5 (.int .u16 m.si) rfl
  have m6 := HB.out.M.cell 6 (.bool m.th) rfl
  have m7 := HB.out.M.cell 7 (.bool m.st) rfl
  have m8 := HB.out.M.cell 8 (.string m.s0) rfl
  have m9 := HB.out.M.cell 9 (.string m.s1) rfl
  go_wp2_with fail
  refine (HM.out _ HB.out.B).mono ?_; rintro e w3 ⟨rfl, hB⟩
  clear m0 m1 m2 m3 m4 m5 m6 m7 m8 m9 HM
  replace HB := Lib.hid (HB.out.below hB)
  clear hB
  go_upto_region 10 with (fail)
  go_cut [44] (fun s44 wx => s44 = .bool false ∧ SeB c m w wx)
  case first =>
    rcases HCP.out with rfl | rfl
    · go_wp2_with fail
      go_meet
      exact ⟨rfl, HB.out⟩
    · go_wp2_with fail
      go_meet
      exact ⟨rfl, HB.out⟩
  case rest =>
    obtain ⟨rfl, hS⟩ := hcut
    replace HB := Lib.hid hS
    clear hS
    go_upto_region 12 with (fail)
    go_cut [14] (fun s14 wx => ∃ H : Nat, s14 = .pointer (some ⟨H, 0, none⟩) ∧ w.heap.size + 3 ≤ H ∧ SeB c m w wx ∧ Has wx H [.int .i64 c.tk, .slice none 0 0, .int .i64 0, .int .i64 0, .int .i64 20, .int .i64 c.al, .int .i64 c.vs, .int .i64 c.ca, .int .i64 c.fu, .bool c.gr, .bool m.th, .bool m.st, .string (seCmd comp m.s0 m.s1)])
    case first =>
      rcases HCP.out with rfl | rfl
      · have wc : IntKind.i64.wrap 0 = 0 := by decide
        have k0 := HB.out.C.cell 0 (.int .i64 c.tk) rfl
        have k1 := HB.out.C.cell 1 (.int .i64 c.px) rfl
        have k2 := HB.out.C.cell 2 (.int .i64 c.py) rfl
        have k3 := HB.out.C.cell 3 (.int .i64 c.ve) rfl
        have k4 := HB.out.C.cell 4 (.int .i64 c.vn) rfl
        have k5 := HB.out.C.cell 5 (.int .i64 c.al) rfl
        have k6 := HB.out.C.cell 6 (.int .i64 c.vs) rfl
        have k7 := HB.out.C.cell 7 (.int .i64 c.hd) rfl
        have k8 := HB.out.C.cell 8 (.int .i64 c.ca) rfl
        have k9 := HB.out.C.cell 9 (.int .i64 c.fu) rfl
        have k10 := HB.out.C.cell 10 (.int .i64 c.bk) rfl
        have k11 := HB.out.C.cell 11 (.bool c.gr) rfl
        have m0 := HB.out.M.cell 0 (.int .i64 m.we) rfl
        have m1 := HB.out.M.cell 1 (.int .i64 m.wn) rfl
        have m2 := HB.out.M.cell 2 (.slice m.E m.ne m.ce) rfl
        have m3 := HB.out.M.cell 3 (.int .i64 m.se) rfl
        have m4 := HB.out.M.cell 4 (.int .i64 m.sn) rfl
        have m5 := HB.out.M.cell 5 (.int .u16 m.si) rfl
        have m6 := HB.out.M.cell 6 (.bool m.th) rfl
        have m7 := HB.out.M.cell 7 (.bool m.st) rfl
        have m8 := HB.out.M.cell 8 (.string m.s0) rfl
        have m9 := HB.out.M.cell 9 (.string m.s1) rfl
        go_region_held3 (fun W => W.cell? ⟨w.heap.size, 0, none⟩ = some (.int .i64 c.tk) ∧ W.cell? ⟨w.heap.size, 1, none⟩ = some (.int .i64 c.px) ∧ W.cell? ⟨w.heap.size, 2, none⟩ = some (.int .i64 c.py) ∧ W.cell? ⟨w.heap.size, 3, none⟩ = some (.int .i64 c.ve) ∧ W.cell? ⟨w.heap.size, 4, none⟩ = some (.int .i64 c.vn) ∧ W.cell? ⟨w.heap.size, 5, none⟩ = some (.int .i64 c.al) ∧ W.cell? ⟨w.heap.size, 6, none⟩ = some (.int .i64 c.vs) ∧ W.cell? ⟨w.heap.size, 7, none⟩ = some (.int .i64 c.hd) ∧ W.cell? ⟨w.heap.size, 8, none⟩ = some (.int .i64 c.ca) ∧ W.cell? ⟨w.heap.size, 9, none⟩ = some (.int .i64 c.fu) ∧ W.cell? ⟨w.heap.size, 10, none⟩ = some (.int .i64 c.bk) ∧ W.cell? ⟨w.heap.size, 11, none⟩ = some (.bool c.gr) ∧ W.cell? ⟨w.heap.size + 1, 0, none⟩ = some (.int .i64 m.we) ∧ W.cell? ⟨w.heap.size + 1, 1, none⟩ = some (.int .i64 m.wn) ∧ W.cell? ⟨w.heap.size + 1, 2, none⟩ = some (.slice m.E m.ne m.ce) ∧ W.cell? ⟨w.heap.size + 1, 3, none⟩ = some (.int .i64 m.se) ∧ W.cell? ⟨w.heap.size + 1, 4, none⟩ = some (.int .i64 m.sn) ∧ W.cell? ⟨w.heap.size + 1, 5, none⟩ = some (.int .u16 m.si) ∧ W.cell? ⟨w.heap.size + 1, 6, none⟩ = some (.bool m.th) ∧ W.cell? ⟨w.heap.size + 1, 7, none⟩ = some (.bool m.st) ∧ W.cell? ⟨w.heap.size + 1, 8, none⟩ = some (.string m.s0) ∧ W.cell? ⟨w.heap.size + 1, 9, none⟩ = some (.string m.s1)) ((first | exact cells22t (Hid.out (by assumption)) | exact cells22t (SeB.drew (Hid.out (by assumption))) | exact cells22t (SeB.below (SeB.drew (Hid.out (by assumption))) (below_alloc1 _ _)))) (fail)
        all_goals (
          clear k0 k1 k2 k3 k4 k5 k6 k7 k8 k9 k10 k11 m0 m1 m2 m3 m4 m5 m6 m7 m8 m9
          go_wp2_with fail
          go_meet
          first
            | exact ⟨_, rfl, by have := HB.out.R.lt; omega, (HB.out.below (below_alloc1 _ _)).drew, (Has.new _ _ _).drew⟩
            | exact ⟨_, rfl, by have := HB.out.R.lt; omega, HB.out.drew.below (below_alloc1 _ _), Has.new _ _ _⟩
            | trace_state)
      · have wc : IntKind.i64.wrap 1 = 1 := by decide
        have k0 := HB.out.C.cell 0 (.int .i64 c.tk) rfl
        have k1 := HB.out.C.cell 1 (.int .i64 c.px) rfl
        have k2 := HB.out.C.cell 2 (.int .i64 c.py) rfl
        have k3 := HB.out.C.cell 3 (.int .i64 c.ve) rfl
        have k4 := HB.out.C.cell 4 (.int .i64 c.vn) rfl
        have k5 := HB.out.C.cell 5 (.int .i64 c.al) rfl
        have k6 := HB.out.C.cell 6 (.int .i64 c.vs) rfl
        have k7 := HB.out.C.cell 7 (.int .i64 c.hd) rfl
        have k8 := HB.out.C.cell 8 (.int .i64 c.ca) rfl
        have k9 := HB.out.C.cell 9 (.int .i64 c.fu) rfl
        have k10 := HB.out.C.cell 10 (.int .i64 c.bk) rfl
        have k11 := HB.out.C.cell 11 (.bool c.gr) rfl
        have m0 := HB.out.M.cell 0 (.int .i64 m.we) rfl
        have m1 := HB.out.M.cell 1 (.int .i64 m.wn) rfl
        have m2 := HB.out.M.cell 2 (.slice m.E m.ne m.ce) rfl
        have m3 := HB.out.M.cell 3 (.int .i64 m.se) rfl
        have m4 := HB.out.M.cell 4 (.int .i64 m.sn) rfl
        have m5 := HB.out.M.cell 5 (.int .u16 m.si) rfl
        have m6 := HB.out.M.cell 6 (.bool m.th) rfl
        have m7 := HB.out.M.cell 7 (.bool m.st) rfl
        have m8 := HB.out.M.cell 8 (.string m.s0) rfl
        have m9 := HB.out.M.cell 9 (.string m.s1) rfl
        go_region_held3 (fun W => W.cell? ⟨w.heap.size, 0, none⟩ = some (.int .i64 c.tk) ∧ W.cell? ⟨w.heap.size, 1, none⟩ = some (.int .i64 c.px) ∧ W.cell? ⟨w.heap.size, 2, none⟩ = some (.int .i64 c.py) ∧ W.cell? ⟨w.heap.size, 3, none⟩ = some (.int .i64 c.ve) ∧ W.cell? ⟨w.heap.size, 4, none⟩ = some (.int .i64 c.vn) ∧ W.cell? ⟨w.heap.size, 5, none⟩ = some (.int .i64 c.al) ∧ W.cell? ⟨w.heap.size, 6, none⟩ = some (.int .i64 c.vs) ∧ W.cell? ⟨w.heap.size, 7, none⟩ = some (.int .i64 c.hd) ∧ W.cell? ⟨w.heap.size, 8, none⟩ = some (.int .i64 c.ca) ∧ W.cell? ⟨w.heap.size, 9, none⟩ = some (.int .i64 c.fu) ∧ W.cell? ⟨w.heap.size, 10, none⟩ = some (.int .i64 c.bk) ∧ W.cell? ⟨w.heap.size, 11, none⟩ = some (.bool c.gr) ∧ W.cell? ⟨w.heap.size + 1, 0, none⟩ = some (.int .i64 m.we) ∧ W.cell? ⟨w.heap.size + 1, 1, none⟩ = some (.int .i64 m.wn) ∧ W.cell? ⟨w.heap.size + 1, 2, none⟩ = some (.slice m.E m.ne m.ce) ∧ W.cell? ⟨w.heap.size + 1, 3, none⟩ = some (.int .i64 m.se) ∧ W.cell? ⟨w.heap.size + 1, 4, none⟩ = some (.int .i64 m.sn) ∧ W.cell? ⟨w.heap.size + 1, 5, none⟩ = some (.int .u16 m.si) ∧ W.cell? ⟨w.heap.size + 1, 6, none⟩ = some (.bool m.th) ∧ W.cell? ⟨w.heap.size + 1, 7, none⟩ = some (.bool m.st) ∧ W.cell? ⟨w.heap.size + 1, 8, none⟩ = some (.string m.s0) ∧ W.cell? ⟨w.heap.size + 1, 9, none⟩ = some (.string m.s1)) ((first | exact cells22t (Hid.out (by assumption)) | exact cells22t (SeB.drew (Hid.out (by assumption))) | exact cells22t (SeB.below (SeB.drew (Hid.out (by assumption))) (below_alloc1 _ _)))) (fail)
        all_goals (
          clear k0 k1 k2 k3 k4 k5 k6 k7 k8 k9 k10 k11 m0 m1 m2 m3 m4 m5 m6 m7 m8 m9
          go_wp2_with fail
          go_meet
          first
            | exact ⟨_, rfl, by have := HB.out.R.lt; omega, (HB.out.below (below_alloc1 _ _)).drew, (Has.new _ _ _).drew⟩
            | exact ⟨_, rfl, by have := HB.out.R.lt; omega, HB.out.drew.below (below_alloc1 _ _), Has.new _ _ _⟩
            | trace_state)
    case rest =>
      obtain ⟨H, rfl, hH, hS, hK⟩ := hcut
      replace HB := Lib.hid hS
      have HK := Lib.hid hK
      have HZ := Lib.hid hH
      clear hS hK hH
      obtain ⟨⟨v0, v1⟩, v2, v3⟩ := HRc.out
      obtain ⟨⟨⟨v4, v5⟩, v6, v7⟩, _⟩ := HRm.out
      have k3 := HB.out.C.cell 3 (.int .i64 c.ve) rfl
      have m3 := HB.out.M.cell 3 (.int .i64 m.se) rfl
      have hf := HK.out.fr
      have hlt := HK.out.lt
      have x2 := HK.out.cell 2 (.int .i64 0) rfl
      go_wp2_with fail
      refine (xClamp _ _ _ _).mono ?_; rintro e wx ⟨rfl, rfl⟩
      go_upto_region 14 with (fail)
      clear k3 m3 hf hlt x2
      replace HB := Lib.hid (HB.out.set ⟨H, 2, none⟩ (.int .i64 (clampV (c.ve + m.se) (-2000) 2000)) HZ.out)
      replace HK := Lib.hid (HK.out.set 2 (.int .i64 (clampV (c.ve + m.se) (-2000) 2000)) (by simp))
      have k4 := HB.out.C.cell 4 (.int .i64 c.vn) rfl
      have m4 := HB.out.M.cell 4 (.int .i64 m.sn) rfl
      have hf := HK.out.fr
      have hlt := HK.out.lt
      have x3 := HK.out.cell 3 (.int .i64 0) rfl
      go_wp2_with fail
      refine (xClamp _ _ _ _).mono ?_; rintro e wx ⟨rfl, rfl⟩
      go_upto_region 15 with (fail)
      clear k4 m4 hf hlt x3
      replace HB := Lib.hid (HB.out.set ⟨H, 3, none⟩ (.int .i64 (clampV (c.vn + m.sn) (-2000) 2000)) HZ.out)
      replace HK := Lib.hid (HK.out.set 3 (.int .i64 (clampV (c.vn + m.sn) (-2000) 2000)) (by simp))
      obtain ⟨N, hsl⟩ : ∃ N, SeL c m comp w H N [] [] (.slice none 0 0) (.slice none 0 0) _ := ⟨_, HB.out, HK.out, Ow.start _ _ _ _ _, Ow.start _ _ _ _ _, (fun k h => by cases h), HZ.out, HK.out.lt, Nat.le_refl _⟩
      have HSL := Lib.hid hsl
      clear hsl HB HK HZ v0 v1 v2 v3 v4 v5 v6 v7
      obtain ⟨i1, hi, hz0, hz1, hz2⟩ := info_parts infoRep
      obtain ⟨i2, gi, gz0, gz1, gz2⟩ := info_parts infoBool
      go_wp2_with fail
      go_loopw [15, 90] (fun v t wr => SeRel c m comp er l n w H N v t wr) (fun _ t _ => n - (intOf t).toNat)
      case atStart => exact ⟨0, by omega, rfl, _, _, rfl, by rw [seR_0]; exact HSL.out⟩
      case round =>
        obtain ⟨k, hk, rfl, v1, v2, rfl, hsl⟩ := hrel
        replace HSL := Lib.hid hsl
        clear hsl
        have hn8 := HN8.out
        by_cases hlt : k < n
        rotate_left
        · have hkn : k = l.length := by rw [HLN.out]; omega
          rw [hkn] at HSL
          clear hkn
          have s0 := HSL.out.S.cell 0 (.int .i64 c.tk) rfl
          have s1 := HSL.out.S.cell 1 (v1) rfl
          have s2 := HSL.out.S.cell 2 (.int .i64 (vlV (c.ve + m.se))) rfl
          have s3 := HSL.out.S.cell 3 (.int .i64 (vlV (c.vn + m.sn))) rfl
          have s4 := HSL.out.S.cell 4 (.int .i64 20) rfl
          have s5 := HSL.out.S.cell 5 (.int .i64 c.al) rfl
          have s6 := HSL.out.S.cell 6 (.int .i64 c.vs) rfl
          have s7 := HSL.out.S.cell 7 (.int .i64 c.ca) rfl
          have s8 := HSL.out.S.cell 8 (.int .i64 c.fu) rfl
          have s9 := HSL.out.S.cell 9 (.bool c.gr) rfl
          have s10 := HSL.out.S.cell 10 (.bool m.th) rfl
          have s11 := HSL.out.S.cell 11 (.bool m.st) rfl
          have s12 := HSL.out.S.cell 12 (.string (seCmd comp m.s0 m.s1)) rfl
          have z0 := HSL.out.bx.R.cell 0 (.int .i64 0) rfl
          have z1 := HSL.out.bx.R.cell 1 (.slice none 0 0) rfl
          have z2 := HSL.out.bx.R.cell 2 (.int .i64 0) rfl
          have z3 := HSL.out.bx.R.cell 3 (.int .i64 0) rfl
          have z4 := HSL.out.bx.R.cell 4 (.int .i64 0) rfl
          have z5 := HSL.out.bx.R.cell 5 (.int .i64 0) rfl
          have z6 := HSL.out.bx.R.cell 6 (.int .i64 0) rfl
          have z7 := HSL.out.bx.R.cell 7 (.int .i64 0) rfl
          have z8 := HSL.out.bx.R.cell 8 (.int .i64 0) rfl
          have z9 := HSL.out.bx.R.cell 9 (.bool false) rfl
          have z10 := HSL.out.bx.R.cell 10 (.bool false) rfl
          have z11 := HSL.out.bx.R.cell 11 (.bool false) rfl
          have z12 := HSL.out.bx.R.cell 12 (.string ⟨#[]⟩) rfl
          have zf := HSL.out.bx.R.fr
          have zl := HSL.out.bx.R.lt
          obtain ⟨A1, d1, h1, _, _⟩ := Ow.res (f := Rep.cells) (fun _ => rfl) HSL.out.o1 rfl
          obtain ⟨A2, d2, h2, _, _⟩ := Ow.res (f := oneB) (fun _ => rfl) HSL.out.o2 (List.length_map _)
          generalize (seR c comp m.si er l l.length).length = q at *
          subst h1 h2
          go_wp2_with fail
          have HRS := Lib.hid (((((((((((((HSL.out.bx.R.set 0 (.int .i64 c.tk) (by simp [seZ])).set 1 ((.slice A1 q d1)) (by simp [seZ])).set 2 (.int .i64 (vlV (c.ve + m.se))) (by simp [seZ])).set 3 (.int .i64 (vlV (c.vn + m.sn))) (by simp [seZ])).set 4 (.int .i64 20) (by simp [seZ])).set 5 (.int .i64 c.al) (by simp [seZ])).set 6 (.int .i64 c.vs) (by simp [seZ])).set 7 (.int .i64 c.ca) (by simp [seZ])).set 8 (.int .i64 c.fu) (by simp [seZ])).set 9 (.bool c.gr) (by simp [seZ])).set 10 (.bool m.th) (by simp [seZ])).set 11 (.bool m.st) (by simp [seZ])).set 12 (.string (seCmd comp m.s0 m.s1)) (by simp [seZ]))
          have HBR := Lib.hid (((((((((((((HSL.out.bx.B.setCell (p := ⟨w.heap.size + 1 + 1, 0, none⟩) (by simp; omega) (.int .i64 c.tk)).setCell (p := ⟨w.heap.size + 1 + 1, 1, none⟩) (by simp; omega) ((.slice A1 q d1))).setCell (p := ⟨w.heap.size + 1 + 1, 2, none⟩) (by simp; omega) (.int .i64 (vlV (c.ve + m.se)))).setCell (p := ⟨w.heap.size + 1 + 1, 3, none⟩) (by simp; omega) (.int .i64 (vlV (c.vn + m.sn)))).setCell (p := ⟨w.heap.size + 1 + 1, 4, none⟩) (by simp; omega) (.int .i64 20)).setCell (p := ⟨w.heap.size + 1 + 1, 5, none⟩) (by simp; omega) (.int .i64 c.al)).setCell (p := ⟨w.heap.size + 1 + 1, 6, none⟩) (by simp; omega) (.int .i64 c.vs)).setCell (p := ⟨w.heap.size + 1 + 1, 7, none⟩) (by simp; omega) (.int .i64 c.ca)).setCell (p := ⟨w.heap.size + 1 + 1, 8, none⟩) (by simp; omega) (.int .i64 c.fu)).setCell (p := ⟨w.heap.size + 1 + 1, 9, none⟩) (by simp; omega) (.bool c.gr)).setCell (p := ⟨w.heap.size + 1 + 1, 10, none⟩) (by simp; omega) (.bool m.th)).setCell (p := ⟨w.heap.size + 1 + 1, 11, none⟩) (by simp; omega) (.bool m.st)).setCell (p := ⟨w.heap.size + 1 + 1, 12, none⟩) (by simp; omega) (.string (seCmd comp m.s0 m.s1)))
          have HO1 := Lib.hid (((((((((((((HSL.out.o1.set ⟨w.heap.size + 1 + 1, 0, none⟩ (.int .i64 c.tk) (by have := HSL.out.hH; have := HSL.out.hN; simp; omega)).set ⟨w.heap.size + 1 + 1, 1, none⟩ ((.slice A1 q d1)) (by have := HSL.out.hH; have := HSL.out.hN; simp; omega)).set ⟨w.heap.size + 1 + 1, 2, none⟩ (.int .i64 (vlV (c.ve + m.se))) (by have := HSL.out.hH; have := HSL.out.hN; simp; omega)).set ⟨w.heap.size + 1 + 1, 3, none⟩ (.int .i64 (vlV (c.vn + m.sn))) (by have := HSL.out.hH; have := HSL.out.hN; simp; omega)).set ⟨w.heap.size + 1 + 1, 4, none⟩ (.int .i64 20) (by have := HSL.out.hH; have := HSL.out.hN; simp; omega)).set ⟨w.heap.size + 1 + 1, 5, none⟩ (.int .i64 c.al) (by have := HSL.out.hH; have := HSL.out.hN; simp; omega)).set ⟨w.heap.size + 1 + 1, 6, none⟩ (.int .i64 c.vs) (by have := HSL.out.hH; have := HSL.out.hN; simp; omega)).set ⟨w.heap.size + 1 + 1, 7, none⟩ (.int .i64 c.ca) (by have := HSL.out.hH; have := HSL.out.hN; simp; omega)).set ⟨w.heap.size + 1 + 1, 8, none⟩ (.int .i64 c.fu) (by have := HSL.out.hH; have := HSL.out.hN; simp; omega)).set ⟨w.heap.size + 1 + 1, 9, none⟩ (.bool c.gr) (by have := HSL.out.hH; have := HSL.out.hN; simp; omega)).set ⟨w.heap.size + 1 + 1, 10, none⟩ (.bool m.th) (by have := HSL.out.hH; have := HSL.out.hN; simp; omega)).set ⟨w.heap.size + 1 + 1, 11, none⟩ (.bool m.st) (by have := HSL.out.hH; have := HSL.out.hN; simp; omega)).set ⟨w.heap.size + 1 + 1, 12, none⟩ (.string (seCmd comp m.s0 m.s1)) (by have := HSL.out.hH; have := HSL.out.hN; simp; omega))
          have HO2 := Lib.hid (((((((((((((HSL.out.o2.set ⟨w.heap.size + 1 + 1, 0, none⟩ (.int .i64 c.tk) (by have := HSL.out.hH; have := HSL.out.hN; simp; omega)).set ⟨w.heap.size + 1 + 1, 1, none⟩ ((.slice A1 q d1)) (by have := HSL.out.hH; have := HSL.out.hN; simp; omega)).set ⟨w.heap.size + 1 + 1, 2, none⟩ (.int .i64 (vlV (c.ve + m.se))) (by have := HSL.out.hH; have := HSL.out.hN; simp; omega)).set ⟨w.heap.size + 1 + 1, 3, none⟩ (.int .i64 (vlV (c.vn + m.sn))) (by have := HSL.out.hH; have := HSL.out.hN; simp; omega)).set ⟨w.heap.size + 1 + 1, 4, none⟩ (.int .i64 20) (by have := HSL.out.hH; have := HSL.out.hN; simp; omega)).set ⟨w.heap.size + 1 + 1, 5, none⟩ (.int .i64 c.al) (by have := HSL.out.hH; have := HSL.out.hN; simp; omega)).set ⟨w.heap.size + 1 + 1, 6, none⟩ (.int .i64 c.vs) (by have := HSL.out.hH; have := HSL.out.hN; simp; omega)).set ⟨w.heap.size + 1 + 1, 7, none⟩ (.int .i64 c.ca) (by have := HSL.out.hH; have := HSL.out.hN; simp; omega)).set ⟨w.heap.size + 1 + 1, 8, none⟩ (.int .i64 c.fu) (by have := HSL.out.hH; have := HSL.out.hN; simp; omega)).set ⟨w.heap.size + 1 + 1, 9, none⟩ (.bool c.gr) (by have := HSL.out.hH; have := HSL.out.hN; simp; omega)).set ⟨w.heap.size + 1 + 1, 10, none⟩ (.bool m.th) (by have := HSL.out.hH; have := HSL.out.hN; simp; omega)).set ⟨w.heap.size + 1 + 1, 11, none⟩ (.bool m.st) (by have := HSL.out.hH; have := HSL.out.hN; simp; omega)).set ⟨w.heap.size + 1 + 1, 12, none⟩ (.string (seCmd comp m.s0 m.s1)) (by have := HSL.out.hH; have := HSL.out.hN; simp; omega))
          have y0 := HRS.out.cell 0 (.int .i64 c.tk) rfl
          have y1 := HRS.out.cell 1 ((.slice A1 q d1)) rfl
          have y2 := HRS.out.cell 2 (.int .i64 (vlV (c.ve + m.se))) rfl
          have y3 := HRS.out.cell 3 (.int .i64 (vlV (c.vn + m.sn))) rfl
          have y4 := HRS.out.cell 4 (.int .i64 20) rfl
          have y5 := HRS.out.cell 5 (.int .i64 c.al) rfl
          have y6 := HRS.out.cell 6 (.int .i64 c.vs) rfl
          have y7 := HRS.out.cell 7 (.int .i64 c.ca) rfl
          have y8 := HRS.out.cell 8 (.int .i64 c.fu) rfl
          have y9 := HRS.out.cell 9 (.bool c.gr) rfl
          have y10 := HRS.out.cell 10 (.bool m.th) rfl
          have y11 := HRS.out.cell 11 (.bool m.st) rfl
          have y12 := HRS.out.cell 12 (.string (seCmd comp m.s0 m.s1)) rfl
          obtain ⟨B1, e1, g1, r1, _⟩ := Ow.res (f := Rep.cells) (fun _ => rfl) HO1.out rfl
          obtain ⟨B2, e2, g2, r2, _⟩ := Ow.res (f := oneB) (fun _ => rfl) HO2.out rfl
          have HF1 := Lib.hid (fun a (e : A1 = some a) => show w.heap.size ≤ a.block by have := (HO1.out.lt (k := a.block) (by rw [e]; rfl)).1; have := HSL.out.hH; have := HSL.out.hN; omega)
          have HF2 := Lib.hid (fun a (e : A2 = some a) => show w.heap.size ≤ a.block by have := (HO2.out.lt (k := a.block) (by rw [e]; rfl)).1; have := HSL.out.hH; have := HSL.out.hN; omega)
          clear HO1 HO2
          injection g1 with g1 g3 g4
          injection g2 with g2 g5 g6
          subst g1 g2
          rw [← g3] at r1
          rw [← g5] at r2
          have HQ1 := Lib.hid r1
          have HQ2 := Lib.hid r2
          clear r1 r2
          exact bodyPost_ret (v := .tuple #[.agg #[.int .i64 c.tk, (.slice A1 q d1), .int .i64 (vlV (c.ve + m.se)), .int .i64 (vlV (c.vn + m.sn)), .int .i64 20, .int .i64 c.al, .int .i64 c.vs, .int .i64 c.ca, .int .i64 c.fu, .bool c.gr, .bool m.th, .bool m.st, .string (seCmd comp m.s0 m.s1)], .slice A2 q d2, .int .i64 0]) (by simp [results, Try.results5, go_sem, y0, y1, y2, y3, y4, y5, y6, y7, y8, y9, y10, y11, y12]) rfl ⟨fun h => absurd HV.out h, fun _ => ⟨A1, A2, d1, d2, q, rfl, HQ1.out, HQ2.out, HBR.out, HF1.out, HF2.out⟩⟩
        obtain ⟨s, hs⟩ := get_ex HLN.out hlt
        obtain ⟨b, off, rfl, hb, hc⟩ := HL.out.cells (by omega)
        have hw := HW.out s (List.mem_of_getElem? hs)
        have hcw := fun j v hv => (HSL.out.bx.B.cell (p := ⟨b, _, none⟩) hb).trans (hc k s hs j v hv)
        have c0 : wr.cell? ⟨b, off + k * 7, none⟩ = some (.int .i64 s.co) := hcw 0 _ rfl
        have c1 : wr.cell? ⟨b, off + k * 7 + 1, none⟩ = some (.int .i64 s.so) := hcw 1 _ rfl
        have c2 : wr.cell? ⟨b, off + k * 7 + 2, none⟩ = some (.int .u8 s.ki) := hcw 2 _ rfl
        have c3 : wr.cell? ⟨b, off + k * 7 + 3, none⟩ = some (.int .i64 s.x) := hcw 3 _ rfl
        have c4 : wr.cell? ⟨b, off + k * 7 + 4, none⟩ = some (.int .i64 s.y) := hcw 4 _ rfl
        have c5 : wr.cell? ⟨b, off + k * 7 + 5, none⟩ = some (.int .i64 s.bo) := hcw 5 _ rfl
        have c6 : wr.cell? ⟨b, off + k * 7 + 6, none⟩ = some (.int .i64 s.we) := hcw 6 _ rfl
        have HS := Lib.hid hs
        clear hc hcw hs
        obtain ⟨⟨s01, s02⟩, s1, s2⟩ := hw
        go_upto_region 19 with (fail)
        clear c0 c1 c2 c3 c4 c5 c6
        have HX : Hid (Has (wr.alloc (.cells #[.int .i64 s.co, .int .i64 s.so, .int .u8 s.ki, .int .i64 s.x, .int .i64 s.y, .int .i64 s.bo, .int .i64 s.we] 55)) wr.heap.size [.int .i64 s.co, .int .i64 s.so, .int .u8 s.ki, .int .i64 s.x, .int .i64 s.y, .int .i64 s.bo, .int .i64 s.we]) := Lib.hid (Has.new _ _ _)
        have HSA := Lib.hid (HSL.out.alloc (.cells #[.int .i64 s.co, .int .i64 s.so, .int .u8 s.ki, .int .i64 s.x, .int .i64 s.y, .int .i64 s.bo, .int .i64 s.we] 55))
        go_cut [106] (fun s106 wx => s106 = .bool (decide (s.co ≠ comp) || silB m.si k) ∧ SeL c m comp w H N (seR c comp m.si er l k) ((seR c comp m.si er l k).map (agR c)) v1 v2 wx ∧ Has wx wr.heap.size [.int .i64 s.co, .int .i64 s.so, .int .u8 s.ki, .int .i64 s.x, .int .i64 s.y, .int .i64 s.bo, .int .i64 s.we])
        case first =>
          have x0 := HX.out.cell 0 (.int .i64 s.co) rfl
          by_cases hco : s.co = comp
          · have e1 : (s.co == comp) = true := by rw [beq_iff_eq]; exact hco
            have e2 : (s.co != comp) = false := by rw [bne, e1]; rfl
            have m5 := HSA.out.bx.M.cell 5 (.int .u16 m.si) rfl
            have HCO := Lib.hid (show decide (s.co ≠ comp) = false by rw [hco]; simp)
            have HBT := Lib.hid (bit_u16 (k := k) HSI.out.1 HSI.out.2 (by omega))
            clear hco
            go_quiet (fail)
            go_wp2_with fail
            go_meet
            exact ⟨by rw [HCO.out, Bool.false_or, ← HBT.out], HSA.out.drewN _, HX.out.below (below_drewN (Below.refl _ _) _)⟩
          · have e1 := beq_of hco
            have e2 := bne_of e1
            have HCO := Lib.hid (show decide (s.co ≠ comp) = true from decide_eq_true hco)
            clear hco
            go_quiet (fail)
            go_wp2_with fail
            go_meet
            exact ⟨by rw [HCO.out, Bool.true_or], HSA.out.drewN _, HX.out.below (below_drewN (Below.refl _ _) _)⟩
        case rest =>
          obtain ⟨rfl, hS, hX⟩ := hcut
          obtain ⟨w2, rfl, hS, hX⟩ := named (P := fun W => SeL c m comp w H N (seR c comp m.si er l k) ((seR c comp m.si er l k).map (agR c)) v1 v2 W ∧ Has W wr.heap.size [.int .i64 s.co, .int .i64 s.so, .int .u8 s.ki, .int .i64 s.x, .int .i64 s.y, .int .i64 s.bo, .int .i64 s.we]) ⟨hS, hX⟩
          replace HSL := Lib.hid hS
          replace HX := Lib.hid hX
          clear hS hX HSA
          cases hsk : (decide (s.co ≠ comp) || silB m.si k)
          rotate_left
          · have HNX := Lib.hid (seR_none (c := c) (comp := comp) (si := m.si) (er := er) HS.out (se_skip hsk))
            clear hsk
            go_wp2_with fail
            go_roundw
            case rel => exact ⟨k + 1, by omega, by go_num, _, _, rfl, by rw [HNX.out]; exact HSL.out⟩
            case measure => simp only [intOf]; omega
          have HSK := Lib.hid hsk
          clear hsk
          generalize wr.heap.size = D1 at *
          have m2 := (HSL.out.alloc (.cells #[.int .i64 0, .int .i64 0] 56)).bx.M.cell 2 (.slice m.E m.ne m.ce) rfl
          go_upto_if 111 with (fail)
          have HE2 : Hid (Has (w2.alloc (.cells #[.int .i64 0, .int .i64 0] 56)) w2.heap.size [.int .i64 0, .int .i64 0]) := Lib.hid (Has.new _ _ _)
          have HSA := Lib.hid (HSL.out.alloc (.cells #[.int .i64 0, .int .i64 0] 56))
          have HXA := Lib.hid (HX.out.alloc (.cells #[.int .i64 0, .int .i64 0] 56))
          clear m2
          go_cut [] (fun wx => SeL c m comp w H N (seR c comp m.si er l k) ((seR c comp m.si er l k).map (agR c)) v1 v2 wx ∧ Has wx D1 [.int .i64 s.co, .int .i64 s.so, .int .u8 s.ki, .int .i64 s.x, .int .i64 s.y, .int .i64 s.bo, .int .i64 s.we] ∧ Has wx w2.heap.size [.int .i64 (er.getD k (0, 0)).1, .int .i64 (er.getD k (0, 0)).2])
          case first =>
            by_cases hke : k < m.ne
            · obtain ⟨p, hp⟩ := get_ex HEN.out hke
              obtain ⟨b2, off2, hA, hb2, hc⟩ := HER.out.cells (by omega)
              have hcw := fun j v hv => (HSA.out.bx.B.cell (p := ⟨b2, _, none⟩) hb2).trans (hc k p hp j v hv)
              have g0 : (w2.alloc (.cells #[.int .i64 0, .int .i64 0] 56)).cell? ⟨b2, off2 + k * 2, none⟩ = some (.int .i64 p.1) := hcw 0 _ rfl
              have g1 : (w2.alloc (.cells #[.int .i64 0, .int .i64 0] 56)).cell? ⟨b2, off2 + k * 2 + 1, none⟩ = some (.int .i64 p.2) := hcw 1 _ rfl
              have HP := Lib.hid (show er.getD k (0, 0) = p by rw [List.getD_eq_getElem?_getD, hp]; rfl)
              have m2 : (w2.alloc (.cells #[.int .i64 0, .int .i64 0] 56)).cell? ⟨w.heap.size + 1, 2, none⟩ = some (.slice (some ⟨b2, off2, none⟩) m.ne m.ce) := by rw [← hA]; exact HSA.out.bx.M.cell 2 (.slice m.E m.ne m.ce) rfl
              have q0 := HE2.out.cell 0 (.int .i64 0) rfl
              have q1 := HE2.out.cell 1 (.int .i64 0) rfl
              have qf := HE2.out.fr
              have ql := HE2.out.lt
              clear hc hcw hp hA
              go_wp2_with fail
              go_meet
              rw [HP.out]
              exact ⟨HSL.out.alloc _, HX.out.alloc _, Has.new _ _ _⟩
            · have HP := Lib.hid (show er.getD k (0, 0) = (0, 0) by rw [List.getD_eq_getElem?_getD, List.getElem?_eq_none (by rw [HEN.out]; omega)]; rfl)
              go_wp2_with fail
              go_meet
              rw [HP.out]
              exact ⟨HSA.out, HXA.out, HE2.out⟩
          case rest =>
            obtain ⟨w3, rfl, hS, hX, hE⟩ := named (P := fun W => SeL c m comp w H N (seR c comp m.si er l k) ((seR c comp m.si er l k).map (agR c)) v1 v2 W ∧ Has W D1 [.int .i64 s.co, .int .i64 s.so, .int .u8 s.ki, .int .i64 s.x, .int .i64 s.y, .int .i64 s.bo, .int .i64 s.we] ∧ Has W w2.heap.size [.int .i64 (er.getD k (0, 0)).1, .int .i64 (er.getD k (0, 0)).2]) hcut
            replace HSL := Lib.hid hS
            replace HX := Lib.hid hX
            replace HE2 := Lib.hid hE
            clear hcut hS hX hE HSA HXA
            generalize w2.heap.size = D2 at *
            have HONE := Lib.hid (se_one (c := c) (comp := comp) (si := m.si) (er := er) (k := k) (s := s) HSK.out)
            generalize er.getD k (0, 0) = d at *
            have HMX : Hid (∀ W, Calls Try.prog 9 #[.agg #[.int .i64 c.tk, .int .i64 c.px, .int .i64 c.py, .int .i64 c.ve, .int .i64 c.vn, .int .i64 c.al, .int .i64 c.vs, .int .i64 c.hd, .int .i64 c.ca, .int .i64 c.fu, .int .i64 c.bk, .bool c.gr], .agg #[.int .i64 s.co, .int .i64 s.so, .int .u8 s.ki, .int .i64 s.x, .int .i64 s.y, .int .i64 s.bo, .int .i64 s.we], .agg #[.int .i64 d.1, .int .i64 d.2]] W fun e w' =>
                e = .returned (.tuple #[repV (seM c s d) (seRp c s d).so (seRp c s d).ki (seRp c s d).x (seRp c s d).y (seRp c s d).va (seRp c s d).bo (seRp c s d).we (seRp c s d).tk, .int .i64 (seM c s d)]) ∧ Below W.heap.size W w') :=
              Lib.hid (fun W => xMeas c.tk c.px c.py c.ve c.vn c.al c.vs c.hd c.ca c.fu c.bk c.gr s.co s.so s.ki s.x s.y s.bo s.we d.1 d.2 (diV s.x s.y c.px c.py) (coV s.x s.y c.px c.py) (coE s.x s.y c.px c.py) ⟨s01, s02⟩ s1 s2 (fun _ => ⟨diV_bd _ _ _ _, xDist _ _ _ _⟩) (fun _ => ⟨coV_bd _ _ _ _, xCourse _ _ _ _⟩) W)
            have HAG := Lib.hid (fun W => xAgrees (seRp c s d).so (seRp c s d).ki (seRp c s d).x (seRp c s d).y (seRp c s d).va (seRp c s d).bo (seRp c s d).we (seRp c s d).tk c.px c.py ⟨s01, s02⟩ s1 s2 W)
            have HAV := Lib.hid (show agR c (seRp c s d) = agB (seRp c s d).so (seRp c s d).ki (seRp c s d).x (seRp c s d).y (seRp c s d).va (seRp c s d).bo (seRp c s d).we (seRp c s d).tk c.px c.py from rfl)
            have HLEN := Lib.hid (Nat.le_trans (seR_len c comp m.si er l k) (show k ≤ 7 by omega))
            generalize seRp c s d = r at *
            generalize seM c s d = ME at *
            have t0 := HSL.out.bx.C.cell 0 (.int .i64 c.tk) rfl
            have t1 := HSL.out.bx.C.cell 1 (.int .i64 c.px) rfl
            have t2 := HSL.out.bx.C.cell 2 (.int .i64 c.py) rfl
            have t3 := HSL.out.bx.C.cell 3 (.int .i64 c.ve) rfl
            have t4 := HSL.out.bx.C.cell 4 (.int .i64 c.vn) rfl
            have t5 := HSL.out.bx.C.cell 5 (.int .i64 c.al) rfl
            have t6 := HSL.out.bx.C.cell 6 (.int .i64 c.vs) rfl
            have t7 := HSL.out.bx.C.cell 7 (.int .i64 c.hd) rfl
            have t8 := HSL.out.bx.C.cell 8 (.int .i64 c.ca) rfl
            have t9 := HSL.out.bx.C.cell 9 (.int .i64 c.fu) rfl
            have t10 := HSL.out.bx.C.cell 10 (.int .i64 c.bk) rfl
            have t11 := HSL.out.bx.C.cell 11 (.bool c.gr) rfl
            have c0 := HX.out.cell 0 (.int .i64 s.co) rfl
            have c1 := HX.out.cell 1 (.int .i64 s.so) rfl
            have c2 := HX.out.cell 2 (.int .u8 s.ki) rfl
            have c3 := HX.out.cell 3 (.int .i64 s.x) rfl
            have c4 := HX.out.cell 4 (.int .i64 s.y) rfl
            have c5 := HX.out.cell 5 (.int .i64 s.bo) rfl
            have c6 := HX.out.cell 6 (.int .i64 s.we) rfl
            have e0 := HE2.out.cell 0 (.int .i64 d.1) rfl
            have e1 := HE2.out.cell 1 (.int .i64 d.2) rfl
            go_wp2_with fail
            refine (HMX.out _).mono ?_; rintro e w4 ⟨rfl, hB⟩
            clear t0 t1 t2 t3 t4 t5 t6 t7 t8 t9 t10 t11 c0 c1 c2 c3 c4 c5 c6 e0 e1
            replace HSL := Lib.hid (HSL.out.below hB)
            clear hB HX HE2 HMX
            by_cases hM : ME = 0
            rotate_left
            · have HNX := Lib.hid (seR_none (c := c) (comp := comp) (si := m.si) (er := er) HS.out (by rw [HONE.out, if_pos hM]))
              have z1 := beq_of hM
              have z2 := bne_of z1
              rw [repV_no hM]
              clear hM
              go_wp2_with fail
              go_roundw
              case rel => exact ⟨k + 1, by omega, by go_num, _, _, rfl, by rw [HNX.out]; exact HSL.out.alloc _⟩
              case measure => simp only [intOf]; omega
            have HNX := Lib.hid (seR_some (c := c) (comp := comp) (si := m.si) (er := er) HS.out (by rw [HONE.out, if_neg (by rw [hM]; simp)]))
            rw [hM, repV_ok]
            clear hM HONE
            have HR : Hid (Has (w4.alloc (.cells #[.int .i64 r.so, .int .u8 r.ki, .int .i64 r.x, .int .i64 r.y, .int .i64 r.va, .int .i64 r.bo, .int .i64 r.we, .int .i64 r.tk] 49)) w4.heap.size [.int .i64 r.so, .int .u8 r.ki, .int .i64 r.x, .int .i64 r.y, .int .i64 r.va, .int .i64 r.bo, .int .i64 r.we, .int .i64 r.tk]) := Lib.hid (Has.new _ _ _)
            have HSA := Lib.hid (HSL.out.alloc (.cells #[.int .i64 r.so, .int .u8 r.ki, .int .i64 r.x, .int .i64 r.y, .int .i64 r.va, .int .i64 r.bo, .int .i64 r.we, .int .i64 r.tk] 49))
            have f1 := HSA.out.S.cell 1 v1 rfl
            have r0 := HR.out.cell 0 (.int .i64 r.so) rfl
            have r1 := HR.out.cell 1 (.int .u8 r.ki) rfl
            have r2 := HR.out.cell 2 (.int .i64 r.x) rfl
            have r3 := HR.out.cell 3 (.int .i64 r.y) rfl
            have r4 := HR.out.cell 4 (.int .i64 r.va) rfl
            have r5 := HR.out.cell 5 (.int .i64 r.bo) rfl
            have r6 := HR.out.cell 6 (.int .i64 r.we) rfl
            have r7 := HR.out.cell 7 (.int .i64 r.tk) rfl
            have hlen := HLEN.out
            generalize seR c comp m.si er l k = RL at *
            go_wp2_with (at_builtin; refine wpList_append_own_at _ rfl _ _ 37 rfl N 49 i1 (.agg #[.int .i64 0, .int .u8 0, .int .i64 0, .int .i64 0, .int .i64 0, .int .i64 0, .int .i64 0, .int .i64 0]) 8 64 Try.underlying37 hi hz0 hz1 hz2 rfl (by decide) _ _ _ rfl ((HSA.out.alloc _).o1.own) ⟨w4.heap.size + 1, 0, none⟩ 1 1 [.int .i64 r.so, .int .u8 r.ki, .int .i64 r.x, .int .i64 r.y, .int .i64 r.va, .int .i64 r.bo, .int .i64 r.we, .int .i64 r.tk] rfl rfl (news_new _ _ (by simp) _ _ _ rfl) (by intro u hu; simp at hu; rcases hu with rfl | rfl | rfl | rfl | rfl | rfl | rfl | rfl <;> rfl) (by unfold maxLen; omega) (by omega) (by have := HSA.out.hS; simp at this ⊢; omega) ?_; intro v3 w5 hown hgrow hnil hat; obtain ⟨A3, c3, rfl⟩ := own_form hown; have hmid := Lib.hid ((HSA.out.alloc (.cells #[.int .i64 r.so, .int .u8 r.ki, .int .i64 r.x, .int .i64 r.y, .int .i64 r.va, .int .i64 r.bo, .int .i64 r.we, .int .i64 r.tk] 49)).grownS hgrow); have u1 := hmid.out.cell 1 v1 rfl; have uf := hmid.out.fr; have ul := hmid.out.lt; have HSN := Lib.hid (HSL.out.app1 (r := r) (below_alloc2 _ _ _) hown hgrow hat); have HRB := Lib.hid (HSL.out.grownB (HR.out.alloc (.cells #[.int .i64 r.so, .int .u8 r.ki, .int .i64 r.x, .int .i64 r.y, .int .i64 r.va, .int .i64 r.bo, .int .i64 r.we, .int .i64 r.tk] 49)) (Nat.le_refl _) hgrow (.slice A3 (RL.length + 1) c3)); have b0 := HRB.out.cell 0 (.int .i64 r.so) rfl; have b1 := HRB.out.cell 1 (.int .u8 r.ki) rfl; have b2 := HRB.out.cell 2 (.int .i64 r.x) rfl; have b3 := HRB.out.cell 3 (.int .i64 r.y) rfl; have b4 := HRB.out.cell 4 (.int .i64 r.va) rfl; have b5 := HRB.out.cell 5 (.int .i64 r.bo) rfl; have b6 := HRB.out.cell 6 (.int .i64 r.we) rfl; have b7 := HRB.out.cell 7 (.int .i64 r.tk) rfl; have p1 := HSN.out.bx.C.cell 1 (.int .i64 c.px) rfl; have p2 := HSN.out.bx.C.cell 2 (.int .i64 c.py) rfl)
            refine (HAG.out _).mono ?_; rintro e w6 ⟨rfl, hB⟩
            rw [← HAV.out]
            clear b0 b1 b2 b3 b4 b5 b6 b7 p1 p2 u1 uf ul hmid HRB f1 r0 r1 r2 r3 r4 r5 r6 r7 hown hgrow hat hnil HSA HR HSL
            replace HSN := Lib.hid (HSN.out.below hB)
            clear hB HAG HAV
            go_wp2_with (at_builtin; refine wpList_append_own_at _ rfl _ _ 40 rfl N 4 i2 (.bool false) 1 1 Try.underlying40 gi gz0 gz1 gz2 rfl (by decide) _ _ _ rfl ((HSN.out.alloc _).o2.own) ⟨w6.heap.size, 0, none⟩ 1 1 [.bool (agR c r)] rfl rfl (news_new _ _ rfl _ _ _ rfl) (by intro u hu; simp at hu; subst hu; rfl) (by simp; unfold maxLen; omega) (by simp; omega) (by have := HSN.out.hS; simp; omega) ?_; intro v4 w7 hown hgrow hnil hat)
            go_roundw
            case rel => exact ⟨k + 1, by omega, by go_num, _, _, rfl, by rw [HNX.out, List.map_append]; exact HSN.out.app2 (below_alloc1 _ _) hown hgrow hat⟩
            case measure => simp only [intOf]; omega
set_option maxRecDepth 100000 in
set_option maxHeartbeats 2000000 in
theorem xSense (c : Cra) (A : Option Addr) (n cp : Nat) (l : List Sns) (comp : Int) (m : Mom) (er : List (Int × Int)) (w : World) (hl : Recs Sns.cells 7 w A n l) (hn : n ≤ maxLen) (hw : ∀ s ∈ l, s.wf) (he : Recs er2 2 w m.E m.ne er) (hne : m.ne ≤ maxLen) (hsi : 0 ≤ m.si ∧ m.si < 65536) : Calls Try.prog 5 #[.agg #[.int .i64 c.tk, .int .i64 c.px, .int .i64 c.py, .int .i64 c.ve, .int .i64 c.vn, .int .i64 c.al, .int .i64 c.vs, .int .i64 c.hd, .int .i64 c.ca, .int .i64 c.fu, .int .i64 c.bk, .bool c.gr], .slice A n cp, .int .i64 comp, .agg #[.int .i64 m.we, .int .i64 m.wn, .slice m.E m.ne m.ce, .int .i64 m.se, .int .i64 m.sn, .int .u16 m.si, .bool m.th, .bool m.st, .string m.s0, .string m.s1]] w (SePost c l comp m er w) := by
  by_cases h1 : c.E = 0
  rotate_left
  · exact xSenseE1 c A n cp l comp m er w hl hn hw he hne hsi h1
  by_cases h2 : csE l = 0
  rotate_left
  · exact xSenseE2 c A n cp l comp m er w hl hn hw he hne hsi h1 h2
  by_cases h3 : moE m.we m.wn m.se m.sn er m.s0 m.s1 = 0
  rotate_left
  · exact xSenseE3 c A n cp l comp m er w hl hn hw he hne hsi h1 h2 h3
  by_cases hcp : comp = 1 ∨ comp = 2
  · exact xSenseOk c A n cp l comp m er w hl hn hw he hne hsi h1 h2 h3 hcp
  · exact xSenseE4 c A n cp l comp m er w hl hn hw he hne hsi h1 h2 h3 hcp
end Go.Proofs.Ytkomooeohlcnaaa
