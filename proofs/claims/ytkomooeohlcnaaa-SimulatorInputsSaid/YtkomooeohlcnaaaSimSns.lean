/- Layer 59: the check of sensors, of the program and of the reference. -/
import Derived.Test.YtkomooeohlcnaaaSimSen
import Derived.Test.YtkomooeohlcnaaaBox
import Derived.Deep.QuietTactic
import Derived.BigQuiet
namespace Go.Proofs.Ytkomooeohlcnaaa
set_option linter.unusedSimpArgs false
set_option linter.unusedVariables false
open Go.RowKit
structure Sns where
  co : Int
  so : Int
  ki : Int
  x : Int
  y : Int
  bo : Int
  we : Int
def Sns.cells (s : Sns) : List Value := [.int .i64 s.co, .int .i64 s.so, .int .u8 s.ki, .int .i64 s.x, .int .i64 s.y, .int .i64 s.bo, .int .i64 s.we]
def Sns.wf (s : Sns) : Prop := I64 s.so ∧ 0 ≤ s.ki ∧ s.ki ≤ 255
def Sns.E (s : Sns) : Int := snsE s.co s.so s.ki s.x s.y s.bo s.we
/-- the first error -/
def csF : List Sns → Int
  | [] => 0
  | s :: t => if s.E ≠ 0 then s.E else csF t
def cnt (k : Int) (l : List Sns) : Nat := (l.filter fun s => s.co == k).length
def csE (l : List Sns) : Int := if 8 < l.length then 3 else if csF l ≠ 0 then csF l else if 4 < cnt 1 l ∨ 4 < cnt 2 l then 3 else 0
theorem csE_n {l : List Sns} (h : ¬ 8 < l.length) : csE l = if csF l ≠ 0 then csF l else if 4 < cnt 1 l ∨ 4 < cnt 2 l then 3 else 0 := if_neg h
theorem csF_app (l t : List Sns) (h : csF l = 0) : csF (l ++ t) = csF t := by
  induction l with
  | nil => rfl
  | cons s r ih =>
    unfold csF at h
    by_cases h1 : s.E ≠ 0
    · rw [if_pos h1] at h; exact absurd h h1
    · rw [if_neg h1] at h
      rw [List.cons_append]
      conv => lhs; unfold csF
      rw [if_neg h1, ih h]
theorem csF_take {l : List Sns} {k : Nat} {s : Sns} (hs : l[k]? = some s) (h : csF (l.take k) = 0) : csF (l.take (k + 1)) = s.E := by
  rw [take_succ_get l k s hs, csF_app _ _ h]
  unfold csF
  by_cases h1 : s.E ≠ 0
  · rw [if_pos h1]
  · rw [if_neg h1]; simp only [csF]; omega
theorem csF_stop {l : List Sns} {k : Nat} {s : Sns} (hs : l[k]? = some s) (h : csF (l.take k) = 0) (he : s.E ≠ 0) : csF l = s.E := by
  obtain ⟨hk, rfl⟩ := List.getElem?_eq_some_iff.1 hs
  have h2 : l.take k ++ l[k] :: l.drop (k + 1) = l := by rw [List.getElem_cons_drop, List.take_append_drop]
  have h3 : csF (l.take k ++ l[k] :: l.drop (k + 1)) = l[k].E := by
    rw [csF_app _ _ h]
    simp only [csF]
    rw [if_pos he]
  rwa [h2] at h3
theorem cnt_take {l : List Sns} {k : Nat} {s : Sns} (c : Int) (hs : l[k]? = some s) : cnt c (l.take (k + 1)) = cnt c (l.take k) + if s.co = c then 1 else 0 := by
  unfold cnt
  rw [take_succ_get l k s hs, List.filter_append, List.length_append]
  by_cases h : s.co = c <;> simp [List.filter_cons, h]
theorem cnt_le (c : Int) (l : List Sns) : cnt c l ≤ l.length := List.length_filter_le _ _
theorem snsE_0 {co so ki qx qy bo we : Int} (h : snsE co so ki qx qy bo we = 0) : co = 1 ∨ co = 2 := by
  unfold snsE at h
  by_cases h1 : snsA co so we = true
  · unfold snsA at h1; simp at h1; omega
  · rw [if_neg h1] at h; exact absurd h (by decide)
def Cnt3 (l : List Sns) : List Value := [.int .i64 0, .int .i64 (cnt 1 l : Int), .int .i64 (cnt 2 l : Int)]
def SnRel (l : List Sns) (n : Nat) (w : World) (t : Value) (wr : World) : Prop :=
  ∃ k : Nat, k ≤ n ∧ t = .int .i64 k ∧ csF (l.take k) = 0 ∧ Below w.heap.size w wr ∧ Has wr w.heap.size (Cnt3 (l.take k))
set_option maxRecDepth 100000 in
set_option maxHeartbeats 4000000 in
theorem xSensors (A : Option Addr) (n c : Nat) (l : List Sns) (w : World) (hl : Recs Sns.cells 7 w A n l) (hn : n ≤ maxLen) (hw : ∀ s ∈ l, s.wf) :
    Calls Try.prog 13 #[.slice A n c] w fun e w' => e = .returned (.int .i64 (csE l)) ∧ Below w.heap.size w w' := by
  have HE := Lib.hid hl
  have HL := Lib.hid hl.len
  have HW := Lib.hid hw
  unfold maxLen at hn
  clear hl hw
  by_cases h8 : 8 < n
  · have HV := Lib.hid (show csE l = 3 by unfold csE; rw [if_pos (by rw [HL.out]; exact h8)])
    go_enter Try.func13, Try.ntmps13
    go_wp2_with fail
    go_ret
    exact ⟨ret_int (by rw [HV.out]), Below.refl _ _⟩
  have hv := Lib.hid (csE_n (l := l) (by rw [HL.out]; exact h8))
  go_enter Try.func13, Try.ntmps13
  go_wp2_with fail
  have BA : Hid (Has _ w.heap.size [.int .i64 0, .int .i64 0, .int .i64 0]) := Lib.hid (Has.new w _ 86)
  have HB := Lib.hid (below_alloc1 w (.cells #[.int .i64 0, .int .i64 0, .int .i64 0] 86))
  generalize w.alloc (.cells #[.int .i64 0, .int .i64 0, .int .i64 0] 86) = w1 at *
  go_loopw [12] (fun t wr => SnRel l n w t wr) (fun t _ => n - (intOf t).toNat)
  case atStart => exact ⟨0, by omega, rfl, rfl, HB.out, BA.out⟩
  case round =>
    obtain ⟨k, hk, rfl, h0, hB, hX⟩ := hrel
    have HF := Lib.hid h0
    have HBr := Lib.hid hB
    have BX := Lib.hid hX
    clear h0 hB hX BA HB
    by_cases hlt : k < n
    rotate_left
    · have HT := Lib.hid (show l.take k = l from List.take_of_length_le (by rw [HL.out]; omega))
      rw [HT.out] at HF BX
      have a1 : wr.cell? ⟨w.heap.size, 1, none⟩ = some (.int .i64 (cnt 1 l : Int)) := BX.out.cell 1 _ rfl
      have a2 : wr.cell? ⟨w.heap.size, 2, none⟩ = some (.int .i64 (cnt 2 l : Int)) := BX.out.cell 2 _ rfl
      replace hv := Lib.hid (hv.out.trans (if_neg (by rw [HF.out]; simp)))
      generalize cnt 1 l = c1 at *
      generalize cnt 2 l = c2 at *
      by_cases g1 : 4 < c1
      · have g1' : 4 < (c1 : Int) := by omega
        go_wp2_with fail
        go_ret
        exact ⟨ret_int (by rw [hv.out, if_pos (.inl g1)]), HBr.out⟩
      have g1' : ¬ 4 < (c1 : Int) := by omega
      by_cases g2 : 4 < c2
      · have g2' : 4 < (c2 : Int) := by omega
        go_wp2_with fail
        go_ret
        exact ⟨ret_int (by rw [hv.out, if_pos (.inr g2)]), HBr.out⟩
      have g2' : ¬ 4 < (c2 : Int) := by omega
      go_wp2_with fail
      go_ret
      exact ⟨ret_int (by rw [hv.out, if_neg (by omega)]), HBr.out⟩
    obtain ⟨s, hs⟩ := get_ex HL.out hlt
    obtain ⟨b, off, rfl, hb, hc⟩ := HE.out.cells (by omega)
    have hw := HW.out s (List.mem_of_getElem? hs)
    have hcw := fun j v hv => (HBr.out.cell (p := ⟨b, _, none⟩) hb).trans (hc k s hs j v hv)
    have c0 : wr.cell? ⟨b, off + k * 7, none⟩ = some (.int .i64 s.co) := hcw 0 _ rfl
    have c1 : wr.cell? ⟨b, off + k * 7 + 1, none⟩ = some (.int .i64 s.so) := hcw 1 _ rfl
    have c2 : wr.cell? ⟨b, off + k * 7 + 2, none⟩ = some (.int .u8 s.ki) := hcw 2 _ rfl
    have c3 : wr.cell? ⟨b, off + k * 7 + 3, none⟩ = some (.int .i64 s.x) := hcw 3 _ rfl
    have c4 : wr.cell? ⟨b, off + k * 7 + 4, none⟩ = some (.int .i64 s.y) := hcw 4 _ rfl
    have c5 : wr.cell? ⟨b, off + k * 7 + 5, none⟩ = some (.int .i64 s.bo) := hcw 5 _ rfl
    have c6 : wr.cell? ⟨b, off + k * 7 + 6, none⟩ = some (.int .i64 s.we) := hcw 6 _ rfl
    have HS := Lib.hid hs
    have HBox := Lib.hid BX.out.lt
    have k1 := cnt_le 1 (l.take k)
    have k2 := cnt_le 2 (l.take k)
    have k3 : (l.take k).length ≤ k := List.length_take_le _ _
    have HC1 := Lib.hid (cnt_take 1 hs)
    have HC2 := Lib.hid (cnt_take 2 hs)
    clear hc hcw hs
    obtain ⟨s0, s1, s2⟩ := hw
    obtain ⟨s01, s02⟩ := s0
    have HX := Lib.hid (xcheckSensor s.co s.so s.ki s.x s.y s.bo s.we ⟨s01, s02⟩)
    go_wp2_with fail
    refine (HX.out _).mono ?_; rintro e w2 ⟨rfl, hB⟩
    have BS : Hid (Has w2 wr.heap.size [.int .i64 s.co, .int .i64 s.so, .int .u8 s.ki, .int .i64 s.x, .int .i64 s.y, .int .i64 s.bo, .int .i64 s.we]) := Lib.hid ((Has.new wr _ _).below hB)
    have BY : Hid (Has w2 w.heap.size (Cnt3 (l.take k))) := Lib.hid ((BX.out.alloc _).below hB)
    have HB2 := Lib.hid (bel_trans HBr.out (bel_alloc hB))
    clear hB HX
    by_cases hE : s.E = 0
    · have HE0 := Lib.hid hE
      have HCO := Lib.hid (snsE_0 hE)
      have hEE : (snsE s.co s.so s.ki s.x s.y s.bo s.we == 0) = true := beq_iff_eq.2 hE
      have hEE2 : (snsE s.co s.so s.ki s.x s.y s.bo s.we != 0) = false := by rw [bne, hEE]; rfl
      clear hE
      have HT := Lib.hid (csF_take HS.out HF.out)
      rw [HE0.out] at HT
      have q0 : w2.cell? ⟨w.heap.size, 1, none⟩ = some (.int .i64 (cnt 1 (l.take k) : Int)) := BY.out.cell 1 _ rfl
      have q1 : w2.cell? ⟨w.heap.size, 2, none⟩ = some (.int .i64 (cnt 2 (l.take k) : Int)) := BY.out.cell 2 _ rfl
      have qf : ∀ o, w2.frozen? ⟨w.heap.size, o, none⟩ = false := BY.out.fr
      rcases HCO.out with hco | hco
      · have B1 := Lib.hid (BY.out.set 1 (.int .i64 ((cnt 1 (l.take k) : Int) + 1)) (by simp [Cnt3]))
        have hco1 : ¬ s.co < 1 := by omega
        have hco2 : ¬ 2 < s.co := by omega
        have HCE : Hid (Cnt3 (l.take (k + 1)) = (Cnt3 (l.take k)).set 1 (.int .i64 ((cnt 1 (l.take k) : Int) + 1))) := Lib.hid (by unfold Cnt3; rw [HC1.out, HC2.out, if_pos hco, if_neg (by omega)]; simp)
        have r0 : w2.cell? ⟨w.heap.size + 1 + k, 0, none⟩ = w2.cell? ⟨w.heap.size + 1 + k, 0, none⟩ := rfl
        clear r0
        have cs : w2.cell? ⟨wr.heap.size, 0, none⟩ = some (.int .i64 1) := by rw [← hco]; exact BS.out.cell 0 _ rfl
        clear hco
        go_wp2_with fail
        go_roundw
        case rel => exact ⟨k + 1, by omega, by go_num, HT.out, HB2.out.setCell (p := ⟨w.heap.size, _, none⟩) (by simp) _, by rw [HCE.out]; exact B1.out⟩
        case measure => simp only [intOf]; omega
      · have B1 := Lib.hid (BY.out.set 2 (.int .i64 ((cnt 2 (l.take k) : Int) + 1)) (by simp [Cnt3]))
        have hco1 : ¬ s.co < 1 := by omega
        have hco2 : ¬ 2 < s.co := by omega
        have HCE : Hid (Cnt3 (l.take (k + 1)) = (Cnt3 (l.take k)).set 2 (.int .i64 ((cnt 2 (l.take k) : Int) + 1))) := Lib.hid (by unfold Cnt3; rw [HC1.out, HC2.out, if_neg (by omega), if_pos hco]; simp)
        have cs : w2.cell? ⟨wr.heap.size, 0, none⟩ = some (.int .i64 2) := by rw [← hco]; exact BS.out.cell 0 _ rfl
        clear hco
        go_wp2_with fail
        go_roundw
        case rel => exact ⟨k + 1, by omega, by go_num, HT.out, HB2.out.setCell (p := ⟨w.heap.size, _, none⟩) (by simp) _, by rw [HCE.out]; exact B1.out⟩
        case measure => simp only [intOf]; omega
    · have HV := Lib.hid (csF_stop HS.out HF.out hE)
      have HE0 := Lib.hid hE
      have hEE : (snsE s.co s.so s.ki s.x s.y s.bo s.we == 0) = false := beq_eq_false_iff_ne.2 hE
      have hEE2 : (snsE s.co s.so s.ki s.x s.y s.bo s.we != 0) = true := by rw [bne, hEE]; rfl
      clear hE
      go_wp2_with fail
      go_ret
      exact ⟨ret_int (by rw [hv.out, HV.out, if_pos HE0.out]; rfl), HB2.out⟩
end Go.Proofs.Ytkomooeohlcnaaa
