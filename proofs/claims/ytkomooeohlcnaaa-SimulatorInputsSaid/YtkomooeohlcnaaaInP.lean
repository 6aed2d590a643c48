/- Layer 59 in plain words: the input of a computer is in order. -/
import Derived.Test.YtkomooeohlcnaaaCkS
namespace Go.Proofs.Ytkomooeohlcnaaa
set_option linter.unusedSimpArgs false
set_option linter.unusedVariables false
open Go.RowKit
/-- a report that is in order -/
def RepOk (r : Rep) : Prop := repE r.so r.ki r.x r.y r.va r.bo r.we r.tk = 0 ∧ I64 r.so ∧ 0 ≤ r.ki ∧ r.ki ≤ 255
theorem rep_src {r : Rep} (h : RepOk r) : 1 ≤ r.so ∧ r.so ≤ 8 := by
  have h0 := h.1
  unfold repE repA at h0
  split at h0
  · next hb => simp only [Bool.and_eq_true, inB_iff] at hb; exact hb.1.1
  · exact absurd h0 (by decide)
theorem seM_rep {c : Cra} {s : Sns} {d : Int × Int} (h : seM c s d = 0) (hw : s.wf) : RepOk (seRp c s d) := by
  refine ⟨?_, hw.1, hw.2.1, hw.2.2⟩
  unfold seM msE at h
  split at h
  · next h1 => exact absurd h h1
  · split at h
    · next h2 => exact absurd h h2
    · split at h
      · exact absurd h (by decide)
      · split at h
        · next h3 => exact absurd h h3.2
        · exact h
theorem seOne_ok {c : Cra} {comp si : Int} {er : List (Int × Int)} {k : Nat} {s : Sns} {r : Rep} (h : seOne c comp si er k s = some r) (hw : s.wf) : RepOk r ∧ s.co = comp := by
  unfold seOne at h
  split at h
  · cases h
  · next h1 =>
    split at h
    · cases h
    · split at h
      · cases h
      · next h3 =>
        injection h with h
        subst h
        exact ⟨seM_rep (Classical.not_not.1 h3) hw, Classical.not_not.1 h1⟩
theorem seR_ok {c : Cra} {comp si : Int} {er : List (Int × Int)} {l : List Sns} (hw : ∀ s ∈ l, s.wf) (n : Nat) : ∀ r ∈ seR c comp si er l n, RepOk r := by
  intro r hr
  unfold seR at hr
  obtain ⟨k, _, hk⟩ := List.mem_filterMap.1 hr
  cases hs : l[k]? with
  | none => rw [hs] at hk; cases hk
  | some s =>
    rw [hs] at hk
    exact (seOne_ok hk (hw s (List.mem_of_getElem? hs))).1
theorem seR_cnt {c : Cra} {comp si : Int} {er : List (Int × Int)} {l : List Sns} (hw : ∀ s ∈ l, s.wf) (n : Nat) (hn : n ≤ l.length) : (seR c comp si er l n).length ≤ cnt comp (l.take n) := by
  induction n with
  | zero => rw [seR_0]; exact Nat.zero_le _
  | succ k ih =>
    obtain ⟨s, hs⟩ := get_ex (k := k) (l := l) rfl (by omega)
    have := ih (by omega)
    rw [cnt_take comp hs]
    cases h : seOne c comp si er k s with
    | none => rw [seR_none hs h]; omega
    | some r =>
      rw [seR_some hs h, List.length_append, if_pos (seOne_ok h (hw s (List.mem_of_getElem? hs))).2]
      simp
      omega
theorem cs_cnt {l : List Sns} (h : csE l = 0) : cnt 1 l ≤ 4 ∧ cnt 2 l ≤ 4 := by
  unfold csE at h
  split at h
  · exact absurd h (by decide)
  · split at h
    · next h1 => exact absurd h h1
    · split at h
      · exact absurd h (by decide)
      · omega
theorem se_parts {c : Cra} {l : List Sns} {comp we wn se sn : Int} {er : List (Int × Int)} {s0 s1 : ByteArray} (h : seE c l comp we wn se sn er s0 s1 = 0) :
    c.E = 0 ∧ csE l = 0 ∧ moE we wn se sn er s0 s1 = 0 ∧ (comp = 1 ∨ comp = 2) := by
  unfold seE at h
  split at h
  · next h1 => exact absurd h h1
  · next h1 =>
    split at h
    · next h2 => exact absurd h h2
    · next h2 =>
      split at h
      · next h3 => exact absurd h h3
      · next h3 =>
        split at h
        · next h4 => exact ⟨Classical.not_not.1 h1, Classical.not_not.1 h2, Classical.not_not.1 h3, h4⟩
        · exact absurd h (by decide)
theorem seRL_le {c : Cra} {l : List Sns} {comp : Int} {m : Mom} {er : List (Int × Int)} (hw : ∀ s ∈ l, s.wf) : (seRL c l comp m er).length ≤ 4 := by
  unfold seRL
  split
  · next h =>
    obtain ⟨_, h2, _, h4⟩ := se_parts h
    have h5 := seR_cnt (c := c) (comp := comp) (si := m.si) (er := er) hw l.length (Nat.le_refl _)
    rw [List.take_length] at h5
    have h6 := cs_cnt h2
    rcases h4 with rfl | rfl <;> omega
  · exact Nat.zero_le _
theorem seRL_ok {c : Cra} {l : List Sns} {comp : Int} {m : Mom} {er : List (Int × Int)} (hw : ∀ s ∈ l, s.wf) : ∀ r ∈ seRL c l comp m er, RepOk r := by
  unfold seRL
  split
  · exact seR_ok hw _
  · intro r hr; cases hr
theorem vl_bd (n : Int) : inB (vlV n) (-2000) 2000 = true := by
  rw [inB_iff]
  unfold vlV clampV
  split <;> (try split) <;> omega
theorem seQ_ok {c : Cra} {l : List Sns} {comp : Int} {m : Mom} {er : List (Int × Int)} (h : seE c l comp m.we m.wn m.se m.sn er m.s0 m.s1 = 0) : CkOk (seQ c l comp m er) := by
  obtain ⟨h1, _, h3, h4⟩ := se_parts h
  unfold seQ
  rw [if_pos h]
  unfold Cra.E cftE crB at h1
  split at h1
  · next hb =>
    simp only [Bool.and_eq_true] at hb
    have hm : (m.s0.size ≤ 120 ∧ m.s1.size ≤ 120) ∧ (m.s0.data.toList.all chB = true ∧ m.s1.data.toList.all chB = true) := by
      unfold moE at h3
      split at h3
      · split at h3
        · exact absurd h3 (by decide)
        · next g1 =>
          split at h3
          · split at h3
            · next g2 =>
              rw [List.all_append, Bool.and_eq_true] at g2
              exact ⟨by omega, g2⟩
            · exact absurd h3 (by decide)
          · exact absurd h3 (by decide)
      · exact absurd h3 (by decide)
    refine ⟨hb.1.1.1.1.1.1.1.1, vl_bd _, vl_bd _, rfl, hb.1.1.1.1.1.1.1.2, hb.1.1.1.1.1.1.2, hb.1.1.1.1.2, hb.1.1.1.2, ?_, ?_⟩
    · show (seCmd comp m.s0 m.s1).size ≤ 120
      unfold seCmd
      split
      · exact hm.1.1
      · exact hm.1.2
    · show (seCmd comp m.s0 m.s1).data.toList.all chB = true
      unfold seCmd
      split
      · exact hm.2.1
      · exact hm.2.2
  · exact absurd h1 (by decide)
end Go.Proofs.Ytkomooeohlcnaaa
