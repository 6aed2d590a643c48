/- Plain arithmetic of layer 51, continued (no program in sight): mirrored commands, and a command's step. -/
import Derived.Test.YtgclfkgnkohgdaaVtPlain
namespace Go.Proofs.Vt
set_option linter.unusedSimpArgs false
set_option linter.unusedVariables false

theorem cmV_any (a t m : Int) : -10000 ≤ cmV a t m ∧ cmV a t m ≤ 10000 := by
  by_cases h : okCm a t m
  · exact cmV_bd a t m h.2.2.1 h.2.2.2
  · rw [(okCm_no h).1]; omega
theorem cm_mirror (a t m : Int) : cmV a t m = -cmV t a m ∧ cmE a t m = cmE t a m := by
  by_cases h : okCm a t m
  · have h2 : okCm t a m := ⟨h.2.1, h.1, h.2.2⟩
    refine ⟨?_, by unfold cmE; rw [if_pos h, if_pos h2]⟩
    rcases Int.lt_trichotomy t a with h3 | h3 | h3
    · rw [(okCm_dn h h3).1, (okCm_up h2 (by omega)).1]
    · subst h3
      rw [(okCm_up h (by omega)).1, Int.sub_self]
      have : mag 0 m = 0 := by have := h.2.2.1; unfold mag; omega
      rw [this]; rfl
    · rw [(okCm_up h (by omega)).1, (okCm_dn h2 h3).1]; omega
  · have h2 : ¬ okCm t a m := fun k => h ⟨k.2.1, k.1, k.2.2⟩
    rw [(okCm_no h).1, (okCm_no h2).1, (okCm_no h).2, (okCm_no h2).2]
    exact ⟨rfl, rfl⟩
theorem cp_mirror (a v t : Int) : cpB a v t = cpB t (-v) a ∧ cpE a v t = cpE t (-v) a := by
  have hr : okRate v ↔ okRate (-v) := by unfold okRate; omega
  by_cases h : okCp a v t
  · have h2 : okCp t (-v) a := ⟨h.2.1, h.1, hr.1 h.2.2⟩
    refine ⟨?_, by unfold cpE; rw [if_pos h, if_pos h2]⟩
    unfold cpB
    rw [if_pos h, if_pos h2]
    rcases Int.lt_trichotomy t a with h3 | h3 | h3
    · rw [if_neg (by omega), if_neg (by omega), if_neg (by omega), if_pos h3, decide_eq_decide]; omega
    · rw [if_pos h3, if_pos h3.symm]
    · rw [if_neg (by omega), if_pos h3, if_neg (by omega), if_neg (by omega), decide_eq_decide]; omega
  · have h2 : ¬ okCp t (-v) a := fun k => h ⟨k.2.1, k.1, hr.2 k.2.2⟩
    unfold cpB cpE
    rw [if_neg h, if_neg h2, if_neg h, if_neg h2]
    exact ⟨rfl, rfl⟩
theorem cm_step {a t m : Int} (h : okCm a t m) (hm : 1 ≤ m) : okCm (a + cmV a t m) t m ∧ (t - (a + cmV a t m)).natAbs ≤ (t - a).natAbs - 1 := by
  obtain ⟨⟨a0, a1⟩, ⟨t0, t1⟩, m0, m1⟩ := id h
  by_cases hlt : t < a
  · have e := (okCm_dn h hlt).1
    have hb := mag_bd (d := a - t) (m := m) (by omega) m0
    have h3 := hb.2.2.2 (by omega) (by omega)
    rw [e]
    exact ⟨⟨⟨by omega, by omega⟩, ⟨t0, t1⟩, m0, m1⟩, by omega⟩
  · have e := (okCm_up h hlt).1
    have hb := mag_bd (d := t - a) (m := m) (by omega) m0
    have h3 := hb.2.2.2
    rw [e]
    refine ⟨⟨⟨by omega, by omega⟩, ⟨t0, t1⟩, m0, m1⟩, ?_⟩
    by_cases h4 : 0 < t - a
    · have := h3 h4 (by omega); omega
    · omega
end Go.Proofs.Vt
