/- The statement AtmosphereFalls: for every input the law returns true, and every argument reads afterwards as before. No condition. -/
import Derived.Test.YtiddcmlnofdemaaRows
import Derived.Test.YtiddcmlnofdemaaLaBase29
import Derived.WalkKit
import Derived.ProofKit
import Derived.OpenShut
import Derived.ShutString
import Derived.ChangeOld
import Derived.Below
namespace Go.Proofs.Ytiddcmlnofdemaa
set_option linter.unusedSimpArgs false
set_option linter.unusedVariables false
open Go.RowKit
set_option maxRecDepth 100000 in
set_option maxHeartbeats 4000000 in
theorem walk_AtmosphereFalls (l : Int) (h : Int) (d : Int) (w : World) (hl : (Lit.int .i64 l).wf = true) (hh : (Lit.int .i64 h).wf = true) (hd : (Lit.int .i64 d).wf = true) :
    Calls Try.prog 6 #[.agg #[.int .i64 l, .int .i64 h], .int .i64 d] w fun e w' => e = .returned (.bool true) ∧ Below w.heap.size w w' := by
  have li : I64 l := wf_i64_bd hl
  have hi : I64 h := wf_i64_bd hh
  have di : I64 d := wf_i64_bd hd
  clear hl
  clear hh
  clear hd
  obtain ⟨L, hL⟩ : ∃ L, min l h = L := ⟨_, rfl⟩
  obtain ⟨M, hM⟩ : ∃ M, max l h = M := ⟨_, rfl⟩
  have hLM : L ≤ M := by omega
  have Li : I64 L := by unfold I64 at *; omega
  have Mi : I64 M := by unfold I64 at *; omega
  by_cases h1 : inAlt L
  · by_cases h2 : inAlt M
    · have H0 := Lib.hid (fun w => (cvalB (pressure_any L w) (show presV L = At.vP L by unfold presV; rw [if_pos h1]) (show presE L = 0 by unfold presE; rw [if_pos h1])))
      have H1 := Lib.hid (fun w => (cvalB (pressure_any M w) (show presV M = At.vP M by unfold presV; rw [if_pos h2]) (show presE M = 0 by unfold presE; rw [if_pos h2])))
      have fp := At.fallP h1.1 hLM h2.2
      have ft : tmV M d ≤ tmV L d ∧ sdV M d ≤ sdV L d ∧ rtV L d ≤ rtV M d := by
        by_cases hd : inDev d
        · have e1 := tE_0 h1 hd
          have e2 := tE_0 h2 hd
          have hf := At.fallT h1.1 hLM h2.2
          have hr := At.riseR h1.1 hLM h2.2
          have hb := At.bdR L h1.1 h1.2
          unfold tmV sdV rtV
          rw [if_pos e1, if_pos e2, if_pos e1, if_pos e2, if_pos e1, if_pos e2]
          have ht : At.tempV M d ≤ At.tempV L d := by unfold At.tempV; omega
          unfold inDev at hd
          exact ⟨ht, At.soundV_mono ht, At.ratV_mono (by omega) hr (by omega) (Int.le_refl _)⟩
        · have e1 : ¬ tE L d = 0 := by rw [tE_1 h1 hd]; decide
          have e2 : ¬ tE M d = 0 := by rw [tE_1 h2 hd]; decide
          unfold tmV sdV rtV
          rw [if_neg e1, if_neg e2, if_neg e1, if_neg e2, if_neg e1, if_neg e2]
          exact ⟨Int.le_refl _, Int.le_refl _, Int.le_refl _⟩
      have he : tE M d = tE L d := by unfold tE; rw [if_pos h1, if_pos h2]
      have H2 := Lib.hid (fun w => aTemperature L d w)
      have H3 := Lib.hid (fun w => cvalB (aTemperature M d w) rfl he)
      have H4 := Lib.hid (fun w => aSound L d w)
      have H5 := Lib.hid (fun w => cvalB (aSound M d w) rfl he)
      have H6 := Lib.hid (fun w => aRatio L d w)
      have H7 := Lib.hid (fun w => cvalB (aRatio M d w) rfl he)
      clear h1 h2 he
      obtain ⟨f1, f2, f3⟩ := ft
      generalize At.vP L = p0 at *
      generalize At.vP M = p1 at *
      generalize tE L d = te at *
      generalize tmV L d = t0 at *
      generalize tmV M d = t1 at *
      generalize sdV L d = s0 at *
      generalize sdV M d = s1 at *
      generalize rtV L d = r0 at *
      generalize rtV M d = r1 at *
      have g0 : ¬ p0 < p1 := by omega
      have g1 : ¬ t0 < t1 := by omega
      have g2 : ¬ s0 < s1 := by omega
      have hbel := (Below.refl w.heap.size w).alloc (Nat.le_refl _) (.cells #[.int .i64 l, .int .i64 h] 29)
      have hc0 : (w.alloc (.cells #[.int .i64 l, .int .i64 h] 29)).cell? ⟨w.heap.size, 0, none⟩ = some (.int .i64 l) := by simp [World.cell?_alloc_new]
      have hc1 : (w.alloc (.cells #[.int .i64 l, .int .i64 h] 29)).cell? ⟨w.heap.size, 1, none⟩ = some (.int .i64 h) := by simp [World.cell?_alloc_new]
      have hsz : w.heap.size ≤ (w.alloc (.cells #[.int .i64 l, .int .i64 h] 29)).heap.size := hbel.size
      go_enter Try.func6, Try.ntmps6
      go_wp2_with fail
      refine (awake_any _).mono ?_; rintro e w1 ⟨rfl, b0⟩
      have hd0 := (b0.cell (World.block_lt_of_cell? _ _ hc0)).trans hc0
      have hd1 := (b0.cell (World.block_lt_of_cell? _ _ hc1)).trans hc1
      have B0 := Lib.hid (hbel.trans (b0.mono hsz))
      clear b0 hbel hsz hc0 hc1
      go_wp2_with fail
      go_quiet (fail)
      have BD := Lib.hid (fun n => below_drewN B0.out n)
      go_wp2_with fail
      refine (H0.out _).mono ?_; rintro e w2 ⟨rfl, b1⟩
      have B1 := Lib.hid (Below.trans (BD.out _) (b1.mono (Below.size (BD.out _))))
      clear b1
      go_wp2_with fail
      refine (H1.out _).mono ?_; rintro e w3 ⟨rfl, b2⟩
      have B2 := Lib.hid (Below.trans B1.out (b2.mono (Below.size B1.out)))
      clear b2
      go_wp2_with fail
      refine (H2.out _).mono ?_; rintro e w4 ⟨rfl, b3⟩
      have B3 := Lib.hid (Below.trans B2.out (b3.mono (Below.size B2.out)))
      clear b3
      go_wp2_with fail
      refine (H3.out _).mono ?_; rintro e w5 ⟨rfl, b4⟩
      have B4 := Lib.hid (Below.trans B3.out (b4.mono (Below.size B3.out)))
      clear b4
      go_wp2_with fail
      refine (H4.out _).mono ?_; rintro e w6 ⟨rfl, b5⟩
      have B5 := Lib.hid (Below.trans B4.out (b5.mono (Below.size B4.out)))
      clear b5
      go_wp2_with fail
      refine (H5.out _).mono ?_; rintro e w7 ⟨rfl, b6⟩
      have B6 := Lib.hid (Below.trans B5.out (b6.mono (Below.size B5.out)))
      clear b6
      go_wp2_with fail
      refine (H6.out _).mono ?_; rintro e w8 ⟨rfl, b7⟩
      have B7 := Lib.hid (Below.trans B6.out (b7.mono (Below.size B6.out)))
      clear b7
      go_wp2_with fail
      refine (H7.out _).mono ?_; rintro e w9 ⟨rfl, b8⟩
      have B8 := Lib.hid (Below.trans B7.out (b8.mono (Below.size B7.out)))
      clear b8
      go_wp2_with fail
      go_ret
      exact ⟨rfl, B8.out⟩
    · have H0 := Lib.hid (fun w => (cvalB (pressure_any L w) (show presV L = At.vP L by unfold presV; rw [if_pos h1]) (show presE L = 0 by unfold presE; rw [if_pos h1])))
      have H1 := Lib.hid (fun w => (cvalB (pressure_any M w) (show presV M = 0 by unfold presV; rw [if_neg h2]) (show presE M = 2 by unfold presE; rw [if_neg h2])))
      generalize At.vP L = p0 at *
      clear h1 h2
      have hbel := (Below.refl w.heap.size w).alloc (Nat.le_refl _) (.cells #[.int .i64 l, .int .i64 h] 29)
      have hc0 : (w.alloc (.cells #[.int .i64 l, .int .i64 h] 29)).cell? ⟨w.heap.size, 0, none⟩ = some (.int .i64 l) := by simp [World.cell?_alloc_new]
      have hc1 : (w.alloc (.cells #[.int .i64 l, .int .i64 h] 29)).cell? ⟨w.heap.size, 1, none⟩ = some (.int .i64 h) := by simp [World.cell?_alloc_new]
      have hsz : w.heap.size ≤ (w.alloc (.cells #[.int .i64 l, .int .i64 h] 29)).heap.size := hbel.size
      go_enter Try.func6, Try.ntmps6
      go_wp2_with fail
      refine (awake_any _).mono ?_; rintro e w1 ⟨rfl, b0⟩
      have hd0 := (b0.cell (World.block_lt_of_cell? _ _ hc0)).trans hc0
      have hd1 := (b0.cell (World.block_lt_of_cell? _ _ hc1)).trans hc1
      have B0 := Lib.hid (hbel.trans (b0.mono hsz))
      clear b0 hbel hsz hc0 hc1
      go_wp2_with fail
      go_quiet (fail)
      have BD := Lib.hid (fun n => below_drewN B0.out n)
      go_wp2_with fail
      refine (H0.out _).mono ?_; rintro e w2 ⟨rfl, b1⟩
      have B1 := Lib.hid (Below.trans (BD.out _) (b1.mono (Below.size (BD.out _))))
      clear b1
      go_wp2_with fail
      refine (H1.out _).mono ?_; rintro e w3 ⟨rfl, b2⟩
      have B2 := Lib.hid (Below.trans B1.out (b2.mono (Below.size B1.out)))
      clear b2
      go_wp2_with fail
      go_ret
      exact ⟨rfl, B2.out⟩
  · have H0 := Lib.hid (fun w => (cvalB (pressure_any L w) (show presV L = 0 by unfold presV; rw [if_neg h1]) (show presE L = 2 by unfold presE; rw [if_neg h1])))
    have H1 := Lib.hid (fun w => pressure_any M w)
    generalize presV M = p1 at *
    generalize presE M = e1 at *
    clear h1
    have hbel := (Below.refl w.heap.size w).alloc (Nat.le_refl _) (.cells #[.int .i64 l, .int .i64 h] 29)
    have hc0 : (w.alloc (.cells #[.int .i64 l, .int .i64 h] 29)).cell? ⟨w.heap.size, 0, none⟩ = some (.int .i64 l) := by simp [World.cell?_alloc_new]
    have hc1 : (w.alloc (.cells #[.int .i64 l, .int .i64 h] 29)).cell? ⟨w.heap.size, 1, none⟩ = some (.int .i64 h) := by simp [World.cell?_alloc_new]
    have hsz : w.heap.size ≤ (w.alloc (.cells #[.int .i64 l, .int .i64 h] 29)).heap.size := hbel.size
    go_enter Try.func6, Try.ntmps6
    go_wp2_with fail
    refine (awake_any _).mono ?_; rintro e w1 ⟨rfl, b0⟩
    have hd0 := (b0.cell (World.block_lt_of_cell? _ _ hc0)).trans hc0
    have hd1 := (b0.cell (World.block_lt_of_cell? _ _ hc1)).trans hc1
    have B0 := Lib.hid (hbel.trans (b0.mono hsz))
    clear b0 hbel hsz hc0 hc1
    go_wp2_with fail
    go_quiet (fail)
    have BD := Lib.hid (fun n => below_drewN B0.out n)
    go_wp2_with fail
    refine (H0.out _).mono ?_; rintro e w2 ⟨rfl, b1⟩
    have B1 := Lib.hid (Below.trans (BD.out _) (b1.mono (Below.size (BD.out _))))
    clear b1
    go_wp2_with fail
    refine (H1.out _).mono ?_; rintro e w3 ⟨rfl, b2⟩
    have B2 := Lib.hid (Below.trans B1.out (b2.mono (Below.size B1.out)))
    clear b2
    go_wp2_with fail
    go_ret
    exact ⟨rfl, B2.out⟩
end Go.Proofs.Ytiddcmlnofdemaa
namespace Go.Proofs.Ytiddcmlnofdemaa.atmosphereFalls
open Go.ChangeShapes Go.WideShapes Go.ChangeAt Go.RowKit
open Go.ChangeMaps (open_string shut_string)
set_option linter.unusedVariables false
set_option linter.unusedSimpArgs false

theorem own : ownKnob Try.prog.godebug = none := by kernel_rfl
theorem laidOut : laidOutB Try.prog = true := by kernel_rfl

set_option maxRecDepth 100000 in
theorem lifted (os : Os) (started : os.Started) (H : Type) (enc : TypeId × Value → H) :
    ReturnsInHanded {} Try.checked os 6 .any (Rows.atmosphereFallsSpec.pre6 enc Try.prog Try.f6 Rows.atmosphereFallsRow.domain false) (Rows.atmosphereFallsSpec.post enc Try.prog Try.f6 false true false false) := by
  refine returnsInHanded_of_change (C := Try.checked) own started (by kernel_rfl) Try.func6
    (ChangeSpec.witness6 (enc := enc) (C := Try.checked) false ⟨#[], #[.agg #[.int .i64 0, .int .i64 0], .int .i64 0], []⟩ 8 (by kernel_rfl) (by kernel_rfl) (by kernel_rfl) (by kernel_rfl)) ?_
  intro W base args ds gs before hval0 hW hcnd _
  have hval : ∀ (j : Nat) t v, Try.f6.params[j]? = some t → args[j]? = some v → Value.okWide Try.prog W .any base t v := hval0
  have hW' := hW
  obtain ⟨p, q, hA0, hV, rfl, hfz, hnd⟩ := hW
  have hA : DataW.TrodAll enc Try.prog W 0 (fun _ => true) true Try.f6.params.toList args.toList ds p := hA0
  rw [Try.params6] at hA hval
  obtain ⟨v0, vs0, d0, ds0, p0, q0, hargs, rfl, rfl, h0, r0⟩ := trodAll_cons hA
  obtain ⟨v1, vs1, d1, ds1, p1, q1, rfl, rfl, rfl, h1, r1⟩ := trodAll_cons r0
  obtain ⟨rfl, rfl, rfl⟩ := trodAll_nil r1
  obtain rfl : args = #[v0, v1] := by cases args; simp_all
  obtain ⟨rfl, rfl⟩ := trodVars_none hV
  have k0 := h0
  have lt0 : ∀ x ∈ p0, x.block < W.heap.size := by obtain ⟨m, hm⟩ := k0; exact DataW.trod_lt m _ _ _ hm
  have k1 := h1
  have lt1 : ∀ x ∈ p1, x.block < W.heap.size := by obtain ⟨m, hm⟩ := k1; exact DataW.trod_lt m _ _ _ hm
  obtain ⟨a0, b0, rfl, w0, u0⟩ := open_arr2 Try.underlying29 Try.underlying2 (by kernel_rfl) (by kernel_rfl) (hval 0 29 v0 rfl rfl) h0
  obtain ⟨a1, rfl, rfl, rfl, w1⟩ := open_int Try.underlying2 (hval 1 2 v1 rfl rfl) h1
  clear hA0 hval0
  refine (Ytiddcmlnofdemaa.walk_AtmosphereFalls a0 b0 a1 W w0 u0 w1).mono fun e W' ⟨he, bel⟩ => ?_
  subst he
  exact ⟨_, rfl, _, _, _, [], _, [], hW', trodAll_mk1 (shut_bool Try.underlying4 _), (trodAll_cons_mk (Below.trod laidOut (by kernel_rfl) (of_decide_eq_true (by kernel_rfl)) k0 bel lt0) (trodAll_cons_mk (Below.trod laidOut (by kernel_rfl) (of_decide_eq_true (by kernel_rfl)) k1 bel lt1) trodAll_mk0)), rfl, bel.frame _, fun h => by cases h⟩

theorem over : Rows.atmosphereFallsRow.holds Try.pinned (OpenSpec.ofChange Rows.atmosphereFallsSpec) :=
  OpenClaim.holds_of_wide 6 Try.f6 rfl rfl rfl rfl rfl rfl rfl ⟨rfl, rfl, rfl, rfl, rfl⟩ rfl rfl rfl rfl rfl (by kernel_rfl) Try.func6 (by kernel_rfl)
    (of_decide_eq_true (by kernel_rfl)) (by unfold Func.isWrapper; first | (rw [if_pos (by decide +kernel)]; kernel_rfl) | (rw [if_neg (by decide +kernel)]; exact ⟨rfl, rfl⟩))
    (fun os started H enc _ => lifted os started H enc)

/-- the statement -/
theorem proved : Rows.AtmosphereFallsSaid := over
end Go.Proofs.Ytiddcmlnofdemaa.atmosphereFalls
