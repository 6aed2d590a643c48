/- The statement AtmosphereWarmer: for every input the law returns true, and every argument reads afterwards as before. No condition. -/
import Derived.Test.YtiddcmlnofdemaaRows
import Derived.Test.YtiddcmlnofdemaaLaBase29
import Derived.WalkKit
import Derived.ProofKit
import Derived.OpenShut
import Derived.ShutString
import Derived.ChangeOld
import Derived.Below
namespace Go.Proofs.Ytiddcmlnofdemaa
set_option linter.unusedSimpArgs false
set_option linter.unusedVariables false
open Go.RowKit
theorem tE_12 {a d : Int} (h : ¬ tE a d = 0) : tE a d = 1 ∨ tE a d = 2 := by
  unfold tE at *
  by_cases h1 : inAlt a
  · rw [if_pos h1] at *
    by_cases h2 : inDev d
    · rw [if_pos h2] at h; exact absurd rfl h
    · rw [if_neg h2]; exact .inl rfl
  · rw [if_neg h1]; exact .inr rfl
set_option maxRecDepth 100000 in
set_option maxHeartbeats 4000000 in
theorem walk_AtmosphereWarmer (a : Int) (l : Int) (h : Int) (w : World) (ha : (Lit.int .i64 a).wf = true) (hl : (Lit.int .i64 l).wf = true) (hh : (Lit.int .i64 h).wf = true) :
    Calls Try.prog 7 #[.int .i64 a, .agg #[.int .i64 l, .int .i64 h]] w fun e w' => e = .returned (.bool true) ∧ Below w.heap.size w w' := by
  have ai : I64 a := wf_i64_bd ha
  have li : I64 l := wf_i64_bd hl
  have hi : I64 h := wf_i64_bd hh
  clear ha
  clear hl
  clear hh
  obtain ⟨L, hL⟩ : ∃ L, min l h = L := ⟨_, rfl⟩
  obtain ⟨M, hM⟩ : ∃ M, max l h = M := ⟨_, rfl⟩
  have hLM : L ≤ M := by omega
  have Li : I64 L := by unfold I64 at *; omega
  have Mi : I64 M := by unfold I64 at *; omega
  by_cases e0 : tE a L = 0
  · by_cases e1 : tE a M = 0
    · obtain ⟨ia, dl⟩ := tE_zero e0
      obtain ⟨_, dm⟩ := tE_zero e1
      have H0 := Lib.hid (fun w => cvalB (aTemperature a L w) (show tmV a L = At.tempV a L by unfold tmV; rw [if_pos e0]) e0)
      have H1 := Lib.hid (fun w => cvalB (aTemperature a M w) (show tmV a M = At.tempV a M by unfold tmV; rw [if_pos e1]) e1)
      have H2 := Lib.hid (fun w => cvalB (aSound a L w) (show sdV a L = At.soundV a L by unfold sdV; rw [if_pos e0]) e0)
      have H3 := Lib.hid (fun w => cvalB (aSound a M w) (show sdV a M = At.soundV a M by unfold sdV; rw [if_pos e1]) e1)
      have H4 := Lib.hid (fun w => cvalB (aRatio a L w) (show rtV a L = At.ratV a L by unfold rtV; rw [if_pos e0]) e0)
      have H5 := Lib.hid (fun w => cvalB (aRatio a M w) (show rtV a M = At.ratV a M by unfold rtV; rw [if_pos e1]) e1)
      have tl := temp_bd ia dl
      have tm := temp_bd ia dm
      have td : At.tempV a M - At.tempV a L = M - L := by unfold At.tempV; omega
      have sp := At.soundV_pos (a := a) (d := L) (by omega)
      have sm : At.soundV a L ≤ At.soundV a M := At.soundV_mono (by omega)
      have hb := At.bdR a ia.1 ia.2
      unfold inDev at dl dm
      have rm : At.ratV a L ≤ At.ratV a M := At.ratV_mono (by omega) (Int.le_refl _) (by omega) hLM
      have rp : 1 ≤ At.ratV a L := by
        unfold At.ratV
        have k1 : 57630 ≤ At.vR a * (57630 + L) := by
          have k2 : 971400 * (57630 + L) ≤ At.vR a * (57630 + L) := Int.mul_le_mul_of_nonneg_right hb.1 (by omega)
          omega
        omega
      clear e0 e1 hb ia
      generalize At.tempV a L = t0 at *
      generalize At.tempV a M = t1 at *
      generalize At.soundV a L = s0 at *
      generalize At.soundV a M = s1 at *
      generalize At.ratV a L = r0 at *
      generalize At.ratV a M = r1 at *
      obtain ⟨dl0, dl1⟩ := dl
      obtain ⟨dm0, dm1⟩ := dm
      obtain ⟨tl0, tl1⟩ := tl
      obtain ⟨tm0, tm1⟩ := tm
      have n0 : ¬ L < -4000 := by omega
      have n1 : ¬ 4000 < M := by omega
      have n2 : ¬ s1 < s0 := by omega
      have n3 : ¬ s0 < 1 := by omega
      have n4 : (t1 - t0 == M - L) = true := beq_iff_eq.2 td
      have n5 : (t1 - t0 != M - L) = false := by simp [td]
      have i0 : IntKind.i64.wrap (t1 - t0) = t1 - t0 := IntWalk.i64_in _ (by omega)
      have i1 : IntKind.i64.wrap (M - L) = M - L := IntWalk.i64_in _ (by omega)
      have hbel := (Below.refl w.heap.size w).alloc (Nat.le_refl _) (.cells #[.int .i64 l, .int .i64 h] 29)
      have hc0 : (w.alloc (.cells #[.int .i64 l, .int .i64 h] 29)).cell? ⟨w.heap.size, 0, none⟩ = some (.int .i64 l) := by simp [World.cell?_alloc_new]
      have hc1 : (w.alloc (.cells #[.int .i64 l, .int .i64 h] 29)).cell? ⟨w.heap.size, 1, none⟩ = some (.int .i64 h) := by simp [World.cell?_alloc_new]
      have hsz : w.heap.size ≤ (w.alloc (.cells #[.int .i64 l, .int .i64 h] 29)).heap.size := hbel.size
      go_enter Try.func7, Try.ntmps7
      go_wp2_with fail
      refine (awake_any _).mono ?_; rintro e w1 ⟨rfl, b0⟩
      have hd0 := (b0.cell (World.block_lt_of_cell? _ _ hc0)).trans hc0
      have hd1 := (b0.cell (World.block_lt_of_cell? _ _ hc1)).trans hc1
      have B0 := Lib.hid (hbel.trans (b0.mono hsz))
      clear b0 hbel hsz hc0 hc1
      go_wp2_with fail
      go_quiet (fail)
      have BD := Lib.hid (fun n => below_drewN B0.out n)
      go_wp2_with fail
      refine (H0.out _).mono ?_; rintro e w2 ⟨rfl, b1⟩
      have B1 := Lib.hid (Below.trans (BD.out _) (b1.mono (Below.size (BD.out _))))
      clear b1
      go_wp2_with fail
      refine (H1.out _).mono ?_; rintro e w3 ⟨rfl, b2⟩
      have B2 := Lib.hid (Below.trans B1.out (b2.mono (Below.size B1.out)))
      clear b2
      go_wp2_with fail
      refine (H2.out _).mono ?_; rintro e w4 ⟨rfl, b3⟩
      have B3 := Lib.hid (Below.trans B2.out (b3.mono (Below.size B2.out)))
      clear b3
      go_wp2_with fail
      refine (H3.out _).mono ?_; rintro e w5 ⟨rfl, b4⟩
      have B4 := Lib.hid (Below.trans B3.out (b4.mono (Below.size B3.out)))
      clear b4
      go_wp2_with fail
      refine (H4.out _).mono ?_; rintro e w6 ⟨rfl, b5⟩
      have B5 := Lib.hid (Below.trans B4.out (b5.mono (Below.size B4.out)))
      clear b5
      go_wp2_with fail
      refine (H5.out _).mono ?_; rintro e w7 ⟨rfl, b6⟩
      have B6 := Lib.hid (Below.trans B5.out (b6.mono (Below.size B5.out)))
      clear b6
      go_wp2_with fail
      all_goals (go_ret; exact ⟨rfl, B6.out⟩)
    · have ec : tE a M = 1 ∨ tE a M = 2 := tE_12 e1
      rcases ec with ec | ec
      · have H0 := Lib.hid (fun w => cvalB (aTemperature a L w) rfl e0)
        have H1 := Lib.hid (fun w => cvalB (aTemperature a M w) (show tmV a M = 0 by unfold tmV; rw [if_neg e1]) ec)
        clear e0 e1 ec
        generalize tmV a L = t0 at *
        have hbel := (Below.refl w.heap.size w).alloc (Nat.le_refl _) (.cells #[.int .i64 l, .int .i64 h] 29)
        have hc0 : (w.alloc (.cells #[.int .i64 l, .int .i64 h] 29)).cell? ⟨w.heap.size, 0, none⟩ = some (.int .i64 l) := by simp [World.cell?_alloc_new]
        have hc1 : (w.alloc (.cells #[.int .i64 l, .int .i64 h] 29)).cell? ⟨w.heap.size, 1, none⟩ = some (.int .i64 h) := by simp [World.cell?_alloc_new]
        have hsz : w.heap.size ≤ (w.alloc (.cells #[.int .i64 l, .int .i64 h] 29)).heap.size := hbel.size
        go_enter Try.func7, Try.ntmps7
        go_wp2_with fail
        refine (awake_any _).mono ?_; rintro e w1 ⟨rfl, b0⟩
        have hd0 := (b0.cell (World.block_lt_of_cell? _ _ hc0)).trans hc0
        have hd1 := (b0.cell (World.block_lt_of_cell? _ _ hc1)).trans hc1
        have B0 := Lib.hid (hbel.trans (b0.mono hsz))
        clear b0 hbel hsz hc0 hc1
        go_wp2_with fail
        go_quiet (fail)
        have BD := Lib.hid (fun n => below_drewN B0.out n)
        go_wp2_with fail
        refine (H0.out _).mono ?_; rintro e w2 ⟨rfl, b1⟩
        have B1 := Lib.hid (Below.trans (BD.out _) (b1.mono (Below.size (BD.out _))))
        clear b1
        go_wp2_with fail
        refine (H1.out _).mono ?_; rintro e w3 ⟨rfl, b2⟩
        have B2 := Lib.hid (Below.trans B1.out (b2.mono (Below.size B1.out)))
        clear b2
        go_wp2_with fail
        all_goals (go_ret; exact ⟨rfl, B2.out⟩)
      · have H0 := Lib.hid (fun w => cvalB (aTemperature a L w) rfl e0)
        have H1 := Lib.hid (fun w => cvalB (aTemperature a M w) (show tmV a M = 0 by unfold tmV; rw [if_neg e1]) ec)
        clear e0 e1 ec
        generalize tmV a L = t0 at *
        have hbel := (Below.refl w.heap.size w).alloc (Nat.le_refl _) (.cells #[.int .i64 l, .int .i64 h] 29)
        have hc0 : (w.alloc (.cells #[.int .i64 l, .int .i64 h] 29)).cell? ⟨w.heap.size, 0, none⟩ = some (.int .i64 l) := by simp [World.cell?_alloc_new]
        have hc1 : (w.alloc (.cells #[.int .i64 l, .int .i64 h] 29)).cell? ⟨w.heap.size, 1, none⟩ = some (.int .i64 h) := by simp [World.cell?_alloc_new]
        have hsz : w.heap.size ≤ (w.alloc (.cells #[.int .i64 l, .int .i64 h] 29)).heap.size := hbel.size
        go_enter Try.func7, Try.ntmps7
        go_wp2_with fail
        refine (awake_any _).mono ?_; rintro e w1 ⟨rfl, b0⟩
        have hd0 := (b0.cell (World.block_lt_of_cell? _ _ hc0)).trans hc0
        have hd1 := (b0.cell (World.block_lt_of_cell? _ _ hc1)).trans hc1
        have B0 := Lib.hid (hbel.trans (b0.mono hsz))
        clear b0 hbel hsz hc0 hc1
        go_wp2_with fail
        go_quiet (fail)
        have BD := Lib.hid (fun n => below_drewN B0.out n)
        go_wp2_with fail
        refine (H0.out _).mono ?_; rintro e w2 ⟨rfl, b1⟩
        have B1 := Lib.hid (Below.trans (BD.out _) (b1.mono (Below.size (BD.out _))))
        clear b1
        go_wp2_with fail
        refine (H1.out _).mono ?_; rintro e w3 ⟨rfl, b2⟩
        have B2 := Lib.hid (Below.trans B1.out (b2.mono (Below.size B1.out)))
        clear b2
        go_wp2_with fail
        all_goals (go_ret; exact ⟨rfl, B2.out⟩)
  · have ec : tE a L = 1 ∨ tE a L = 2 := tE_12 e0
    rcases ec with ec | ec
    · have H0 := Lib.hid (fun w => cvalB (aTemperature a L w) (show tmV a L = 0 by unfold tmV; rw [if_neg e0]) ec)
      have H1 := Lib.hid (fun w => aTemperature a M w)
      clear e0 ec
      generalize tmV a M = t1 at *
      generalize tE a M = x1 at *
      have hbel := (Below.refl w.heap.size w).alloc (Nat.le_refl _) (.cells #[.int .i64 l, .int .i64 h] 29)
      have hc0 : (w.alloc (.cells #[.int .i64 l, .int .i64 h] 29)).cell? ⟨w.heap.size, 0, none⟩ = some (.int .i64 l) := by simp [World.cell?_alloc_new]
      have hc1 : (w.alloc (.cells #[.int .i64 l, .int .i64 h] 29)).cell? ⟨w.heap.size, 1, none⟩ = some (.int .i64 h) := by simp [World.cell?_alloc_new]
      have hsz : w.heap.size ≤ (w.alloc (.cells #[.int .i64 l, .int .i64 h] 29)).heap.size := hbel.size
      go_enter Try.func7, Try.ntmps7
      go_wp2_with fail
      refine (awake_any _).mono ?_; rintro e w1 ⟨rfl, b0⟩
      have hd0 := (b0.cell (World.block_lt_of_cell? _ _ hc0)).trans hc0
      have hd1 := (b0.cell (World.block_lt_of_cell? _ _ hc1)).trans hc1
      have B0 := Lib.hid (hbel.trans (b0.mono hsz))
      clear b0 hbel hsz hc0 hc1
      go_wp2_with fail
      go_quiet (fail)
      have BD := Lib.hid (fun n => below_drewN B0.out n)
      go_wp2_with fail
      refine (H0.out _).mono ?_; rintro e w2 ⟨rfl, b1⟩
      have B1 := Lib.hid (Below.trans (BD.out _) (b1.mono (Below.size (BD.out _))))
      clear b1
      go_wp2_with fail
      refine (H1.out _).mono ?_; rintro e w3 ⟨rfl, b2⟩
      have B2 := Lib.hid (Below.trans B1.out (b2.mono (Below.size B1.out)))
      clear b2
      go_wp2_with fail
      all_goals (go_ret; exact ⟨rfl, B2.out⟩)
    · have H0 := Lib.hid (fun w => cvalB (aTemperature a L w) (show tmV a L = 0 by unfold tmV; rw [if_neg e0]) ec)
      have H1 := Lib.hid (fun w => aTemperature a M w)
      clear e0 ec
      generalize tmV a M = t1 at *
      generalize tE a M = x1 at *
      have hbel := (Below.refl w.heap.size w).alloc (Nat.le_refl _) (.cells #[.int .i64 l, .int .i64 h] 29)
      have hc0 : (w.alloc (.cells #[.int .i64 l, .int .i64 h] 29)).cell? ⟨w.heap.size, 0, none⟩ = some (.int .i64 l) := by simp [World.cell?_alloc_new]
      have hc1 : (w.alloc (.cells #[.int .i64 l, .int .i64 h] 29)).cell? ⟨w.heap.size, 1, none⟩ = some (.int .i64 h) := by simp [World.cell?_alloc_new]
      have hsz : w.heap.size ≤ (w.alloc (.cells #[.int .i64 l, .int .i64 h] 29)).heap.size := hbel.size
      go_enter Try.func7, Try.ntmps7
      go_wp2_with fail
      refine (awake_any _).mono ?_; rintro e w1 ⟨rfl, b0⟩
      have hd0 := (b0.cell (World.block_lt_of_cell? _ _ hc0)).trans hc0
      have hd1 := (b0.cell (World.block_lt_of_cell? _ _ hc1)).trans hc1
      have B0 := Lib.hid (hbel.trans (b0.mono hsz))
      clear b0 hbel hsz hc0 hc1
      go_wp2_with fail
      go_quiet (fail)
      have BD := Lib.hid (fun n => below_drewN B0.out n)
      go_wp2_with fail
      refine (H0.out _).mono ?_; rintro e w2 ⟨rfl, b1⟩
      have B1 := Lib.hid (Below.trans (BD.out _) (b1.mono (Below.size (BD.out _))))
      clear b1
      go_wp2_with fail
      refine (H1.out _).mono ?_; rintro e w3 ⟨rfl, b2⟩
      have B2 := Lib.hid (Below.trans B1.out (b2.mono (Below.size B1.out)))
      clear b2
      go_wp2_with fail
      all_goals (go_ret; exact ⟨rfl, B2.out⟩)
end Go.Proofs.Ytiddcmlnofdemaa
namespace Go.Proofs.Ytiddcmlnofdemaa.atmosphereWarmer
open Go.ChangeShapes Go.WideShapes Go.ChangeAt Go.RowKit
open Go.ChangeMaps (open_string shut_string)
set_option linter.unusedVariables false
set_option linter.unusedSimpArgs false

theorem own : ownKnob Try.prog.godebug = none := by kernel_rfl
theorem laidOut : laidOutB Try.prog = true := by kernel_rfl

set_option maxRecDepth 100000 in
theorem lifted (os : Os) (started : os.Started) (H : Type) (enc : TypeId × Value → H) :
    ReturnsInHanded {} Try.checked os 7 .any (Rows.atmosphereWarmerSpec.pre6 enc Try.prog Try.f7 Rows.atmosphereWarmerRow.domain false) (Rows.atmosphereWarmerSpec.post enc Try.prog Try.f7 false true false false) := by
  refine returnsInHanded_of_change (C := Try.checked) own started (by kernel_rfl) Try.func7
    (ChangeSpec.witness6 (enc := enc) (C := Try.checked) false ⟨#[], #[.int .i64 0, .agg #[.int .i64 0, .int .i64 0]], []⟩ 8 (by kernel_rfl) (by kernel_rfl) (by kernel_rfl) (by kernel_rfl)) ?_
  intro W base args ds gs before hval0 hW hcnd _
  have hval : ∀ (j : Nat) t v, Try.f7.params[j]? = some t → args[j]? = some v → Value.okWide Try.prog W .any base t v := hval0
  have hW' := hW
  obtain ⟨p, q, hA0, hV, rfl, hfz, hnd⟩ := hW
  have hA : DataW.TrodAll enc Try.prog W 0 (fun _ => true) true Try.f7.params.toList args.toList ds p := hA0
  rw [Try.params7] at hA hval
  obtain ⟨v0, vs0, d0, ds0, p0, q0, hargs, rfl, rfl, h0, r0⟩ := trodAll_cons hA
  obtain ⟨v1, vs1, d1, ds1, p1, q1, rfl, rfl, rfl, h1, r1⟩ := trodAll_cons r0
  obtain ⟨rfl, rfl, rfl⟩ := trodAll_nil r1
  obtain rfl : args = #[v0, v1] := by cases args; simp_all
  obtain ⟨rfl, rfl⟩ := trodVars_none hV
  have k0 := h0
  have lt0 : ∀ x ∈ p0, x.block < W.heap.size := by obtain ⟨m, hm⟩ := k0; exact DataW.trod_lt m _ _ _ hm
  have k1 := h1
  have lt1 : ∀ x ∈ p1, x.block < W.heap.size := by obtain ⟨m, hm⟩ := k1; exact DataW.trod_lt m _ _ _ hm
  obtain ⟨a0, rfl, rfl, rfl, w0⟩ := open_int Try.underlying2 (hval 0 2 v0 rfl rfl) h0
  obtain ⟨a1, b1, rfl, w1, u1⟩ := open_arr2 Try.underlying29 Try.underlying2 (by kernel_rfl) (by kernel_rfl) (hval 1 29 v1 rfl rfl) h1
  clear hA0 hval0
  refine (Ytiddcmlnofdemaa.walk_AtmosphereWarmer a0 a1 b1 W w0 w1 u1).mono fun e W' ⟨he, bel⟩ => ?_
  subst he
  exact ⟨_, rfl, _, _, _, [], _, [], hW', trodAll_mk1 (shut_bool Try.underlying4 _), (trodAll_cons_mk (Below.trod laidOut (by kernel_rfl) (of_decide_eq_true (by kernel_rfl)) k0 bel lt0) (trodAll_cons_mk (Below.trod laidOut (by kernel_rfl) (of_decide_eq_true (by kernel_rfl)) k1 bel lt1) trodAll_mk0)), rfl, bel.frame _, fun h => by cases h⟩

theorem over : Rows.atmosphereWarmerRow.holds Try.pinned (OpenSpec.ofChange Rows.atmosphereWarmerSpec) :=
  OpenClaim.holds_of_wide 7 Try.f7 rfl rfl rfl rfl rfl rfl rfl ⟨rfl, rfl, rfl, rfl, rfl⟩ rfl rfl rfl rfl rfl (by kernel_rfl) Try.func7 (by kernel_rfl)
    (of_decide_eq_true (by kernel_rfl)) (by unfold Func.isWrapper; first | (rw [if_pos (by decide +kernel)]; kernel_rfl) | (rw [if_neg (by decide +kernel)]; exact ⟨rfl, rfl⟩))
    (fun os started H enc _ => lifted os started H enc)

/-- the statement -/
theorem proved : Rows.AtmosphereWarmerSaid := over
end Go.Proofs.Ytiddcmlnofdemaa.atmosphereWarmer
