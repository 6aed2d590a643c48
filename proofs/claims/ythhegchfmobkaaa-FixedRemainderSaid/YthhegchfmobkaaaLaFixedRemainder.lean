/- The statement FixedRemainder: for every input the law returns true, and every argument reads afterwards as before. No condition. -/
import Derived.Test.YthhegchfmobkaaaRows
import Derived.Test.YthhegchfmobkaaaLaBase
import Derived.WalkKit
import Derived.ProofKit
import Derived.OpenShut
import Derived.ShutString
import Derived.ChangeOld
import Derived.Below
namespace Go.Proofs.Ythhegchfmobkaaa
set_option linter.unusedSimpArgs false
set_option linter.unusedVariables false
open Go.RowKit
theorem u64_rest (a b q c R : Int) (h : a * b - q * c = R) (h0 : 0 ≤ R) (h1 : R < 18446744073709551616) :
    IntKind.u64.wrap (IntKind.u64.wrap (IntKind.u64.wrap a * IntKind.u64.wrap b) - IntKind.u64.wrap (IntKind.u64.wrap q * c)) = R := by
  simp only [wrapu]
  have e1 := (Int.mul_emod a b 18446744073709551616).symm
  have e2 : (q % 18446744073709551616 * c) % 18446744073709551616 = (q * c) % 18446744073709551616 := by rw [Int.mul_emod, Int.emod_emod, ← Int.mul_emod]
  rw [e1, e2, ← Int.sub_emod, h]
  omega
set_option maxRecDepth 100000 in
set_option maxHeartbeats 2000000 in
theorem walk_FixedRemainder (a : Int) (b : Int) (c : Int) (w : World) (ha : (Lit.int .i64 a).wf = true) (hb : (Lit.int .i64 b).wf = true) (hc : (Lit.int .i64 c).wf = true) :
    Calls Try.prog 5 #[.int .i64 a, .int .i64 b, .int .i64 c] w fun e w' => e = .returned (.bool true) ∧ Below w.heap.size w w' := by
  have ai : I64 a := wf_i64_bd ha
  have bi : I64 b := wf_i64_bd hb
  have ci : I64 c := wf_i64_bd hc
  clear ha
  clear hb
  clear hc
  by_cases hc : c ≤ 0
  · have H0 := Lib.hid (fun w => xMulDiv a b c ai bi ci w)
    have H1 := Lib.hid (fun w => xMulDivUp a b c ai bi ci w)
    go_enter Try.func5, Try.ntmps5
    go_wp2_with fail
    refine (awake_any _).mono ?_; rintro e w' ⟨rfl, n, rfl⟩
    go_wp2_with fail
    refine (H0.out _).mono ?_; rintro e w' ⟨rfl, n, rfl⟩
    go_wp2_with fail
    refine (H1.out _).mono ?_; rintro e w' ⟨rfl, n, rfl⟩
    go_wp2_with fail
    go_ret
    exact ⟨rfl, below_drewN (Below.refl _ _) _⟩
  · have hc' : 0 < c := by omega
    rcases Fx.scE_02 (m := 0) (a := a) (b := b) hc' with hE | hE
    · rcases Fx.scE_02 (m := 1) (a := a) (b := b) hc' with hF | hF
      · have r := Fx.rest_v (a := a) (b := b) hc'
        have v0 := Fx.scV_ok hc' hE
        have v1 := Fx.scV_ok hc' hF
        have si := Fx_scV_I64 1 a b c
        rw [v1] at si
        obtain ⟨q, hq⟩ : ∃ q, Fx.rq 0 (a * b) c = q := ⟨_, rfl⟩
        obtain ⟨R, hR⟩ : ∃ R, a * b - q * c = R := ⟨_, rfl⟩
        rw [hq, hR] at r
        obtain ⟨r0, r1, r2, r3⟩ := r
        have c1 := ci.2
        have eR := u64_rest a b q c R hR r0 (by omega)
        have H0 := Lib.hid (fun w => cval (xMulDiv a b c ai bi ci w) (v0.trans hq) hE)
        by_cases hz : R = 0
        · have H1 := Lib.hid (fun w => cval (xMulDivUp a b c ai bi ci w) (v1.trans (r2 hz)) hF)
          have hz0 : (R == 0) = true := beq_iff_eq.2 hz
          have HR := Lib.hid hR
          have HZ := Lib.hid hz
          clear hR hz r2 r3 hq hE hF v0 v1 si
          go_enter Try.func5, Try.ntmps5
          go_wp2_with fail
          refine (awake_any _).mono ?_; rintro e w' ⟨rfl, n, rfl⟩
          go_wp2_with fail
          refine (H0.out _).mono ?_; rintro e w' ⟨rfl, n, rfl⟩
          go_wp2_with fail
          refine (H1.out _).mono ?_; rintro e w' ⟨rfl, n, rfl⟩
          go_wp2_with fail
          go_ret
          exact ⟨rfl, below_drewN (Below.refl _ _) _⟩
        · rw [r3 hz] at si
          have s1 := si.2
          have H1 := Lib.hid (fun w => cval (xMulDivUp a b c ai bi ci w) (v1.trans (r3 hz)) hF)
          have hz0 : (R == 0) = false := beq_eq_false_iff_ne.2 hz
          have HR := Lib.hid hR
          have q0 : -9223372036854775808 ≤ q := by have := (Fx_scV_I64 0 a b c).1; rw [v0, hq] at this; exact this
          clear hR hz r2 r3 hq hE hF v0 v1 si
          go_enter Try.func5, Try.ntmps5
          go_wp2_with fail
          refine (awake_any _).mono ?_; rintro e w' ⟨rfl, n, rfl⟩
          go_wp2_with fail
          refine (H0.out _).mono ?_; rintro e w' ⟨rfl, n, rfl⟩
          go_wp2_with fail
          refine (H1.out _).mono ?_; rintro e w' ⟨rfl, n, rfl⟩
          go_wp2_with fail
          go_ret
          exact ⟨rfl, below_drewN (Below.refl _ _) _⟩
      · have H0 := Lib.hid (fun w => cval (xMulDiv a b c ai bi ci w) rfl hE)
        have H1 := Lib.hid (fun w => cval (xMulDivUp a b c ai bi ci w) rfl hF)
        clear hE hF
        go_enter Try.func5, Try.ntmps5
        go_wp2_with fail
        refine (awake_any _).mono ?_; rintro e w' ⟨rfl, n, rfl⟩
        go_wp2_with fail
        refine (H0.out _).mono ?_; rintro e w' ⟨rfl, n, rfl⟩
        go_wp2_with fail
        refine (H1.out _).mono ?_; rintro e w' ⟨rfl, n, rfl⟩
        go_wp2_with fail
        go_ret
        exact ⟨rfl, below_drewN (Below.refl _ _) _⟩
    · have H0 := Lib.hid (fun w => cval (xMulDiv a b c ai bi ci w) rfl hE)
      have H1 := Lib.hid (fun w => xMulDivUp a b c ai bi ci w)
      clear hE
      go_enter Try.func5, Try.ntmps5
      go_wp2_with fail
      refine (awake_any _).mono ?_; rintro e w' ⟨rfl, n, rfl⟩
      go_wp2_with fail
      refine (H0.out _).mono ?_; rintro e w' ⟨rfl, n, rfl⟩
      go_wp2_with fail
      refine (H1.out _).mono ?_; rintro e w' ⟨rfl, n, rfl⟩
      go_wp2_with fail
      go_ret
      exact ⟨rfl, below_drewN (Below.refl _ _) _⟩
end Go.Proofs.Ythhegchfmobkaaa
namespace Go.Proofs.Ythhegchfmobkaaa.fixedRemainder
open Go.ChangeShapes Go.WideShapes Go.ChangeAt Go.RowKit
open Go.ChangeMaps (open_string shut_string)
set_option linter.unusedVariables false
set_option linter.unusedSimpArgs false

theorem own : ownKnob Try.prog.godebug = none := by kernel_rfl
theorem laidOut : laidOutB Try.prog = true := by kernel_rfl

set_option maxRecDepth 100000 in
theorem lifted (os : Os) (started : os.Started) (H : Type) (enc : TypeId × Value → H) :
    ReturnsInHanded {} Try.checked os 5 .any (Rows.fixedRemainderSpec.pre6 enc Try.prog Try.f5 Rows.fixedRemainderRow.domain false) (Rows.fixedRemainderSpec.post enc Try.prog Try.f5 false true false false) := by
  refine returnsInHanded_of_change (C := Try.checked) own started (by kernel_rfl) Try.func5
    (ChangeSpec.witness6 (enc := enc) (C := Try.checked) false ⟨#[], #[.int .i64 0, .int .i64 0, .int .i64 0], []⟩ 8 (by kernel_rfl) (by kernel_rfl) (by kernel_rfl) (by kernel_rfl)) ?_
  intro W base args ds gs before hval0 hW hcnd _
  have hval : ∀ (j : Nat) t v, Try.f5.params[j]? = some t → args[j]? = some v → Value.okWide Try.prog W .any base t v := hval0
  have hW' := hW
  obtain ⟨p, q, hA0, hV, rfl, hfz, hnd⟩ := hW
  have hA : DataW.TrodAll enc Try.prog W 0 (fun _ => true) true Try.f5.params.toList args.toList ds p := hA0
  rw [Try.params5] at hA hval
  obtain ⟨v0, vs0, d0, ds0, p0, q0, hargs, rfl, rfl, h0, r0⟩ := trodAll_cons hA
  obtain ⟨v1, vs1, d1, ds1, p1, q1, rfl, rfl, rfl, h1, r1⟩ := trodAll_cons r0
  obtain ⟨v2, vs2, d2, ds2, p2, q2, rfl, rfl, rfl, h2, r2⟩ := trodAll_cons r1
  obtain ⟨rfl, rfl, rfl⟩ := trodAll_nil r2
  obtain rfl : args = #[v0, v1, v2] := by cases args; simp_all
  obtain ⟨rfl, rfl⟩ := trodVars_none hV
  have k0 := h0
  have lt0 : ∀ x ∈ p0, x.block < W.heap.size := by obtain ⟨m, hm⟩ := k0; exact DataW.trod_lt m _ _ _ hm
  have k1 := h1
  have lt1 : ∀ x ∈ p1, x.block < W.heap.size := by obtain ⟨m, hm⟩ := k1; exact DataW.trod_lt m _ _ _ hm
  have k2 := h2
  have lt2 : ∀ x ∈ p2, x.block < W.heap.size := by obtain ⟨m, hm⟩ := k2; exact DataW.trod_lt m _ _ _ hm
  obtain ⟨a0, rfl, rfl, rfl, w0⟩ := open_int Try.underlying2 (hval 0 2 v0 rfl rfl) h0
  obtain ⟨a1, rfl, rfl, rfl, w1⟩ := open_int Try.underlying2 (hval 1 2 v1 rfl rfl) h1
  obtain ⟨a2, rfl, rfl, rfl, w2⟩ := open_int Try.underlying2 (hval 2 2 v2 rfl rfl) h2
  clear hA0 hval0
  refine (Ythhegchfmobkaaa.walk_FixedRemainder a0 a1 a2 W w0 w1 w2).mono fun e W' ⟨he, bel⟩ => ?_
  subst he
  exact ⟨_, rfl, _, _, _, [], _, [], hW', trodAll_mk1 (shut_bool Try.underlying4 _), (trodAll_cons_mk (Below.trod laidOut (by kernel_rfl) (of_decide_eq_true (by kernel_rfl)) k0 bel lt0) (trodAll_cons_mk (Below.trod laidOut (by kernel_rfl) (of_decide_eq_true (by kernel_rfl)) k1 bel lt1) (trodAll_cons_mk (Below.trod laidOut (by kernel_rfl) (of_decide_eq_true (by kernel_rfl)) k2 bel lt2) trodAll_mk0))), rfl, bel.frame _, fun h => by cases h⟩

theorem over : Rows.fixedRemainderRow.holds Try.pinned (OpenSpec.ofChange Rows.fixedRemainderSpec) :=
  OpenClaim.holds_of_wide 5 Try.f5 rfl rfl rfl rfl rfl rfl rfl ⟨rfl, rfl, rfl, rfl, rfl⟩ rfl rfl rfl rfl rfl (by kernel_rfl) Try.func5 (by kernel_rfl)
    (of_decide_eq_true (by kernel_rfl)) (by unfold Func.isWrapper; first | (rw [if_pos (by decide +kernel)]; kernel_rfl) | (rw [if_neg (by decide +kernel)]; exact ⟨rfl, rfl⟩))
    (fun os started H enc _ => lifted os started H enc)

/-- the statement -/
theorem proved : Rows.FixedRemainderSaid := over
end Go.Proofs.Ythhegchfmobkaaa.fixedRemainder
