/- The statement VerticalReaches: for every input the law returns true, and every argument reads afterwards as before. No condition. -/
import Derived.Test.YtgclfkgnkohgdaaRows
import Derived.Test.YtgclfkgnkohgdaaLaBase51
import Derived.Test.YtgclfkgnkohgdaaVtPlain2
import Derived.WalkKit
import Derived.ProofKit
import Derived.OpenShut
import Derived.ShutString
import Derived.ChangeOld
import Derived.Below
namespace Go.Proofs.Ytgclfkgnkohgdaa
set_option linter.unusedSimpArgs false
set_option linter.unusedVariables false
open Go.RowKit
def ReachRel (t m : Int) (D : Nat) (va vi : Value) (w wr : World) : Prop := ∃ (k : Nat) (A : Int), k ≤ D + 2 ∧ vi = .int .i64 k ∧ va = .int .i64 A ∧ (t - A).natAbs ≤ D - k ∧ I64 A ∧ (0 < k → Vt.okCm A t m) ∧ Below w.heap.size w wr
theorem ret_tt_VerticalReaches {b : Bool} (h : b = true) : Ending.returned (.bool b) = .returned (.bool true) := by rw [h]
set_option maxRecDepth 100000 in
set_option maxHeartbeats 2000000 in
theorem walk_VerticalReaches (a t m : Int) (w : World) (ha : (Lit.int .i64 a).wf = true) (ht : (Lit.int .i64 t).wf = true) (hm : (Lit.int .i64 m).wf = true) :
    Calls Try.prog 5 #[.int .i64 a, .int .i64 t, .int .i64 m] w fun e w' => e = .returned (.bool true) ∧ Below w.heap.size w w' := by
  have ia : I64 a := wf_i64_bd ha
  have Ia := Lib.hid ia
  obtain ⟨a0, a1⟩ := ia
  have it : I64 t := wf_i64_bd ht
  have It := Lib.hid it
  obtain ⟨t0, t1⟩ := it
  have im : I64 m := wf_i64_bd hm
  have Im := Lib.hid im
  obtain ⟨m0, m1⟩ := im
  clear ha ht hm
  have hmid := satV_I64 (t - a)
  obtain ⟨d0, d1⟩ := hmid
  by_cases hm : m < 1
  · obtain ⟨D, hD⟩ : ∃ D, satV (t - a) = D := ⟨_, rfl⟩
    rw [hD] at d0 d1
    have HD := Lib.hid hD
    clear hD
    by_cases x0 : D < -3000
    · skip
      go_enter Try.func5, Try.ntmps5
      go_wp2_with fail
      refine (awake_any _).mono ?_; rintro e w1 ⟨rfl, b0⟩
      have B0 := Lib.hid b0
      clear b0
      go_wp2_with fail
      refine (xDeviation a t Ia.out It.out _).mono ?_; rintro e w2 ⟨rfl, rfl⟩
      rw [HD.out]
      go_wp2_with fail
      go_ret
      exact ⟨rfl, B0.out⟩
    · by_cases x1 : 3000 < D
      · skip
        go_enter Try.func5, Try.ntmps5
        go_wp2_with fail
        refine (awake_any _).mono ?_; rintro e w1 ⟨rfl, b0⟩
        have B0 := Lib.hid b0
        clear b0
        go_wp2_with fail
        refine (xDeviation a t Ia.out It.out _).mono ?_; rintro e w2 ⟨rfl, rfl⟩
        rw [HD.out]
        go_wp2_with fail
        go_ret
        exact ⟨rfl, B0.out⟩
      · skip
        go_enter Try.func5, Try.ntmps5
        go_wp2_with fail
        refine (awake_any _).mono ?_; rintro e w1 ⟨rfl, b0⟩
        have B0 := Lib.hid b0
        clear b0
        go_wp2_with fail
        refine (xDeviation a t Ia.out It.out _).mono ?_; rintro e w2 ⟨rfl, rfl⟩
        rw [HD.out]
        go_wp2_with fail
        go_ret
        exact ⟨rfl, B0.out⟩
  · by_cases x0 : satV (t - a) < -3000
    · obtain ⟨D, hD⟩ : ∃ D, satV (t - a) = D := ⟨_, rfl⟩
      rw [hD] at d0 d1 x0
      have HD := Lib.hid hD
      clear hD
      go_enter Try.func5, Try.ntmps5
      go_wp2_with fail
      refine (awake_any _).mono ?_; rintro e w1 ⟨rfl, b0⟩
      have B0 := Lib.hid b0
      clear b0
      go_wp2_with fail
      refine (xDeviation a t Ia.out It.out _).mono ?_; rintro e w2 ⟨rfl, rfl⟩
      rw [HD.out]
      go_wp2_with fail
      go_ret
      exact ⟨rfl, B0.out⟩
    · by_cases x1 : 3000 < satV (t - a)
      · obtain ⟨D, hD⟩ : ∃ D, satV (t - a) = D := ⟨_, rfl⟩
        rw [hD] at d0 d1 x0 x1
        have HD := Lib.hid hD
        clear hD
        go_enter Try.func5, Try.ntmps5
        go_wp2_with fail
        refine (awake_any _).mono ?_; rintro e w1 ⟨rfl, b0⟩
        have B0 := Lib.hid b0
        clear b0
        go_wp2_with fail
        refine (xDeviation a t Ia.out It.out _).mono ?_; rintro e w2 ⟨rfl, rfl⟩
        rw [HD.out]
        go_wp2_with fail
        go_ret
        exact ⟨rfl, B0.out⟩
      · have hin : satV (t - a) = t - a := by
          unfold satV at x0 x1 ⊢
          by_cases h1 : 9223372036854775807 < t - a
          · rw [if_pos h1] at x1; omega
          · rw [if_neg h1] at x0 x1 ⊢
            by_cases h2 : t - a < -9223372036854775808
            · rw [if_pos h2] at x0; omega
            · rw [if_neg h2]
        rw [hin] at d0 d1 x0 x1
        obtain ⟨D, hD⟩ : ∃ D, satV (t - a) = D := ⟨_, rfl⟩
        have hDt : D = t - a := by omega
        have HD := Lib.hid hD
        have HDT := Lib.hid hDt
        obtain ⟨N, hN⟩ : ∃ N : Nat, N = (t - a).natAbs := ⟨_, rfl⟩
        have y0 : ¬ D < -3000 := by omega
        have y1 : ¬ 3000 < D := by omega
        have n0 : N ≤ 3000 := by omega
        have hmx : max D (-D) = (N : Int) := by omega
        have HN := Lib.hid hN
        clear hD hDt hN hin x0 x1 d0 d1
        go_enter Try.func5, Try.ntmps5
        go_wp2_with fail
        refine (awake_any _).mono ?_; rintro e w1 ⟨rfl, b0⟩
        have B0 := Lib.hid b0
        clear b0
        go_wp2_with fail
        refine (xDeviation a t Ia.out It.out _).mono ?_; rintro e w2 ⟨rfl, rfl⟩
        rw [HD.out]
        go_wp2_with fail
        go_loopw [0, 32] (fun va vi wr => ReachRel t m N va vi w wr) (fun _ vi _ => N + 2 - (intOf vi).toNat)
        case atStart => exact ⟨0, a, by omega, rfl, rfl, by have := HN.out; omega, Ia.out, fun h => by omega, B0.out⟩
        case round =>
          obtain ⟨k, A, hk, rfl, rfl, hA, hIA, hOK, hB⟩ := hrel
          have HOK := Lib.hid hOK
          have HB := Lib.hid hB
          have HA := Lib.hid hA
          obtain ⟨A0, A1⟩ := hIA
          clear hOK hB hA
          by_cases hlt : k < N + 2
          · by_cases hok : Vt.okCm A t m
            · have hst := Vt.cm_step hok (show 1 ≤ m by omega)
              have hE := Lib.hid (show Vt.cmE A t m = 0 by unfold Vt.cmE; rw [if_pos hok])
              have hv := Vt.cmV_any A t m
              obtain ⟨V, hV⟩ : ∃ V, Vt.cmV A t m = V := ⟨_, rfl⟩
              rw [hV] at hst hv
              obtain ⟨v0, v1⟩ := hv
              obtain ⟨⟨b0', b1'⟩, _⟩ := hok
              have HV := Lib.hid hV
              have HST := Lib.hid hst
              clear hst hV
              go_wp2_with fail
              refine (xCommand A t m _).mono ?_; rintro e w2 ⟨rfl, q, rfl⟩
              rw [HV.out, hE.out]
              go_wp2_with fail
              go_roundw
              case rel => exact ⟨k + 1, A + V, by omega, by go_num, rfl, by have h1 := HST.out.2; have h2 := HA.out; omega, ⟨by omega, by omega⟩, fun _ => HST.out.1, below_drewN HB.out q⟩
              case measure => simp only [intOf]; omega
            · have HNO := Lib.hid (Vt.okCm_no hok)
              clear hok
              go_wp2_with fail
              refine (xCommand A t m _).mono ?_; rintro e w2 ⟨rfl, q, rfl⟩
              rw [HNO.out.1, HNO.out.2]
              go_wp2_with fail
              go_ret
              exact ⟨ret_tt_VerticalReaches (by simp), below_drewN HB.out q⟩
          · have hAt : A = t := by have := HA.out; omega
            have hok := HOK.out (by omega)
            subst hAt
            have hE := Lib.hid (show Vt.cmE A A m = 0 by unfold Vt.cmE; rw [if_pos hok])
            have hV := Lib.hid (show Vt.cmV A A m = 0 by rw [(Vt.okCm_up hok (by omega)).1, Int.sub_self]; unfold Vt.mag; omega)
            clear hok
            go_wp2_with fail
            refine (xCommand A A m _).mono ?_; rintro e w2 ⟨rfl, q, rfl⟩
            rw [hV.out, hE.out]
            go_wp2_with fail
            go_ret
            exact ⟨ret_tt_VerticalReaches (by simp), below_drewN HB.out q⟩
end Go.Proofs.Ytgclfkgnkohgdaa
namespace Go.Proofs.Ytgclfkgnkohgdaa.verticalReaches
open Go.ChangeShapes Go.WideShapes Go.ChangeAt Go.RowKit
open Go.ChangeMaps (open_string shut_string)
set_option linter.unusedVariables false
set_option linter.unusedSimpArgs false

theorem own : ownKnob Try.prog.godebug = none := by kernel_rfl
theorem laidOut : laidOutB Try.prog = true := by kernel_rfl

set_option maxRecDepth 100000 in
theorem lifted (os : Os) (started : os.Started) (H : Type) (enc : TypeId × Value → H) :
    ReturnsInHanded {} Try.checked os 5 .any (Rows.verticalReachesSpec.pre6 enc Try.prog Try.f5 Rows.verticalReachesRow.domain false) (Rows.verticalReachesSpec.post enc Try.prog Try.f5 false true false false) := by
  refine returnsInHanded_of_change (C := Try.checked) own started (by kernel_rfl) Try.func5
    (ChangeSpec.witness6 (enc := enc) (C := Try.checked) false ⟨#[], #[.int .i64 0, .int .i64 0, .int .i64 0], []⟩ 8 (by kernel_rfl) (by kernel_rfl) (by kernel_rfl) (by kernel_rfl)) ?_
  intro W base args ds gs before hval0 hW hcnd _
  have hval : ∀ (j : Nat) t v, Try.f5.params[j]? = some t → args[j]? = some v → Value.okWide Try.prog W .any base t v := hval0
  have hW' := hW
  obtain ⟨p, q, hA0, hV, rfl, hfz, hnd⟩ := hW
  have hA : DataW.TrodAll enc Try.prog W 0 (fun _ => true) true Try.f5.params.toList args.toList ds p := hA0
  rw [Try.params5] at hA hval
  obtain ⟨v0, vs0, d0, ds0, p0, q0, hargs, rfl, rfl, h0, r0⟩ := trodAll_cons hA
  obtain ⟨v1, vs1, d1, ds1, p1, q1, rfl, rfl, rfl, h1, r1⟩ := trodAll_cons r0
  obtain ⟨v2, vs2, d2, ds2, p2, q2, rfl, rfl, rfl, h2, r2⟩ := trodAll_cons r1
  obtain ⟨rfl, rfl, rfl⟩ := trodAll_nil r2
  obtain rfl : args = #[v0, v1, v2] := by cases args; simp_all
  obtain ⟨rfl, rfl⟩ := trodVars_none hV
  have k0 := h0
  have lt0 : ∀ x ∈ p0, x.block < W.heap.size := by obtain ⟨m, hm⟩ := k0; exact DataW.trod_lt m _ _ _ hm
  have k1 := h1
  have lt1 : ∀ x ∈ p1, x.block < W.heap.size := by obtain ⟨m, hm⟩ := k1; exact DataW.trod_lt m _ _ _ hm
  have k2 := h2
  have lt2 : ∀ x ∈ p2, x.block < W.heap.size := by obtain ⟨m, hm⟩ := k2; exact DataW.trod_lt m _ _ _ hm
  obtain ⟨a0, rfl, rfl, rfl, w0⟩ := open_int Try.underlying2 (hval 0 2 v0 rfl rfl) h0
  obtain ⟨a1, rfl, rfl, rfl, w1⟩ := open_int Try.underlying2 (hval 1 2 v1 rfl rfl) h1
  obtain ⟨a2, rfl, rfl, rfl, w2⟩ := open_int Try.underlying2 (hval 2 2 v2 rfl rfl) h2
  clear hA0 hval0
  refine (Ytgclfkgnkohgdaa.walk_VerticalReaches a0 a1 a2 W w0 w1 w2).mono fun e W' ⟨he, bel⟩ => ?_
  subst he
  exact ⟨_, rfl, _, _, _, [], _, [], hW', trodAll_mk1 (shut_bool Try.underlying4 _), (trodAll_cons_mk (Below.trod laidOut (by kernel_rfl) (of_decide_eq_true (by kernel_rfl)) k0 bel lt0) (trodAll_cons_mk (Below.trod laidOut (by kernel_rfl) (of_decide_eq_true (by kernel_rfl)) k1 bel lt1) (trodAll_cons_mk (Below.trod laidOut (by kernel_rfl) (of_decide_eq_true (by kernel_rfl)) k2 bel lt2) trodAll_mk0))), rfl, bel.frame _, fun h => by cases h⟩

theorem over : Rows.verticalReachesRow.holds Try.pinned (OpenSpec.ofChange Rows.verticalReachesSpec) :=
  OpenClaim.holds_of_wide 5 Try.f5 rfl rfl rfl rfl rfl rfl rfl ⟨rfl, rfl, rfl, rfl, rfl⟩ rfl rfl rfl rfl rfl (by kernel_rfl) Try.func5 (by kernel_rfl)
    (of_decide_eq_true (by kernel_rfl)) (by unfold Func.isWrapper; first | (rw [if_pos (by decide +kernel)]; kernel_rfl) | (rw [if_neg (by decide +kernel)]; exact ⟨rfl, rfl⟩))
    (fun os started H enc _ => lifted os started H enc)

/-- the statement -/
theorem proved : Rows.VerticalReachesSaid := over
end Go.Proofs.Ytgclfkgnkohgdaa.verticalReaches
