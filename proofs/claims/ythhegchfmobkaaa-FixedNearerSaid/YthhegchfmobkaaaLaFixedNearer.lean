/- The statement FixedNearer: for every input the law returns true, and every argument reads afterwards as before. No condition. -/
import Derived.Test.YthhegchfmobkaaaRows
import Derived.Test.YthhegchfmobkaaaLaBase
import Derived.WalkKit
import Derived.ProofKit
import Derived.OpenShut
import Derived.ShutString
import Derived.ChangeOld
import Derived.Below
namespace Go.Proofs.Ythhegchfmobkaaa
set_option linter.unusedSimpArgs false
set_option linter.unusedVariables false
open Go.RowKit
set_option maxRecDepth 100000 in
set_option maxHeartbeats 2000000 in
theorem walk_FixedNearer (a : Int) (b : Int) (w : World) (ha : (Lit.int .i64 a).wf = true) (hb : (Lit.int .i64 b).wf = true) :
    Calls Try.prog 9 #[.int .i64 a, .int .i64 b] w fun e w' => e = .returned (.bool true) ∧ Below w.heap.size w w' := by
  have ai : I64 a := wf_i64_bd ha
  have bi : I64 b := wf_i64_bd hb
  clear ha
  clear hb
  obtain ⟨a0, a1⟩ := id ai
  obtain ⟨b0, b1⟩ := id bi
  by_cases h1 : 9223372036854775807 ≤ a + b
  · have HA := Lib.hid (fun w => cval1 (xAdd a b ai bi w) (show satV (a + b) = 9223372036854775807 by unfold satV; (repeat' split) <;> omega))
    by_cases p : 0 < a
    · by_cases hl : b = -9223372036854775808
      · have hlb : (b == -9223372036854775808) = true := beq_iff_eq.2 hl
        have hlc : (b != -9223372036854775808) = false := by rw [bne, hlb]; rfl
        have HL := Lib.hid hl
        clear hl
        go_enter Try.func9, Try.ntmps9
        go_wp2_with fail
        refine (awake_any _).mono ?_; rintro e w' ⟨rfl, n, rfl⟩
        go_wp2_with fail
        refine (HA.out _).mono ?_; rintro e w' ⟨rfl, rfl⟩
        go_wp2_with fail
        go_ret
        exact ⟨rfl, below_drewN (Below.refl _ _) _⟩
      · have hlb : (b == -9223372036854775808) = false := beq_eq_false_iff_ne.2 hl
        have hlc : (b != -9223372036854775808) = true := by rw [bne, hlb]; rfl
        have b2 : -9223372036854775807 ≤ b := by omega
        have HS := Lib.hid (fun w => xSub a b ai bi w)
        have HN := Lib.hid (fun w => cval1 (xAdd a (-b) ai ⟨by omega, by omega⟩ w) (show satV (a + -b) = satV (a - b) by rw [Int.sub_eq_add_neg]))
        generalize satV (a - b) = S at *
        clear hl
        go_enter Try.func9, Try.ntmps9
        go_wp2_with fail
        refine (awake_any _).mono ?_; rintro e w' ⟨rfl, n, rfl⟩
        go_wp2_with fail
        refine (HA.out _).mono ?_; rintro e w' ⟨rfl, rfl⟩
        go_wp2_with fail
        refine (HS.out _).mono ?_; rintro e w' ⟨rfl, rfl⟩
        go_wp2_with fail
        refine (HN.out _).mono ?_; rintro e w' ⟨rfl, rfl⟩
        go_wp2_with fail
        go_ret
        exact ⟨rfl, below_drewN (Below.refl _ _) _⟩
    · have p2 : 0 < b := by omega
      by_cases hl : b = -9223372036854775808
      · have hlb : (b == -9223372036854775808) = true := beq_iff_eq.2 hl
        have hlc : (b != -9223372036854775808) = false := by rw [bne, hlb]; rfl
        have HL := Lib.hid hl
        clear hl
        go_enter Try.func9, Try.ntmps9
        go_wp2_with fail
        refine (awake_any _).mono ?_; rintro e w' ⟨rfl, n, rfl⟩
        go_wp2_with fail
        refine (HA.out _).mono ?_; rintro e w' ⟨rfl, rfl⟩
        go_wp2_with fail
        go_ret
        exact ⟨rfl, below_drewN (Below.refl _ _) _⟩
      · have hlb : (b == -9223372036854775808) = false := beq_eq_false_iff_ne.2 hl
        have hlc : (b != -9223372036854775808) = true := by rw [bne, hlb]; rfl
        have b2 : -9223372036854775807 ≤ b := by omega
        have HS := Lib.hid (fun w => xSub a b ai bi w)
        have HN := Lib.hid (fun w => cval1 (xAdd a (-b) ai ⟨by omega, by omega⟩ w) (show satV (a + -b) = satV (a - b) by rw [Int.sub_eq_add_neg]))
        generalize satV (a - b) = S at *
        clear hl
        go_enter Try.func9, Try.ntmps9
        go_wp2_with fail
        refine (awake_any _).mono ?_; rintro e w' ⟨rfl, n, rfl⟩
        go_wp2_with fail
        refine (HA.out _).mono ?_; rintro e w' ⟨rfl, rfl⟩
        go_wp2_with fail
        refine (HS.out _).mono ?_; rintro e w' ⟨rfl, rfl⟩
        go_wp2_with fail
        refine (HN.out _).mono ?_; rintro e w' ⟨rfl, rfl⟩
        go_wp2_with fail
        go_ret
        exact ⟨rfl, below_drewN (Below.refl _ _) _⟩
  · by_cases h2 : a + b ≤ -9223372036854775808
    · have HA := Lib.hid (fun w => cval1 (xAdd a b ai bi w) (show satV (a + b) = -9223372036854775808 by unfold satV; (repeat' split) <;> omega))
      by_cases p : a < 0
      · by_cases hl : b = -9223372036854775808
        · have hlb : (b == -9223372036854775808) = true := beq_iff_eq.2 hl
          have hlc : (b != -9223372036854775808) = false := by rw [bne, hlb]; rfl
          have HL := Lib.hid hl
          clear hl
          go_enter Try.func9, Try.ntmps9
          go_wp2_with fail
          refine (awake_any _).mono ?_; rintro e w' ⟨rfl, n, rfl⟩
          go_wp2_with fail
          refine (HA.out _).mono ?_; rintro e w' ⟨rfl, rfl⟩
          go_wp2_with fail
          go_ret
          exact ⟨rfl, below_drewN (Below.refl _ _) _⟩
        · have hlb : (b == -9223372036854775808) = false := beq_eq_false_iff_ne.2 hl
          have hlc : (b != -9223372036854775808) = true := by rw [bne, hlb]; rfl
          have b2 : -9223372036854775807 ≤ b := by omega
          have HS := Lib.hid (fun w => xSub a b ai bi w)
          have HN := Lib.hid (fun w => cval1 (xAdd a (-b) ai ⟨by omega, by omega⟩ w) (show satV (a + -b) = satV (a - b) by rw [Int.sub_eq_add_neg]))
          generalize satV (a - b) = S at *
          clear hl
          go_enter Try.func9, Try.ntmps9
          go_wp2_with fail
          refine (awake_any _).mono ?_; rintro e w' ⟨rfl, n, rfl⟩
          go_wp2_with fail
          refine (HA.out _).mono ?_; rintro e w' ⟨rfl, rfl⟩
          go_wp2_with fail
          refine (HS.out _).mono ?_; rintro e w' ⟨rfl, rfl⟩
          go_wp2_with fail
          refine (HN.out _).mono ?_; rintro e w' ⟨rfl, rfl⟩
          go_wp2_with fail
          go_ret
          exact ⟨rfl, below_drewN (Below.refl _ _) _⟩
      · have p2 : b < 0 := by omega
        by_cases hl : b = -9223372036854775808
        · have hlb : (b == -9223372036854775808) = true := beq_iff_eq.2 hl
          have hlc : (b != -9223372036854775808) = false := by rw [bne, hlb]; rfl
          have HL := Lib.hid hl
          clear hl
          go_enter Try.func9, Try.ntmps9
          go_wp2_with fail
          refine (awake_any _).mono ?_; rintro e w' ⟨rfl, n, rfl⟩
          go_wp2_with fail
          refine (HA.out _).mono ?_; rintro e w' ⟨rfl, rfl⟩
          go_wp2_with fail
          go_ret
          exact ⟨rfl, below_drewN (Below.refl _ _) _⟩
        · have hlb : (b == -9223372036854775808) = false := beq_eq_false_iff_ne.2 hl
          have hlc : (b != -9223372036854775808) = true := by rw [bne, hlb]; rfl
          have b2 : -9223372036854775807 ≤ b := by omega
          have HS := Lib.hid (fun w => xSub a b ai bi w)
          have HN := Lib.hid (fun w => cval1 (xAdd a (-b) ai ⟨by omega, by omega⟩ w) (show satV (a + -b) = satV (a - b) by rw [Int.sub_eq_add_neg]))
          generalize satV (a - b) = S at *
          clear hl
          go_enter Try.func9, Try.ntmps9
          go_wp2_with fail
          refine (awake_any _).mono ?_; rintro e w' ⟨rfl, n, rfl⟩
          go_wp2_with fail
          refine (HA.out _).mono ?_; rintro e w' ⟨rfl, rfl⟩
          go_wp2_with fail
          refine (HS.out _).mono ?_; rintro e w' ⟨rfl, rfl⟩
          go_wp2_with fail
          refine (HN.out _).mono ?_; rintro e w' ⟨rfl, rfl⟩
          go_wp2_with fail
          go_ret
          exact ⟨rfl, below_drewN (Below.refl _ _) _⟩
    · have HA := Lib.hid (fun w => cval1 (xAdd a b ai bi w) (satV_mid (x := a + b) ⟨by omega, by omega⟩))
      have HX := Lib.hid (fun w => cval1 (xSub (a + b) a ⟨by omega, by omega⟩ ai w) (show satV (a + b - a) = b by rw [show a + b - a = b from by omega]; exact satV_mid bi))
      have HY := Lib.hid (fun w => cval1 (xSub (a + b) b ⟨by omega, by omega⟩ bi w) (show satV (a + b - b) = a by rw [show a + b - b = a from by omega]; exact satV_mid ai))
      have s1 : (a + b == 9223372036854775807) = false := beq_eq_false_iff_ne.2 (by omega)
      have s2 : (a + b == -9223372036854775808) = false := beq_eq_false_iff_ne.2 (by omega)
      by_cases hl : b = -9223372036854775808
      · have hlb : (b == -9223372036854775808) = true := beq_iff_eq.2 hl
        have hlc : (b != -9223372036854775808) = false := by rw [bne, hlb]; rfl
        have HL := Lib.hid hl
        clear hl
        go_enter Try.func9, Try.ntmps9
        go_wp2_with fail
        refine (awake_any _).mono ?_; rintro e w' ⟨rfl, n, rfl⟩
        go_wp2_with fail
        refine (HA.out _).mono ?_; rintro e w' ⟨rfl, rfl⟩
        go_wp2_with fail
        refine (HX.out _).mono ?_; rintro e w' ⟨rfl, rfl⟩
        go_wp2_with fail
        refine (HY.out _).mono ?_; rintro e w' ⟨rfl, rfl⟩
        go_wp2_with fail
        go_ret
        exact ⟨rfl, below_drewN (Below.refl _ _) _⟩
      · have hlb : (b == -9223372036854775808) = false := beq_eq_false_iff_ne.2 hl
        have hlc : (b != -9223372036854775808) = true := by rw [bne, hlb]; rfl
        have b2 : -9223372036854775807 ≤ b := by omega
        have HS := Lib.hid (fun w => xSub a b ai bi w)
        have HN := Lib.hid (fun w => cval1 (xAdd a (-b) ai ⟨by omega, by omega⟩ w) (show satV (a + -b) = satV (a - b) by rw [Int.sub_eq_add_neg]))
        generalize satV (a - b) = S at *
        clear hl
        go_enter Try.func9, Try.ntmps9
        go_wp2_with fail
        refine (awake_any _).mono ?_; rintro e w' ⟨rfl, n, rfl⟩
        go_wp2_with fail
        refine (HA.out _).mono ?_; rintro e w' ⟨rfl, rfl⟩
        go_wp2_with fail
        refine (HS.out _).mono ?_; rintro e w' ⟨rfl, rfl⟩
        go_wp2_with fail
        refine (HN.out _).mono ?_; rintro e w' ⟨rfl, rfl⟩
        go_wp2_with fail
        refine (HX.out _).mono ?_; rintro e w' ⟨rfl, rfl⟩
        go_wp2_with fail
        refine (HY.out _).mono ?_; rintro e w' ⟨rfl, rfl⟩
        go_wp2_with fail
        go_ret
        exact ⟨rfl, below_drewN (Below.refl _ _) _⟩
end Go.Proofs.Ythhegchfmobkaaa
namespace Go.Proofs.Ythhegchfmobkaaa.fixedNearer
open Go.ChangeShapes Go.WideShapes Go.ChangeAt Go.RowKit
open Go.ChangeMaps (open_string shut_string)
set_option linter.unusedVariables false
set_option linter.unusedSimpArgs false

theorem own : ownKnob Try.prog.godebug = none := by kernel_rfl
theorem laidOut : laidOutB Try.prog = true := by kernel_rfl

set_option maxRecDepth 100000 in
theorem lifted (os : Os) (started : os.Started) (H : Type) (enc : TypeId × Value → H) :
    ReturnsInHanded {} Try.checked os 9 .any (Rows.fixedNearerSpec.pre6 enc Try.prog Try.f9 Rows.fixedNearerRow.domain false) (Rows.fixedNearerSpec.post enc Try.prog Try.f9 false true false false) := by
  refine returnsInHanded_of_change (C := Try.checked) own started (by kernel_rfl) Try.func9
    (ChangeSpec.witness6 (enc := enc) (C := Try.checked) false ⟨#[], #[.int .i64 0, .int .i64 0], []⟩ 8 (by kernel_rfl) (by kernel_rfl) (by kernel_rfl) (by kernel_rfl)) ?_
  intro W base args ds gs before hval0 hW hcnd _
  have hval : ∀ (j : Nat) t v, Try.f9.params[j]? = some t → args[j]? = some v → Value.okWide Try.prog W .any base t v := hval0
  have hW' := hW
  obtain ⟨p, q, hA0, hV, rfl, hfz, hnd⟩ := hW
  have hA : DataW.TrodAll enc Try.prog W 0 (fun _ => true) true Try.f9.params.toList args.toList ds p := hA0
  rw [Try.params9] at hA hval
  obtain ⟨v0, vs0, d0, ds0, p0, q0, hargs, rfl, rfl, h0, r0⟩ := trodAll_cons hA
  obtain ⟨v1, vs1, d1, ds1, p1, q1, rfl, rfl, rfl, h1, r1⟩ := trodAll_cons r0
  obtain ⟨rfl, rfl, rfl⟩ := trodAll_nil r1
  obtain rfl : args = #[v0, v1] := by cases args; simp_all
  obtain ⟨rfl, rfl⟩ := trodVars_none hV
  have k0 := h0
  have lt0 : ∀ x ∈ p0, x.block < W.heap.size := by obtain ⟨m, hm⟩ := k0; exact DataW.trod_lt m _ _ _ hm
  have k1 := h1
  have lt1 : ∀ x ∈ p1, x.block < W.heap.size := by obtain ⟨m, hm⟩ := k1; exact DataW.trod_lt m _ _ _ hm
  obtain ⟨a0, rfl, rfl, rfl, w0⟩ := open_int Try.underlying2 (hval 0 2 v0 rfl rfl) h0
  obtain ⟨a1, rfl, rfl, rfl, w1⟩ := open_int Try.underlying2 (hval 1 2 v1 rfl rfl) h1
  clear hA0 hval0
  refine (Ythhegchfmobkaaa.walk_FixedNearer a0 a1 W w0 w1).mono fun e W' ⟨he, bel⟩ => ?_
  subst he
  exact ⟨_, rfl, _, _, _, [], _, [], hW', trodAll_mk1 (shut_bool Try.underlying4 _), (trodAll_cons_mk (Below.trod laidOut (by kernel_rfl) (of_decide_eq_true (by kernel_rfl)) k0 bel lt0) (trodAll_cons_mk (Below.trod laidOut (by kernel_rfl) (of_decide_eq_true (by kernel_rfl)) k1 bel lt1) trodAll_mk0)), rfl, bel.frame _, fun h => by cases h⟩

theorem over : Rows.fixedNearerRow.holds Try.pinned (OpenSpec.ofChange Rows.fixedNearerSpec) :=
  OpenClaim.holds_of_wide 9 Try.f9 rfl rfl rfl rfl rfl rfl rfl ⟨rfl, rfl, rfl, rfl, rfl⟩ rfl rfl rfl rfl rfl (by kernel_rfl) Try.func9 (by kernel_rfl)
    (of_decide_eq_true (by kernel_rfl)) (by unfold Func.isWrapper; first | (rw [if_pos (by decide +kernel)]; kernel_rfl) | (rw [if_neg (by decide +kernel)]; exact ⟨rfl, rfl⟩))
    (fun os started H enc _ => lifted os started H enc)

/-- the statement -/
theorem proved : Rows.FixedNearerSaid := over
end Go.Proofs.Ythhegchfmobkaaa.fixedNearer
