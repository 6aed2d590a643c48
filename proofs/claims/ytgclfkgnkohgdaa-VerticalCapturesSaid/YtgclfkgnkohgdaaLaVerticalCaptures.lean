/- The statement VerticalCaptures: for every input the law returns true, and every argument reads afterwards as before. No condition. -/
import Derived.Test.YtgclfkgnkohgdaaRows
import Derived.Test.YtgclfkgnkohgdaaLaBase51
import Derived.Test.YtgclfkgnkohgdaaVtPlain2
import Derived.WalkKit
import Derived.ProofKit
import Derived.OpenShut
import Derived.ShutString
import Derived.ChangeOld
import Derived.Below
namespace Go.Proofs.Ytgclfkgnkohgdaa
set_option linter.unusedSimpArgs false
set_option linter.unusedVariables false
open Go.RowKit
theorem ret_tt_VerticalCaptures {b : Bool} (h : b = true) : Ending.returned (.bool b) = .returned (.bool true) := by rw [h]
set_option maxRecDepth 100000 in
set_option maxHeartbeats 1000000 in
theorem cap_big (a v t V : Int) (w : World) (hb : 160000 < t - a ∨ 160000 < a - t) (hX : Vt.cpB a v t = false ∧ Vt.cpE a v t = 0) (hV : Vt.cmV a t 10000 = V ∧ Vt.cmE a t 10000 = 0) (ha : -200000 ≤ a ∧ a ≤ 6000000) (ht : -200000 ≤ t ∧ t ≤ 6000000) (hv : -10000 ≤ v ∧ v ≤ 10000) (hVb : -10000 ≤ V ∧ V ≤ 10000) :
    Calls Try.prog 7 #[.int .i64 a, .int .i64 v, .int .i64 t] w fun e w' => e = .returned (.bool true) ∧ Below w.heap.size w w' := by
  have HX := Lib.hid hX
  have HE := Lib.hid hV
  obtain ⟨a0, a1⟩ := ha
  obtain ⟨t0, t1⟩ := ht
  obtain ⟨v0, v1⟩ := hv
  obtain ⟨c0, c1⟩ := hVb
  have hmx : 160000 < max (t - a) (a - t) := by omega
  clear hb
  clear hX hV
  go_enter Try.func7, Try.ntmps7
  go_wp2_with fail
  refine (awake_any _).mono ?_; rintro e w1 ⟨rfl, b0⟩
  have B0 := Lib.hid b0
  clear b0
  go_wp2_with fail
  refine (xCapture _ _ _ _).mono ?_; rintro e w2 ⟨rfl, rfl⟩
  rw [HX.out.1, HX.out.2]
  go_wp2_with fail
  refine (xCommand _ _ _ _).mono ?_; rintro e w2 ⟨rfl, q, rfl⟩
  rw [HE.out.1, HE.out.2]
  go_wp2_with fail
  go_ret
  exact ⟨ret_tt_VerticalCaptures (by first | (simp; done) | (simp; omega)), below_drewN B0.out q⟩
set_option maxRecDepth 100000 in
set_option maxHeartbeats 1000000 in
theorem cap_eq (a v t V : Int) (w : World) (hb : t = a) (hb2 : V = 0) (hX : Vt.cpB a v t = true ∧ Vt.cpE a v t = 0) (hV : Vt.cmV a t 10000 = V ∧ Vt.cmE a t 10000 = 0) (ha : -200000 ≤ a ∧ a ≤ 6000000) (ht : -200000 ≤ t ∧ t ≤ 6000000) (hv : -10000 ≤ v ∧ v ≤ 10000) (hVb : -10000 ≤ V ∧ V ≤ 10000) :
    Calls Try.prog 7 #[.int .i64 a, .int .i64 v, .int .i64 t] w fun e w' => e = .returned (.bool true) ∧ Below w.heap.size w w' := by
  have HX := Lib.hid hX
  have HE := Lib.hid hV
  obtain ⟨a0, a1⟩ := ha
  obtain ⟨t0, t1⟩ := ht
  obtain ⟨v0, v1⟩ := hv
  obtain ⟨c0, c1⟩ := hVb
  subst hb hb2
  clear hX hV
  go_enter Try.func7, Try.ntmps7
  go_wp2_with fail
  refine (awake_any _).mono ?_; rintro e w1 ⟨rfl, b0⟩
  have B0 := Lib.hid b0
  clear b0
  go_wp2_with fail
  refine (xCapture _ _ _ _).mono ?_; rintro e w2 ⟨rfl, rfl⟩
  rw [HX.out.1, HX.out.2]
  go_wp2_with fail
  refine (xCommand _ _ _ _).mono ?_; rintro e w2 ⟨rfl, q, rfl⟩
  rw [HE.out.1, HE.out.2]
  go_wp2_with fail
  go_ret
  exact ⟨ret_tt_VerticalCaptures (by first | (simp; done) | (simp; omega)), below_drewN B0.out q⟩
set_option maxRecDepth 100000 in
set_option maxHeartbeats 1000000 in
theorem cap_up1 (a v t V : Int) (w : World) (hb : a < t) (hs : t - a ≤ 160000) (h1 : 0 < V) (h2 : V ≤ v) (hX : Vt.cpB a v t = true ∧ Vt.cpE a v t = 0) (hV : Vt.cmV a t 10000 = V ∧ Vt.cmE a t 10000 = 0) (ha : -200000 ≤ a ∧ a ≤ 6000000) (ht : -200000 ≤ t ∧ t ≤ 6000000) (hv : -10000 ≤ v ∧ v ≤ 10000) (hVb : -10000 ≤ V ∧ V ≤ 10000) :
    Calls Try.prog 7 #[.int .i64 a, .int .i64 v, .int .i64 t] w fun e w' => e = .returned (.bool true) ∧ Below w.heap.size w w' := by
  have HX := Lib.hid hX
  have HE := Lib.hid hV
  obtain ⟨a0, a1⟩ := ha
  obtain ⟨t0, t1⟩ := ht
  obtain ⟨v0, v1⟩ := hv
  obtain ⟨c0, c1⟩ := hVb
  have hne : (a == t) = false := beq_eq_false_iff_ne.2 (by omega)
  have hmx : ¬ 160000 < max (t - a) (a - t) := by omega
  clear hX hV
  go_enter Try.func7, Try.ntmps7
  go_wp2_with fail
  refine (awake_any _).mono ?_; rintro e w1 ⟨rfl, b0⟩
  have B0 := Lib.hid b0
  clear b0
  go_wp2_with fail
  refine (xCapture _ _ _ _).mono ?_; rintro e w2 ⟨rfl, rfl⟩
  rw [HX.out.1, HX.out.2]
  go_wp2_with fail
  refine (xCommand _ _ _ _).mono ?_; rintro e w2 ⟨rfl, q, rfl⟩
  rw [HE.out.1, HE.out.2]
  go_wp2_with fail
  go_ret
  exact ⟨ret_tt_VerticalCaptures (by first | (simp; done) | (simp; omega)), below_drewN B0.out q⟩
set_option maxRecDepth 100000 in
set_option maxHeartbeats 1000000 in
theorem cap_up0 (a v t V : Int) (w : World) (hb : a < t) (hs : t - a ≤ 160000) (h1 : 0 < V) (h2 : ¬ V ≤ v) (hX : Vt.cpB a v t = false ∧ Vt.cpE a v t = 0) (hV : Vt.cmV a t 10000 = V ∧ Vt.cmE a t 10000 = 0) (ha : -200000 ≤ a ∧ a ≤ 6000000) (ht : -200000 ≤ t ∧ t ≤ 6000000) (hv : -10000 ≤ v ∧ v ≤ 10000) (hVb : -10000 ≤ V ∧ V ≤ 10000) :
    Calls Try.prog 7 #[.int .i64 a, .int .i64 v, .int .i64 t] w fun e w' => e = .returned (.bool true) ∧ Below w.heap.size w w' := by
  have HX := Lib.hid hX
  have HE := Lib.hid hV
  obtain ⟨a0, a1⟩ := ha
  obtain ⟨t0, t1⟩ := ht
  obtain ⟨v0, v1⟩ := hv
  obtain ⟨c0, c1⟩ := hVb
  have hne : (a == t) = false := beq_eq_false_iff_ne.2 (by omega)
  have hmx : ¬ 160000 < max (t - a) (a - t) := by omega
  have h3 : ¬ V < 0 := by omega
  clear hX hV
  go_enter Try.func7, Try.ntmps7
  go_wp2_with fail
  refine (awake_any _).mono ?_; rintro e w1 ⟨rfl, b0⟩
  have B0 := Lib.hid b0
  clear b0
  go_wp2_with fail
  refine (xCapture _ _ _ _).mono ?_; rintro e w2 ⟨rfl, rfl⟩
  rw [HX.out.1, HX.out.2]
  go_wp2_with fail
  refine (xCommand _ _ _ _).mono ?_; rintro e w2 ⟨rfl, q, rfl⟩
  rw [HE.out.1, HE.out.2]
  go_wp2_with fail
  go_ret
  exact ⟨ret_tt_VerticalCaptures (by first | (simp; done) | (simp; omega)), below_drewN B0.out q⟩
set_option maxRecDepth 100000 in
set_option maxHeartbeats 1000000 in
theorem cap_dn1 (a v t V : Int) (w : World) (hb : t < a) (hs : a - t ≤ 160000) (h1 : V < 0) (h2 : v ≤ V) (hX : Vt.cpB a v t = true ∧ Vt.cpE a v t = 0) (hV : Vt.cmV a t 10000 = V ∧ Vt.cmE a t 10000 = 0) (ha : -200000 ≤ a ∧ a ≤ 6000000) (ht : -200000 ≤ t ∧ t ≤ 6000000) (hv : -10000 ≤ v ∧ v ≤ 10000) (hVb : -10000 ≤ V ∧ V ≤ 10000) :
    Calls Try.prog 7 #[.int .i64 a, .int .i64 v, .int .i64 t] w fun e w' => e = .returned (.bool true) ∧ Below w.heap.size w w' := by
  have HX := Lib.hid hX
  have HE := Lib.hid hV
  obtain ⟨a0, a1⟩ := ha
  obtain ⟨t0, t1⟩ := ht
  obtain ⟨v0, v1⟩ := hv
  obtain ⟨c0, c1⟩ := hVb
  have hne : (a == t) = false := beq_eq_false_iff_ne.2 (by omega)
  have hmx : ¬ 160000 < max (t - a) (a - t) := by omega
  have h3 : ¬ 0 < V := by omega
  clear hX hV
  go_enter Try.func7, Try.ntmps7
  go_wp2_with fail
  refine (awake_any _).mono ?_; rintro e w1 ⟨rfl, b0⟩
  have B0 := Lib.hid b0
  clear b0
  go_wp2_with fail
  refine (xCapture _ _ _ _).mono ?_; rintro e w2 ⟨rfl, rfl⟩
  rw [HX.out.1, HX.out.2]
  go_wp2_with fail
  refine (xCommand _ _ _ _).mono ?_; rintro e w2 ⟨rfl, q, rfl⟩
  rw [HE.out.1, HE.out.2]
  go_wp2_with fail
  go_ret
  exact ⟨ret_tt_VerticalCaptures (by first | (simp; done) | (simp; omega)), below_drewN B0.out q⟩
set_option maxRecDepth 100000 in
set_option maxHeartbeats 1000000 in
theorem cap_dn0 (a v t V : Int) (w : World) (hb : t < a) (hs : a - t ≤ 160000) (h1 : V < 0) (h2 : ¬ v ≤ V) (hX : Vt.cpB a v t = false ∧ Vt.cpE a v t = 0) (hV : Vt.cmV a t 10000 = V ∧ Vt.cmE a t 10000 = 0) (ha : -200000 ≤ a ∧ a ≤ 6000000) (ht : -200000 ≤ t ∧ t ≤ 6000000) (hv : -10000 ≤ v ∧ v ≤ 10000) (hVb : -10000 ≤ V ∧ V ≤ 10000) :
    Calls Try.prog 7 #[.int .i64 a, .int .i64 v, .int .i64 t] w fun e w' => e = .returned (.bool true) ∧ Below w.heap.size w w' := by
  have HX := Lib.hid hX
  have HE := Lib.hid hV
  obtain ⟨a0, a1⟩ := ha
  obtain ⟨t0, t1⟩ := ht
  obtain ⟨v0, v1⟩ := hv
  obtain ⟨c0, c1⟩ := hVb
  have hne : (a == t) = false := beq_eq_false_iff_ne.2 (by omega)
  have hmx : ¬ 160000 < max (t - a) (a - t) := by omega
  have h3 : ¬ 0 < V := by omega
  clear hX hV
  go_enter Try.func7, Try.ntmps7
  go_wp2_with fail
  refine (awake_any _).mono ?_; rintro e w1 ⟨rfl, b0⟩
  have B0 := Lib.hid b0
  clear b0
  go_wp2_with fail
  refine (xCapture _ _ _ _).mono ?_; rintro e w2 ⟨rfl, rfl⟩
  rw [HX.out.1, HX.out.2]
  go_wp2_with fail
  refine (xCommand _ _ _ _).mono ?_; rintro e w2 ⟨rfl, q, rfl⟩
  rw [HE.out.1, HE.out.2]
  go_wp2_with fail
  go_ret
  exact ⟨ret_tt_VerticalCaptures (by first | (simp; done) | (simp; omega)), below_drewN B0.out q⟩
set_option maxRecDepth 100000 in
set_option maxHeartbeats 2000000 in
theorem walk_VerticalCaptures (a v t : Int) (w : World) (ha : (Lit.int .i64 a).wf = true) (hv : (Lit.int .i64 v).wf = true) (ht : (Lit.int .i64 t).wf = true) :
    Calls Try.prog 7 #[.int .i64 a, .int .i64 v, .int .i64 t] w fun e w' => e = .returned (.bool true) ∧ Below w.heap.size w w' := by
  have ia : I64 a := wf_i64_bd ha
  have Ia := Lib.hid ia
  obtain ⟨a0, a1⟩ := ia
  have iv : I64 v := wf_i64_bd hv
  have Iv := Lib.hid iv
  obtain ⟨v0, v1⟩ := iv
  have it : I64 t := wf_i64_bd ht
  have It := Lib.hid it
  obtain ⟨t0, t1⟩ := it
  clear ha hv ht
  by_cases hok : Vt.okCp a v t
  · obtain ⟨ha, ht, hv⟩ := id hok
    have hcm : Vt.okCm a t 10000 := ⟨ha, ht, by omega, by omega⟩
    obtain ⟨hX, hX2⟩ := xcap_ok hok
    have hb := Vt.cmV_any a t 10000
    rcases Int.lt_trichotomy t a with h | h | h
    · have E := Vt.okCm_dn hcm h
      rw [if_neg (by omega), if_neg (by omega)] at hX
      unfold Vt.mag at E
      by_cases hbig : 160000 < a - t
      · exact cap_big a v t _ w (.inr hbig) ⟨by rw [hX]; exact decide_eq_false (by unfold Vt.okRate at hv; omega), hX2⟩ ⟨rfl, E.2⟩ ha ht hv hb
      · by_cases hle : v ≤ Vt.cmV a t 10000
        · exact cap_dn1 a v t _ w h (by omega) (by omega) hle ⟨by rw [hX]; exact decide_eq_true (by omega), hX2⟩ ⟨rfl, E.2⟩ ha ht hv hb
        · exact cap_dn0 a v t _ w h (by omega) (by omega) hle ⟨by rw [hX]; exact decide_eq_false (by omega), hX2⟩ ⟨rfl, E.2⟩ ha ht hv hb
    · have E := Vt.okCm_up hcm (show ¬ t < a by omega)
      rw [if_pos h] at hX
      unfold Vt.mag at E
      exact cap_eq a v t _ w h (by omega) ⟨hX, hX2⟩ ⟨rfl, E.2⟩ ha ht hv hb
    · have E := Vt.okCm_up hcm (show ¬ t < a by omega)
      rw [if_neg (by omega), if_pos h] at hX
      unfold Vt.mag at E
      by_cases hbig : 160000 < t - a
      · exact cap_big a v t _ w (.inl hbig) ⟨by rw [hX]; exact decide_eq_false (by unfold Vt.okRate at hv; omega), hX2⟩ ⟨rfl, E.2⟩ ha ht hv hb
      · by_cases hle : Vt.cmV a t 10000 ≤ v
        · exact cap_up1 a v t _ w h (by omega) (by omega) hle ⟨by rw [hX]; exact decide_eq_true (by omega), hX2⟩ ⟨rfl, E.2⟩ ha ht hv hb
        · exact cap_up0 a v t _ w h (by omega) (by omega) hle ⟨by rw [hX]; exact decide_eq_false (by omega), hX2⟩ ⟨rfl, E.2⟩ ha ht hv hb
  · have HX := Lib.hid (xcap_no hok)
    clear hok
    obtain ⟨V, hV⟩ : ∃ V, Vt.cmV a t 10000 = V := ⟨_, rfl⟩
    obtain ⟨EE, hEE⟩ : ∃ V, Vt.cmE a t 10000 = V := ⟨_, rfl⟩
    have HVE := Lib.hid (And.intro hV hEE)
    clear hV hEE
    go_enter Try.func7, Try.ntmps7
    go_wp2_with fail
    refine (awake_any _).mono ?_; rintro e w1 ⟨rfl, b0⟩
    have B0 := Lib.hid b0
    clear b0
    go_wp2_with fail
    refine (xCapture _ _ _ _).mono ?_; rintro e w2 ⟨rfl, rfl⟩
    rw [HX.out.1, HX.out.2]
    go_wp2_with fail
    refine (xCommand _ _ _ _).mono ?_; rintro e w2 ⟨rfl, q, rfl⟩
    rw [HVE.out.1, HVE.out.2]
    go_wp2_with fail
    go_ret
    exact ⟨ret_tt_VerticalCaptures (by simp), below_drewN B0.out q⟩
end Go.Proofs.Ytgclfkgnkohgdaa
namespace Go.Proofs.Ytgclfkgnkohgdaa.verticalCaptures
open Go.ChangeShapes Go.WideShapes Go.ChangeAt Go.RowKit
open Go.ChangeMaps (open_string shut_string)
set_option linter.unusedVariables false
set_option linter.unusedSimpArgs false

theorem own : ownKnob Try.prog.godebug = none := by kernel_rfl
theorem laidOut : laidOutB Try.prog = true := by kernel_rfl

set_option maxRecDepth 100000 in
theorem lifted (os : Os) (started : os.Started) (H : Type) (enc : TypeId × Value → H) :
    ReturnsInHanded {} Try.checked os 7 .any (Rows.verticalCapturesSpec.pre6 enc Try.prog Try.f7 Rows.verticalCapturesRow.domain false) (Rows.verticalCapturesSpec.post enc Try.prog Try.f7 false true false false) := by
  refine returnsInHanded_of_change (C := Try.checked) own started (by kernel_rfl) Try.func7
    (ChangeSpec.witness6 (enc := enc) (C := Try.checked) false ⟨#[], #[.int .i64 0, .int .i64 0, .int .i64 0], []⟩ 8 (by kernel_rfl) (by kernel_rfl) (by kernel_rfl) (by kernel_rfl)) ?_
  intro W base args ds gs before hval0 hW hcnd _
  have hval : ∀ (j : Nat) t v, Try.f7.params[j]? = some t → args[j]? = some v → Value.okWide Try.prog W .any base t v := hval0
  have hW' := hW
  obtain ⟨p, q, hA0, hV, rfl, hfz, hnd⟩ := hW
  have hA : DataW.TrodAll enc Try.prog W 0 (fun _ => true) true Try.f7.params.toList args.toList ds p := hA0
  rw [Try.params7] at hA hval
  obtain ⟨v0, vs0, d0, ds0, p0, q0, hargs, rfl, rfl, h0, r0⟩ := trodAll_cons hA
  obtain ⟨v1, vs1, d1, ds1, p1, q1, rfl, rfl, rfl, h1, r1⟩ := trodAll_cons r0
  obtain ⟨v2, vs2, d2, ds2, p2, q2, rfl, rfl, rfl, h2, r2⟩ := trodAll_cons r1
  obtain ⟨rfl, rfl, rfl⟩ := trodAll_nil r2
  obtain rfl : args = #[v0, v1, v2] := by cases args; simp_all
  obtain ⟨rfl, rfl⟩ := trodVars_none hV
  have k0 := h0
  have lt0 : ∀ x ∈ p0, x.block < W.heap.size := by obtain ⟨m, hm⟩ := k0; exact DataW.trod_lt m _ _ _ hm
  have k1 := h1
  have lt1 : ∀ x ∈ p1, x.block < W.heap.size := by obtain ⟨m, hm⟩ := k1; exact DataW.trod_lt m _ _ _ hm
  have k2 := h2
  have lt2 : ∀ x ∈ p2, x.block < W.heap.size := by obtain ⟨m, hm⟩ := k2; exact DataW.trod_lt m _ _ _ hm
  obtain ⟨a0, rfl, rfl, rfl, w0⟩ := open_int Try.underlying2 (hval 0 2 v0 rfl rfl) h0
  obtain ⟨a1, rfl, rfl, rfl, w1⟩ := open_int Try.underlying2 (hval 1 2 v1 rfl rfl) h1
  obtain ⟨a2, rfl, rfl, rfl, w2⟩ := open_int Try.underlying2 (hval 2 2 v2 rfl rfl) h2
  clear hA0 hval0
  refine (Ytgclfkgnkohgdaa.walk_VerticalCaptures a0 a1 a2 W w0 w1 w2).mono fun e W' ⟨he, bel⟩ => ?_
  subst he
  exact ⟨_, rfl, _, _, _, [], _, [], hW', trodAll_mk1 (shut_bool Try.underlying4 _), (trodAll_cons_mk (Below.trod laidOut (by kernel_rfl) (of_decide_eq_true (by kernel_rfl)) k0 bel lt0) (trodAll_cons_mk (Below.trod laidOut (by kernel_rfl) (of_decide_eq_true (by kernel_rfl)) k1 bel lt1) (trodAll_cons_mk (Below.trod laidOut (by kernel_rfl) (of_decide_eq_true (by kernel_rfl)) k2 bel lt2) trodAll_mk0))), rfl, bel.frame _, fun h => by cases h⟩

theorem over : Rows.verticalCapturesRow.holds Try.pinned (OpenSpec.ofChange Rows.verticalCapturesSpec) :=
  OpenClaim.holds_of_wide 7 Try.f7 rfl rfl rfl rfl rfl rfl rfl ⟨rfl, rfl, rfl, rfl, rfl⟩ rfl rfl rfl rfl rfl (by kernel_rfl) Try.func7 (by kernel_rfl)
    (of_decide_eq_true (by kernel_rfl)) (by unfold Func.isWrapper; first | (rw [if_pos (by decide +kernel)]; kernel_rfl) | (rw [if_neg (by decide +kernel)]; exact ⟨rfl, rfl⟩))
    (fun os started H enc _ => lifted os started H enc)

/-- the statement -/
theorem proved : Rows.VerticalCapturesSaid := over
end Go.Proofs.Ytgclfkgnkohgdaa.verticalCaptures
