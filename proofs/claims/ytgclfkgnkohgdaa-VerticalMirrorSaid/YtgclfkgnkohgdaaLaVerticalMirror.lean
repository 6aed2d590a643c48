/- The statement VerticalMirror: for every input the law returns true, and every argument reads afterwards as before. No condition. -/
import Derived.Test.YtgclfkgnkohgdaaRows
import Derived.Test.YtgclfkgnkohgdaaLaBase51
import Derived.Test.YtgclfkgnkohgdaaVtPlain2
import Derived.WalkKit
import Derived.ProofKit
import Derived.OpenShut
import Derived.ShutString
import Derived.ChangeOld
import Derived.Below
namespace Go.Proofs.Ytgclfkgnkohgdaa
set_option linter.unusedSimpArgs false
set_option linter.unusedVariables false
open Go.RowKit
theorem ret_tt_VerticalMirror {b : Bool} (h : b = true) : Ending.returned (.bool b) = .returned (.bool true) := by rw [h]
set_option maxRecDepth 100000 in
set_option maxHeartbeats 2000000 in
theorem walk_VerticalMirror (a t v : Int) (w : World) (ha : (Lit.int .i64 a).wf = true) (ht : (Lit.int .i64 t).wf = true) (hv : (Lit.int .i64 v).wf = true) :
    Calls Try.prog 8 #[.int .i64 a, .int .i64 t, .int .i64 v] w fun e w' => e = .returned (.bool true) ∧ Below w.heap.size w w' := by
  have ia : I64 a := wf_i64_bd ha
  have Ia := Lib.hid ia
  obtain ⟨a0, a1⟩ := ia
  have it : I64 t := wf_i64_bd ht
  have It := Lib.hid it
  obtain ⟨t0, t1⟩ := it
  have iv : I64 v := wf_i64_bd hv
  have Iv := Lib.hid iv
  obtain ⟨v0, v1⟩ := iv
  clear ha ht hv
  have HM := Lib.hid (Vt.cm_mirror a t (max v 0))
  have hb := Vt.cmV_any t a (max v 0)
  obtain ⟨V, hV⟩ : ∃ V, Vt.cmV t a (max v 0) = V := ⟨_, rfl⟩
  rw [hV] at HM hb
  have HV := Lib.hid hV
  obtain ⟨b0', b1'⟩ := hb
  obtain ⟨E, hE⟩ : ∃ E, Vt.cmE t a (max v 0) = E := ⟨_, rfl⟩
  rw [hE] at HM
  have HE := Lib.hid hE
  clear hV hE
  by_cases hr : Vt.okRate v
  · have HC := Lib.hid (Vt.cp_mirror a v t)
    obtain ⟨X, hX⟩ : ∃ X, Vt.cpB t (-v) a = X := ⟨_, rfl⟩
    obtain ⟨F, hF⟩ : ∃ F, Vt.cpE t (-v) a = F := ⟨_, rfl⟩
    rw [hX, hF] at HC
    have HX := Lib.hid hX
    have HF := Lib.hid hF
    obtain ⟨r0, r1⟩ := hr
    clear hX hF
    go_enter Try.func8, Try.ntmps8
    go_wp2_with fail
    refine (awake_any _).mono ?_; rintro e w1 ⟨rfl, b0⟩
    have B0 := Lib.hid b0
    clear b0
    go_wp2_with fail
    refine (xCommand a t (max v 0) _).mono ?_; rintro e w2 ⟨rfl, q, rfl⟩
    rw [HM.out.1, HM.out.2]
    go_wp2_with fail
    refine (xCommand t a (max v 0) _).mono ?_; rintro e w2 ⟨rfl, q2, rfl⟩
    rw [HV.out, HE.out]
    go_wp2_with fail
    refine (xCapture a v t _).mono ?_; rintro e w2 ⟨rfl, rfl⟩
    rw [HC.out.1, HC.out.2]
    go_wp2_with fail
    refine (xCapture t (-v) a _).mono ?_; rintro e w2 ⟨rfl, rfl⟩
    rw [HX.out, HF.out]
    go_wp2_with fail
    go_ret
    exact ⟨ret_tt_VerticalMirror (by simp), below_drewN B0.out _⟩
  · have HC := Lib.hid (xcap_no (a := a) (v := v) (t := t) (fun h => hr h.2.2))
    have hr' : v < -10000 ∨ 10000 < v := by unfold Vt.okRate at hr; omega
    clear hr
    rcases hr' with hr | hr
    · skip
      go_enter Try.func8, Try.ntmps8
      go_wp2_with fail
      refine (awake_any _).mono ?_; rintro e w1 ⟨rfl, b0⟩
      have B0 := Lib.hid b0
      clear b0
      go_wp2_with fail
      refine (xCommand a t (max v 0) _).mono ?_; rintro e w2 ⟨rfl, q, rfl⟩
      rw [HM.out.1, HM.out.2]
      go_wp2_with fail
      refine (xCommand t a (max v 0) _).mono ?_; rintro e w2 ⟨rfl, q2, rfl⟩
      rw [HV.out, HE.out]
      go_wp2_with fail
      refine (xCapture a v t _).mono ?_; rintro e w2 ⟨rfl, rfl⟩
      rw [HC.out.1, HC.out.2]
      go_wp2_with fail
      go_ret
      exact ⟨ret_tt_VerticalMirror (by simp), below_drewN B0.out _⟩
    · have hr2 : ¬ v < -10000 := by omega
      go_enter Try.func8, Try.ntmps8
      go_wp2_with fail
      refine (awake_any _).mono ?_; rintro e w1 ⟨rfl, b0⟩
      have B0 := Lib.hid b0
      clear b0
      go_wp2_with fail
      refine (xCommand a t (max v 0) _).mono ?_; rintro e w2 ⟨rfl, q, rfl⟩
      rw [HM.out.1, HM.out.2]
      go_wp2_with fail
      refine (xCommand t a (max v 0) _).mono ?_; rintro e w2 ⟨rfl, q2, rfl⟩
      rw [HV.out, HE.out]
      go_wp2_with fail
      refine (xCapture a v t _).mono ?_; rintro e w2 ⟨rfl, rfl⟩
      rw [HC.out.1, HC.out.2]
      go_wp2_with fail
      go_ret
      exact ⟨ret_tt_VerticalMirror (by simp), below_drewN B0.out _⟩
end Go.Proofs.Ytgclfkgnkohgdaa
namespace Go.Proofs.Ytgclfkgnkohgdaa.verticalMirror
open Go.ChangeShapes Go.WideShapes Go.ChangeAt Go.RowKit
open Go.ChangeMaps (open_string shut_string)
set_option linter.unusedVariables false
set_option linter.unusedSimpArgs false

theorem own : ownKnob Try.prog.godebug = none := by kernel_rfl
theorem laidOut : laidOutB Try.prog = true := by kernel_rfl

set_option maxRecDepth 100000 in
theorem lifted (os : Os) (started : os.Started) (H : Type) (enc : TypeId × Value → H) :
    ReturnsInHanded {} Try.checked os 8 .any (Rows.verticalMirrorSpec.pre6 enc Try.prog Try.f8 Rows.verticalMirrorRow.domain false) (Rows.verticalMirrorSpec.post enc Try.prog Try.f8 false true false false) := by
  refine returnsInHanded_of_change (C := Try.checked) own started (by kernel_rfl) Try.func8
    (ChangeSpec.witness6 (enc := enc) (C := Try.checked) false ⟨#[], #[.int .i64 0, .int .i64 0, .int .i64 0], []⟩ 8 (by kernel_rfl) (by kernel_rfl) (by kernel_rfl) (by kernel_rfl)) ?_
  intro W base args ds gs before hval0 hW hcnd _
  have hval : ∀ (j : Nat) t v, Try.f8.params[j]? = some t → args[j]? = some v → Value.okWide Try.prog W .any base t v := hval0
  have hW' := hW
  obtain ⟨p, q, hA0, hV, rfl, hfz, hnd⟩ := hW
  have hA : DataW.TrodAll enc Try.prog W 0 (fun _ => true) true Try.f8.params.toList args.toList ds p := hA0
  rw [Try.params8] at hA hval
  obtain ⟨v0, vs0, d0, ds0, p0, q0, hargs, rfl, rfl, h0, r0⟩ := trodAll_cons hA
  obtain ⟨v1, vs1, d1, ds1, p1, q1, rfl, rfl, rfl, h1, r1⟩ := trodAll_cons r0
  obtain ⟨v2, vs2, d2, ds2, p2, q2, rfl, rfl, rfl, h2, r2⟩ := trodAll_cons r1
  obtain ⟨rfl, rfl, rfl⟩ := trodAll_nil r2
  obtain rfl : args = #[v0, v1, v2] := by cases args; simp_all
  obtain ⟨rfl, rfl⟩ := trodVars_none hV
  have k0 := h0
  have lt0 : ∀ x ∈ p0, x.block < W.heap.size := by obtain ⟨m, hm⟩ := k0; exact DataW.trod_lt m _ _ _ hm
  have k1 := h1
  have lt1 : ∀ x ∈ p1, x.block < W.heap.size := by obtain ⟨m, hm⟩ := k1; exact DataW.trod_lt m _ _ _ hm
  have k2 := h2
  have lt2 : ∀ x ∈ p2, x.block < W.heap.size := by obtain ⟨m, hm⟩ := k2; exact DataW.trod_lt m _ _ _ hm
  obtain ⟨a0, rfl, rfl, rfl, w0⟩ := open_int Try.underlying2 (hval 0 2 v0 rfl rfl) h0
  obtain ⟨a1, rfl, rfl, rfl, w1⟩ := open_int Try.underlying2 (hval 1 2 v1 rfl rfl) h1
  obtain ⟨a2, rfl, rfl, rfl, w2⟩ := open_int Try.underlying2 (hval 2 2 v2 rfl rfl) h2
  clear hA0 hval0
  refine (Ytgclfkgnkohgdaa.walk_VerticalMirror a0 a1 a2 W w0 w1 w2).mono fun e W' ⟨he, bel⟩ => ?_
  subst he
  exact ⟨_, rfl, _, _, _, [], _, [], hW', trodAll_mk1 (shut_bool Try.underlying4 _), (trodAll_cons_mk (Below.trod laidOut (by kernel_rfl) (of_decide_eq_true (by kernel_rfl)) k0 bel lt0) (trodAll_cons_mk (Below.trod laidOut (by kernel_rfl) (of_decide_eq_true (by kernel_rfl)) k1 bel lt1) (trodAll_cons_mk (Below.trod laidOut (by kernel_rfl) (of_decide_eq_true (by kernel_rfl)) k2 bel lt2) trodAll_mk0))), rfl, bel.frame _, fun h => by cases h⟩

theorem over : Rows.verticalMirrorRow.holds Try.pinned (OpenSpec.ofChange Rows.verticalMirrorSpec) :=
  OpenClaim.holds_of_wide 8 Try.f8 rfl rfl rfl rfl rfl rfl rfl ⟨rfl, rfl, rfl, rfl, rfl⟩ rfl rfl rfl rfl rfl (by kernel_rfl) Try.func8 (by kernel_rfl)
    (of_decide_eq_true (by kernel_rfl)) (by unfold Func.isWrapper; first | (rw [if_pos (by decide +kernel)]; kernel_rfl) | (rw [if_neg (by decide +kernel)]; exact ⟨rfl, rfl⟩))
    (fun os started H enc _ => lifted os started H enc)

/-- the statement -/
theorem proved : Rows.VerticalMirrorSaid := over
end Go.Proofs.Ytgclfkgnkohgdaa.verticalMirror
