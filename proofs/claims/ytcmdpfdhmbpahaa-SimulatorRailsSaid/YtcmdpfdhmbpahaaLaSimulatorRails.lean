/- The statement SimulatorRails: for every input the law returns true, and every argument reads afterwards as before. No condition. -/
import Derived.Test.YtcmdpfdhmbpahaaRows
import Derived.Test.YtcmdpfdhmbpahaaLaBase59
import Derived.Test.YtcmdpfdhmbpahaaSimRa
import Derived.Test.YtcmdpfdhmbpahaaOpenPr
import Derived.SizedLaws
import Derived.WalkKit
import Derived.ProofKit
import Derived.OpenShut
import Derived.ShutString
import Derived.ChangeOld
import Derived.Below
namespace Go.Proofs.Ytcmdpfdhmbpahaa
set_option linter.unusedSimpArgs false
set_option linter.unusedVariables false
open Go.RowKit
set_option maxRecDepth 100000 in
set_option maxHeartbeats 4000000 in
theorem walk_SimulatorRails (A : Option Addr) (n c : Nat) (ps : List Pass) (x y z : Value) (B : Option Addr) (m d : Nat) (ds : List Int) (t : Int) (w : World) (hp : Passes w A n ps) (hw : ∀ q ∈ ps, Pass.wf q) (_ : n * 104 ≤ reachBytes) (hd : Ints w B m ds) (hdw : ∀ x ∈ ds, (Lit.int .i64 x).wf = true) (_ : m ≤ maxLen) (_ : m * 8 ≤ reachBytes) (ht : (Lit.int .i64 t).wf = true) :
    Calls Try.prog 7 #[.agg #[.slice A n c, x, y, z], .slice B m d, .int .i64 t] w fun e w' => e = .returned (.bool true) ∧ Below w.heap.size w w' := by
  have HP := Lib.hid hp
  have HD := Lib.hid hd
  have HX := Lib.hid (fun hn hm w hp hd => xRails A B n c m d ps ds t x y z w hp hd hn hm (wf_i64_bd ht) (fun q hq => ⟨(hw q hq).2.2.1, (hw q hq).2.2.2⟩) (fun q hq => wf_i64_bd (hdw q hq)))
  have HR := Lib.hid (fun hn hm w hp hd => rRails A B n c m d ps ds t x y z w hp hd hn hm (wf_i64_bd ht) (fun q hq => ⟨(hw q hq).2.2.1, (hw q hq).2.2.2⟩) (fun q hq => wf_i64_bd (hdw q hq)))
  clear hp hd hw hdw ht
  by_cases h1 : 64 < n
  · go_enter Try.func7, Try.ntmps7
    go_wp2_with fail
    refine (awake_any _).mono ?_; rintro e w1 ⟨rfl, hB⟩
    have k0 : w1.cell? ⟨w.heap.size, 0, none⟩ = some (.slice A n c) := (hB.cell (p := ⟨w.heap.size, 0, none⟩) (by simp)).trans (one_box w _ _ 0)
    have HB := Lib.hid (bel_alloc hB)
    clear hB
    go_wp2_with fail
    go_ret
    exact ⟨ret_bool (by simp), HB.out⟩
  by_cases h2 : 64 < m
  · go_enter Try.func7, Try.ntmps7
    go_wp2_with fail
    refine (awake_any _).mono ?_; rintro e w1 ⟨rfl, hB⟩
    have k0 : w1.cell? ⟨w.heap.size, 0, none⟩ = some (.slice A n c) := (hB.cell (p := ⟨w.heap.size, 0, none⟩) (by simp)).trans (one_box w _ _ 0)
    have HB := Lib.hid (bel_alloc hB)
    clear hB
    go_wp2_with fail
    go_ret
    exact ⟨ret_bool (by simp), HB.out⟩
  replace HX := Lib.hid (HX.out (by omega) (by omega))
  replace HR := Lib.hid (HR.out (by omega) (by omega))
  generalize raV ps ds t = V at *
  generalize raE ps ds t = E at *
  have e1 : (V == V) = true := beq_self_eq_true V
  have e2 : (E == E) = true := beq_self_eq_true E
  go_enter Try.func7, Try.ntmps7
  go_wp2_with fail
  refine (awake_any _).mono ?_; rintro e w1 ⟨rfl, hB⟩
  have KB : Hid (Has w1 w.heap.size [.slice A n c, x, y, z]) := Lib.hid ((Has.new w _ _).below hB)
  have HB := Lib.hid (bel_alloc hB)
  have k0 : w1.cell? ⟨w.heap.size, 0, none⟩ = some (.slice A n c) := KB.out.cell 0 _ rfl
  have k1 : w1.cell? ⟨w.heap.size, 1, none⟩ = some x := KB.out.cell 1 _ rfl
  have k2 : w1.cell? ⟨w.heap.size, 2, none⟩ = some y := KB.out.cell 2 _ rfl
  have k3 : w1.cell? ⟨w.heap.size, 3, none⟩ = some z := KB.out.cell 3 _ rfl
  clear hB
  go_wp2_with fail
  refine (HX.out _ (HP.out.below HB.out) (HD.out.below HB.out)).mono ?_; rintro e w2 ⟨rfl, hB⟩
  replace KB := Lib.hid (KB.out.below hB)
  replace HB := Lib.hid (bel_trans HB.out hB)
  clear hB k0 k1 k2 k3
  have k0 : w2.cell? ⟨w.heap.size, 0, none⟩ = some (.slice A n c) := KB.out.cell 0 _ rfl
  have k1 : w2.cell? ⟨w.heap.size, 1, none⟩ = some x := KB.out.cell 1 _ rfl
  have k2 : w2.cell? ⟨w.heap.size, 2, none⟩ = some y := KB.out.cell 2 _ rfl
  have k3 : w2.cell? ⟨w.heap.size, 3, none⟩ = some z := KB.out.cell 3 _ rfl
  go_wp2_with fail
  refine (HR.out _ (HP.out.below HB.out) (HD.out.below HB.out)).mono ?_; rintro e w3 ⟨rfl, hB⟩
  replace HB := Lib.hid (bel_trans HB.out hB)
  clear hB
  go_wp2_with fail
  go_ret
  exact ⟨ret_bool (by simp), HB.out⟩
end Go.Proofs.Ytcmdpfdhmbpahaa
namespace Go.Proofs.Ytcmdpfdhmbpahaa.simulatorRails
open Go.ChangeShapes Go.WideShapes Go.ChangeAt Go.RowKit
open Go.ChangeMaps (open_string shut_string)
set_option linter.unusedVariables false
set_option linter.unusedSimpArgs false

theorem own : ownKnob Try.prog.godebug = none := by kernel_rfl
theorem laidOut : laidOutB Try.prog = true := by kernel_rfl

set_option maxRecDepth 100000 in
theorem lifted (os : Os) (started : os.Started) (H : Type) (enc : TypeId × Value → H) :
    ReturnsInHanded {} Try.checked os 7 .any (Rows.simulatorRailsSpec.pre6 enc Try.prog Try.f7 Rows.simulatorRailsRow.domain false) (Rows.simulatorRailsSpec.post enc Try.prog Try.f7 false true false false) := by
  refine returnsInHanded_of_change_sized (C := Try.checked) own started (by kernel_rfl) Try.func7
    (ChangeSpec.witness6 (enc := enc) (C := Try.checked) false ⟨#[], #[.agg #[.slice none 0 0, .int .i64 0, .int .i64 0, .bool false], .slice none 0 0, .int .i64 0], []⟩ 8 (by kernel_rfl) (by kernel_rfl) (by kernel_rfl) (by kernel_rfl)) ?_
  intro W base args ds gs before hval0 hW hcnd hsz0 _
  have hval : ∀ (j : Nat) t v, Try.f7.params[j]? = some t → args[j]? = some v → Value.okWide Try.prog W .any base t v := hval0
  have hW' := hW
  obtain ⟨p, q, hA0, hV, rfl, hfz, hnd⟩ := hW
  have hA : DataW.TrodAll enc Try.prog W 0 (fun _ => true) true Try.f7.params.toList args.toList ds p := hA0
  have hsz : (DataW.weightsEach Try.prog (Try.f7.params.toList ++ Rows.simulatorRailsSpec.plain.varTypes Try.prog) (ds ++ gs)).all (· ≤ reachBytes) = true := hsz0
  rw [Try.params7] at hA hval hsz
  obtain ⟨v0, vs0, d0, ds0, p0, q0, hargs, rfl, rfl, h0, r0⟩ := trodAll_cons hA
  obtain ⟨v1, vs1, d1, ds1, p1, q1, rfl, rfl, rfl, h1, r1⟩ := trodAll_cons r0
  obtain ⟨v2, vs2, d2, ds2, p2, q2, rfl, rfl, rfl, h2, r2⟩ := trodAll_cons r1
  obtain ⟨rfl, rfl, rfl⟩ := trodAll_nil r2
  obtain rfl : args = #[v0, v1, v2] := by cases args; simp_all
  obtain ⟨rfl, rfl⟩ := trodVars_none hV
  have k0 := h0
  have lt0 : ∀ x ∈ p0, x.block < W.heap.size := by obtain ⟨m, hm⟩ := k0; exact DataW.trod_lt m _ _ _ hm
  have k1 := h1
  have lt1 : ∀ x ∈ p1, x.block < W.heap.size := by obtain ⟨m, hm⟩ := k1; exact DataW.trod_lt m _ _ _ hm
  have k2 := h2
  have lt2 : ∀ x ∈ p2, x.block < W.heap.size := by obtain ⟨m, hm⟩ := k2; exact DataW.trod_lt m _ _ _ hm
  obtain ⟨A0, n0, c0, z0, x0, y0, t0, rfl, w0, o0, u0⟩ := open_pred (hval 0 69 v0 rfl rfl) h0 (weights_arg hsz (j := 0) rfl rfl)
  obtain ⟨A1, n1, c1, z1, rfl, m1, qc1, w1, u1, o1⟩ := open_ints_Trod Try.underlying38 Try.underlying2 (by kernel_rfl) (hval 1 38 v1 rfl rfl) h1
  have o1' := o1 (weights_arg hsz (j := 1) rfl rfl)
  rw [show Try.prog.bytesOf 2 = 8 by kernel_rfl] at o1'
  obtain ⟨a2, rfl, rfl, rfl, w2⟩ := open_int Try.underlying2 (hval 2 2 v2 rfl rfl) h2
  clear hA0 hval0
  refine (Ytcmdpfdhmbpahaa.walk_SimulatorRails A0 n0 c0 z0 x0 y0 t0 A1 n1 c1 z1 a2 W w0 u0 o0 w1 u1 m1 o1' w2).mono fun e W' ⟨he, bel⟩ => ?_
  subst he
  exact ⟨_, rfl, _, _, _, [], _, [], hW', trodAll_mk1 (shut_bool Try.underlying4 _), (trodAll_cons_mk (Below.trod laidOut (by kernel_rfl) (of_decide_eq_true (by kernel_rfl)) k0 bel lt0) (trodAll_cons_mk (Below.trod laidOut (by kernel_rfl) (of_decide_eq_true (by kernel_rfl)) k1 bel lt1) (trodAll_cons_mk (Below.trod laidOut (by kernel_rfl) (of_decide_eq_true (by kernel_rfl)) k2 bel lt2) trodAll_mk0))), rfl, bel.frame _, fun h => by cases h⟩

theorem over : Rows.simulatorRailsRow.holds Try.pinned (OpenSpec.ofChange Rows.simulatorRailsSpec) :=
  OpenClaim.holds_of_wide 7 Try.f7 rfl rfl rfl rfl rfl rfl rfl ⟨rfl, rfl, rfl, rfl, rfl⟩ rfl rfl rfl rfl rfl (by kernel_rfl) Try.func7 (by kernel_rfl)
    (of_decide_eq_true (by kernel_rfl)) (by unfold Func.isWrapper; first | (rw [if_pos (by decide +kernel)]; kernel_rfl) | (rw [if_neg (by decide +kernel)]; exact ⟨rfl, rfl⟩))
    (fun os started H enc _ => lifted os started H enc)

/-- the statement -/
theorem proved : Rows.SimulatorRailsSaid := over
end Go.Proofs.Ytcmdpfdhmbpahaa.simulatorRails
