/- The statement SpeedplanCovers: for every input the law returns true, and every argument reads afterwards as before. No condition. -/
import Derived.Test.YtgplpapphmaafaaRows
import Derived.Test.YtgplpapphmaafaaLaBase35
import Derived.Test.YtgplpapphmaafaaSpPlain2
import Derived.Test.YtgplpapphmaafaaPl
import Derived.SizedLaws
import Derived.WalkKit
import Derived.ProofKit
import Derived.OpenShut
import Derived.ShutString
import Derived.ChangeOld
import Derived.Below
namespace Go.Proofs.Ytgplpapphmaafaa
set_option linter.unusedSimpArgs false
set_option linter.unusedVariables false
open Go.RowKit
open Sp
theorem gr_sl {F : FuncId} {args : Array Value} {f : Int × Int → Int} {ws st : Cs.Wins} {n : Nat} {w : World} (h : Calls Try.prog F args w (GrPost f ws st n w)) (ht : Cs.tgE ws st = 0) : Calls Try.prog F args w (SlRes ((Cs.tight ws st).map f) n 0 w) := by
  refine h.mono fun e w' ⟨h1, h2, h3⟩ => ?_
  obtain ⟨A, c, he, hI⟩ := h1 ht
  exact ⟨A, c, he, hI, h3⟩
theorem mt_b {F : FuncId} {args : Array Value} {ws st : Cs.Wins} {vs : List Int} {w : World} (hm : Meet ws st vs) (h : Calls Try.prog F args w (MtPost ws st vs w)) : Calls Try.prog F args w fun e w' => e = .returned (.bool true) ∧ Below w.heap.size w w' :=
  h.mono fun e w' ⟨h1, h2, h3⟩ => ⟨h1 hm, h3⟩
theorem mt_n {F : FuncId} {args : Array Value} {ws st : Cs.Wins} {vs : List Int} {w : World} (hm : ¬ Meet ws st vs) (h : Calls Try.prog F args w (MtPost ws st vs w)) : Calls Try.prog F args w fun e w' => e = .returned (.bool false) ∧ Below w.heap.size w w' :=
  h.mono fun e w' ⟨h1, h2, h3⟩ => ⟨h2 hm, h3⟩
def cvM (v l : List Int) : Nat → Int
  | 0 => 0
  | j + 1 => max (cvM v l j) (v.getD j 0 - l.getD j 0)
theorem cvM_ge {v l : List Int} : ∀ j : Nat, 0 ≤ cvM v l j ∧ ∀ i, i < j → v.getD i 0 - l.getD i 0 ≤ cvM v l j
  | 0 => ⟨by simp [cvM], fun i h => by omega⟩
  | j + 1 => by
    obtain ⟨h1, h2⟩ := @cvM_ge v l j
    refine ⟨by show 0 ≤ max (cvM v l j) _; omega, fun i h => ?_⟩
    show _ ≤ max (cvM v l j) (v.getD j 0 - l.getD j 0)
    rcases Nat.lt_or_ge i j with hl | hl
    · have := h2 i hl; omega
    · obtain rfl : i = j := by omega
      omega
theorem cvM_le {v l : List Int} {b : Int} (hb : 0 ≤ b) : ∀ j : Nat, (∀ i, i < j → v.getD i 0 - l.getD i 0 ≤ b) → cvM v l j ≤ b
  | 0, _ => hb
  | j + 1, h => by
    have h1 := cvM_le hb j (fun i hi => h i (by omega))
    have h2 := h j (by omega)
    show max (cvM v l j) (v.getD j 0 - l.getD j 0) ≤ b
    omega
def CvRel (v l : List Int) (n : Nat) (w : World) (a t : Value) (wr : World) : Prop := ∃ j : Nat, j ≤ n ∧ t = .int .i64 j ∧ a = .int .i64 (cvM v l j) ∧ Below w.heap.size w wr
def CwRel (n : Nat) (w : World) (t : Value) (wr : World) : Prop := ∃ j : Nat, j ≤ n ∧ t = .int .i64 j ∧ Below w.heap.size w wr
theorem cv_bd {zs ys : Cs.Wins} {v : List Int} (h : rdE zs ys = 0) (ht : Cs.tgE zs ys = 0) (hv : Meet zs ys v) {i : Nat} (hi : i < zs.length) : 0 ≤ (faL zs ys 0).getD i 0 ∧ (faL zs ys 0).getD i 0 ≤ v.getD i 0 ∧ v.getD i 0 ≤ 1000 := by
  have h1 := hv.2.2.between hi
  have h2 := tight_ok h ht hi
  rw [getD_of (fa_get hi)]
  unfold okV at h2
  omega
theorem ret_tt_SpeedplanCovers {b : Bool} (h : b = true) : Ending.returned (.bool b) = .returned (.bool true) := by rw [h]
set_option maxRecDepth 100000 in
set_option maxHeartbeats 4000000 in
theorem walk_SpeedplanCovers (A : Option Addr) (n cn : Nat) (zs : Cs.Wins) (S : Option Addr) (m cm : Nat) (ys : Cs.Wins) (V : Option Addr) (nv cv : Nat) (v : List Int) (w : World) (hw : Pairs w A n zs) (hzf : ∀ x ∈ zs, WinWf x) (hn : n ≤ maxLen) (hn8 : n * 16 ≤ reachBytes) (hcA : CapOk A n cn) (hs : Pairs w S m ys) (hyf : ∀ x ∈ ys, WinWf x) (hm : m ≤ maxLen) (hm8 : m * 16 ≤ reachBytes) (hcS : CapOk S m cm) (hv : Ints w V nv v) (hfv : ∀ x ∈ v, (Lit.int .i64 x).wf = true) (hnv : nv ≤ maxLen) (h8nv : nv * 8 ≤ reachBytes) :
    Calls Try.prog 8 #[.slice A n cn, .slice S m cm, .slice V nv cv] w fun e w' => e = .returned (.bool true) ∧ Below w.heap.size w w' := by
  have HW := Lib.hid hw
  have HS := Lib.hid hs
  have HLW := Lib.hid hw.len
  have HNM := Lib.hid (And.intro hn hm)
  have HCS := Lib.hid hcS
  have HV := Lib.hid hv
  have HLV := Lib.hid hv.len
  have HNV := Lib.hid hnv
  clear hw hs hv hcA hcS hzf hyf hn8 hm8 hn hm hfv h8nv hnv
  by_cases hf : faE zs ys 0 = 0
  · have hrd : rdE zs ys = 0 := by
      by_cases h : rdE zs ys = 0
      · exact h
      · rw [faE_r h] at hf; exact absurd hf h
    have ht : Cs.tgE zs ys = 0 := by rw [← faE_t (k := 0) hrd ⟨by decide, by decide⟩]; exact hf
    have hn64 : n ≤ 64 := by have := tgE_n ht; have := HLW.out; omega
    have HRT := Lib.hid (And.intro hrd ht)
    have HF := Lib.hid hf
    obtain ⟨LO, hLO⟩ : ∃ LO, faL zs ys 0 = LO := ⟨_, rfl⟩
    have HLO := Lib.hid hLO
    clear hrd ht hf hLO
    by_cases hme : Meet zs ys v
    · have HME := Lib.hid hme
      have HNE := Lib.hid (show nv = n by have := HLV.out; have := HLW.out; have := hme.2.1; omega)
      have hnn : ((n : Int) != (nv : Int)) = false := by rw [bne_eq_false_iff_eq]; have := HNE.out; omega
      have hnl : nv ≤ 64 := by have := HNE.out; omega
      have hnl2 : n ≤ nv := by have := HNE.out; omega
      have hnl3 : nv ≤ n := by have := HNE.out; omega
      clear hme
      go_enter Try.func8, Try.ntmps8
      go_wp2_with fail
      refine (awake_any _).mono ?_; rintro e w1 ⟨rfl, hB⟩
      have HB1 := Lib.hid (bel_trans (Below.refl _ w) hB)
      clear hB
      go_wp2_with fail
      refine (sl_ex (xSpFamily A S n cn m cm zs ys 0 w1 (HW.out.below HB1.out) (HS.out.below HB1.out) HNM.out.1 HNM.out.2 HCS.out.le HCS.out.mx) HF.out HLO.out).mono ?_; rintro e w2 ⟨A1, c1, rfl, hI, hB⟩
      have HB2 := Lib.hid (bel_trans HB1.out hB)
      have I1 := Lib.hid hI
      clear hB hI
      go_wp2_with fail
      refine (mt_b HME.out (xMeets A S V n cn m cm nv cv zs ys v w2 (HW.out.below HB2.out) (HS.out.below HB2.out) (HV.out.below HB2.out) HNM.out.1 HNM.out.2 HNV.out)).mono ?_; rintro e w3 ⟨rfl, hB⟩
      have HB3 := Lib.hid (bel_trans HB2.out hB)
      replace I1 := Lib.hid (I1.out.below hB)
      clear hB
      go_wp2_with fail
      go_loopw [9, 47] (fun a t wr => CvRel v LO nv w3 a t wr) (fun _ t _ => nv - (intOf t).toNat)
      case atStart => exact ⟨0, by omega, rfl, rfl, Below.refl _ _⟩
      case round =>
        obtain ⟨j, hj, rfl, rfl, hB⟩ := hrel
        have HBr := Lib.hid hB
        clear hB
        have hge := Lib.hid (cvM_ge (v := v) (l := LO) j)
        have hm0 := hge.out.1
        have hm1 : cvM v LO j ≤ 1000 := by
          refine cvM_le (by omega) j fun i hi => ?_
          have h := cv_bd HRT.out.1 HRT.out.2 HME.out (i := i) (by have := HLW.out; omega)
          rw [HLO.out] at h
          omega
        by_cases hlt : j < nv
        · have hjz : j < zs.length := by have := HLW.out; omega
          obtain ⟨x, hx⟩ := get_ex HLV.out hlt
          obtain ⟨y, hy⟩ := get_ex (k := j) I1.out.len (by omega)
          have hbd := cv_bd HRT.out.1 HRT.out.2 HME.out hjz
          have HST := Lib.hid (show cvM v LO (j + 1) = max (cvM v LO j) (x - y) by show max (cvM v LO j) (v.getD j 0 - LO.getD j 0) = _; rw [getD_of hx, getD_of hy])
          rw [HLO.out, getD_of hx, getD_of hy] at hbd
          obtain ⟨y0, yx, x1⟩ := hbd
          obtain ⟨b1, o1, rfl, hb1, c1'⟩ := ints_cell I1.out hy
          obtain ⟨b2, o2, rfl, hb2, c2'⟩ := ints_cell HV.out hx
          have d1 := (HBr.out.cell (p := ⟨b1, o1 + j, none⟩) hb1).trans c1'
          have d2 := (HBr.out.cell (p := ⟨b2, o2 + j, none⟩) (Nat.lt_of_lt_of_le hb2 HB3.out.size)).trans ((HB3.out.cell (p := ⟨b2, o2 + j, none⟩) hb2).trans c2')
          have e0 : (0 : Int) ≤ (j : Int) := by omega
          have e1 : (j : Int) < (n : Int) := by omega
          have e2 : (j : Int) < (nv : Int) := by omega
          have e3 : IntKind.i64.wrap (x - y) = x - y := IntWalk.i64_in _ (by omega)
          have e4 : ¬ x < y := by omega
          clear hx hy c1' c2'
          generalize cvM v LO j = M at *
          go_wp2_with fail
          go_quiet (fail)
          have HB2 := Lib.hid (below_drewN HBr.out nq)
          replace d1 : (wr.drewN nq).cell? ⟨b1, o1 + j, none⟩ = some (.int .i64 y) := d1
          replace d2 : (wr.drewN nq).cell? ⟨b2, o2 + j, none⟩ = some (.int .i64 x) := d2
          generalize wr.drewN nq = wq at *
          go_wp2_with fail
          go_quiet (fail)
          go_wp2_with fail
          go_roundw
          case rel => exact ⟨j + 1, by omega, by go_num, by rw [HST.out], below_drewN HB2.out _⟩
          case measure => simp only [intOf]; omega
        · have hjn := Lib.hid (show j = nv by omega)
          obtain ⟨K, hK⟩ : ∃ K, cvM v LO j = K := ⟨_, rfl⟩
          have HKI := Lib.hid (show ∀ i, i < zs.length → v.getD i 0 - (faL zs ys 0).getD i 0 ≤ K by
            intro i hi
            rw [HLO.out, ← hK]
            exact hge.out.2 i (by have := HLW.out; have := hjn.out; omega))
          rw [hK] at hm0 hm1 ⊢
          have HFK := Lib.hid ((faE_t (k := K) HRT.out.1 ⟨hm0, hm1⟩).trans HRT.out.2)
          clear hK hge
          have HBz := Lib.hid (bel_trans HB3.out HBr.out)
          replace I1 := Lib.hid (I1.out.below HBr.out)
          go_wp2_with fail
          refine (sl_ex (xSpFamily A S n cn m cm zs ys K wr (HW.out.below HBz.out) (HS.out.below HBz.out) HNM.out.1 HNM.out.2 HCS.out.le HCS.out.mx) HFK.out rfl).mono ?_; rintro e w5 ⟨A2, c2, rfl, hI, hB⟩
          have I2 := Lib.hid hI
          replace I1 := Lib.hid (I1.out.below hB)
          have HB5 := Lib.hid (bel_trans HBz.out hB)
          clear hI hB
          go_wp2_with fail
          go_loopw [89] (fun t wr => CwRel nv w5 t wr) (fun t _ => nv - (intOf t).toNat)
          case atStart => exact ⟨0, by omega, rfl, Below.refl _ _⟩
          case round =>
            obtain ⟨r, hr, rfl, hB⟩ := hrel
            have HBs := Lib.hid hB
            clear hB
            by_cases hlt2 : r < nv
            · have hrz : r < zs.length := by have := HLW.out; omega
              obtain ⟨x, hx⟩ := get_ex HLV.out hlt2
              obtain ⟨y, hy⟩ := get_ex (k := r) I1.out.len (by omega)
              obtain ⟨z, hz⟩ := get_ex (k := r) I2.out.len (by omega)
              have hbd := cv_bd HRT.out.1 HRT.out.2 HME.out hrz
              have hco := fa_cover HME.out HKI.out HRT.out.1 HRT.out.2 hrz
              rw [HLO.out, getD_of hx, getD_of hy] at hbd hco
              rw [getD_of hz] at hco
              obtain ⟨y0, yx, x1⟩ := hbd
              obtain ⟨g0, g1, g2⟩ := hco
              obtain ⟨b1, o1, rfl, hb1, c1'⟩ := ints_cell I1.out hy
              obtain ⟨b2, o2, rfl, hb2, c2'⟩ := ints_cell HV.out hx
              obtain ⟨b3, o3, rfl, hb3, c3'⟩ := ints_cell I2.out hz
              have d1 := (HBs.out.cell (p := ⟨b1, o1 + r, none⟩) hb1).trans c1'
              have d2 := (HBs.out.cell (p := ⟨b2, o2 + r, none⟩) (Nat.lt_of_lt_of_le hb2 HB5.out.size)).trans ((HB5.out.cell (p := ⟨b2, o2 + r, none⟩) hb2).trans c2')
              have d3 := (HBs.out.cell (p := ⟨b3, o3 + r, none⟩) hb3).trans c3'
              have e0 : (0 : Int) ≤ (r : Int) := by omega
              have e1 : (r : Int) < (n : Int) := by omega
              have e2 : (r : Int) < (nv : Int) := by omega
              have e3 : IntKind.i64.wrap (y + K) = y + K := IntWalk.i64_in _ (by omega)
              have e4 : decide (z < x) = false := decide_eq_false (by omega)
              have e5 : decide (y + K < z) = false := decide_eq_false (by omega)
              clear hx hy hz c1' c2' c3'
              go_wp2_with fail
              go_quiet (fail)
              go_wp2_with fail
              go_roundw
              case rel => exact ⟨r + 1, by omega, by go_num, below_drewN HBs.out _⟩
              case measure => simp only [intOf]; omega
            · go_wp2_with fail
              go_ret
              exact ⟨ret_tt_SpeedplanCovers (by simp), bel_trans HB5.out HBs.out⟩
    · have HME := Lib.hid hme
      clear hme
      go_enter Try.func8, Try.ntmps8
      go_wp2_with fail
      refine (awake_any _).mono ?_; rintro e w1 ⟨rfl, hB⟩
      have HB1 := Lib.hid (bel_trans (Below.refl _ w) hB)
      clear hB
      go_wp2_with fail
      refine (sl_ex (xSpFamily A S n cn m cm zs ys 0 w1 (HW.out.below HB1.out) (HS.out.below HB1.out) HNM.out.1 HNM.out.2 HCS.out.le HCS.out.mx) HF.out HLO.out).mono ?_; rintro e w2 ⟨A1, c1, rfl, hI, hB⟩
      have HB2 := Lib.hid (bel_trans HB1.out hB)
      have I1 := Lib.hid hI
      clear hB hI
      go_wp2_with fail
      refine (mt_n HME.out (xMeets A S V n cn m cm nv cv zs ys v w2 (HW.out.below HB2.out) (HS.out.below HB2.out) (HV.out.below HB2.out) HNM.out.1 HNM.out.2 HNV.out)).mono ?_; rintro e w3 ⟨rfl, hB⟩
      have HB3 := Lib.hid (bel_trans HB2.out hB)
      replace I1 := Lib.hid (I1.out.below hB)
      clear hB
      go_wp2_with fail
      go_ret
      exact ⟨ret_tt_SpeedplanCovers (by simp), HB3.out⟩
  · have hne : (faE zs ys 0 != 0) = true := by rw [bne_iff_ne]; exact hf
    have hne2 : (faE zs ys 0 == 0) = false := beq_eq_false_iff_ne.2 hf
    have HON := Lib.hid (show okN (faE zs ys 0) n = 0 by unfold okN; rw [if_neg hf])
    clear hf
    go_enter Try.func8, Try.ntmps8
    go_wp2_with fail
    refine (awake_any _).mono ?_; rintro e w1 ⟨rfl, hB⟩
    have HB1 := Lib.hid (bel_trans (Below.refl _ w) hB)
    clear hB
    go_wp2_with fail
    refine (xSpFamily A S n cn m cm zs ys 0 w1 (HW.out.below HB1.out) (HS.out.below HB1.out) HNM.out.1 HNM.out.2 HCS.out.le HCS.out.mx).mono ?_; rintro e w2 ⟨A1, c1, rfl, hI, hB⟩
    have HB2 := Lib.hid (bel_trans HB1.out hB)
    clear hB
    clear hI
    rw [HON.out]
    generalize faE zs ys 0 = E at *
    go_wp2_with fail
    go_ret
    exact ⟨ret_tt_SpeedplanCovers (by simp), HB2.out⟩
end Go.Proofs.Ytgplpapphmaafaa
namespace Go.Proofs.Ytgplpapphmaafaa.speedplanCovers
open Go.ChangeShapes Go.WideShapes Go.ChangeAt Go.RowKit
open Go.ChangeMaps (open_string shut_string)
set_option linter.unusedVariables false
set_option linter.unusedSimpArgs false

theorem own : ownKnob Try.prog.godebug = none := by kernel_rfl
theorem laidOut : laidOutB Try.prog = true := by kernel_rfl

set_option maxRecDepth 100000 in
theorem lifted (os : Os) (started : os.Started) (H : Type) (enc : TypeId × Value → H) :
    ReturnsInHanded {} Try.checked os 8 .any (Rows.speedplanCoversSpec.pre6 enc Try.prog Try.f8 Rows.speedplanCoversRow.domain false) (Rows.speedplanCoversSpec.post enc Try.prog Try.f8 false true false false) := by
  refine returnsInHanded_of_change_sized (C := Try.checked) own started (by kernel_rfl) Try.func8
    (ChangeSpec.witness6 (enc := enc) (C := Try.checked) false ⟨#[], #[.slice none 0 0, .slice none 0 0, .slice none 0 0], []⟩ 8 (by kernel_rfl) (by kernel_rfl) (by kernel_rfl) (by kernel_rfl)) ?_
  intro W base args ds gs before hval0 hW hcnd hsz0 _
  have hval : ∀ (j : Nat) t v, Try.f8.params[j]? = some t → args[j]? = some v → Value.okWide Try.prog W .any base t v := hval0
  have hW' := hW
  obtain ⟨p, q, hA0, hV, rfl, hfz, hnd⟩ := hW
  have hA : DataW.TrodAll enc Try.prog W 0 (fun _ => true) true Try.f8.params.toList args.toList ds p := hA0
  have hsz : (DataW.weightsEach Try.prog (Try.f8.params.toList ++ Rows.speedplanCoversSpec.plain.varTypes Try.prog) (ds ++ gs)).all (· ≤ reachBytes) = true := hsz0
  rw [Try.params8] at hA hval hsz
  obtain ⟨v0, vs0, d0, ds0, p0, q0, hargs, rfl, rfl, h0, r0⟩ := trodAll_cons hA
  obtain ⟨v1, vs1, d1, ds1, p1, q1, rfl, rfl, rfl, h1, r1⟩ := trodAll_cons r0
  obtain ⟨v2, vs2, d2, ds2, p2, q2, rfl, rfl, rfl, h2, r2⟩ := trodAll_cons r1
  obtain ⟨rfl, rfl, rfl⟩ := trodAll_nil r2
  obtain rfl : args = #[v0, v1, v2] := by cases args; simp_all
  obtain ⟨rfl, rfl⟩ := trodVars_none hV
  have k0 := h0
  have lt0 : ∀ x ∈ p0, x.block < W.heap.size := by obtain ⟨m, hm⟩ := k0; exact DataW.trod_lt m _ _ _ hm
  have k1 := h1
  have lt1 : ∀ x ∈ p1, x.block < W.heap.size := by obtain ⟨m, hm⟩ := k1; exact DataW.trod_lt m _ _ _ hm
  have k2 := h2
  have lt2 : ∀ x ∈ p2, x.block < W.heap.size := by obtain ⟨m, hm⟩ := k2; exact DataW.trod_lt m _ _ _ hm
  obtain ⟨A0, n0, c0, z0, rfl, m0, qc0, w0, u0, o0⟩ := open_recs_Trod win 2 (by decide) (fun _ => rfl) WinWf Try.underlying34 (by kernel_rfl) el_win (hval 0 34 v0 rfl rfl) h0
  have o0' := o0 (weights_arg hsz (j := 0) rfl rfl)
  rw [show Try.prog.bytesOf 42 = 16 by kernel_rfl] at o0'
  obtain ⟨A1, n1, c1, z1, rfl, m1, qc1, w1, u1, o1⟩ := open_recs_Trod win 2 (by decide) (fun _ => rfl) WinWf Try.underlying25 (by kernel_rfl) el_step (hval 1 25 v1 rfl rfl) h1
  have o1' := o1 (weights_arg hsz (j := 1) rfl rfl)
  rw [show Try.prog.bytesOf 52 = 16 by kernel_rfl] at o1'
  obtain ⟨A2, n2, c2, z2, rfl, m2, qc2, w2, u2, o2⟩ := open_ints_Trod Try.underlying22 Try.underlying2 (by kernel_rfl) (hval 2 22 v2 rfl rfl) h2
  have o2' := o2 (weights_arg hsz (j := 2) rfl rfl)
  rw [show Try.prog.bytesOf 2 = 8 by kernel_rfl] at o2'
  clear hA0 hval0
  refine (Ytgplpapphmaafaa.walk_SpeedplanCovers A0 n0 c0 z0 A1 n1 c1 z1 A2 n2 c2 z2 W w0 u0 m0 o0' qc0 w1 u1 m1 o1' qc1 w2 u2 m2 o2').mono fun e W' ⟨he, bel⟩ => ?_
  subst he
  exact ⟨_, rfl, _, _, _, [], _, [], hW', trodAll_mk1 (shut_bool Try.underlying4 _), (trodAll_cons_mk (Below.trod laidOut (by kernel_rfl) (of_decide_eq_true (by kernel_rfl)) k0 bel lt0) (trodAll_cons_mk (Below.trod laidOut (by kernel_rfl) (of_decide_eq_true (by kernel_rfl)) k1 bel lt1) (trodAll_cons_mk (Below.trod laidOut (by kernel_rfl) (of_decide_eq_true (by kernel_rfl)) k2 bel lt2) trodAll_mk0))), rfl, bel.frame _, fun h => by cases h⟩

theorem over : Rows.speedplanCoversRow.holds Try.pinned (OpenSpec.ofChange Rows.speedplanCoversSpec) :=
  OpenClaim.holds_of_wide 8 Try.f8 rfl rfl rfl rfl rfl rfl rfl ⟨rfl, rfl, rfl, rfl, rfl⟩ rfl rfl rfl rfl rfl (by kernel_rfl) Try.func8 (by kernel_rfl)
    (of_decide_eq_true (by kernel_rfl)) (by unfold Func.isWrapper; first | (rw [if_pos (by decide +kernel)]; kernel_rfl) | (rw [if_neg (by decide +kernel)]; exact ⟨rfl, rfl⟩))
    (fun os started H enc _ => lifted os started H enc)

/-- the statement -/
theorem proved : Rows.SpeedplanCoversSaid := over
end Go.Proofs.Ytgplpapphmaafaa.speedplanCovers
