/- The statement ProfileWhere: for every input the law returns true, and every argument reads afterwards as before. No condition. -/
import Derived.Test.YtgmpaffoajmmmaaRows
import Derived.Test.YtgmpaffoajmmmaaLaSpot
import Derived.Test.YtgmpaffoajmmmaaWhPlain2
import Derived.SizedLaws
import Derived.WalkKit
import Derived.ProofKit
import Derived.OpenShut
import Derived.ShutString
import Derived.ChangeOld
import Derived.Below
namespace Go.Proofs.Ytgmpaffoajmmmaa
set_option linter.unusedSimpArgs false
set_option linter.unusedVariables false
open Go.RowKit
def LiRel (d : List Int) (k : Nat) (a t : Value) : Prop := ∃ j : Nat, j ≤ k ∧ t = .int .i64 j ∧ a = .int .i64 (d.take j).sum
def LwRel (n : Nat) (w : World) (t : Value) (wr : World) : Prop := ∃ k : Nat, k ≤ n ∧ t = .int .i64 k ∧ Below w.heap.size w wr
theorem ret_tt_ProfileWhere {b : Bool} (h : b = true) : Ending.returned (.bool b) = .returned (.bool true) := by rw [h]
set_option maxRecDepth 100000 in
set_option maxHeartbeats 4000000 in
theorem walk_ProfileWhere (A : Option Addr) (n cn : Nat) (v : List Int) (D : Option Addr) (m cm : Nat) (d : List Int) (lv : Int) (w : World) (hv : Ints w A n v) (hvf : ∀ x ∈ v, (Lit.int .i64 x).wf = true) (hn : n ≤ maxLen) (hn8 : n * 8 ≤ reachBytes) (hcA : CapOk A n cn) (hd : Ints w D m d) (hdf : ∀ x ∈ d, (Lit.int .i64 x).wf = true) (hm : m ≤ maxLen) (hm8 : m * 8 ≤ reachBytes) (hcD : CapOk D m cm) (hlf : (Lit.int .i64 lv).wf = true) :
    Calls Try.prog 6 #[.slice A n cn, .slice D m cm, .int .i64 lv] w fun e w' => e = .returned (.bool true) ∧ Below w.heap.size w w' := by
  have HV := Lib.hid hv
  have HD := Lib.hid hd
  have HNM := Lib.hid (And.intro hn hm)
  have HLV := Lib.hid hv.len
  have HLD := Lib.hid hd.len
  have HCD := Lib.hid hcD
  clear hv hd hvf hdf hn8 hm8 hn hm hlf hcA hcD
  by_cases hc : Pf.chE v d = 0
  · have hok := Pf.chOk_of hc
    have l1 := hok.len
    have l2 := hok.two
    have HNMX := Lib.hid (show n = m + 1 by have := HLV.out; have := HLD.out; omega)
    have hn0 : 0 < n := by have := HNMX.out; omega
    have m63 : m ≤ 63 := by have := HLV.out; have := HNMX.out; omega
    have HOK := Lib.hid hok
    have HC := Lib.hid hc
    have hsum : 0 ≤ d.sum ∧ d.sum ≤ 8000000 * 63 := by have := Pf.sum_nn hok.ds; have := HLD.out; omega
    obtain ⟨sum0, sum1⟩ := hsum
    by_cases hex : ∃ s, Pf.WhP v d lv s
    · obtain ⟨s, hs⟩ := hex
      obtain ⟨e1, e2⟩ := whV_of hc hs
      have HE := Lib.hid (And.intro e1 e2)
      obtain ⟨s0, s1, s2, s3⟩ := hs
      have HS3 := Lib.hid s3
      have HW1 := Lib.hid (Pf.bwE_in (s := s) hc s0 s1)
      have HSM := Lib.hid s1
      have s1' : s ≤ 8000000 * 63 := by omega
      clear hok l1 l2 hc e1 e2 s3 s1
      have hnext : (Pf.bwE v d (s + 1) = 2) ∨ (Pf.bwE v d (s + 1) = 0 ∧ Pf.bwV v d (s + 1) < lv) := by
        by_cases h : s + 1 ≤ d.sum
        · right
          have h2 := Pf.bwE_in (s := s + 1) HC.out (by omega) h
          exact ⟨h2.1, by rw [h2.2]; exact HS3.out (s + 1) (by omega) h⟩
        · left
          exact (Pf.bwE_out HC.out (.inr (by omega))).1
      have HNX := Lib.hid hnext
      clear hnext sum0 sum1
      go_enter Try.func6, Try.ntmps6
      go_wp2_with fail
      refine (awake_any _).mono ?_; rintro e w1 ⟨rfl, hB⟩
      have HB1 := Lib.hid hB
      clear hB
      go_wp2_with fail
      refine (wh_det (xWhere A D n cn m cm v d lv w1 (HV.out.below HB1.out) (HD.out.below HB1.out) HNM.out.1 HNM.out.2)).mono ?_; rintro e w2 ⟨rfl, hB⟩
      have HB2 := Lib.hid (bel_trans HB1.out hB)
      clear hB
      rw [HE.out.1, HE.out.2]
      go_wp2_with fail
      refine (bw_b (between_any A D n cn m cm v d s w2 (HV.out.below HB2.out) (HD.out.below HB2.out) HNM.out.1 HNM.out.2 ⟨by omega, by omega⟩)).mono ?_; rintro e w3 ⟨rfl, hB⟩
      have HB3 := Lib.hid (bel_trans HB2.out hB)
      clear hB
      rw [HW1.out.1, HW1.out.2]
      generalize Pf.btw v d s = X at *
      go_wp2_with fail
      refine (bw_b (between_any A D n cn m cm v d (s + 1) w3 (HV.out.below HB3.out) (HD.out.below HB3.out) HNM.out.1 HNM.out.2 ⟨by omega, by omega⟩)).mono ?_; rintro e w4 ⟨rfl, hB⟩
      have HB4 := Lib.hid (bel_trans HB3.out hB)
      clear hB
      generalize Pf.bwV v d (s + 1) = X2 at *
      generalize Pf.bwE v d (s + 1) = E2 at *
      rcases HNX.out with h | ⟨h, h2⟩
      · subst h
        go_wp2_with fail
        go_ret
        exact ⟨ret_tt_ProfileWhere (by simp), HB4.out⟩
      · subst h
        go_wp2_with fail
        go_ret
        exact ⟨ret_tt_ProfileWhere (by simp), HB4.out⟩
    · have hbey : Pf.Bey v d lv 0 := by
        intro t h0 h1
        rcases Int.lt_or_le (Pf.btw v d t) lv with h | h
        · exact h
        · exact absurd (Pf.wh_exists h0 h1 h) hex
      obtain ⟨e1, e2⟩ := whV_none hc hbey
      have HE := Lib.hid (And.intro e1 e2)
      have HBEY := Lib.hid hbey
      obtain ⟨bv, ov, hA, hbv, hcv⟩ := HV.out.cells (by omega)
      subst hA
      have HCV := Lib.hid hcv
      have hk0 : m ≤ cm := HCD.out.le
      have hk1 : cm ≤ 9223372036854775807 := by have := HCD.out.mx; unfold maxLen at this; omega
      clear hok l1 l2 hc e1 e2 hbey hex hcv
      go_enter Try.func6, Try.ntmps6
      go_wp2_with fail
      refine (awake_any _).mono ?_; rintro e w1 ⟨rfl, hB⟩
      have HB1 := Lib.hid hB
      clear hB
      go_wp2_with fail
      refine (wh_det (xWhere (some ⟨bv, ov, none⟩) D n cn m cm v d lv w1 (HV.out.below HB1.out) (HD.out.below HB1.out) HNM.out.1 HNM.out.2)).mono ?_; rintro e w2 ⟨rfl, hB⟩
      have HB2 := Lib.hid (bel_trans HB1.out hB)
      clear hB
      rw [HE.out.1, HE.out.2]
      go_wp2_with fail
      go_loopw [48] (fun t wr => LwRel n w t wr) (fun t _ => n - (intOf t).toNat)
      case atStart => exact ⟨0, by omega, rfl, HB2.out⟩
      case round =>
        obtain ⟨k, hk, rfl, hB⟩ := hrel
        have HBk := Lib.hid hB
        clear hB
        by_cases hlt : k < n
        · obtain ⟨a, ha⟩ := get_ex (k := k) HLV.out hlt
          have ca := (HBk.out.cell (p := ⟨bv, ov + k, none⟩) hbv).trans (HCV.out k a ha)
          have hkm : k ≤ m := by have := HNMX.out; omega
          have hkc : (k : Int) ≤ (cm : Int) := by omega
          clear ha
          have hsp := Pf.sum_take_le HOK.out.ds k
          have HFIN := Lib.hid (Pf.bwE_in (s := (d.take k).sum) HOK.out.err (by omega) hsp.2.2)
          have HLT := Lib.hid (HBEY.out (d.take k).sum (by omega) hsp.2.2)
          have HSP := Lib.hid hsp
          have iS : I64 (d.take k).sum := ⟨by omega, by omega⟩
          have IS := Lib.hid iS
          clear hsp iS
          obtain ⟨wo, rfl⟩ : ∃ wo : World, wo = wr := ⟨_, rfl⟩
          cases D with
          | none =>
            have hm0 : cm = 0 := HCD.out.nil rfl
            obtain rfl : m = 0 := by omega
            have hk00 : (k : Int) ≤ 0 := by omega
            subst hm0
            go_wp2_with fail
            go_loop [13, 57] (fun a t => LiRel d k a t) (fun _ t => k - (intOf t).toNat)
            case atStart => exact ⟨0, by omega, rfl, by simp⟩
            case round =>
              obtain ⟨j, hj, rfl, rfl⟩ := hrel
              by_cases hjk : j < k
              · exfalso; omega
              · have hjk2 : j = k := by omega
                subst hjk2
                have iS2 := IS.out
                obtain ⟨X, hX⟩ : ∃ X, Pf.btw v d (d.take j).sum = X := ⟨_, rfl⟩
                have HX := Lib.hid hX
                have hlt3 : X < lv := by rw [← hX]; exact HLT.out
                clear hX
                go_wp2_with fail
                refine (bw_b (between_any (some ⟨bv, ov, none⟩) none n cn 0 0 v d (d.take j).sum wo (HV.out.below HBk.out) (HD.out.below HBk.out) HNM.out.1 HNM.out.2 IS.out)).mono ?_; rintro e w3 ⟨rfl, hB⟩
                have HB3 := Lib.hid (bel_trans HBk.out hB)
                clear hB
                rw [HFIN.out.1, HFIN.out.2, HX.out]
                have hnl : ¬ lv ≤ X := by omega
                by_cases hXa : X = a
                · have hXl : (X == a) = true := beq_iff_eq.2 hXa
                  have hal : ¬ lv ≤ a := by omega
                  clear hXa
                  go_wp2_with fail
                  go_roundw
                  case rel => exact ⟨j + 1, by omega, by go_num, HB3.out⟩
                  case measure => simp only [intOf]; omega
                · have hXl : (X == a) = false := beq_eq_false_iff_ne.2 hXa
                  clear hXa
                  go_wp2_with fail
                  go_roundw
                  case rel => exact ⟨j + 1, by omega, by go_num, HB3.out⟩
                  case measure => simp only [intOf]; omega
          | some ad =>
            go_wp2_with fail
            go_loop [13, 57] (fun a t => LiRel d k a t) (fun _ t => k - (intOf t).toNat)
            case atStart => exact ⟨0, by omega, rfl, by simp⟩
            case round =>
              obtain ⟨j, hj, rfl, rfl⟩ := hrel
              by_cases hjk : j < k
              · obtain ⟨x, hx⟩ := get_ex (k := j) HLD.out (by omega)
                obtain ⟨bd, od, hDe, hbd, hcd⟩ := HD.out.cells (by omega)
                injection hDe with hDe
                have cd := (HBk.out.cell (p := ⟨bd, od + j, none⟩) hbd).trans (hcd j x hx)
                have HNX := Lib.hid (Pf.take_sum_succ hx)
                have hxo := HOK.out.ds x (List.mem_of_getElem? hx)
                obtain ⟨x0, x1⟩ := hxo
                have hs2 := Pf.sum_take_le HOK.out.ds j
                obtain ⟨t0, t1, _⟩ := hs2
                have t2 : (d.take j).sum ≤ 8000000 * 63 := by omega
                subst hDe
                clear hx hcd t1
                generalize (d.take j).sum = T at *
                go_wp2_with fail
                go_round
                case rel => exact ⟨j + 1, by omega, by go_num, by rw [HNX.out]⟩
                case measure => simp only [intOf]; omega
              · have hjk2 : j = k := by omega
                subst hjk2
                have iS2 := IS.out
                obtain ⟨X, hX⟩ : ∃ X, Pf.btw v d (d.take j).sum = X := ⟨_, rfl⟩
                have HX := Lib.hid hX
                have hlt3 : X < lv := by rw [← hX]; exact HLT.out
                clear hX
                go_wp2_with fail
                refine (bw_b (between_any (some ⟨bv, ov, none⟩) (some ad) n cn m cm v d (d.take j).sum wo (HV.out.below HBk.out) (HD.out.below HBk.out) HNM.out.1 HNM.out.2 IS.out)).mono ?_; rintro e w3 ⟨rfl, hB⟩
                have HB3 := Lib.hid (bel_trans HBk.out hB)
                clear hB
                rw [HFIN.out.1, HFIN.out.2, HX.out]
                have hnl : ¬ lv ≤ X := by omega
                by_cases hXa : X = a
                · have hXl : (X == a) = true := beq_iff_eq.2 hXa
                  have hal : ¬ lv ≤ a := by omega
                  clear hXa
                  go_wp2_with fail
                  go_roundw
                  case rel => exact ⟨j + 1, by omega, by go_num, HB3.out⟩
                  case measure => simp only [intOf]; omega
                · have hXl : (X == a) = false := beq_eq_false_iff_ne.2 hXa
                  clear hXa
                  go_wp2_with fail
                  go_roundw
                  case rel => exact ⟨j + 1, by omega, by go_num, HB3.out⟩
                  case measure => simp only [intOf]; omega
        · go_wp2_with fail
          go_ret
          exact ⟨ret_tt_ProfileWhere (by simp), HBk.out⟩
  · obtain ⟨e1, e2⟩ := whV_bad (lv := lv) hc
    have HE := Lib.hid (And.intro e1 e2)
    have HW0 := Lib.hid (Pf.bwE_ch (s := 0) hc).1
    have hr : (Pf.chE v d != 0) = true ∧ (Pf.chE v d != 6) = true := by
      refine ⟨by rw [bne_iff_ne]; exact hc, ?_⟩
      rw [bne_iff_ne]
      have := Pf.chE_cases v d
      omega
    obtain ⟨r0, r1⟩ := hr
    clear e1 e2 hc
    go_enter Try.func6, Try.ntmps6
    go_wp2_with fail
    refine (awake_any _).mono ?_; rintro e w1 ⟨rfl, hB⟩
    have HB1 := Lib.hid hB
    clear hB
    go_wp2_with fail
    refine (wh_det (xWhere A D n cn m cm v d lv w1 (HV.out.below HB1.out) (HD.out.below HB1.out) HNM.out.1 HNM.out.2)).mono ?_; rintro e w2 ⟨rfl, hB⟩
    have HB2 := Lib.hid (bel_trans HB1.out hB)
    clear hB
    rw [HE.out.1, HE.out.2]
    go_wp2_with fail
    refine (bw_b (between_any A D n cn m cm v d 0 w2 (HV.out.below HB2.out) (HD.out.below HB2.out) HNM.out.1 HNM.out.2 ⟨by omega, by omega⟩)).mono ?_; rintro e w3 ⟨rfl, hB⟩
    have HB3 := Lib.hid (bel_trans HB2.out hB)
    clear hB
    rw [HW0.out]
    generalize Pf.chE v d = E at *
    go_wp2_with fail
    go_ret
    exact ⟨ret_tt_ProfileWhere (by simp), HB3.out⟩
end Go.Proofs.Ytgmpaffoajmmmaa
namespace Go.Proofs.Ytgmpaffoajmmmaa.profileWhere
open Go.ChangeShapes Go.WideShapes Go.ChangeAt Go.RowKit
open Go.ChangeMaps (open_string shut_string)
set_option linter.unusedVariables false
set_option linter.unusedSimpArgs false

theorem own : ownKnob Try.prog.godebug = none := by kernel_rfl
theorem laidOut : laidOutB Try.prog = true := by kernel_rfl

set_option maxRecDepth 100000 in
theorem lifted (os : Os) (started : os.Started) (H : Type) (enc : TypeId × Value → H) :
    ReturnsInHanded {} Try.checked os 6 .any (Rows.profileWhereSpec.pre6 enc Try.prog Try.f6 Rows.profileWhereRow.domain false) (Rows.profileWhereSpec.post enc Try.prog Try.f6 false true false false) := by
  refine returnsInHanded_of_change_sized (C := Try.checked) own started (by kernel_rfl) Try.func6
    (ChangeSpec.witness6 (enc := enc) (C := Try.checked) false ⟨#[], #[.slice none 0 0, .slice none 0 0, .int .i64 0], []⟩ 8 (by kernel_rfl) (by kernel_rfl) (by kernel_rfl) (by kernel_rfl)) ?_
  intro W base args ds gs before hval0 hW hcnd hsz0 _
  have hval : ∀ (j : Nat) t v, Try.f6.params[j]? = some t → args[j]? = some v → Value.okWide Try.prog W .any base t v := hval0
  have hW' := hW
  obtain ⟨p, q, hA0, hV, rfl, hfz, hnd⟩ := hW
  have hA : DataW.TrodAll enc Try.prog W 0 (fun _ => true) true Try.f6.params.toList args.toList ds p := hA0
  have hsz : (DataW.weightsEach Try.prog (Try.f6.params.toList ++ Rows.profileWhereSpec.plain.varTypes Try.prog) (ds ++ gs)).all (· ≤ reachBytes) = true := hsz0
  rw [Try.params6] at hA hval hsz
  obtain ⟨v0, vs0, d0, ds0, p0, q0, hargs, rfl, rfl, h0, r0⟩ := trodAll_cons hA
  obtain ⟨v1, vs1, d1, ds1, p1, q1, rfl, rfl, rfl, h1, r1⟩ := trodAll_cons r0
  obtain ⟨v2, vs2, d2, ds2, p2, q2, rfl, rfl, rfl, h2, r2⟩ := trodAll_cons r1
  obtain ⟨rfl, rfl, rfl⟩ := trodAll_nil r2
  obtain rfl : args = #[v0, v1, v2] := by cases args; simp_all
  obtain ⟨rfl, rfl⟩ := trodVars_none hV
  have k0 := h0
  have lt0 : ∀ x ∈ p0, x.block < W.heap.size := by obtain ⟨m, hm⟩ := k0; exact DataW.trod_lt m _ _ _ hm
  have k1 := h1
  have lt1 : ∀ x ∈ p1, x.block < W.heap.size := by obtain ⟨m, hm⟩ := k1; exact DataW.trod_lt m _ _ _ hm
  have k2 := h2
  have lt2 : ∀ x ∈ p2, x.block < W.heap.size := by obtain ⟨m, hm⟩ := k2; exact DataW.trod_lt m _ _ _ hm
  obtain ⟨A0, n0, c0, z0, rfl, m0, qc0, w0, u0, o0⟩ := open_ints_Trod Try.underlying25 Try.underlying2 (by kernel_rfl) (hval 0 25 v0 rfl rfl) h0
  have o0' := o0 (weights_arg hsz (j := 0) rfl rfl)
  rw [show Try.prog.bytesOf 2 = 8 by kernel_rfl] at o0'
  obtain ⟨A1, n1, c1, z1, rfl, m1, qc1, w1, u1, o1⟩ := open_ints_Trod Try.underlying25 Try.underlying2 (by kernel_rfl) (hval 1 25 v1 rfl rfl) h1
  have o1' := o1 (weights_arg hsz (j := 1) rfl rfl)
  rw [show Try.prog.bytesOf 2 = 8 by kernel_rfl] at o1'
  obtain ⟨a2, rfl, rfl, rfl, w2⟩ := open_int Try.underlying2 (hval 2 2 v2 rfl rfl) h2
  clear hA0 hval0
  refine (Ytgmpaffoajmmmaa.walk_ProfileWhere A0 n0 c0 z0 A1 n1 c1 z1 a2 W w0 u0 m0 o0' qc0 w1 u1 m1 o1' qc1 w2).mono fun e W' ⟨he, bel⟩ => ?_
  subst he
  exact ⟨_, rfl, _, _, _, [], _, [], hW', trodAll_mk1 (shut_bool Try.underlying4 _), (trodAll_cons_mk (Below.trod laidOut (by kernel_rfl) (of_decide_eq_true (by kernel_rfl)) k0 bel lt0) (trodAll_cons_mk (Below.trod laidOut (by kernel_rfl) (of_decide_eq_true (by kernel_rfl)) k1 bel lt1) (trodAll_cons_mk (Below.trod laidOut (by kernel_rfl) (of_decide_eq_true (by kernel_rfl)) k2 bel lt2) trodAll_mk0))), rfl, bel.frame _, fun h => by cases h⟩

theorem over : Rows.profileWhereRow.holds Try.pinned (OpenSpec.ofChange Rows.profileWhereSpec) :=
  OpenClaim.holds_of_wide 6 Try.f6 rfl rfl rfl rfl rfl rfl rfl ⟨rfl, rfl, rfl, rfl, rfl⟩ rfl rfl rfl rfl rfl (by kernel_rfl) Try.func6 (by kernel_rfl)
    (of_decide_eq_true (by kernel_rfl)) (by unfold Func.isWrapper; first | (rw [if_pos (by decide +kernel)]; kernel_rfl) | (rw [if_neg (by decide +kernel)]; exact ⟨rfl, rfl⟩))
    (fun os started H enc _ => lifted os started H enc)

/-- the statement -/
theorem proved : Rows.ProfileWhereSaid := over
end Go.Proofs.Ytgmpaffoajmmmaa.profileWhere
