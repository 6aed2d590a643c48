/- The statement ProfileInside: for every input the law returns true, and every argument reads afterwards as before. No condition. -/
import Derived.Test.YtgmpaffoajmmmaaRows
import Derived.Test.YtgmpaffoajmmmaaLaSpot
import Derived.Test.YtgmpaffoajmmmaaWhPlain
import Derived.SizedLaws
import Derived.WalkKit
import Derived.ProofKit
import Derived.OpenShut
import Derived.ShutString
import Derived.ChangeOld
import Derived.Below
namespace Go.Proofs.Ytgmpaffoajmmmaa
set_option linter.unusedSimpArgs false
set_option linter.unusedVariables false
open Go.RowKit
theorem bwE_0 {v d : List Int} {s : Int} (h : Pf.bwE v d s = 0) : Pf.chE v d = 0 ∧ 0 ≤ s ∧ s ≤ d.sum ∧ Pf.bwV v d s = Pf.btw v d s := by
  by_cases hc : Pf.chE v d = 0
  · by_cases hs : s < 0 ∨ d.sum < s
    · have := (Pf.bwE_out hc hs).1; omega
    · exact ⟨hc, by omega, by omega, (Pf.bwE_in hc (by omega) (by omega)).2⟩
  · have := (Pf.bwE_ch (s := s) hc).1; omega
def InRel (d : List Int) (s : Int) (m : Nat) (a t : Value) : Prop := ∃ k : Nat, k ≤ m ∧ t = .int .i64 k ∧ a = .int .i64 (d.take k).sum ∧ (d.take k).sum ≤ s
theorem onV_mid {a b k x : Int} (hx : 0 < x) (h0 : 0 ≤ k) (h1 : k ≤ x) : min a b ≤ Pf.onV a b k x ∧ Pf.onV a b k x ≤ max a b := by
  rw [Pf.onV_eq]
  have f := Pf.frac_bd (a := a) (b := b) h0 h1 hx
  rcases Int.lt_or_le (b - a) 0 with h | h
  · have := f.2 (by omega); omega
  · have := f.1 h; omega
theorem ret_tt_ProfileInside {b : Bool} (h : b = true) : Ending.returned (.bool b) = .returned (.bool true) := by rw [h]
set_option maxRecDepth 100000 in
set_option maxHeartbeats 4000000 in
theorem walk_ProfileInside (A : Option Addr) (n cn : Nat) (v : List Int) (D : Option Addr) (m cm : Nat) (d : List Int) (s : Int) (w : World) (hv : Ints w A n v) (hvf : ∀ x ∈ v, (Lit.int .i64 x).wf = true) (hn : n ≤ maxLen) (hn8 : n * 8 ≤ reachBytes) (hd : Ints w D m d) (hdf : ∀ x ∈ d, (Lit.int .i64 x).wf = true) (hm : m ≤ maxLen) (hm8 : m * 8 ≤ reachBytes) (hsf : (Lit.int .i64 s).wf = true) :
    Calls Try.prog 7 #[.slice A n cn, .slice D m cm, .int .i64 s] w fun e w' => e = .returned (.bool true) ∧ Below w.heap.size w w' := by
  have HV := Lib.hid hv
  have HD := Lib.hid hd
  have HNM := Lib.hid (And.intro hn hm)
  have is := wf_i64_bd hsf
  have IS : Hid (I64 s) := Lib.hid is
  have HLV := Lib.hid hv.len
  have HLD := Lib.hid hd.len
  by_cases he : Pf.bwE v d s = 0
  · obtain ⟨hc, h0, h1, hval⟩ := bwE_0 he
    have hok := Pf.chOk_of hc
    have l1 := hok.len
    have l2 := hok.two
    have lv := hv.len
    have ld := hd.len
    obtain rfl : n = m + 1 := by omega
    have m63 : m ≤ 63 := by omega
    have HSM := Lib.hid h1
    have sb : s ≤ 8000000 * 63 := by have := Pf.sum_nn hok.ds; omega
    have HOK := Lib.hid hok
    have HE := Lib.hid he
    obtain ⟨bv, ov, rfl, hbv, hcv⟩ := hv.cells (by omega)
    have HCV := Lib.hid hcv
    have hw1 : IntKind.i64.wrap (((m + 1 : Nat) : Int) - 1) = (m : Int) := by rw [show ((m + 1 : Nat) : Int) - 1 = m from by omega]; exact IntWalk.i64_in _ (by omega)
    have HVAL := Lib.hid hval
    clear hv hd hvf hdf hn8 hm8 hn hm hsf he hc h1 hval hok l1 l2 lv ld hcv is
    go_enter Try.func7, Try.ntmps7
    go_wp2_with fail
    refine (awake_any _).mono ?_; rintro e w1 ⟨rfl, hB⟩
    have HB1 := Lib.hid hB
    clear hB
    go_wp2_with fail
    refine (bw_b (between_any (some ⟨bv, ov, none⟩) D (m + 1) cn m cm v d s w1 (HV.out.below HB1.out) (HD.out.below HB1.out) HNM.out.1 HNM.out.2 IS.out)).mono ?_; rintro e w2 ⟨rfl, hB⟩
    have HB2 := Lib.hid (bel_trans HB1.out hB)
    clear hB
    rw [HE.out, HVAL.out]
    obtain ⟨X, hX⟩ : ∃ X, Pf.btw v d s = X := ⟨_, rfl⟩
    rw [hX]
    have HX := Lib.hid hX
    clear hX HVAL
    go_wp2_with fail
    go_loop [9, 26] (fun a t => InRel d s m a t) (fun _ t => m + 1 - (intOf t).toNat)
    case atStart => exact ⟨0, by omega, rfl, rfl, by simpa using h0⟩
    case round =>
      obtain ⟨k, hk, rfl, rfl, hle⟩ := hrel
      obtain ⟨a, ha⟩ := get_ex (k := k) HLV.out (by omega)
      have ca := (HB2.out.cell (p := ⟨bv, ov + k, none⟩) hbv).trans (HCV.out k a ha)
      have HA := Lib.hid ha
      have hps := (Pf.sum_take_le HOK.out.ds k).1
      obtain ⟨P, hP⟩ : ∃ P, (d.take k).sum = P := ⟨_, rfl⟩
      rw [hP] at hle hps ⊢
      have HP := Lib.hid hP
      clear ha hP
      have hk1 : (k : Int) < ((m + 1 : Nat) : Int) := by omega
      by_cases hkm : k = m
      · have hX2 : X = a := by
          have h2 := HSM.out
          have h3 : (d.take k).sum = d.sum := by rw [List.take_of_length_le (by have := HLD.out; omega)]
          rw [← HX.out]
          exact Pf.btw_at HOK.out (k := k) (by have := HLD.out; omega) HA.out (by have := HP.out; omega) (fun x hx => by have := (List.getElem?_eq_some_iff.1 hx).1; have := HLD.out; omega)
        have hsP : s = P := by
          have h2 := HSM.out
          have h3 : (d.take k).sum = d.sum := by rw [List.take_of_length_le (by have := HLD.out; omega)]
          have := HP.out
          omega
        subst hX2 hsP hkm
        go_wp2_with fail
        go_ret
        exact ⟨ret_tt_ProfileInside (by simp), HB2.out⟩
      · obtain ⟨x, hx⟩ := get_ex (k := k) HLD.out (by omega)
        obtain ⟨b, hb⟩ := get_ex (k := k + 1) HLV.out (by omega)
        have cb := (HB2.out.cell (p := ⟨bv, ov + (k + 1), none⟩) hbv).trans (HCV.out (k + 1) b hb)
        have HL : Hid (Pf.LegAt v d k a b x P) := Lib.hid ⟨HA.out, hb, hx, HP.out⟩
        have HPL := HL.out.place HOK.out
        obtain ⟨_, _, x0, x1, _⟩ := HPL
        obtain ⟨bd, od, hDe, hbd, hcd⟩ := HD.out.cells (by omega)
        have cd := (HB2.out.cell (p := ⟨bd, od + k, none⟩) hbd).trans (hcd k x hx)
        have hke : ((k : Int) == (m : Int)) = false := beq_eq_false_iff_ne.2 (by omega)
        have hkm2 : (k : Int) < (m : Int) := by omega
        subst hDe
        clear hb hx hcd hkm
        by_cases hin : s < P + x
        · have hv := HL.out.val HOK.out hle hin
          by_cases hsP : s = P
          · have hX2 : X = a := by rw [← HX.out, hv, hsP, Int.sub_self, Pf.onV_0]
            subst hX2 hsP
            clear hv
            go_wp2_with fail
            go_ret
            exact ⟨ret_tt_ProfileInside (by simp), HB2.out⟩
          · have hmid := onV_mid (a := a) (b := b) (x := x) (k := s - P) (by omega) (by omega) (by omega)
            rw [← hv, HX.out] at hmid
            have hm1 : decide (min a b ≤ X) = true := decide_eq_true hmid.1
            have hm2 : decide (X ≤ max a b) = true := decide_eq_true hmid.2
            have hse : (s == P) = false := beq_eq_false_iff_ne.2 hsP
            have e1 : IntKind.i64.wrap ((k : Int) + 1) = (k : Int) + 1 := IntWalk.i64_in _ (by omega)
            have e2 : ((k : Int) + 1).toNat = k + 1 := by omega
            have e3 : 0 ≤ (k : Int) + 1 := by omega
            have e4 : (k : Int) + 1 < ((m + 1 : Nat) : Int) := by omega
            clear hv hmid hsP
            go_wp2_with fail
            go_quiet (fail)
            go_wp2_with fail
            go_ret
            exact ⟨ret_tt_ProfileInside (by simp), below_drewN HB2.out _⟩
        · have HNX := Lib.hid HL.out.next
          go_wp2_with fail
          go_round
          case rel => exact ⟨k + 1, by omega, by go_num, by rw [HNX.out], by rw [HNX.out]; omega⟩
          case measure => simp only [intOf]; omega
  · have hV : Pf.bwV v d s = 0 := by unfold Pf.bwV; rw [if_neg he]
    have hne : (Pf.bwE v d s != 0) = true := by rw [bne_iff_ne]; exact he
    have HVV := Lib.hid hV
    clear hv hd hvf hdf hn8 hm8 hn hm hsf he hV is
    go_enter Try.func7, Try.ntmps7
    go_wp2_with fail
    refine (awake_any _).mono ?_; rintro e w1 ⟨rfl, hB⟩
    have HB1 := Lib.hid hB
    clear hB
    go_wp2_with fail
    refine (bw_b (between_any A D n cn m cm v d s w1 (HV.out.below HB1.out) (HD.out.below HB1.out) HNM.out.1 HNM.out.2 IS.out)).mono ?_; rintro e w2 ⟨rfl, hB⟩
    have HB2 := Lib.hid (bel_trans HB1.out hB)
    clear hB
    rw [HVV.out]
    generalize Pf.bwE v d s = E at *
    go_wp2_with fail
    go_ret
    exact ⟨ret_tt_ProfileInside (by simp), HB2.out⟩
end Go.Proofs.Ytgmpaffoajmmmaa
namespace Go.Proofs.Ytgmpaffoajmmmaa.profileInside
open Go.ChangeShapes Go.WideShapes Go.ChangeAt Go.RowKit
open Go.ChangeMaps (open_string shut_string)
set_option linter.unusedVariables false
set_option linter.unusedSimpArgs false

theorem own : ownKnob Try.prog.godebug = none := by kernel_rfl
theorem laidOut : laidOutB Try.prog = true := by kernel_rfl

set_option maxRecDepth 100000 in
theorem lifted (os : Os) (started : os.Started) (H : Type) (enc : TypeId × Value → H) :
    ReturnsInHanded {} Try.checked os 7 .any (Rows.profileInsideSpec.pre6 enc Try.prog Try.f7 Rows.profileInsideRow.domain false) (Rows.profileInsideSpec.post enc Try.prog Try.f7 false true false false) := by
  refine returnsInHanded_of_change_sized (C := Try.checked) own started (by kernel_rfl) Try.func7
    (ChangeSpec.witness6 (enc := enc) (C := Try.checked) false ⟨#[], #[.slice none 0 0, .slice none 0 0, .int .i64 0], []⟩ 8 (by kernel_rfl) (by kernel_rfl) (by kernel_rfl) (by kernel_rfl)) ?_
  intro W base args ds gs before hval0 hW hcnd hsz0 _
  have hval : ∀ (j : Nat) t v, Try.f7.params[j]? = some t → args[j]? = some v → Value.okWide Try.prog W .any base t v := hval0
  have hW' := hW
  obtain ⟨p, q, hA0, hV, rfl, hfz, hnd⟩ := hW
  have hA : DataW.TrodAll enc Try.prog W 0 (fun _ => true) true Try.f7.params.toList args.toList ds p := hA0
  have hsz : (DataW.weightsEach Try.prog (Try.f7.params.toList ++ Rows.profileInsideSpec.plain.varTypes Try.prog) (ds ++ gs)).all (· ≤ reachBytes) = true := hsz0
  rw [Try.params7] at hA hval hsz
  obtain ⟨v0, vs0, d0, ds0, p0, q0, hargs, rfl, rfl, h0, r0⟩ := trodAll_cons hA
  obtain ⟨v1, vs1, d1, ds1, p1, q1, rfl, rfl, rfl, h1, r1⟩ := trodAll_cons r0
  obtain ⟨v2, vs2, d2, ds2, p2, q2, rfl, rfl, rfl, h2, r2⟩ := trodAll_cons r1
  obtain ⟨rfl, rfl, rfl⟩ := trodAll_nil r2
  obtain rfl : args = #[v0, v1, v2] := by cases args; simp_all
  obtain ⟨rfl, rfl⟩ := trodVars_none hV
  have k0 := h0
  have lt0 : ∀ x ∈ p0, x.block < W.heap.size := by obtain ⟨m, hm⟩ := k0; exact DataW.trod_lt m _ _ _ hm
  have k1 := h1
  have lt1 : ∀ x ∈ p1, x.block < W.heap.size := by obtain ⟨m, hm⟩ := k1; exact DataW.trod_lt m _ _ _ hm
  have k2 := h2
  have lt2 : ∀ x ∈ p2, x.block < W.heap.size := by obtain ⟨m, hm⟩ := k2; exact DataW.trod_lt m _ _ _ hm
  obtain ⟨A0, n0, c0, z0, rfl, m0, qc0, w0, u0, o0⟩ := open_ints_Trod Try.underlying25 Try.underlying2 (by kernel_rfl) (hval 0 25 v0 rfl rfl) h0
  have o0' := o0 (weights_arg hsz (j := 0) rfl rfl)
  rw [show Try.prog.bytesOf 2 = 8 by kernel_rfl] at o0'
  obtain ⟨A1, n1, c1, z1, rfl, m1, qc1, w1, u1, o1⟩ := open_ints_Trod Try.underlying25 Try.underlying2 (by kernel_rfl) (hval 1 25 v1 rfl rfl) h1
  have o1' := o1 (weights_arg hsz (j := 1) rfl rfl)
  rw [show Try.prog.bytesOf 2 = 8 by kernel_rfl] at o1'
  obtain ⟨a2, rfl, rfl, rfl, w2⟩ := open_int Try.underlying2 (hval 2 2 v2 rfl rfl) h2
  clear hA0 hval0
  refine (Ytgmpaffoajmmmaa.walk_ProfileInside A0 n0 c0 z0 A1 n1 c1 z1 a2 W w0 u0 m0 o0' w1 u1 m1 o1' w2).mono fun e W' ⟨he, bel⟩ => ?_
  subst he
  exact ⟨_, rfl, _, _, _, [], _, [], hW', trodAll_mk1 (shut_bool Try.underlying4 _), (trodAll_cons_mk (Below.trod laidOut (by kernel_rfl) (of_decide_eq_true (by kernel_rfl)) k0 bel lt0) (trodAll_cons_mk (Below.trod laidOut (by kernel_rfl) (of_decide_eq_true (by kernel_rfl)) k1 bel lt1) (trodAll_cons_mk (Below.trod laidOut (by kernel_rfl) (of_decide_eq_true (by kernel_rfl)) k2 bel lt2) trodAll_mk0))), rfl, bel.frame _, fun h => by cases h⟩

theorem over : Rows.profileInsideRow.holds Try.pinned (OpenSpec.ofChange Rows.profileInsideSpec) :=
  OpenClaim.holds_of_wide 7 Try.f7 rfl rfl rfl rfl rfl rfl rfl ⟨rfl, rfl, rfl, rfl, rfl⟩ rfl rfl rfl rfl rfl (by kernel_rfl) Try.func7 (by kernel_rfl)
    (of_decide_eq_true (by kernel_rfl)) (by unfold Func.isWrapper; first | (rw [if_pos (by decide +kernel)]; kernel_rfl) | (rw [if_neg (by decide +kernel)]; exact ⟨rfl, rfl⟩))
    (fun os started H enc _ => lifted os started H enc)

/-- the statement -/
theorem proved : Rows.ProfileInsideSaid := over
end Go.Proofs.Ytgmpaffoajmmmaa.profileInside
