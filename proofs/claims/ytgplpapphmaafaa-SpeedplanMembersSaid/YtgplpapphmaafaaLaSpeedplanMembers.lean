/- The statement SpeedplanMembers: for every input the law returns true, and every argument reads afterwards as before. No condition. -/
import Derived.Test.YtgplpapphmaafaaRows
import Derived.Test.YtgplpapphmaafaaLaBase35
import Derived.Test.YtgplpapphmaafaaSpPlain2
import Derived.Test.YtgplpapphmaafaaPl
import Derived.SizedLaws
import Derived.WalkKit
import Derived.ProofKit
import Derived.OpenShut
import Derived.ShutString
import Derived.ChangeOld
import Derived.Below
namespace Go.Proofs.Ytgplpapphmaafaa
set_option linter.unusedSimpArgs false
set_option linter.unusedVariables false
open Go.RowKit
open Sp
theorem gr_sl {F : FuncId} {args : Array Value} {f : Int × Int → Int} {ws st : Cs.Wins} {n : Nat} {w : World} (h : Calls Try.prog F args w (GrPost f ws st n w)) (ht : Cs.tgE ws st = 0) : Calls Try.prog F args w (SlRes ((Cs.tight ws st).map f) n 0 w) := by
  refine h.mono fun e w' ⟨h1, h2, h3⟩ => ?_
  obtain ⟨A, c, he, hI⟩ := h1 ht
  exact ⟨A, c, he, hI, h3⟩
theorem mt_b {F : FuncId} {args : Array Value} {ws st : Cs.Wins} {vs : List Int} {w : World} (hm : Meet ws st vs) (h : Calls Try.prog F args w (MtPost ws st vs w)) : Calls Try.prog F args w fun e w' => e = .returned (.bool true) ∧ Below w.heap.size w w' :=
  h.mono fun e w' ⟨h1, h2, h3⟩ => ⟨h1 hm, h3⟩
theorem mt_n {F : FuncId} {args : Array Value} {ws st : Cs.Wins} {vs : List Int} {w : World} (hm : ¬ Meet ws st vs) (h : Calls Try.prog F args w (MtPost ws st vs w)) : Calls Try.prog F args w fun e w' => e = .returned (.bool false) ∧ Below w.heap.size w w' :=
  h.mono fun e w' ⟨h1, h2, h3⟩ => ⟨h2 hm, h3⟩
def risF (zs ys : Cs.Wins) (K : Int) : Nat → Bool
  | 0 => false
  | j + 1 => risF zs ys K j || decide (K < Cs.tH zs ys j - Cs.tL zs ys j)
theorem risF_spec {zs ys : Cs.Wins} {K : Int} : ∀ j : Nat, risF zs ys K j = true ↔ ∃ i, i < j ∧ K < Cs.tH zs ys i - Cs.tL zs ys i
  | 0 => by simp [risF]
  | j + 1 => by
    show (risF zs ys K j || decide (K < Cs.tH zs ys j - Cs.tL zs ys j)) = true ↔ _
    rw [Bool.or_eq_true, risF_spec j, decide_eq_true_eq]
    constructor
    · rintro (⟨i, h1, h2⟩ | h)
      · exact ⟨i, by omega, h2⟩
      · exact ⟨j, by omega, h⟩
    · rintro ⟨i, h1, h2⟩
      rcases Nat.lt_or_ge i j with h | h
      · exact .inl ⟨i, h, h2⟩
      · obtain rfl : i = j := by omega
        exact .inr h2
theorem risF_all {zs ys : Cs.Wins} {K : Int} (hK : 0 ≤ K) : risF zs ys K zs.length = decide (K < spV zs ys) := by
  rw [Bool.eq_iff_iff, risF_spec, decide_eq_true_eq]
  exact fa_rise hK
def MbRel (zs ys : Cs.Wins) (K : Int) (n : Nat) (w : World) (b t : Value) (wr : World) : Prop := ∃ j : Nat, j ≤ n ∧ t = .int .i64 j ∧ b = .bool (risF zs ys K j) ∧ Below w.heap.size w wr
theorem fa_bd {zs ys : Cs.Wins} {K : Int} (h : rdE zs ys = 0) (ht : Cs.tgE zs ys = 0) (hK : okV K) : ∀ x ∈ faL zs ys K, okV x := by
  intro x hx
  obtain ⟨i, hi⟩ := List.getElem?_of_mem hx
  have hil := (List.getElem?_eq_some_iff.1 hi).1
  rw [fa_len] at hil
  rw [fa_get hil] at hi
  obtain rfl := Option.some.inj hi
  have := tight_ok h ht hil
  unfold okV at this hK ⊢
  omega
theorem ret_tt_SpeedplanMembers {b : Bool} (h : b = true) : Ending.returned (.bool b) = .returned (.bool true) := by rw [h]
set_option maxRecDepth 100000 in
set_option maxHeartbeats 4000000 in
theorem walk_SpeedplanMembers (A : Option Addr) (n cn : Nat) (zs : Cs.Wins) (S : Option Addr) (m cm : Nat) (ys : Cs.Wins) (k0 : Int) (w : World) (hw : Pairs w A n zs) (hzf : ∀ x ∈ zs, WinWf x) (hn : n ≤ maxLen) (hn8 : n * 16 ≤ reachBytes) (hcA : CapOk A n cn) (hs : Pairs w S m ys) (hyf : ∀ x ∈ ys, WinWf x) (hm : m ≤ maxLen) (hm8 : m * 16 ≤ reachBytes) (hcS : CapOk S m cm) (hkf : (Lit.int .i64 k0).wf = true) :
    Calls Try.prog 10 #[.slice A n cn, .slice S m cm, .int .i64 k0] w fun e w' => e = .returned (.bool true) ∧ Below w.heap.size w w' := by
  have HW := Lib.hid hw
  have HS := Lib.hid hs
  have HLW := Lib.hid hw.len
  have HNM := Lib.hid (And.intro hn hm)
  have HCS := Lib.hid hcS
  have ik := wf_i64_bd hkf
  obtain ⟨ik0, ik1⟩ := ik
  clear hw hs hcA hcS hzf hyf hn8 hm8 hn hm hkf
  by_cases hse : spE zs ys = 0
  · have hrd : rdE zs ys = 0 := by
      by_cases h : rdE zs ys = 0
      · exact h
      · rw [spE_r h] at hse; exact absurd hse h
    have ht : Cs.tgE zs ys = 0 := by rw [← spE_t hrd]; exact hse
    have HSE := Lib.hid hse
    have HT := Lib.hid ht
    obtain ⟨NN, hNN⟩ : ∃ NN, spV zs ys = NN := ⟨_, rfl⟩
    have hNb := spV_bd hrd ht
    rw [hNN] at hNb
    have HNB := Lib.hid hNb
    obtain ⟨nb0, nb1⟩ := hNb
    have HNN := Lib.hid hNN
    obtain ⟨K, hK⟩ : ∃ K, min (max k0 0) 999 = K := ⟨_, rfl⟩
    have hk0 : 0 ≤ K := by omega
    have hk1 : K ≤ 999 := by omega
    have HK0 := Lib.hid hk0
    have HK := Lib.hid hK
    have okK : okV K := ⟨by omega, by omega⟩
    have HF1 := Lib.hid ((faE_t hrd okK).trans ht)
    have HF2 := Lib.hid ((faE_t (k := K + 1) hrd ⟨by omega, by omega⟩).trans ht)
    have HF3 := Lib.hid ((faE_t (k := 0) hrd ⟨by decide, by decide⟩).trans ht)
    have HF4 := Lib.hid ((faE_t hrd HNB.out).trans ht)
    obtain ⟨LA, hLA⟩ : ∃ LA, faL zs ys K = LA := ⟨_, rfl⟩
    obtain ⟨LB, hLB⟩ : ∃ LB, faL zs ys (K + 1) = LB := ⟨_, rfl⟩
    have HL1 := Lib.hid hLA
    have HL2 := Lib.hid hLB
    have HL3 := Lib.hid (fa_0 hrd ht)
    have HL4 := Lib.hid (show faL zs ys NN = (Cs.tight zs ys).map fun p => p.2 by rw [← hNN]; exact fa_top)
    have HM := Lib.hid (show Meet zs ys LA by rw [← hLA]; exact fa_meet hrd ht hk0)
    have HBD := Lib.hid (show ∀ x ∈ LA, okV x by rw [← hLA]; exact fa_bd hrd ht okK)
    have hn64 : n ≤ 64 := by have := tgE_n ht; have := HLW.out; omega
    have n2 : ¬ NN < 0 := by omega
    have n3 : ¬ 1000 < NN := by omega
    have hnn : ((n : Int) != (n : Int)) = false := by simp
    clear hse hrd ht hNN hK okK hLA hLB
    go_enter Try.func10, Try.ntmps10
    go_wp2_with fail
    refine (awake_any _).mono ?_; rintro e w1 ⟨rfl, hB⟩
    have HB1 := Lib.hid (bel_trans (Below.refl _ w) hB)
    clear hB
    go_wp2_with fail
    refine (nb_ex (xSpSpan A S n cn m cm zs ys w1 (HW.out.below HB1.out) (HS.out.below HB1.out) HNM.out.1 HNM.out.2 HCS.out.le HCS.out.mx) HSE.out HNN.out).mono ?_; rintro e w2 ⟨rfl, hB⟩
    have HB2 := Lib.hid (bel_trans HB1.out hB)
    clear hB
    skip
    go_wp2_with fail
    have hK2 : IntKind.i64.wrap (K + 1) = K + 1 := IntWalk.i64_in _ (by omega)
    rw [HK.out]
    refine (sl_ex (xSpFamily A S n cn m cm zs ys K w2 (HW.out.below HB2.out) (HS.out.below HB2.out) HNM.out.1 HNM.out.2 HCS.out.le HCS.out.mx) HF1.out HL1.out).mono ?_; rintro e w3 ⟨A1, c1, rfl, hI, hB⟩
    have HB3 := Lib.hid (bel_trans HB2.out hB)
    have I1 := Lib.hid hI
    clear hB hI
    go_wp2_with fail
    refine (sl_ex (xSpFamily A S n cn m cm zs ys (K + 1) w3 (HW.out.below HB3.out) (HS.out.below HB3.out) HNM.out.1 HNM.out.2 HCS.out.le HCS.out.mx) HF2.out HL2.out).mono ?_; rintro e w4 ⟨A2, c2, rfl, hI, hB⟩
    have HB4 := Lib.hid (bel_trans HB3.out hB)
    replace I1 := Lib.hid (I1.out.below hB)
    have I2 := Lib.hid hI
    clear hB hI
    go_wp2_with fail
    refine (sl_ex (xSpFamily A S n cn m cm zs ys 0 w4 (HW.out.below HB4.out) (HS.out.below HB4.out) HNM.out.1 HNM.out.2 HCS.out.le HCS.out.mx) HF3.out HL3.out).mono ?_; rintro e w5 ⟨A3, c3, rfl, hI, hB⟩
    have HB5 := Lib.hid (bel_trans HB4.out hB)
    replace I1 := Lib.hid (I1.out.below hB)
    replace I2 := Lib.hid (I2.out.below hB)
    have I3 := Lib.hid hI
    clear hB hI
    go_wp2_with fail
    refine (sl_ex (xSpFamily A S n cn m cm zs ys NN w5 (HW.out.below HB5.out) (HS.out.below HB5.out) HNM.out.1 HNM.out.2 HCS.out.le HCS.out.mx) HF4.out HL4.out).mono ?_; rintro e w6 ⟨A4, c4, rfl, hI, hB⟩
    have HB6 := Lib.hid (bel_trans HB5.out hB)
    replace I1 := Lib.hid (I1.out.below hB)
    replace I2 := Lib.hid (I2.out.below hB)
    replace I3 := Lib.hid (I3.out.below hB)
    have I4 := Lib.hid hI
    clear hB hI
    go_wp2_with fail
    refine (gr_sl (xLeast A S n cn m cm zs ys w6 (HW.out.below HB6.out) (HS.out.below HB6.out) HNM.out.1 HNM.out.2 HCS.out.le HCS.out.mx) HT.out).mono ?_; rintro e w7 ⟨A5, c5, rfl, hI, hB⟩
    have HB7 := Lib.hid (bel_trans HB6.out hB)
    replace I1 := Lib.hid (I1.out.below hB)
    replace I2 := Lib.hid (I2.out.below hB)
    replace I3 := Lib.hid (I3.out.below hB)
    replace I4 := Lib.hid (I4.out.below hB)
    have I5 := Lib.hid hI
    clear hB hI
    go_wp2_with fail
    refine (gr_sl (xGreatest A S n cn m cm zs ys w7 (HW.out.below HB7.out) (HS.out.below HB7.out) HNM.out.1 HNM.out.2 HCS.out.le HCS.out.mx) HT.out).mono ?_; rintro e w8 ⟨A6, c6, rfl, hI, hB⟩
    have HB8 := Lib.hid (bel_trans HB7.out hB)
    replace I1 := Lib.hid (I1.out.below hB)
    replace I2 := Lib.hid (I2.out.below hB)
    replace I3 := Lib.hid (I3.out.below hB)
    replace I4 := Lib.hid (I4.out.below hB)
    replace I5 := Lib.hid (I5.out.below hB)
    have I6 := Lib.hid hI
    clear hB hI
    go_wp2_with fail
    refine (same_yes A3 A5 n c3 c5 _ _ I3.out I5.out HNM.out.1).mono ?_; rintro e w' ⟨rfl, q9, rfl⟩
    have HB9 := Lib.hid (below_drewN HB8.out q9)
    replace I1 := Lib.hid (I1.out.below (below_drewN (Below.refl _ w8) q9))
    replace I2 := Lib.hid (I2.out.below (below_drewN (Below.refl _ w8) q9))
    replace I3 := Lib.hid (I3.out.below (below_drewN (Below.refl _ w8) q9))
    replace I4 := Lib.hid (I4.out.below (below_drewN (Below.refl _ w8) q9))
    replace I5 := Lib.hid (I5.out.below (below_drewN (Below.refl _ w8) q9))
    replace I6 := Lib.hid (I6.out.below (below_drewN (Below.refl _ w8) q9))
    generalize w8.drewN q9 = w9 at *
    go_wp2_with fail
    refine (same_yes A4 A6 n c4 c6 _ _ I4.out I6.out HNM.out.1).mono ?_; rintro e w' ⟨rfl, q10, rfl⟩
    have HB10 := Lib.hid (below_drewN HB9.out q10)
    replace I1 := Lib.hid (I1.out.below (below_drewN (Below.refl _ w9) q10))
    replace I2 := Lib.hid (I2.out.below (below_drewN (Below.refl _ w9) q10))
    replace I3 := Lib.hid (I3.out.below (below_drewN (Below.refl _ w9) q10))
    replace I4 := Lib.hid (I4.out.below (below_drewN (Below.refl _ w9) q10))
    replace I5 := Lib.hid (I5.out.below (below_drewN (Below.refl _ w9) q10))
    replace I6 := Lib.hid (I6.out.below (below_drewN (Below.refl _ w9) q10))
    generalize w9.drewN q10 = w10 at *
    go_wp2_with fail
    refine (mt_b HM.out (xMeets A S A1 n cn m cm n c1 zs ys LA w10 (HW.out.below HB10.out) (HS.out.below HB10.out) I1.out HNM.out.1 HNM.out.2 HNM.out.1)).mono ?_; rintro e w11 ⟨rfl, hB⟩
    have HB11 := Lib.hid (bel_trans HB10.out hB)
    replace I1 := Lib.hid (I1.out.below hB)
    replace I2 := Lib.hid (I2.out.below hB)
    replace I3 := Lib.hid (I3.out.below hB)
    replace I4 := Lib.hid (I4.out.below hB)
    replace I5 := Lib.hid (I5.out.below hB)
    replace I6 := Lib.hid (I6.out.below hB)
    clear hB
    go_wp2_with fail
    go_loopw [20, 133] (fun b t wr => MbRel zs ys K n w11 b t wr) (fun _ t _ => n - (intOf t).toNat)
    case atStart => exact ⟨0, by omega, rfl, rfl, Below.refl _ _⟩
    case round =>
      obtain ⟨j, hj, rfl, rfl, hB⟩ := hrel
      have HBr := Lib.hid hB
      clear hB
      by_cases hlt : j < n
      · have hjz : j < zs.length := by have := HLW.out; omega
        obtain ⟨x, hx⟩ := get_ex I1.out.len hlt
        obtain ⟨y, hy⟩ := get_ex I2.out.len hlt
        have hst := fa_step (ys := ys) (k := K) hjz
        rw [HL1.out, HL2.out, getD_of hx, getD_of hy] at hst
        obtain ⟨s0, s1, s2⟩ := hst
        have hbx := HBD.out x (List.mem_of_getElem? hx)
        obtain ⟨x0, x1⟩ := hbx
        obtain ⟨b1, o1, rfl, hb1, c1'⟩ := ints_cell I1.out hx
        obtain ⟨b2, o2, rfl, hb2, c2'⟩ := ints_cell I2.out hy
        have d1 := (HBr.out.cell (p := ⟨b1, o1 + j, none⟩) hb1).trans c1'
        have d2 := (HBr.out.cell (p := ⟨b2, o2 + j, none⟩) hb2).trans c2'
        have e0 : (0 : Int) ≤ (j : Int) := by omega
        have e1 : (j : Int) < (n : Int) := by omega
        have e2 : IntKind.i64.wrap (y - x) = y - x := IntWalk.i64_in _ (by omega)
        have e3 : decide (y - x < 0) = false := decide_eq_false (by omega)
        have e4 : decide (1 < y - x) = false := decide_eq_false (by omega)
        have e5 : (y != x) = decide (K < Cs.tH zs ys j - Cs.tL zs ys j) := by
          rw [Bool.eq_iff_iff, bne_iff_ne, decide_eq_true_eq]; exact s2
        have HST := Lib.hid (show risF zs ys K (j + 1) = (risF zs ys K j || (y != x)) by rw [e5]; rfl)
        clear hx hy c1' c2' s2 e5
        generalize risF zs ys K j = RB at *
        obtain ⟨YX, hYX⟩ : ∃ YX, (y != x) = YX := ⟨_, rfl⟩
        have HYX := Lib.hid hYX
        cases RB with
        | true =>
          clear hYX
          go_wp2_with fail
          go_quiet (fail)
          have HB2 := Lib.hid (below_drewN HBr.out nq)
          replace d1 : (wr.drewN nq).cell? ⟨b1, o1 + j, none⟩ = some (.int .i64 x) := d1
          replace d2 : (wr.drewN nq).cell? ⟨b2, o2 + j, none⟩ = some (.int .i64 y) := d2
          generalize wr.drewN nq = wq at *
          go_wp2_with fail
          go_quiet (fail)
          go_wp2_with fail
          go_roundw
          case rel => exact ⟨j + 1, by omega, by go_num, by rw [HST.out]; simp, below_drewN HB2.out _⟩
          case measure => simp only [intOf]; omega
        | false =>
          clear hYX
          go_wp2_with fail
          go_quiet (fail)
          have HB2 := Lib.hid (below_drewN HBr.out nq)
          replace d1 : (wr.drewN nq).cell? ⟨b1, o1 + j, none⟩ = some (.int .i64 x) := d1
          replace d2 : (wr.drewN nq).cell? ⟨b2, o2 + j, none⟩ = some (.int .i64 y) := d2
          generalize wr.drewN nq = wq at *
          go_wp2_with fail
          go_quiet (fail)
          go_wp2_with fail
          go_roundw
          case rel => exact ⟨j + 1, by omega, by go_num, by rw [HST.out]; simp, below_drewN HB2.out _⟩
          case measure => simp only [intOf]; omega
      · have hjn := Lib.hid (show j = n by omega)
        have HR := Lib.hid (show risF zs ys K j = decide (K < NN) by rw [hjn.out, ← HLW.out, ← HNN.out]; exact risF_all HK0.out)
        rw [HR.out]
        go_wp2_with fail
        go_ret
        exact ⟨ret_tt_SpeedplanMembers (by simp), bel_trans HB11.out HBr.out⟩
  · have hne : (spE zs ys != 0) = true := by rw [bne_iff_ne]; exact hse
    have HV := Lib.hid (show okI (spE zs ys) (spV zs ys) = 0 by unfold okI; rw [if_neg hse])
    clear hse
    go_enter Try.func10, Try.ntmps10
    go_wp2_with fail
    refine (awake_any _).mono ?_; rintro e w1 ⟨rfl, hB⟩
    have HB1 := Lib.hid (bel_trans (Below.refl _ w) hB)
    clear hB
    go_wp2_with fail
    refine (xSpSpan A S n cn m cm zs ys w1 (HW.out.below HB1.out) (HS.out.below HB1.out) HNM.out.1 HNM.out.2 HCS.out.le HCS.out.mx).mono ?_; rintro e w2 ⟨rfl, hB⟩
    have HB2 := Lib.hid (bel_trans HB1.out hB)
    clear hB
    rw [HV.out]
    generalize spE zs ys = E at *
    go_wp2_with fail
    go_ret
    exact ⟨ret_tt_SpeedplanMembers (by simp), HB2.out⟩
end Go.Proofs.Ytgplpapphmaafaa
namespace Go.Proofs.Ytgplpapphmaafaa.speedplanMembers
open Go.ChangeShapes Go.WideShapes Go.ChangeAt Go.RowKit
open Go.ChangeMaps (open_string shut_string)
set_option linter.unusedVariables false
set_option linter.unusedSimpArgs false

theorem own : ownKnob Try.prog.godebug = none := by kernel_rfl
theorem laidOut : laidOutB Try.prog = true := by kernel_rfl

set_option maxRecDepth 100000 in
theorem lifted (os : Os) (started : os.Started) (H : Type) (enc : TypeId × Value → H) :
    ReturnsInHanded {} Try.checked os 10 .any (Rows.speedplanMembersSpec.pre6 enc Try.prog Try.f10 Rows.speedplanMembersRow.domain false) (Rows.speedplanMembersSpec.post enc Try.prog Try.f10 false true false false) := by
  refine returnsInHanded_of_change_sized (C := Try.checked) own started (by kernel_rfl) Try.func10
    (ChangeSpec.witness6 (enc := enc) (C := Try.checked) false ⟨#[], #[.slice none 0 0, .slice none 0 0, .int .i64 0], []⟩ 8 (by kernel_rfl) (by kernel_rfl) (by kernel_rfl) (by kernel_rfl)) ?_
  intro W base args ds gs before hval0 hW hcnd hsz0 _
  have hval : ∀ (j : Nat) t v, Try.f10.params[j]? = some t → args[j]? = some v → Value.okWide Try.prog W .any base t v := hval0
  have hW' := hW
  obtain ⟨p, q, hA0, hV, rfl, hfz, hnd⟩ := hW
  have hA : DataW.TrodAll enc Try.prog W 0 (fun _ => true) true Try.f10.params.toList args.toList ds p := hA0
  have hsz : (DataW.weightsEach Try.prog (Try.f10.params.toList ++ Rows.speedplanMembersSpec.plain.varTypes Try.prog) (ds ++ gs)).all (· ≤ reachBytes) = true := hsz0
  rw [Try.params10] at hA hval hsz
  obtain ⟨v0, vs0, d0, ds0, p0, q0, hargs, rfl, rfl, h0, r0⟩ := trodAll_cons hA
  obtain ⟨v1, vs1, d1, ds1, p1, q1, rfl, rfl, rfl, h1, r1⟩ := trodAll_cons r0
  obtain ⟨v2, vs2, d2, ds2, p2, q2, rfl, rfl, rfl, h2, r2⟩ := trodAll_cons r1
  obtain ⟨rfl, rfl, rfl⟩ := trodAll_nil r2
  obtain rfl : args = #[v0, v1, v2] := by cases args; simp_all
  obtain ⟨rfl, rfl⟩ := trodVars_none hV
  have k0 := h0
  have lt0 : ∀ x ∈ p0, x.block < W.heap.size := by obtain ⟨m, hm⟩ := k0; exact DataW.trod_lt m _ _ _ hm
  have k1 := h1
  have lt1 : ∀ x ∈ p1, x.block < W.heap.size := by obtain ⟨m, hm⟩ := k1; exact DataW.trod_lt m _ _ _ hm
  have k2 := h2
  have lt2 : ∀ x ∈ p2, x.block < W.heap.size := by obtain ⟨m, hm⟩ := k2; exact DataW.trod_lt m _ _ _ hm
  obtain ⟨A0, n0, c0, z0, rfl, m0, qc0, w0, u0, o0⟩ := open_recs_Trod win 2 (by decide) (fun _ => rfl) WinWf Try.underlying34 (by kernel_rfl) el_win (hval 0 34 v0 rfl rfl) h0
  have o0' := o0 (weights_arg hsz (j := 0) rfl rfl)
  rw [show Try.prog.bytesOf 42 = 16 by kernel_rfl] at o0'
  obtain ⟨A1, n1, c1, z1, rfl, m1, qc1, w1, u1, o1⟩ := open_recs_Trod win 2 (by decide) (fun _ => rfl) WinWf Try.underlying25 (by kernel_rfl) el_step (hval 1 25 v1 rfl rfl) h1
  have o1' := o1 (weights_arg hsz (j := 1) rfl rfl)
  rw [show Try.prog.bytesOf 52 = 16 by kernel_rfl] at o1'
  obtain ⟨a2, rfl, rfl, rfl, w2⟩ := open_int Try.underlying2 (hval 2 2 v2 rfl rfl) h2
  clear hA0 hval0
  refine (Ytgplpapphmaafaa.walk_SpeedplanMembers A0 n0 c0 z0 A1 n1 c1 z1 a2 W w0 u0 m0 o0' qc0 w1 u1 m1 o1' qc1 w2).mono fun e W' ⟨he, bel⟩ => ?_
  subst he
  exact ⟨_, rfl, _, _, _, [], _, [], hW', trodAll_mk1 (shut_bool Try.underlying4 _), (trodAll_cons_mk (Below.trod laidOut (by kernel_rfl) (of_decide_eq_true (by kernel_rfl)) k0 bel lt0) (trodAll_cons_mk (Below.trod laidOut (by kernel_rfl) (of_decide_eq_true (by kernel_rfl)) k1 bel lt1) (trodAll_cons_mk (Below.trod laidOut (by kernel_rfl) (of_decide_eq_true (by kernel_rfl)) k2 bel lt2) trodAll_mk0))), rfl, bel.frame _, fun h => by cases h⟩

theorem over : Rows.speedplanMembersRow.holds Try.pinned (OpenSpec.ofChange Rows.speedplanMembersSpec) :=
  OpenClaim.holds_of_wide 10 Try.f10 rfl rfl rfl rfl rfl rfl rfl ⟨rfl, rfl, rfl, rfl, rfl⟩ rfl rfl rfl rfl rfl (by kernel_rfl) Try.func10 (by kernel_rfl)
    (of_decide_eq_true (by kernel_rfl)) (by unfold Func.isWrapper; first | (rw [if_pos (by decide +kernel)]; kernel_rfl) | (rw [if_neg (by decide +kernel)]; exact ⟨rfl, rfl⟩))
    (fun os started H enc _ => lifted os started H enc)

/-- the statement -/
theorem proved : Rows.SpeedplanMembersSaid := over
end Go.Proofs.Ytgplpapphmaafaa.speedplanMembers
