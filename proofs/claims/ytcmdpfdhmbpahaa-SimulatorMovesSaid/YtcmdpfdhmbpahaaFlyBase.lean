/- FlyBase: Rt, FlP, Stl, FlX, MvP in one text. -/
import Derived.Test.YtcmdpfdhmbpahaaTrC
import Derived.Test.YtcmdpfdhmbpahaaInB
import Derived.Test.YtcmdpfdhmbpahaaSimMo
import Derived.Test.YtcmdpfdhmbpahaaPeFn
import Derived.Test.YtcmdpfdhmbpahaaAs
import Derived.Test.YtcmdpfdhmbpahaaFrame
import Derived.Test.YtcmdpfdhmbpahaaMem
import Derived.StillTailTactics
import Derived.Test.YtcmdpfdhmbpahaaBox
import Derived.Deep.DeepCutAuto
import Derived.Deep.RegionHeld3
namespace Go.Proofs.Ytcmdpfdhmbpahaa
set_option linter.unusedSimpArgs false
set_option linter.unusedVariables false
open Go.RowKit
open Tr
def rtB (s b : Int) : Bool := inB s 1 1000 && inB b 1 3000
def rrV (s b : Int) : Int := if rtB s b = true then 20626481000000 * sinV (b * 3600) / (87431 * s * cosV (b * 3600)) else 0
def rrE (s b : Int) : Int := if rtB s b = true then 0 else 2
theorem rtB_iff {s b : Int} : rtB s b = true ↔ (1 ≤ s ∧ s ≤ 1000) ∧ 1 ≤ b ∧ b ≤ 3000 := by unfold rtB; rw [Bool.and_eq_true, inB_iff, inB_iff]
theorem rate_bd {s x y : Int} (hs : 1 ≤ s ∧ s ≤ 1000) (hx : 0 ≤ x ∧ x ≤ 843314857) (hy : 700000000 ≤ y ∧ y ≤ 1073741824) : (0 < 87431 * s * y ∧ 87431 * s * y ≤ 93878321414144000) ∧ 0 ≤ 20626481000000 * x ∧ 0 ≤ 20626481000000 * x / (87431 * s * y) ∧ 20626481000000 * x / (87431 * s * y) ≤ 300000000 := by
  have a1 : 87431 * s * y ≤ 87431000 * 1073741824 := Int.mul_le_mul (by omega) hy.2 (by omega) (by decide)
  have a0 : 87431 * 700000000 ≤ 87431 * s * y := Int.mul_le_mul (by omega) hy.1 (by decide) (by omega)
  have b0 : 0 ≤ 20626481000000 * x := by omega
  refine ⟨⟨by omega, by omega⟩, b0, Int.ediv_nonneg b0 (by omega), ?_⟩
  refine Int.ediv_le_of_le_mul (by omega) ?_
  omega
theorem rr_bd (s b : Int) : 0 ≤ rrV s b ∧ rrV s b ≤ 300000000 := by
  unfold rrV
  by_cases h : rtB s b = true
  · rw [if_pos h]
    obtain ⟨h1, h2⟩ := rtB_iff.1 h
    have hx := sinS_bd (a := b * 3600) (by omega) (by omega)
    rw [← sinV_low (by omega) (by omega)] at hx
    have hy := cosV_pos (a := b * 3600) (by omega) (by omega)
    exact (rate_bd h1 hx ⟨hy, (cosV_bd _).2⟩).2.2
  · rw [if_neg h]; omega
theorem md_v {X S D : Int} (hD : 0 < D) (h0 : 0 ≤ X * S) (h1 : X * S / D ≤ 300000000) (h2 : 0 ≤ X * S / D) : Fx.scV 0 X S D = X * S / D ∧ Fx.scE 0 X S D = 0 := by
  have e : Fx.rqz 0 (X * S) D = X * S / D := by unfold Fx.rqz Fx.rq; rw [if_neg (by omega), if_pos rfl]
  rw [Fx.scV_eq 0 X S D (by omega), Fx.scE_eq 0 X S D (by omega), e]
  constructor <;> (rw [if_pos]; unfold Fx.inR; omega)
theorem xFlies (s b : Int) (w : World) : Calls Try.prog 74 #[.int .i64 s, .int .i64 b] w fun e w' => e = .returned (.bool (rtB s b)) ∧ w = w' := by
  have hv := Lib.hid (show rtB s b = ((decide (1 ≤ s) && decide (s ≤ 1000)) && (decide (1 ≤ b) && decide (b ≤ 3000))) from rfl)
  by_cases h1 : s < 1
  · go_enter Try.func74, Try.ntmps74
    go_wp2
    go_ret
    exact ⟨ret_bool (by rw [hv.out, Bool.eq_iff_iff]; simp; try omega), rfl⟩
  by_cases h2 : 1000 < s
  · go_enter Try.func74, Try.ntmps74
    go_wp2
    go_ret
    exact ⟨ret_bool (by rw [hv.out, Bool.eq_iff_iff]; simp; try omega), rfl⟩
  by_cases h3 : b < 1
  · go_enter Try.func74, Try.ntmps74
    go_wp2
    go_ret
    exact ⟨ret_bool (by rw [hv.out, Bool.eq_iff_iff]; simp; try omega), rfl⟩
  by_cases h4 : 3000 < b
  · go_enter Try.func74, Try.ntmps74
    go_wp2
    go_ret
    exact ⟨ret_bool (by rw [hv.out, Bool.eq_iff_iff]; simp; try omega), rfl⟩
  go_enter Try.func74, Try.ntmps74
  go_wp2
  go_ret
  exact ⟨ret_bool (by rw [hv.out, Bool.eq_iff_iff]; simp; try omega), rfl⟩
set_option maxRecDepth 100000 in
set_option maxHeartbeats 2000000 in
theorem xRate (s b : Int) (w : World) (hs : I64 s) (hb : I64 b) : Calls Try.prog 33 #[.int .i64 s, .int .i64 b] w fun e w' => e = .returned (.tuple #[.int .i64 (rrV s b), .int .i64 (rrE s b)]) ∧ ∃ n, w' = w.drewN n := by
  by_cases h : rtB s b = true
  rotate_left
  · have HB := Lib.hid (show rtB s b = false by simpa using h)
    have HV := Lib.hid (show rrV s b = 0 from if_neg h)
    have HE := Lib.hid (show rrE s b = 2 from if_neg h)
    clear h hs hb
    go_enter Try.func33, Try.ntmps33
    go_wp2_with fail
    refine (xFlies _ _ _).mono ?_; rintro e w1 ⟨rfl, rfl⟩
    rw [HB.out]
    go_wp2_with fail
    go_ret2
    exact ⟨ret_tup2 HV.out.symm HE.out.symm, 0, rfl⟩
  obtain ⟨⟨s0, s1⟩, b0, b1⟩ := rtB_iff.1 h
  have HB := Lib.hid h
  have HV := Lib.hid (show rrV s b = 20626481000000 * sinV (b * 3600) / (87431 * s * cosV (b * 3600)) from if_pos h)
  have HE := Lib.hid (show rrE s b = 0 from if_pos h)
  have hx := sinS_bd (a := b * 3600) (by omega) (by omega)
  rw [← sinV_low (by omega) (by omega)] at hx
  obtain ⟨x0, x1⟩ := hx
  have y0 := cosV_pos (a := b * 3600) (by omega) (by omega)
  have y1 := (cosV_bd (b * 3600)).2
  have HBD := Lib.hid (rate_bd ⟨s0, s1⟩ ⟨x0, x1⟩ ⟨y0, y1⟩)
  have HSI := Lib.hid (fun w => xSin (b * 3600) ⟨by omega, by omega⟩ w)
  have HCO := Lib.hid (fun w => xCos (b * 3600) ⟨by omega, by omega⟩ w)
  obtain ⟨⟨d0, d1⟩, _⟩ := HBD.out
  have HMV := Lib.hid (md_v d0 HBD.out.2.1 HBD.out.2.2.2 HBD.out.2.2.1)
  have HMD := Lib.hid (fun w => (xMulDiv 20626481000000 (sinV (b * 3600)) (87431 * s * cosV (b * 3600)) ⟨by decide, by decide⟩ ⟨by omega, by omega⟩ ⟨by omega, by omega⟩ w))
  rw [HMV.out.1, HMV.out.2] at HMD
  generalize 20626481000000 * sinV (b * 3600) / (87431 * s * cosV (b * 3600)) = R at *
  clear h hs hb HMV HBD
  generalize sinV (b * 3600) = S at *
  generalize cosV (b * 3600) = C at *
  go_enter Try.func33, Try.ntmps33
  go_wp2_with fail
  refine (xFlies _ _ _).mono ?_; rintro e w1 ⟨rfl, rfl⟩
  rw [HB.out]
  go_wp2_with fail
  refine (HSI.out _).mono ?_; rintro e w1 ⟨rfl, rfl⟩
  go_wp2_with fail
  refine (HCO.out _).mono ?_; rintro e w1 ⟨rfl, rfl⟩
  go_wp2_with fail
  refine (HMD.out _).mono ?_; rintro e w2 ⟨rfl, n, rfl⟩
  go_wp2_with fail
  go_ret2
  exact ⟨ret_tup2 HV.out.symm HE.out.symm, n, rfl⟩
end Go.Proofs.Ytcmdpfdhmbpahaa

namespace Go.Proofs.Ytcmdpfdhmbpahaa
set_option linter.unusedSimpArgs false
set_option linter.unusedVariables false
open Go.RowKit
open Tr
/-- an aircraft -/
structure Cr where
  tk : Int
  px : Int
  py : Int
  ve : Int
  vn : Int
  al : Int
  vs : Int
  hd : Int
  ca : Int
  fu : Int
  bk : Int
  gr : Bool
def Cr.cells (c : Cr) : List Value := [.int .i64 c.tk, .int .i64 c.px, .int .i64 c.py, .int .i64 c.ve, .int .i64 c.vn, .int .i64 c.al, .int .i64 c.vs, .int .i64 c.hd, .int .i64 c.ca, .int .i64 c.fu, .int .i64 c.bk, .bool c.gr]
def Cr.E (c : Cr) : Int := crE c.tk c.px c.py c.ve c.vn c.al c.vs c.hd c.ca c.fu c.bk
def Cr.zero : Cr := ⟨0, 0, 0, 0, 0, 0, 0, 0, 0, 0, 0, false⟩
def rnd (n : Int) : Int := (2 * n + 1073741824) / 2147483648
def fCa (ca sp : Int) : Int := clampV (clampV sp 0 1000) (ca - 10) (ca + 10)
def fGn (gr : Bool) (vs : Int) : Bool := gr && decide (vs ≤ 0)
def fAl (gn : Bool) (al vs : Int) : Int := if gn = true then al else clampV (al + 10 * vs) (-200000) 6000000
def fZr (gn : Bool) (x : Int) : Int := if gn = true then 0 else x
def fSp (ca al : Int) : Int := min (tsV ca al 0) 1000
def fHd (hd bk s : Int) : Int := nrm (hd + (if bk < 0 then -(10 * rrV s (max bk (-bk))) else 10 * rrV s (max bk (-bk))))
def fFu (p : Prf) (al em fu s : Int) : Int := if crfE p al (em + fu) s = 0 then max (fu - 10 * crfV p al (em + fu) s) 0 else fu
/-- the aircraft a cycle later, whether it is allowed or not -/
def flC (c : Cr) (p : Prf) (em tb ts tv we wn : Int) : Cr :=
  let vs0 := clampV tv (-10000) 10000
  let gn := fGn c.gr vs0
  let bk := fZr gn (clampV tb (-3000) 3000)
  let ca := fCa c.ca ts
  let al := fAl gn c.al vs0
  let s := fSp ca al
  let hd := fHd c.hd bk s
  let ve := rnd (s * sinV hd) + fZr gn we
  let vn := rnd (s * cosV hd) + fZr gn wn
  ⟨c.tk + 10, c.px + 10 * ve, c.py + 10 * vn, ve, vn, al, fZr gn vs0, hd, ca, fFu p al em c.fu s, bk, gn⟩
def flOk (c : Cr) : Bool := decide (c.tk ≤ 1099511627776) && ptB c.px c.py
def flE (c : Cr) (p : Prf) (em tb ts tv we wn se sn : Int) (er : List (Int × Int)) (s0 s1 : ByteArray) : Int :=
  if c.E ≠ 0 then c.E else if moE we wn se sn er s0 s1 ≠ 0 then moE we wn se sn er s0 s1 else if pfE p ≠ 0 then pfE p else if inB em 0 3000000000 = true then (if flOk (flC c p em tb ts tv we wn) = true then 0 else 2) else 2
def flR (c : Cr) (p : Prf) (em tb ts tv we wn se sn : Int) (er : List (Int × Int)) (s0 s1 : ByteArray) : Cr := if flE c p em tb ts tv we wn se sn er s0 s1 = 0 then flC c p em tb ts tv we wn else Cr.zero
theorem clamp_bd {x lo hi : Int} (h : lo ≤ hi) : lo ≤ clampV x lo hi ∧ clampV x lo hi ≤ hi := by unfold clampV; split <;> (try split) <;> omega
theorem fCa_bd {ca sp : Int} (h0 : 0 ≤ ca) (h1 : ca ≤ 1000) : 0 ≤ fCa ca sp ∧ fCa ca sp ≤ 1000 := by
  have := clamp_bd (x := sp) (lo := 0) (hi := 1000) (by decide)
  unfold fCa
  generalize clampV sp 0 1000 = y at *
  unfold clampV
  split <;> (try split) <;> omega
theorem fSp_bd {ca al : Int} (h0 : 0 ≤ ca) : 0 ≤ fSp ca al ∧ fSp ca al ≤ 1000 := by
  have hr := rt_bd al 0
  have : 0 ≤ tsV ca al 0 := by
    unfold tsV
    split
    · exact Int.ediv_nonneg (Int.mul_nonneg h0 hr.1) (by decide)
    · exact Int.le_refl _
  unfold fSp
  omega
theorem fTs_ok {ca al : Int} (h0 : 0 ≤ ca ∧ ca ≤ 1000) (ha : -200000 ≤ al ∧ al ≤ 6000000) : tsE ca al 0 = 0 := by
  unfold tsE
  rw [if_pos (inB_iff.2 h0)]
  exact tE_0 ha ⟨by decide, by decide⟩
theorem rr_no {s b : Int} (h : rtB s b = false) : rrV s b = 0 := by unfold rrV; rw [if_neg (by rw [h]; decide)]
theorem fHd_no {hd bk s : Int} (h0 : 0 ≤ hd ∧ hd ≤ 129599999) (h : rtB s (max bk (-bk)) = false) : fHd hd bk s = hd := by
  unfold fHd
  rw [rr_no h]
  unfold nrm
  split <;> omega
theorem fHd_zero {hd s : Int} (h0 : 0 ≤ hd ∧ hd ≤ 129599999) : fHd hd 0 s = hd := fHd_no h0 (by
  unfold rtB
  rw [show inB (max 0 (-0)) 1 3000 = false from rfl, Bool.and_false])
theorem fHd_bd (hd bk s : Int) : 0 ≤ fHd hd bk s ∧ fHd hd bk s ≤ 129599999 := by have := nrm_bd (hd + (if bk < 0 then -(10 * rrV s (max bk (-bk))) else 10 * rrV s (max bk (-bk)))); unfold fHd; omega
theorem rnd_bd {s x : Int} (hs : 0 ≤ s ∧ s ≤ 1000) (hx : -1073741824 ≤ x ∧ x ≤ 1073741824) : (-1073741824000 ≤ s * x ∧ s * x ≤ 1073741824000) ∧ -1000 ≤ rnd (s * x) ∧ rnd (s * x) ≤ 1000 := by
  have a : s * x ≤ 1000 * 1073741824 := by
    have h1 : s * x ≤ s * 1073741824 := Int.mul_le_mul_of_nonneg_left hx.2 hs.1
    omega
  have b : -1073741824000 ≤ s * x := by
    have h1 : s * (-1073741824) ≤ s * x := Int.mul_le_mul_of_nonneg_left hx.1 hs.1
    omega
  refine ⟨⟨b, by omega⟩, ?_⟩
  unfold rnd
  omega
theorem rnd_v {n : Int} (h0 : -1073741824000 ≤ n) (h1 : n ≤ 1073741824000) : Fx.scV 2 n 1 1073741824 = rnd n ∧ Fx.scE 2 n 1 1073741824 = 0 := by
  have e : Fx.rqz 2 (n * 1) 1073741824 = rnd n := by unfold Fx.rqz Fx.rq rnd; rw [if_neg (by omega), if_neg (by decide), if_neg (by decide), Int.mul_one]; rfl
  have b : -1001 ≤ rnd n ∧ rnd n ≤ 1001 := by unfold rnd; omega
  rw [Fx.scV_eq 2 n 1 1073741824 (by omega), Fx.scE_eq 2 n 1 1073741824 (by omega), e]
  constructor <;> (rw [if_pos]; unfold Fx.inR; omega)
theorem rnd_w {s x : Int} (h0 : -1073741824000 ≤ s * x) (h1 : s * x ≤ 1073741824000) : Fx.scV 2 s x 1073741824 = rnd (s * x) ∧ Fx.scE 2 s x 1073741824 = 0 := by
  have e : Fx.rqz 2 (s * x) 1073741824 = rnd (s * x) := by unfold Fx.rqz Fx.rq rnd; rw [if_neg (by omega), if_neg (by decide), if_neg (by decide)]; rfl
  have b : -1001 ≤ rnd (s * x) ∧ rnd (s * x) ≤ 1001 := by unfold rnd; omega
  rw [Fx.scV_eq 2 s x 1073741824 (by omega), Fx.scE_eq 2 s x 1073741824 (by omega), e]
  constructor <;> (rw [if_pos]; unfold Fx.inR; omega)
theorem xRnd (n : Int) (h0 : -1073741824000 ≤ n) (h1 : n ≤ 1073741824000) (w : World) : Calls Try.prog 36 #[.int .i64 n, .int .i64 1073741824] w fun e w' => e = .returned (.tuple #[.int .i64 (rnd n), .int .i64 0]) ∧ ∃ q, w' = w.drewN q := by
  have h := xRound n 1073741824 ⟨by omega, by omega⟩ ⟨by omega, by omega⟩ w
  rw [(rnd_v h0 h1).1, (rnd_v h0 h1).2] at h
  exact h
theorem crf_nn (p : Prf) (alt mass tas : Int) : crfV p alt mass tas ≤ 50000 := by
  unfold crfV
  split
  · omega
  · decide
theorem crf_n0 {p : Prf} {w : World} (hl : p.lies w) (alt mass tas : Int) : 0 ≤ crfV p alt mass tas ∧ crfV p alt mass tas ≤ 50000 := by
  unfold crfV
  by_cases h : crfE p alt mass tas = 0
  · rw [if_pos h]
    have hc : pcE p alt mass = 0 := by
      unfold crfE at h
      by_cases h2 : pcE p alt mass = 0
      · exact h2
      · rw [if_pos h2] at h; exact absurd h h2
    have ht : 0 ≤ tas ∧ tas ≤ 4000 := by
      unfold crfE at h
      rw [if_neg (by rw [hc]; simp)] at h
      by_cases h2 : inB tas 0 4000 = true
      · exact inB_iff.1 h2
      · rw [if_neg h2] at h; exact absurd h (by decide)
    have g := pf_good (pcE_0 hc).1
    have tb := tabV_bd (alt := alt) (mass := mass) (g.sq hl.cr g.scr g.rcr (by decide)) g.aal hl.al.len (by have := g.r2; omega) g.ams hl.ms.len (by have := g.c2; omega)
    have hb := crf_bd tb g.rex (y := max (tas - p.rf) 0) (by have := g.rrf; omega)
    have h3 := Int.ediv_nonneg hb.2.1 (show (0 : Int) ≤ 1000 by decide)
    omega
  · rw [if_neg h]; decide
theorem cr_zero {c : Cr} (h : c.E = 0) : (0 ≤ c.tk ∧ c.tk ≤ 1099511627776) ∧ (-200000 ≤ c.al ∧ c.al ≤ 6000000) ∧ (-10000 ≤ c.vs ∧ c.vs ≤ 10000) ∧ (0 ≤ c.hd ∧ c.hd ≤ 129599999) ∧ (0 ≤ c.ca ∧ c.ca ≤ 1000) ∧ (0 ≤ c.fu ∧ c.fu ≤ 3000000000) ∧ (-3000 ≤ c.bk ∧ c.bk ≤ 3000) ∧ (-2000 ≤ c.ve ∧ c.ve ≤ 2000) ∧ (-2000 ≤ c.vn ∧ c.vn ≤ 2000) ∧ (-2000000 ≤ c.px ∧ c.px ≤ 2000000) ∧ (-2000000 ≤ c.py ∧ c.py ≤ 2000000) := by
  unfold Cr.E crE crB at h
  split at h
  · next hb =>
    simp only [Bool.and_eq_true, inB_iff] at hb
    split at h
    · next hp => exact ⟨hb.1.1.1.1.1.1.1.1, hb.1.1.1.1.1.1.1.2, hb.1.1.1.1.1.1.2, hb.1.1.1.1.1.2, hb.1.1.1.1.2, hb.1.1.1.2, hb.1.1.2, hb.1.2, hb.2, (ptB_iff.1 hp).1, (ptB_iff.1 hp).2⟩
    · exact absurd h (by decide)
  · exact absurd h (by decide)
theorem mo_wind {we wn se sn : Int} {er : List (Int × Int)} {s0 s1 : ByteArray} (h : moE we wn se sn er s0 s1 = 0) : (-200 ≤ we ∧ we ≤ 200) ∧ -200 ≤ wn ∧ wn ≤ 200 := by
  unfold moE at h
  split at h
  · next hb =>
    unfold moA at hb
    simp only [Bool.and_eq_true, inB_iff] at hb
    exact ⟨hb.1.1, hb.1.2⟩
  · exact absurd h (by decide)
end Go.Proofs.Ytcmdpfdhmbpahaa

namespace Go.Proofs.Ytcmdpfdhmbpahaa
set_option linter.unusedSimpArgs false
set_option linter.unusedVariables false
theorem st_val {ops : Array Oper} {w : World} {Q : Act → Prop} {a : Act} {o : Oper} {rest : List Oper} {v : Value} (hw : Region.wanted o (yielded ops a.tmps) = true)
    (hr : (execOp a.eval o).run Try.prog w = .ok (.value v) w) (h : wpStill Try.prog ops w Q rest (a.put o.dst v)) : wpStill Try.prog ops w Q (o :: rest) a := by
  unfold wpStill
  rw [if_pos hw]
  unfold Oper.still
  rw [hr, Oper.stillUpon_value]
  exact h
theorem st_call {ops : Array Oper} {w : World} {Q : Act → Prop} {a : Act} {o : Oper} {rest : List Oper} {v : Value} {f : Nat} {args : Array Value} (hw : Region.wanted o (yielded ops a.tmps) = true)
    (hr : (execOp a.eval o).run Try.prog w = .ok (.enter f args) w) (hc : Calls Try.prog f args w (fun e w' => e = .returned v ∧ w' = w))
    (h : wpStill Try.prog ops w Q rest (a.put o.dst v)) : wpStill Try.prog ops w Q (o :: rest) a := by
  unfold wpStill
  rw [if_pos hw]
  unfold Oper.still
  rw [hr]
  exact ⟨rfl, v, hc, h⟩
theorem op_load {a : Act} {o : Oper} {x : Operand} {p : Addr} {v : Value} {w : World} (ho : o.op = .load 2 x) (hx : a.eval x = .pointer (some p)) (hc : w.cell? p = some v) :
    (execOp a.eval o).run Try.prog w = .ok (.value v) w := by
  unfold execOp
  rw [ho]
  simp only [hx]
  simp [hc, go_sem]
theorem op_fa {a : Act} {o : Oper} {x : Operand} {s f b k : Nat} {w : World} (ho : o.op = .fieldAddr s x f) (hx : a.eval x = .pointer (some ⟨b, 0, none⟩))
    (hr : (Instr.fieldAt s (.pointer (some ⟨b, 0, none⟩)) f).run Try.prog w = .ok (.pointer (some ⟨b, k, none⟩)) w) : (execOp a.eval o).run Try.prog w = .ok (.value (.pointer (some ⟨b, k, none⟩))) w := by
  unfold execOp
  rw [ho]
  simp only [hx]
  rw [Sem.run_bind, hr]
  rfl
theorem op_sub {a : Act} {o : Oper} {x y : Operand} {u : Nat} {m n r : Int} {w : World} (ho : o.op = .binOp .sub 2 x y u) (hx : a.eval x = .int .i64 m) (hy : a.eval y = .int .i64 n)
    (h1 : m - n = r) (h2 : -9223372036854775808 ≤ r ∧ r ≤ 9223372036854775807) : (execOp a.eval o).run Try.prog w = .ok (.value (.int .i64 r)) w := by
  have hw : IntKind.i64.wrap r = r := by unfold IntKind.wrap; simp [IntKind.bits, IntKind.signed]; omega
  unfold execOp
  rw [ho]
  subst h1
  simp only [hx, hy]
  simp [hw, go_sem]
theorem op_add {a : Act} {o : Oper} {x y : Operand} {u : Nat} {m n r : Int} {w : World} (ho : o.op = .binOp .add 2 x y u) (hx : a.eval x = .int .i64 m) (hy : a.eval y = .int .i64 n)
    (h1 : m + n = r) (h2 : -9223372036854775808 ≤ r ∧ r ≤ 9223372036854775807) : (execOp a.eval o).run Try.prog w = .ok (.value (.int .i64 r)) w := by
  have hw : IntKind.i64.wrap r = r := by unfold IntKind.wrap; simp [IntKind.bits, IntKind.signed]; omega
  unfold execOp
  rw [ho]
  subst h1
  simp only [hx, hy]
  simp [hw, go_sem]
theorem op_call3 {a : Act} {o : Oper} {f : Nat} {x y z : Operand} {ts : Array TypeId} {u v t : Value} {w : World} (ho : o.op = .call { callee := .value (.func f), args := #[x, y, z], argTypes := ts })
    (hx : a.eval x = u) (hy : a.eval y = v) (hz : a.eval z = t) (hf : (callFunc f #[u, v, t]).run Try.prog w = .ok (.enter f #[u, v, t]) w) : (execOp a.eval o).run Try.prog w = .ok (.enter f #[u, v, t]) w := by
  have hm : Array.map a.eval #[x, y, z] = #[u, v, t] := by simp only [List.map_toArray, List.map_cons, List.map_nil, hx, hy, hz]
  unfold execOp
  rw [ho]
  simp only [resolve, hm]
  simp [hf, go_sem]
end Go.Proofs.Ytcmdpfdhmbpahaa

namespace Go.Proofs.Ytcmdpfdhmbpahaa
set_option linter.unusedSimpArgs false
set_option linter.unusedVariables false
open Go.RowKit
open Tr
theorem xAbsM (a : Int) (h : -3000 ≤ a ∧ a ≤ 3000) (w : World) : Calls Try.prog 34 #[.int .i64 a] w fun e w' => e = .returned (.int .i64 (max a (-a))) ∧ w = w' :=
  (xAbs a ⟨by omega, by omega⟩ w).mono fun e w' ⟨h1, h2⟩ => ⟨by rw [h1]; congr 2; rw [satV_mid ⟨by omega, by omega⟩]; omega, h2⟩
theorem cl_mm {x lo hi : Int} (h : lo ≤ hi) : min (max x lo) hi = clampV x lo hi := by unfold clampV; split <;> (try split) <;> omega
theorem al_mm {al vs : Int} (gn : Bool) (h : -200000 ≤ al ∧ al ≤ 6000000) : min (max (al + 10 * fZr gn vs) (-200000)) 6000000 = fAl gn al vs := by
  cases gn
  · rw [show fZr false vs = vs from if_neg (by decide), show fAl false al vs = clampV (al + 10 * vs) (-200000) 6000000 from if_neg (by decide)]; exact cl_mm (by decide)
  · rw [show fZr true vs = 0 from if_pos rfl, show fAl true al vs = al from if_pos rfl]; omega
theorem al_bd {al vs : Int} (gn : Bool) (h : -200000 ≤ al ∧ al ≤ 6000000) : -200000 ≤ fAl gn al vs ∧ fAl gn al vs ≤ 6000000 := by
  rw [← al_mm gn h]; omega
theorem fZr_bd {x lo hi : Int} (gn : Bool) (h : lo ≤ x ∧ x ≤ hi) (h0 : lo ≤ 0) (h1 : 0 ≤ hi) : lo ≤ fZr gn x ∧ fZr gn x ≤ hi := by unfold fZr; split <;> omega
theorem md_bd (x : Int) : -129600000 < x.tmod 129600000 ∧ x.tmod 129600000 < 129600000 := by
  have h1 := Int.tmod_lt_of_pos x (show (0 : Int) < 129600000 by decide)
  have h2 := Int.lt_tmod_of_pos x (show (0 : Int) < 129600000 by decide)
  omega
theorem hd_md {hd b r : Int} : nrm (hd + (if b < 0 then -(10 * r) else 10 * r)) = nrm (hd + 10 * (if b < 0 then -r else r).tmod 129600000) := by
  have e : (if b < 0 then -(10 * r) else 10 * r) = 10 * (if b < 0 then -r else r) := by split <;> omega
  rw [e]
  generalize (if b < 0 then -r else r) = x
  have h := Int.tmod_add_mul_tdiv x 129600000
  unfold nrm
  generalize x.tmod 129600000 = m at *
  generalize x.tdiv 129600000 = q at *
  subst h
  rw [show hd + 10 * (m + 129600000 * q) = hd + 10 * m + 129600000 * (10 * q) by omega, Int.add_mul_emod_self_left]
theorem fAl_no (al vs : Int) : fAl false al vs = clampV (al + 10 * vs) (-200000) 6000000 := by unfold fAl; rw [if_neg (by decide)]
theorem fAl_yes (al vs : Int) : fAl true al vs = al := by unfold fAl; rw [if_pos rfl]
theorem fZr_no (x : Int) : fZr false x = x := by unfold fZr; rw [if_neg (by decide)]
theorem fZr_yes (x : Int) : fZr true x = 0 := by unfold fZr; rw [if_pos rfl]
/-- the boxes of Fly -/
structure FlS (w : World) (L : List Value) (p : Prf) (T M : List Value) (wx : World) : Prop where
  C : Has wx (w.heap.size) L
  P : Has wx (w.heap.size + 1) p.cells
  T : Has wx (w.heap.size + 1 + 1) T
  M : Has wx (w.heap.size + 1 + 1 + 1) M
  R : Has wx (w.heap.size + 1 + 1 + 1 + 1) [.int .i64 0, .int .i64 0, .int .i64 0, .int .i64 0, .int .i64 0, .int .i64 0, .int .i64 0, .int .i64 0, .int .i64 0, .int .i64 0, .int .i64 0, .bool false]
  B : Below w.heap.size w wx
theorem FlS.below {w wx wy : World} {L T M : List Value} {p : Prf} (h : FlS w L p T M wx) (hB : Below wx.heap.size wx wy) : FlS w L p T M wy :=
  ⟨h.C.below hB, h.P.below hB, h.T.below hB, h.M.below hB, h.R.below hB, bel_trans h.B hB⟩
theorem FlS.drewN {w wx : World} {L T M : List Value} {p : Prf} (h : FlS w L p T M wx) (q : Nat) : FlS w L p T M (wx.drewN q) := h.below (below_drewN (Below.refl _ _) q)
theorem FlS.set {w wx : World} {L T M : List Value} {p : Prf} (h : FlS w L p T M wx) (i : Nat) (v : Value) (hi : i < L.length) : FlS w (L.set i v) p T M (wx.setCell ⟨w.heap.size, i, none⟩ v) :=
  ⟨h.C.set i v hi, h.P.other _ i v (by omega), h.T.other _ i v (by omega), h.M.other _ i v (by omega), h.R.other _ i v (by omega), h.B.setCell (p := ⟨w.heap.size, i, none⟩) (Nat.le_refl _) v⟩
end Go.Proofs.Ytcmdpfdhmbpahaa

namespace Go.Proofs.Ytcmdpfdhmbpahaa
set_option linter.unusedSimpArgs false
set_option linter.unusedVariables false
open Go.RowKit Tr
structure Mv (c k : Cr) : Prop where
  z : k.E = 0
  tk : k.tk = c.tk + 10
  px : k.px = c.px + 10 * k.ve
  py : k.py = c.py + 10 * k.vn
  pt : ptB k.px k.py = true
  ca : c.ca - 10 ≤ k.ca ∧ k.ca ≤ c.ca + 10
  al : k.al = c.al + 10 * k.vs ∨ k.al = -200000 ∨ k.al = 6000000
  fu : 0 ≤ k.fu ∧ k.fu ≤ c.fu
  gr : k.gr = true → c.gr = true ∧ k.al = c.al ∧ k.vs = 0 ∧ k.bk = 0
theorem clamp_dis {x lo hi : Int} : clampV x lo hi = x ∨ clampV x lo hi = lo ∨ clampV x lo hi = hi := by unfold clampV; split <;> (try split) <;> omega
theorem fl_parts {c : Cr} {p : Prf} {em tb ts tv we wn se sn : Int} {er : List (Int × Int)} {s0 s1 : ByteArray} (h : flE c p em tb ts tv we wn se sn er s0 s1 = 0) :
    c.E = 0 ∧ moE we wn se sn er s0 s1 = 0 ∧ flOk (flC c p em tb ts tv we wn) = true := by
  unfold flE at h
  by_cases h1 : c.E = 0
  · rw [if_neg (by simpa using h1)] at h
    by_cases h2 : moE we wn se sn er s0 s1 = 0
    · rw [if_neg (by simpa using h2)] at h
      by_cases h3 : pfE p = 0
      · rw [if_neg (by simpa using h3)] at h
        by_cases h4 : inB em 0 3000000000 = true
        · rw [if_pos h4] at h
          by_cases h5 : flOk (flC c p em tb ts tv we wn) = true
          · exact ⟨h1, h2, h5⟩
          · rw [if_neg h5] at h; exact absurd h (by decide)
        · rw [if_neg h4] at h; exact absurd h (by decide)
      · rw [if_pos h3] at h; exact absurd h h3
    · rw [if_pos h2] at h; exact absurd h h2
  · rw [if_pos h1] at h; exact absurd h h1
theorem fly_mv {w : World} {c : Cr} {p : Prf} {em tb ts tv we wn se sn : Int} {er : List (Int × Int)} {s0 s1 : ByteArray} (hl : p.lies w) (h : flE c p em tb ts tv we wn se sn er s0 s1 = 0) :
    c.E = 0 ∧ Mv c (flC c p em tb ts tv we wn) := by
  obtain ⟨hc, hm, hok⟩ := fl_parts h
  refine ⟨hc, ?_⟩
  obtain ⟨⟨v0, v1⟩, ⟨v2, v3⟩, ⟨v4, v5⟩, ⟨v6, v7⟩, ⟨v8, v9⟩, ⟨v10, v11⟩, ⟨v12, v13⟩, ⟨v14, v15⟩, ⟨v16, v17⟩, ⟨v18, v19⟩, v20, v21⟩ := cr_zero hc
  obtain ⟨⟨q0, q1⟩, q2, q3⟩ := mo_wind hm
  unfold flOk at hok
  rw [Bool.and_eq_true, decide_eq_true_eq] at hok
  obtain ⟨ht, hp⟩ := hok
  have bV := clamp_bd (x := tv) (lo := -10000) (hi := 10000) (by decide)
  have bB := clamp_bd (x := tb) (lo := -3000) (hi := 3000) (by decide)
  have bC := fCa_bd (sp := ts) v8 v9
  have dC : c.ca - 10 ≤ fCa c.ca ts ∧ fCa c.ca ts ≤ c.ca + 10 := clamp_bd (by omega)
  unfold flC at ht hp ⊢
  dsimp only at ht hp ⊢
  generalize clampV tv (-10000) 10000 = V at *
  generalize clampV tb (-3000) 3000 = B at *
  generalize fCa c.ca ts = CA at *
  have hg : fGn c.gr V = true → c.gr = true ∧ V ≤ 0 := fun h => by unfold fGn at h; simpa using h
  have hA : fAl (fGn c.gr V) c.al V = if fGn c.gr V = true then c.al else clampV (c.al + 10 * V) (-200000) 6000000 := rfl
  generalize fGn c.gr V = G at *
  have bA : -200000 ≤ fAl G c.al V ∧ fAl G c.al V ≤ 6000000 := by rw [hA]; split <;> first | exact ⟨v2, v3⟩ | exact clamp_bd (by decide)
  have bS := fSp_bd (ca := CA) (al := fAl G c.al V) bC.1
  have bF : 0 ≤ fFu p (fAl G c.al V) em c.fu (fSp CA (fAl G c.al V)) ∧ fFu p (fAl G c.al V) em c.fu (fSp CA (fAl G c.al V)) ≤ c.fu := by
    unfold fFu
    split
    · have := crf_n0 hl (fAl G c.al V) (em + c.fu) (fSp CA (fAl G c.al V)); omega
    · omega
  generalize fSp CA (fAl G c.al V) = S at *
  have bH := fHd_bd c.hd (fZr G B) S
  generalize fHd c.hd (fZr G B) S = HD at *
  have b1 := (rnd_bd (s := S) bS (sinV_bd HD)).2
  have b2 := (rnd_bd (s := S) bS (cosV_bd HD)).2
  have z1 : -200 ≤ fZr G we ∧ fZr G we ≤ 200 := by unfold fZr; split <;> omega
  have z2 : -200 ≤ fZr G wn ∧ fZr G wn ≤ 200 := by unfold fZr; split <;> omega
  have z3 : -10000 ≤ fZr G V ∧ fZr G V ≤ 10000 := by unfold fZr; split <;> omega
  have z4 : -3000 ≤ fZr G B ∧ fZr G B ≤ 3000 := by unfold fZr; split <;> omega
  have aA : fAl G c.al V = c.al + 10 * fZr G V ∨ fAl G c.al V = -200000 ∨ fAl G c.al V = 6000000 := by
    rw [hA]
    unfold fZr
    split
    · left; omega
    · exact clamp_dis
  have gG : G = true → c.gr = true ∧ fAl G c.al V = c.al ∧ fZr G V = 0 ∧ fZr G B = 0 := fun h => by
    refine ⟨(hg h).1, ?_, ?_, ?_⟩
    · rw [hA, if_pos h]
    · unfold fZr; rw [if_pos h]
    · unfold fZr; rw [if_pos h]
  refine ⟨?_, rfl, rfl, rfl, hp, dC, aA, bF, gG⟩
  unfold Cr.E crE crB
  dsimp only
  rw [if_pos, if_pos hp]
  simp only [Bool.and_eq_true, inB_iff]
  refine ⟨⟨⟨⟨⟨⟨⟨⟨?_, ?_⟩, ?_⟩, ?_⟩, ?_⟩, ?_⟩, ?_⟩, ?_⟩, ?_⟩ <;> omega
end Go.Proofs.Ytcmdpfdhmbpahaa

