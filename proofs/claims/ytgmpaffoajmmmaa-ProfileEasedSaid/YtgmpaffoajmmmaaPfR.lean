/- Layer 34: the contracts of the reference's Places, Last, value and Between. -/
import Derived.Test.YtgmpaffoajmmmaaPf
import Derived.Test.YtgmpaffoajmmmaaPfRPlain
import Derived.OwnWalk
namespace Go.Proofs.Ytgmpaffoajmmmaa
set_option linter.unusedSimpArgs false
set_option linter.unusedVariables false
open Go.RowKit

def PlcRel (B : Nat) (d : List Int) (m : Nat) (w : World) (v t : Value) (wr : World) : Prop :=
  ∃ k : Nat, k ≤ m ∧ t = .int .i64 k ∧ wr.ownsRow B 2 1 v (k + 1) ((Pf.plc d k).map fun x => .int .i64 x) ∧ (∀ x ∈ d.take k, Pf.okD x) ∧ Below B w wr ∧ B ≤ wr.heap.size
def PlcPost (v d : List Int) (m : Nat) (w : World) (e : Ending) (w' : World) : Prop :=
  (Pf.chE v d = 0 → ∃ A c, e = .returned (.tuple #[.slice A (m + 1) c, .int .i64 0]) ∧ Ints w' A (m + 1) (Pf.plc d m)) ∧ (Pf.chE v d ≠ 0 → e = .returned (.tuple #[.slice none 0 0, .int .i64 (Pf.chE v d)])) ∧ Below w.heap.size w w'
theorem plcPost_err {v d : List Int} {m : Nat} {E : Int} {w w' : World} {e : Ending} (hE : Pf.chE v d = E) (h0 : E ≠ 0) (he : e = .returned (.tuple #[.slice none 0 0, .int .i64 E])) (hb : Below w.heap.size w w') : PlcPost v d m w e w' :=
  ⟨fun h => absurd (hE.symm.trans h) h0, fun _ => by rw [hE]; exact he, hb⟩

set_option maxRecDepth 100000 in
set_option maxHeartbeats 2000000 in
theorem places_any (A D : Option Addr) (n cn m cm : Nat) (v d : List Int) (w : World) (hv : Ints w A n v) (hd : Ints w D m d) (hn : n ≤ maxLen) (hm : m ≤ maxLen) :
    Calls Try.prog 33 #[.slice A n cn, .slice D m cm] w (PlcPost v d m w) := by
  have lv := hv.len
  have ld := hd.len
  unfold maxLen at hn hm
  obtain ⟨i0, hi, hz0, hz1, hz2⟩ := info_parts infoI64
  by_cases h1 : 64 < n
  · have E := Lib.hid (chE_1 (v := v) (d := d) (by omega)).2
    clear hv hd lv ld
    go_enter Try.func33, Try.ntmps33
    go_wp2_with fail
    go_ret2
    exact plcPost_err E.out (by decide) rfl (Below.refl _ _)
  · by_cases h2 : n = 0
    · have E := Lib.hid (chE_2 (v := v) (d := d) (by omega) (.inl (by omega))).2
      subst h2
      clear hv hd lv ld
      go_enter Try.func33, Try.ntmps33
      go_wp2_with fail
      go_ret2
      exact plcPost_err E.out (by decide) rfl (Below.refl _ _)
    · by_cases h3 : m + 1 = n
      · have hne : ((n : Int) == 0) = false := beq_eq_false_iff_ne.2 (by omega)
        have hne2 : ((m : Int) != (n : Int) - 1) = false := by rw [bne_eq_false_iff_eq]; omega
        have HV := Lib.hid hv
        have HD := Lib.hid hd
        have LV := Lib.hid lv
        have LD := Lib.hid ld
        have H3 := Lib.hid h3
        have n0 : ¬ 64 < v.length := by omega
        have n1 : ¬ (v.length = 0 ∨ d.length + 1 ≠ v.length) := by omega
        have N0 := Lib.hid n0
        have N1 := Lib.hid n1
        have m64 : m ≤ 64 := by omega
        clear hv hd lv ld n0 n1 h3
        go_enter Try.func33, Try.ntmps33
        go_wp2_with fail
        go_loop [29] (fun t => VRel1 v n t) (fun t => n - (intOf t).toNat)
        case atStart => exact ⟨0, by omega, rfl, by simp⟩
        case round =>
          obtain ⟨k, hk, rfl, hall⟩ := hrel
          have HALL := Lib.hid hall
          clear hall
          by_cases hlt : k < n
          · obtain ⟨x, hx⟩ := get_ex LV.out hlt
            obtain ⟨b, off, rfl, hb, hc⟩ := HV.out.cells (by omega)
            have hcell := hc k x hx
            have HX := Lib.hid hx
            clear hx hc
            by_cases hin : Pf.inB x
            · have HI := Lib.hid hin
              obtain ⟨q0, q1⟩ := hin
              go_wp2_with fail
              go_round
              case rel => exact ⟨k + 1, by omega, by go_num, take_all_of HALL.out HX.out HI.out⟩
              case measure => simp only [intOf]; omega
            · have hin' : x < -1099511627776 ∨ 1099511627776 < x := by unfold Pf.inB at hin; omega
              have HE := Lib.hid (chE_3 N0.out N1.out (fun h => hin (h.1 x (List.mem_of_getElem? HX.out)))).2
              clear hin
              rcases hin' with hin | hin
              · go_wp2_with fail
                go_ret2
                exact plcPost_err HE.out (by decide) rfl (Below.refl _ _)
              · have hin2 : ¬ x < -1099511627776 := by omega
                go_wp2_with fail
                go_ret2
                exact plcPost_err HE.out (by decide) rfl (Below.refl _ _)
          · have hvs := Lib.hid (take_len_all LV.out (by have := HALL.out; rwa [show k = n from by omega] at this))
            go_wp2_with fail
            go_loopw [8, 43] (fun s t wr => PlcRel w.heap.size d m w s t wr) (fun _ t _ => m - (intOf t).toNat)
            case atStart => exact ⟨0, by omega, rfl, by rw [Pf.plc_zero]; exact ⟨rfl, .inr ⟨w.heap.size, 1, _, rfl, Nat.le_refl _, heap_alloc_new w _, by omega, by unfold maxLen; omega, rfl, rfl⟩⟩, by simp, (Below.refl _ _).alloc (Nat.le_refl _) _, by simp⟩
            case round =>
              obtain ⟨j, hj, rfl, hown, hall, hB, hsz⟩ := hrel
              obtain ⟨g, cap, hv', hg0, hglt⟩ := hown.form (by omega)
              subst hv'
              have hcs := hown.cells (g := g) rfl j (.int .i64 (d.take j).sum) (by rw [List.getElem?_map, Pf.plc_get d j j (Nat.le_refl _)]; rfl)
              rw [addr_add0] at hcs
              have hsum := Lib.hid (Pf.sum_nn hall)
              have HA2 := Lib.hid hall
              have HO := Lib.hid hown
              have HB := Lib.hid hB
              clear hall hown hB
              by_cases hlt2 : j < m
              · obtain ⟨x, hx⟩ := get_ex LD.out hlt2
                obtain ⟨b, off, rfl, hb, hc⟩ := HD.out.cells (by omega)
                have hcell := (HB.out.cell (p := ⟨b, off + j, none⟩) hb).trans (hc j x hx)
                have HS1 := Lib.hid (Pf.take_sum_succ hx)
                have HX := Lib.hid hx
                clear hx hc
                by_cases hin : Pf.okD x
                · have HI := Lib.hid hin
                  obtain ⟨i0', i1'⟩ := hin
                  obtain ⟨s0, s1⟩ := hsum.out
                  have s2 : (d.take j).sum ≤ 8000000 * 64 := by
                    have := List.length_take_le j d
                    have h3 := H3.out
                    omega
                  clear s1
                  have hpl := Lib.hid (show ((Pf.plc d (j + 1)).map fun x => Value.int .i64 x) = ((Pf.plc d j).map fun x => Value.int .i64 x) ++ [.int .i64 ((d.take j).sum + x)] by rw [Pf.plc_succ, List.map_append, HS1.out]; rfl)
                  have h1o := Lib.hid (HO.out.alloc (.cells #[.int .i64 ((d.take j).sum + x)] 2))
                  have HOlt := Lib.hid (own_block_ge HO.out)
                  generalize hS : (d.take j).sum = S at *
                  have HSe := Lib.hid hS
                  clear hS
                  go_wp2_with (at_builtin; refine wpList_append_own _ rfl _ _ 25 rfl w.heap.size 2 i0 (.int .i64 0) 1 8 Try.underlying25 hi hz0 hz1 hz2 rfl (by decide) _ _ _ rfl h1o.out ⟨wr.heap.size, 0, none⟩ 1 1 [.int .i64 (S + x)] rfl rfl (news_new _ _ rfl _ _ _ rfl) (by intro u hu; simp at hu; subst hu; rfl) (by unfold maxLen; omega) (by omega) (by simp; omega) ?_; intro v1 w1 hown1 hgrow1 hnil1)
                  go_roundw
                  case rel => exact ⟨j + 1, by omega, by go_num, by rw [hpl.out]; exact hown1, take_all_of HA2.out HX.out HI.out, ((HB.out.alloc hsz _).grown hgrow1 (by simp; omega) HOlt.out), Nat.le_trans (by simp; omega) hgrow1.size⟩
                  case measure => simp only [intOf]; omega
                · have hin' : x < 0 ∨ 8000000 < x := by unfold Pf.okD at hin; omega
                  have HE := Lib.hid (chE_3 N0.out N1.out (fun h => hin (h.2 x (List.mem_of_getElem? HX.out)))).2
                  clear hin
                  rcases hin' with hin | hin
                  · go_wp2_with fail
                    go_ret2
                    exact plcPost_err HE.out (by decide) rfl HB.out
                  · have hin2 : ¬ x < 0 := by omega
                    go_wp2_with fail
                    go_ret2
                    exact plcPost_err HE.out (by decide) rfl HB.out
              · have hjm : j = m := by omega
                have hds := Lib.hid (take_len_all LD.out (by have := HA2.out; rwa [hjm] at this))
                have HE := Lib.hid (chE_4 N0.out N1.out hvs.out hds.out).2
                have HJ := Lib.hid hjm
                clear hjm
                have hI := Lib.hid (Ints.of_own (xs := Pf.plc d j) HO.out)
                go_wp2_with fail
                go_ret2
                exact ⟨fun _ => ⟨_, cap, by rw [← HJ.out]; rfl, by rw [← HJ.out]; exact hI.out⟩, fun h => absurd HE.out h, HB.out⟩
      · have hne : ((n : Int) == 0) = false := beq_eq_false_iff_ne.2 (by omega)
        have hne2 : ((m : Int) != (n : Int) - 1) = true := by rw [bne_iff_ne]; omega
        have E := Lib.hid (chE_2 (v := v) (d := d) (by omega) (.inr (by omega))).2
        clear hv hd lv ld
        go_enter Try.func33, Try.ntmps33
        go_wp2_with fail
        go_ret2
        exact plcPost_err E.out (by decide) rfl (Below.refl _ _)

def LastRel (at_ : List Int) (s : Int) (n : Nat) (vi t : Value) : Prop :=
  ∃ k i : Nat, k ≤ n ∧ t = .int .i64 k ∧ vi = .int .i64 i ∧ (k = 0 → i = 0) ∧ (0 < k → i < k) ∧ (i = 0 ∨ ∃ x, at_[i]? = some x ∧ x ≤ s) ∧ ∀ j x, i < j → j < k → at_[j]? = some x → s < x
def LastPost (at_ : List Int) (s : Int) (w : World) (e : Ending) (w' : World) : Prop := ∃ k : Nat, e = .returned (.int .i64 k) ∧ Pf.LastP at_ s k ∧ w = w'
set_option maxRecDepth 100000 in
set_option maxHeartbeats 1000000 in
theorem last_any (A : Option Addr) (n c : Nat) (l : List Int) (s : Int) (w : World) (hl : Ints w A n l) (h0 : 0 < n) (hn : n ≤ maxLen) (hs : I64 s) :
    Calls Try.prog 43 #[.slice A n c, .int .i64 s] w (LastPost l s w) := by
  unfold maxLen at hn
  obtain ⟨s0, s1⟩ := hs
  have HI := Lib.hid hl
  have HL := Lib.hid hl.len
  obtain ⟨b, off, rfl, hb, hc⟩ := hl.cells h0
  have HC := Lib.hid hc
  clear hl hc
  go_enter Try.func43, Try.ntmps43
  go_wp2_with fail
  go_loop [5, 10] (fun vi t => LastRel l s n vi t) (fun _ t => n - (intOf t).toNat)
  case atStart => exact ⟨0, 0, by omega, rfl, rfl, fun _ => rfl, fun h => by omega, .inl rfl, fun j x h1 h2 => by omega⟩
  case round =>
    obtain ⟨k, i, hk, rfl, rfl, r0, r1, r2, r3⟩ := hrel
    have R0 := Lib.hid r0
    have R1 := Lib.hid r1
    have R2 := Lib.hid r2
    have R3 := Lib.hid r3
    clear r0 r1 r2 r3
    by_cases hlt : k < n
    · obtain ⟨x, hx⟩ := get_ex HL.out hlt
      have hcell := HC.out k x hx
      have HX := Lib.hid hx
      clear hx
      by_cases hle : x ≤ s
      · go_wp2_with fail
        go_round
        case rel => exact ⟨k + 1, k, by omega, by go_num, rfl, fun h => by omega, fun _ => by omega, .inr ⟨x, HX.out, hle⟩, fun j y h1 h2 => by omega⟩
        case measure => simp only [intOf]; omega
      · go_wp2_with fail
        go_round
        case rel =>
          refine ⟨k + 1, i, by omega, by go_num, rfl, fun h => by omega, fun _ => ?_, R2.out, fun j y h1 h2 hj => ?_⟩
          · rcases Nat.eq_zero_or_pos k with h | h
            · have := R0.out h; omega
            · have := R1.out h; omega
          · rcases Nat.lt_or_ge j k with h | h
            · exact R3.out j y h1 h hj
            · have : j = k := by omega
              subst this
              rw [HX.out] at hj
              obtain rfl := Option.some.inj hj
              omega
        case measure => simp only [intOf]; omega
    · have hkn : k = n := by omega
      have HK := Lib.hid hkn
      clear hkn
      go_wp2_with fail
      go_ret
      exact ⟨i, rfl, ⟨by rw [HL.out, ← HK.out]; exact R1.out (by rw [HK.out]; exact h0), R2.out, fun j y h1 hj => R3.out j y h1 (by rw [HK.out, ← HL.out]; exact (List.getElem?_eq_some_iff.1 hj).1) hj⟩, rfl⟩

def ValPost (V : Int) (w : World) (e : Ending) (w' : World) : Prop := e = .returned (.int .i64 V) ∧ ∃ q, w' = w.drewN q
set_option maxRecDepth 100000 in
set_option maxHeartbeats 2000000 in
theorem rval_any (A T : Option Addr) (n cn m cm : Nat) (v d : List Int) (s : Int) (w : World) (hv : Ints w A n v) (ht : Ints w T (m + 1) (Pf.plc d m)) (hd : d.length = m) (hok : Pf.ChOk v d) (hs0 : 0 ≤ s) (hs1 : s ≤ d.sum) :
    Calls Try.prog 34 #[.slice A n cn, .slice T (m + 1) cm, .int .i64 s] w (ValPost (Pf.btw v d s) w) := by
  have hlv := hv.len
  have l1 := hok.len
  have l2 := hok.two
  have hsum := (Pf.sum_nn hok.ds).2
  have hsb : s ≤ 8000000 * 64 := by omega
  have HLA := Lib.hid (last_any T (m + 1) cm (Pf.plc d m) s w ht (by omega) (by unfold maxLen; omega) ⟨by omega, by omega⟩)
  obtain ⟨bv, ov, rfl, hbv, hcv⟩ := hv.cells (by omega)
  obtain ⟨bt, ot, rfl, hbt, hct⟩ := ht.cells (by omega)
  have HCV := Lib.hid hcv
  have HCT := Lib.hid hct
  have HOK := Lib.hid hok
  have HV := Lib.hid hlv
  have HD := Lib.hid hd
  have hnm : n = m + 1 := by omega
  have HNM := Lib.hid hnm
  have HS := Lib.hid hs1
  have hm64 : m ≤ 64 := by omega
  have hn64 : n ≤ 64 := by omega
  clear hv ht hok hlv hd l1 l2 hsum hcv hct hs1 hnm
  go_enter Try.func34, Try.ntmps34
  go_wp2_with fail
  refine HLA.out.mono ?_; rintro e w' ⟨k, rfl, hP, rfl⟩
  obtain ⟨p0, p1, p2⟩ := hP
  rw [Pf.plc_len] at p0
  have P1 := Lib.hid p1
  have P2 := Lib.hid p2
  clear p1 p2
  have hkm : k ≤ m := by omega
  have hkn : k < n := by have := HNM.out; omega
  have ctk : w.cell? ⟨bt, ot + k, none⟩ = some (.int .i64 (d.take k).sum) := HCT.out k _ (Pf.plc_get d m k hkm)
  have hle : (d.take k).sum ≤ s := by
    rcases P1.out with h | ⟨x, h, h2⟩
    · subst h; simpa using hs0
    · rw [Pf.plc_get d m k hkm] at h
      obtain rfl := Option.some.inj h
      exact h2
  have hs00 := (Pf.sum_take_le HOK.out.ds k).1
  obtain ⟨a, ha⟩ := get_ex (k := k) HV.out (by have := HNM.out; omega)
  have cvk := HCV.out k a ha
  have HA := Lib.hid ha
  clear ha
  by_cases heq : (d.take k).sum = s
  · have hval := Lib.hid (Pf.btw_at HOK.out (k := k) (by have := HD.out; omega) HA.out heq (fun x hx => by
      have hk := (List.getElem?_eq_some_iff.1 hx).1
      have h3 := P2.out (k + 1) _ (by omega) (Pf.plc_get d m (k + 1) (by have := HD.out; omega))
      have h4 := Pf.take_sum_succ hx
      omega))
    rw [heq] at ctk hle hs00
    clear heq
    go_wp2_with fail
    go_ret
    exact ⟨ret_int hval.out.symm, 0, rfl⟩
  · have hlt : k < m := by
      rcases Nat.lt_or_ge k m with h | h
      · exact h
      · exfalso
        have : k = m := by omega
        subst this
        have h2 := HS.out
        rw [List.take_of_length_le (by have := HD.out; omega)] at hle heq
        omega
    obtain ⟨x, hx⟩ := get_ex HD.out hlt
    obtain ⟨b, hb⟩ := get_ex (k := k + 1) HV.out (by have := HNM.out; omega)
    have ctk1 : w.cell? ⟨bt, ot + (k + 1), none⟩ = some (.int .i64 (d.take (k + 1)).sum) := HCT.out (k + 1) _ (Pf.plc_get d m (k + 1) (by omega))
    have cvk1 := HCV.out (k + 1) b hb
    have h3 := P2.out (k + 1) _ (by omega) (Pf.plc_get d m (k + 1) (by omega))
    have h4 := Pf.take_sum_succ hx
    rw [h4] at ctk1 h3
    have hval := Lib.hid (Pf.btw_in HOK.out HA.out hb hx hle h3)
    have hxo := HOK.out.ds x (List.mem_of_getElem? hx)
    obtain ⟨x0, x1⟩ := hxo
    have hab := HOK.out.vs _ (List.mem_of_getElem? HA.out)
    have hbb := HOK.out.vs _ (List.mem_of_getElem? hb)
    have HKS := (Pf.sum_take_le HOK.out.ds k).2.1
    generalize (d.take k).sum = K at *
    have E1 := Pf.leg_sc (k := s - K) hab hbb (by omega) (by omega) (show 0 < x by omega) x1
    have fb := (Pf.onV_bd (k := s - K) hab hbb (by omega) (by omega) (show 0 < x by omega)).2
    have EV := Lib.hid (Pf.onV_eq a b (s - K) x)
    obtain ⟨a1, a2⟩ := hab
    obtain ⟨b1, b2⟩ := hbb
    have H := Lib.hid (fun w => flip (rMulDiv (b - a) (s - K) x ⟨by omega, by omega⟩ ⟨by omega, by omega⟩ ⟨by omega, by omega⟩ w))
    rw [E1] at H
    have hne : (K == s) = false := beq_eq_false_iff_ne.2 heq
    have w1 : IntKind.i64.wrap ((k : Int) + 1) = (k : Int) + 1 := IntWalk.i64_in _ (by omega)
    have w2 : ((k : Int) + 1).toNat = k + 1 := by omega
    have w3 : 0 ≤ (k : Int) + 1 := by omega
    have w4 : (k : Int) + 1 < n := by have := HNM.out; omega
    have w5 : (k : Int) < n := by omega
    have w6 : (k : Int) < (m + 1 : Nat) := by omega
    have w6' : (k : Int) + 1 < (m + 1 : Nat) := by omega
    have w7 : IntKind.i64.wrap (b - a) = b - a := IntWalk.i64_in _ (by omega)
    have w8 : IntKind.i64.wrap (s - K) = s - K := IntWalk.i64_in _ (by omega)
    have w9 : IntKind.i64.wrap (K + x - K) = x := by rw [show K + x - K = x from by omega]; exact IntWalk.i64_in _ (by omega)
    clear heq hx hb E1 h4
    generalize Fx.scE 0 (b - a) (s - K) x = EE at *
    generalize (b - a) * (s - K) / x = Z at *
    obtain ⟨z1, z2⟩ := fb
    go_wp2_with fail
    go_quiet ((go_at_call 44; exact Calls.quiet_of_same (H.out _)))
    go_wp2_with fail
    go_ret
    exact ⟨ret_int (by rw [hval.out, EV.out]), _, rfl⟩

def BwB (V E : Int) (w : World) (e : Ending) (w' : World) : Prop := e = .returned (.tuple #[.int .i64 V, .int .i64 E]) ∧ Below w.heap.size w w'
set_option maxRecDepth 100000 in
set_option maxHeartbeats 2000000 in
theorem rbetween_any (A D : Option Addr) (n cn m cm : Nat) (v d : List Int) (s : Int) (w : World) (hv : Ints w A n v) (hd : Ints w D m d) (hn : n ≤ maxLen) (hm : m ≤ maxLen) (hs : I64 s) :
    Calls Try.prog 22 #[.slice A n cn, .slice D m cm, .int .i64 s] w (BwB (Pf.bwV v d s) (Pf.bwE v d s) w) := by
  have HC := Lib.hid (places_any A D n cn m cm v d w hv hd hn hm)
  obtain ⟨s0, s1⟩ := hs
  by_cases he : Pf.chE v d = 0
  · have hok := Pf.chOk_of he
    have hlv := hv.len
    have hld := hd.len
    have l1 := hok.len
    have l2 := hok.two
    have hsum := Pf.sum_nn hok.ds
    have hsb : d.sum ≤ 8000000 * 64 := by omega
    obtain ⟨hsum0, _⟩ := hsum
    have hm64 : m ≤ 64 := by omega
    have HE := Lib.hid he
    have htake := Lib.hid (show (d.take m).sum = d.sum by rw [List.take_of_length_le (by omega)])
    have HD := Lib.hid hld
    have HOK := Lib.hid hok
    have HV := Lib.hid hv
    clear hd l1 l2 hlv hok he hld hv
    by_cases h1 : s < 0
    · obtain ⟨e1, e2⟩ := Pf.bwE_out HE.out (.inl h1)
      rw [e1, e2]
      clear e1 e2
      go_enter Try.func22, Try.ntmps22
      go_wp2_with fail
      refine HC.out.mono ?_; rintro e w' ⟨h3, _, hB⟩
      obtain ⟨T, c, rfl, hT⟩ := h3 HE.out
      clear h3
      go_wp2_with fail
      go_ret2
      exact ⟨rfl, hB⟩
    · by_cases h2 : d.sum < s
      · obtain ⟨e1, e2⟩ := Pf.bwE_out HE.out (.inr h2)
        rw [e1, e2]
        clear e1 e2
        go_enter Try.func22, Try.ntmps22
        go_wp2_with fail
        refine HC.out.mono ?_; rintro e w' ⟨h3, _, hB⟩
        obtain ⟨T, c, rfl, hT⟩ := h3 HE.out
        clear h3
        obtain ⟨bt, ot, rfl, hbt, hct⟩ := hT.cells (by omega)
        have ct := hct m _ (Pf.plc_get d m m (Nat.le_refl _))
        rw [htake.out] at ct
        have w1 : IntKind.i64.wrap (((m + 1 : Nat) : Int) - 1) = (m : Int) := by rw [show ((m + 1 : Nat) : Int) - 1 = m from by omega]; exact IntWalk.i64_in _ (by omega)
        clear hct
        go_wp2_with fail
        go_ret2
        exact ⟨rfl, hB⟩
      · obtain ⟨e1, e2⟩ := Pf.bwE_in (s := s) HE.out (by omega) (by omega)
        rw [e1, e2]
        clear e1 e2
        have HVA := Lib.hid (fun (w' : World) (T : Option Addr) (c : Nat) (hB : Below w.heap.size w w') (hT : Ints w' T (m + 1) (Pf.plc d m)) => rval_any A T n cn m c v d s w' (HV.out.below hB) hT HD.out HOK.out (by omega) (by omega))
        go_enter Try.func22, Try.ntmps22
        go_wp2_with fail
        refine HC.out.mono ?_; rintro e w' ⟨h3, _, hB⟩
        obtain ⟨T, c, rfl, hT⟩ := h3 HE.out
        clear h3
        have HT := Lib.hid hT
        obtain ⟨bt, ot, rfl, hbt, hct⟩ := hT.cells (by omega)
        have ct := hct m _ (Pf.plc_get d m m (Nat.le_refl _))
        rw [htake.out] at ct
        have w1 : IntKind.i64.wrap (((m + 1 : Nat) : Int) - 1) = (m : Int) := by rw [show ((m + 1 : Nat) : Int) - 1 = m from by omega]; exact IntWalk.i64_in _ (by omega)
        have HB := Lib.hid hB
        clear hct hT hB
        go_wp2_with fail
        refine (HVA.out _ _ _ HB.out HT.out).mono ?_; rintro e w2 ⟨rfl, q, rfl⟩
        go_wp2_with fail
        go_ret2
        exact ⟨rfl, below_drewN HB.out q⟩
  · obtain ⟨e1, e2⟩ := Pf.bwE_ch (s := s) he
    rw [e1, e2]
    have hne : (Pf.chE v d != 0) = true := by rw [bne_iff_ne]; exact he
    have HC2 := Lib.hid (HC.out.mono (R' := fun e w' => e = .returned (.tuple #[.slice none 0 0, .int .i64 (Pf.chE v d)]) ∧ Below w.heap.size w w') fun e w' h => ⟨h.2.1 he, h.2.2⟩)
    clear hv hd e1 e2 he HC
    generalize Pf.chE v d = E at *
    go_enter Try.func22, Try.ntmps22
    go_wp2_with fail
    refine HC2.out.mono ?_; rintro e w' ⟨rfl, hB⟩
    go_wp2_with fail
    go_ret2
    exact ⟨rfl, hB⟩
end Go.Proofs.Ytgmpaffoajmmmaa
