/- Layer 34: the contracts of profile.check, on and Between. -/
import Derived.Test.YtgmpaffoajmmmaaFxOps
import Derived.Test.YtgmpaffoajmmmaaMem
import Derived.Test.YtgmpaffoajmmmaaPfPlain
import Derived.Deep.QuietTactic
import Derived.BigQuiet
namespace Go.Proofs.Ytgmpaffoajmmmaa
set_option linter.unusedSimpArgs false
set_option linter.unusedVariables false
open Go.RowKit

theorem inBound_yes (x : Int) (h : Pf.inB x) (w : World) : Calls Try.prog 29 #[.int .i64 x] w fun e w' => e = .returned (.bool true) ∧ w = w' := by
  obtain ⟨h0, h1⟩ := h
  go_enter Try.func29, Try.ntmps29
  go_wp2_with fail
  go_ret
  exact ⟨rfl, rfl⟩
theorem inBound_no (x : Int) (h : ¬ Pf.inB x) (w : World) : Calls Try.prog 29 #[.int .i64 x] w fun e w' => e = .returned (.bool false) ∧ w = w' := by
  have h' : x < -1099511627776 ∨ 1099511627776 < x := by unfold Pf.inB at h; omega
  clear h
  rcases h' with h | h
  · have h0 : ¬ -1099511627776 ≤ x := by omega
    go_enter Try.func29, Try.ntmps29
    go_wp2_with fail
    go_ret
    exact ⟨rfl, rfl⟩
  · have h0 : -1099511627776 ≤ x := by omega
    have h1 : ¬ x ≤ 1099511627776 := by omega
    go_enter Try.func29, Try.ntmps29
    go_wp2_with fail
    go_ret
    exact ⟨rfl, rfl⟩

def VRel1 (v : List Int) (n : Nat) (t : Value) : Prop := ∃ k : Nat, k ≤ n ∧ t = .int .i64 k ∧ ∀ x ∈ v.take k, Pf.inB x
def DRel1 (d : List Int) (m : Nat) (s t : Value) : Prop := ∃ k : Nat, k ≤ m ∧ t = .int .i64 k ∧ s = .int .i64 (d.take k).sum ∧ ∀ x ∈ d.take k, Pf.okD x
theorem take_all_of {α : Type} {l : List α} {p : α → Prop} {k : Nat} {x : α} (h : ∀ y ∈ l.take k, p y) (hx : l[k]? = some x) (hp : p x) : ∀ y ∈ l.take (k + 1), p y := by
  rw [take_succ_get l k x hx]
  intro y hy
  rw [List.mem_append, List.mem_singleton] at hy
  rcases hy with hy | hy
  · exact h y hy
  · rw [hy]; exact hp
theorem take_len_all {α : Type} {l : List α} {p : α → Prop} {n : Nat} (hl : l.length = n) (h : ∀ y ∈ l.take n, p y) : ∀ y ∈ l, p y := by
  rw [List.take_of_length_le (by omega)] at h
  exact h
theorem chE_1 {v d : List Int} (h : 64 < v.length) : Pf.chV v d = 0 ∧ Pf.chE v d = 3 := by
  have : Pf.chE v d = 3 := by unfold Pf.chE; rw [if_pos h]
  exact ⟨by unfold Pf.chV; rw [this, if_neg (by omega)], this⟩
theorem chE_2 {v d : List Int} (h0 : ¬ 64 < v.length) (h : v.length = 0 ∨ d.length + 1 ≠ v.length) : Pf.chV v d = 0 ∧ Pf.chE v d = 1 := by
  have : Pf.chE v d = 1 := by unfold Pf.chE; rw [if_neg h0, if_pos h]
  exact ⟨by unfold Pf.chV; rw [this, if_neg (by omega)], this⟩
theorem chE_3 {v d : List Int} (h0 : ¬ 64 < v.length) (h : ¬ (v.length = 0 ∨ d.length + 1 ≠ v.length)) (h2 : ¬ ((∀ x ∈ v, Pf.inB x) ∧ ∀ x ∈ d, Pf.okD x)) : Pf.chV v d = 0 ∧ Pf.chE v d = 2 := by
  have : Pf.chE v d = 2 := by unfold Pf.chE; rw [if_neg h0, if_neg h, if_neg h2]
  exact ⟨by unfold Pf.chV; rw [this, if_neg (by omega)], this⟩
theorem chE_4 {v d : List Int} (h0 : ¬ 64 < v.length) (h : ¬ (v.length = 0 ∨ d.length + 1 ≠ v.length)) (h1 : ∀ x ∈ v, Pf.inB x) (h2 : ∀ x ∈ d, Pf.okD x) : Pf.chV v d = d.sum ∧ Pf.chE v d = 0 := by
  have : Pf.chE v d = 0 := by unfold Pf.chE; rw [if_neg h0, if_neg h, if_pos ⟨h1, h2⟩]
  exact ⟨by unfold Pf.chV; rw [this, if_pos rfl], this⟩

set_option maxRecDepth 100000 in
set_option maxHeartbeats 1000000 in
theorem check_any (A D : Option Addr) (n cn m cm : Nat) (v d : List Int) (w : World) (hv : Ints w A n v) (hd : Ints w D m d) (hn : n ≤ maxLen) (hm : m ≤ maxLen) :
    Calls Try.prog 31 #[.slice A n cn, .slice D m cm] w fun e w' => e = .returned (.tuple #[.int .i64 (Pf.chV v d), .int .i64 (Pf.chE v d)]) ∧ w = w' := by
  have lv := hv.len
  have ld := hd.len
  unfold maxLen at hn hm
  by_cases h1 : 64 < n
  · obtain ⟨e1, e2⟩ := chE_1 (v := v) (d := d) (by omega)
    have E := Lib.hid (And.intro e1 e2)
    clear e1 e2 hv hd lv ld
    go_enter Try.func31, Try.ntmps31
    go_wp2_with fail
    go_ret2
    exact ⟨ret_tup2 E.out.1.symm E.out.2.symm, rfl⟩
  · by_cases h2 : n = 0
    · obtain ⟨e1, e2⟩ := chE_2 (v := v) (d := d) (by omega) (.inl (by omega))
      have E := Lib.hid (And.intro e1 e2)
      subst h2
      clear e1 e2 hv hd lv ld
      go_enter Try.func31, Try.ntmps31
      go_wp2_with fail
      go_ret2
      exact ⟨ret_tup2 E.out.1.symm E.out.2.symm, rfl⟩
    · by_cases h3 : m + 1 = n
      · have hne : ((n : Int) == 0) = false := beq_eq_false_iff_ne.2 (by omega)
        have hne2 : ((m : Int) != (n : Int) - 1) = false := by rw [bne_eq_false_iff_eq]; omega
        have HV := Lib.hid hv
        have HD := Lib.hid hd
        have LV := Lib.hid lv
        have LD := Lib.hid ld
        have H3 := Lib.hid h3
        have n0 : ¬ 64 < v.length := by omega
        have n1 : ¬ (v.length = 0 ∨ d.length + 1 ≠ v.length) := by omega
        have N0 := Lib.hid n0
        have N1 := Lib.hid n1
        clear hv hd lv ld n0 n1 h3
        go_enter Try.func31, Try.ntmps31
        go_wp2_with fail
        go_loop [29] (fun t => VRel1 v n t) (fun t => n - (intOf t).toNat)
        case atStart => exact ⟨0, by omega, rfl, by simp⟩
        case round =>
          obtain ⟨k, hk, rfl, hall⟩ := hrel
          have HALL := Lib.hid hall
          clear hall
          by_cases hlt : k < n
          · obtain ⟨x, hx⟩ := get_ex LV.out hlt
            obtain ⟨b, off, rfl, hb, hc⟩ := HV.out.cells (by omega)
            have hcell := hc k x hx
            have HX := Lib.hid hx
            clear hx hc
            by_cases hin : Pf.inB x
            · have HI := Lib.hid hin
              clear hin
              go_wp2_with fail
              refine (inBound_yes x HI.out _).mono ?_; rintro e w' ⟨rfl, rfl⟩
              go_wp2_with fail
              go_round
              case rel => exact ⟨k + 1, by omega, by go_num, take_all_of HALL.out HX.out HI.out⟩
              case measure => simp only [intOf]; omega
            · have HI := Lib.hid hin
              clear hin
              go_wp2_with fail
              refine (inBound_no x HI.out _).mono ?_; rintro e w' ⟨rfl, rfl⟩
              go_wp2_with fail
              go_ret2
              obtain ⟨e1, e2⟩ := chE_3 N0.out N1.out (fun h => HI.out (h.1 x (List.mem_of_getElem? HX.out)))
              exact ⟨ret_tup2 e1.symm e2.symm, rfl⟩
          · have hvs := Lib.hid (take_len_all LV.out (by have := HALL.out; rwa [show k = n from by omega] at this))
            go_wp2_with fail
            go_loop [8, 39] (fun s t => DRel1 d m s t) (fun _ t => m - (intOf t).toNat)
            case atStart => exact ⟨0, by omega, rfl, by simp, by simp⟩
            case round =>
              obtain ⟨j, hj, rfl, rfl, hall⟩ := hrel
              have hsum := Lib.hid (Pf.sum_nn hall)
              have HA2 := Lib.hid hall
              clear hall
              by_cases hlt2 : j < m
              · obtain ⟨x, hx⟩ := get_ex LD.out hlt2
                obtain ⟨b, off, rfl, hb, hc⟩ := HD.out.cells (by omega)
                have hcell := hc j x hx
                have hs1 := take_succ_get d j x hx
                have HS1 := Lib.hid (show (d.take (j + 1)).sum = (d.take j).sum + x by rw [hs1, Pf.sum_snoc])
                have HX := Lib.hid hx
                clear hx hc hs1
                by_cases hin : Pf.okD x
                · have HI := Lib.hid hin
                  obtain ⟨i0, i1⟩ := hin
                  obtain ⟨s0, s1⟩ := hsum.out
                  have s2 : (d.take j).sum ≤ 8000000 * 64 := by
                    have := List.length_take_le j d
                    have h3 := H3.out
                    omega
                  clear s1
                  generalize (d.take j).sum = S at *
                  go_wp2_with fail
                  go_round
                  case rel => exact ⟨j + 1, by omega, by go_num, by rw [HS1.out], take_all_of HA2.out HX.out HI.out⟩
                  case measure => simp only [intOf]; omega
                · have HI := Lib.hid hin
                  have hin' : x < 0 ∨ 8000000 < x := by unfold Pf.okD at hin; omega
                  obtain ⟨e1, e2⟩ := chE_3 N0.out N1.out (fun h => HI.out (h.2 x (List.mem_of_getElem? HX.out)))
                  have E := Lib.hid (And.intro e1 e2)
                  clear e1 e2 hin
                  rcases hin' with hin | hin
                  · go_wp2_with fail
                    go_ret2
                    exact ⟨ret_tup2 E.out.1.symm E.out.2.symm, rfl⟩
                  · have hin2 : ¬ x < 0 := by omega
                    go_wp2_with fail
                    go_ret2
                    exact ⟨ret_tup2 E.out.1.symm E.out.2.symm, rfl⟩
              · have hds := take_len_all LD.out (by have := HA2.out; rwa [show j = m from by omega] at this)
                obtain ⟨e1, e2⟩ := chE_4 N0.out N1.out hvs.out hds
                have he : (d.take j).sum = d.sum := by rw [List.take_of_length_le (by have := LD.out; omega)]
                have E := Lib.hid (And.intro e1 (And.intro e2 he))
                clear e1 e2 he hds
                go_wp2_with fail
                go_ret2
                exact ⟨ret_tup2 (by rw [E.out.1, E.out.2.2]) E.out.2.1.symm, rfl⟩
      · have hne : ((n : Int) == 0) = false := beq_eq_false_iff_ne.2 (by omega)
        have hne2 : ((m : Int) != (n : Int) - 1) = true := by rw [bne_iff_ne]; omega
        obtain ⟨e1, e2⟩ := chE_2 (v := v) (d := d) (by omega) (.inr (by omega))
        have E := Lib.hid (And.intro e1 e2)
        clear e1 e2 hv hd lv ld
        go_enter Try.func31, Try.ntmps31
        go_wp2_with fail
        go_ret2
        exact ⟨ret_tup2 E.out.1.symm E.out.2.symm, rfl⟩

theorem on_zero (A D : Option Addr) (n cn m cm i : Nat) (v : List Int) (a : Int) (w : World) (hv : Ints w A n v) (hi : v[i]? = some a) (hn : n ≤ 64) :
    Calls Try.prog 32 #[.slice A n cn, .slice D m cm, .int .i64 i, .int .i64 0] w fun e w' => e = .returned (.int .i64 a) ∧ w = w' := by
  have hl := hv.len
  have hlt : i < n := by rw [← hl]; exact (List.getElem?_eq_some_iff.1 hi).1
  obtain ⟨b, off, rfl, hb, hc⟩ := hv.cells (by omega)
  have hcell := hc i a hi
  clear hc hi hv hl
  go_enter Try.func32, Try.ntmps32
  go_wp2_with fail
  go_ret
  exact ⟨rfl, rfl⟩

set_option maxRecDepth 100000 in
set_option maxHeartbeats 1000000 in
theorem on_any (A D : Option Addr) (n cn m cm i : Nat) (v d : List Int) (a b x k : Int) (w : World) (hv : Ints w A n v) (hd : Ints w D m d) (hn : n ≤ 64) (hm : m ≤ 64)
    (h0 : v[i]? = some a) (h1 : v[i + 1]? = some b) (hx : d[i]? = some x) (ha : Pf.inB a) (hb : Pf.inB b) (hk0 : k ≠ 0) (hk1 : 0 ≤ k) (hk2 : k ≤ x) (hx2 : x ≤ 8000000) :
    Calls Try.prog 32 #[.slice A n cn, .slice D m cm, .int .i64 i, .int .i64 k] w fun e w' => e = .returned (.int .i64 (Pf.onV a b k x)) ∧ ∃ q, w' = w.drewN q := by
  have hlv := hv.len
  have hld := hd.len
  have hlt : i + 1 < n := by rw [← hlv]; exact (List.getElem?_eq_some_iff.1 h1).1
  have hlt2 : i < m := by rw [← hld]; exact (List.getElem?_eq_some_iff.1 hx).1
  obtain ⟨bv, ov, rfl, hbv, hcv⟩ := hv.cells (by omega)
  obtain ⟨bd, od, rfl, hbd, hcd⟩ := hd.cells (by omega)
  have c0 := hcv i a h0
  have c1 := hcv (i + 1) b h1
  have c2 := hcd i x hx
  have E1 := Pf.leg_sc ha hb hk1 hk2 (by omega) hx2
  have fb := (Pf.onV_bd ha hb hk1 hk2 (by omega)).2
  have EV := Lib.hid (Pf.onV_eq a b k x)
  obtain ⟨a1, a2⟩ := ha
  obtain ⟨b1, b2⟩ := hb
  have H := Lib.hid (fun w => xMulDiv (b - a) k x ⟨by omega, by omega⟩ ⟨by omega, by omega⟩ ⟨by omega, by omega⟩ w)
  rw [E1] at H
  have hkz : (k == 0) = false := beq_eq_false_iff_ne.2 hk0
  have w1 : IntKind.i64.wrap ((i : Int) + 1) = (i : Int) + 1 := IntWalk.i64_in _ (by omega)
  have w2 : ((i : Int) + 1).toNat = i + 1 := by omega
  have w3 : 0 ≤ (i : Int) + 1 := by omega
  have w4 : (i : Int) + 1 < n := by omega
  have w5 : (i : Int) < n := by omega
  have w6 : (i : Int) < m := by omega
  have w7 : IntKind.i64.wrap (b - a) = b - a := IntWalk.i64_in _ (by omega)
  clear hcv hcd h0 h1 hx hv hd hlv hld hk0 E1
  generalize Fx.scE 0 (b - a) k x = EE at *
  generalize (b - a) * k / x = Z at *
  obtain ⟨z1, z2⟩ := fb
  go_enter Try.func32, Try.ntmps32
  go_wp2_with fail
  go_quiet ((go_at_call 42; exact Calls.quiet_of (H.out _)))
  go_wp2_with fail
  go_ret
  exact ⟨ret_int EV.out.symm, _, rfl⟩

def BRel (v d : List Int) (s0 : Int) (m : Nat) (s t : Value) : Prop := ∃ (k : Nat) (S : Int), k ≤ m ∧ t = .int .i64 k ∧ s = .int .i64 S ∧ 0 ≤ S ∧ S ≤ (d.drop k).sum ∧ Pf.btw (v.drop k) (d.drop k) S = Pf.btw v d s0
theorem drop_sum {d : List Int} {k : Nat} {x : Int} (h : d[k]? = some x) : (d.drop k).sum = x + (d.drop (k + 1)).sum := by
  rw [Pf.drop_one h]; simp
def BwPost (V E : Int) (w : World) (e : Ending) (w' : World) : Prop := e = .returned (.tuple #[.int .i64 V, .int .i64 E]) ∧ ∃ q, w' = w.drewN q

set_option maxRecDepth 100000 in
set_option maxHeartbeats 2000000 in
theorem between_any (A D : Option Addr) (n cn m cm : Nat) (v d : List Int) (s : Int) (w : World) (hv : Ints w A n v) (hd : Ints w D m d) (hn : n ≤ maxLen) (hm : m ≤ maxLen) (hs : I64 s) :
    Calls Try.prog 21 #[.slice A n cn, .slice D m cm, .int .i64 s] w (BwPost (Pf.bwV v d s) (Pf.bwE v d s) w) := by
  have HC := Lib.hid (check_any A D n cn m cm v d w hv hd hn hm)
  obtain ⟨s0, s1⟩ := hs
  by_cases he : Pf.chE v d = 0
  · have hok := Pf.chOk_of he
    have hlv := hv.len
    have hld := hd.len
    have l1 := hok.len
    have l2 := hok.two
    have hcv : Pf.chV v d = d.sum := by unfold Pf.chV; rw [if_pos he]
    rw [hcv, he] at HC
    have hsum := Pf.sum_nn hok.ds
    have hsb : d.sum ≤ 8000000 * 64 := by omega
    obtain ⟨hsum0, _⟩ := hsum
    by_cases h1 : s < 0
    · obtain ⟨e1, e2⟩ := Pf.bwE_out he (.inl h1)
      rw [e1, e2]
      clear hv hd hok l1 l2 e1 e2 he hlv hld hcv
      generalize d.sum = S at *
      go_enter Try.func21, Try.ntmps21
      go_wp2_with fail
      refine HC.out.mono ?_; rintro e w' ⟨rfl, rfl⟩
      go_wp2_with fail
      go_ret2
      exact ⟨rfl, 0, rfl⟩
    · by_cases h2 : d.sum < s
      · obtain ⟨e1, e2⟩ := Pf.bwE_out he (.inr h2)
        rw [e1, e2]
        clear hv hd hok l1 l2 e1 e2 he hlv hld hcv
        generalize d.sum = S at *
        go_enter Try.func21, Try.ntmps21
        go_wp2_with fail
        refine HC.out.mono ?_; rintro e w' ⟨rfl, rfl⟩
        go_wp2_with fail
        go_ret2
        exact ⟨rfl, 0, rfl⟩
      · obtain ⟨e1, e2⟩ := Pf.bwE_in (s := s) he (by omega) (by omega)
        rw [e1, e2]
        have HOK := Lib.hid hok
        have HLV := Lib.hid hlv
        have HLD := Lib.hid hld
        have HV := Lib.hid hv
        have HD := Lib.hid hd
        have hm' : m ≤ 64 := by omega
        have hn' : n ≤ 64 := by omega
        have hnm := Lib.hid (show n = m + 1 by omega)
        have hstart := Lib.hid (show s ≤ (d.drop 0).sum by simpa using h2)
        clear e1 e2 he hv hd hok l1 l2 hlv hld hcv hn hm
        generalize d.sum = SM at *
        go_enter Try.func21, Try.ntmps21
        go_wp2_with fail
        refine HC.out.mono ?_; rintro e w' ⟨rfl, rfl⟩
        go_wp2_with fail
        go_loop [2, 10] (fun s' t => BRel v d s m s' t) (fun _ t => m - (intOf t).toNat)
        case atStart => exact ⟨0, s, by omega, rfl, rfl, by omega, hstart.out, by simp⟩
        case round =>
          obtain ⟨k, S, hk, rfl, rfl, hS0, hS1, heq⟩ := hrel
          have HEQ := Lib.hid heq
          have HS1 := Lib.hid hS1
          have hSb : S ≤ 8000000 * 64 := by
            have h3 := (Pf.sum_nn (d := d.drop k) (fun x hx => HOK.out.ds x (List.mem_of_mem_drop hx))).2
            have h4 := HLD.out
            rw [List.length_drop] at h3
            omega
          clear heq hS1
          obtain ⟨a, ha⟩ := get_ex (k := k) HLV.out (by have := hnm.out; omega)
          have HA := Lib.hid ha
          clear ha
          by_cases hlt : k < m
          · obtain ⟨x, hx⟩ := get_ex HLD.out hlt
            obtain ⟨b, hb⟩ := get_ex (k := k + 1) HLV.out (by have := hnm.out; omega)
            have HB := Lib.hid hb
            clear hb
            have hxo := HOK.out.ds x (List.mem_of_getElem? hx)
            have HX := Lib.hid hx
            obtain ⟨x0, x1⟩ := hxo
            obtain ⟨bd, od, hD, hbd, hcd⟩ := HD.out.cells (by omega)
            have hcell := hcd k x hx
            have HDE := Lib.hid hD
            clear hx hcd hD
            by_cases hle : x ≤ S
            · have hnext := Lib.hid (Pf.btw_step HA.out HB.out HX.out hle)
              have hds := Lib.hid (drop_sum HX.out)
              obtain rfl := HDE.out
              go_wp2_with fail
              go_round
              case rel => exact ⟨k + 1, S - x, by omega, by go_num, rfl, by omega, by have := HS1.out; have := hds.out; omega, by rw [← hnext.out]; exact HEQ.out⟩
              case measure => simp only [intOf]; omega
            · have hstop := Lib.hid (Pf.btw_stop HA.out HB.out HX.out (show S < x by omega))
              by_cases hz : S = 0
              · have HON := Lib.hid (fun w (hh : Ints w A n v) => on_zero A D n cn m cm k v a w hh HA.out hn')
                subst hz
                obtain rfl := HDE.out
                go_wp2_with fail
                refine (HON.out _ HV.out).mono ?_; rintro e w' ⟨rfl, rfl⟩
                go_wp2_with fail
                go_ret2
                exact ⟨ret_tup2 (by rw [← HEQ.out, hstop.out]; rfl) rfl, 0, rfl⟩
              · have HON := Lib.hid (on_any A D n cn m cm k v d a b x S w HV.out HD.out hn' hm' HA.out HB.out HX.out (HOK.out.vs _ (List.mem_of_getElem? HA.out)) (HOK.out.vs _ (List.mem_of_getElem? HB.out)) hz hS0 (by omega) x1)
                obtain rfl := HDE.out
                go_wp2_with fail
                refine HON.out.mono ?_; rintro e w' ⟨rfl, q, rfl⟩
                go_wp2_with fail
                go_ret2
                exact ⟨ret_tup2 (by rw [← HEQ.out, hstop.out]) rfl, q, rfl⟩
          · have hz : S = 0 := by
              have h3 := HS1.out
              rw [List.drop_of_length_le (by have := HLD.out; omega)] at h3
              simp at h3
              omega
            subst hz
            have hend := Lib.hid (Pf.btw_end (s := 0) HA.out (show d.length ≤ k by have := HLD.out; omega))
            have HON := Lib.hid (on_zero A D n cn m cm k v a w HV.out HA.out hn')
            go_wp2_with fail
            refine HON.out.mono ?_; rintro e w' ⟨rfl, rfl⟩
            go_wp2_with fail
            go_ret2
            exact ⟨ret_tup2 (by rw [← HEQ.out, hend.out]) rfl, 0, rfl⟩
  · obtain ⟨e1, e2⟩ := Pf.bwE_ch (s := s) he
    rw [e1, e2]
    have hne : (Pf.chE v d != 0) = true := by rw [bne_iff_ne]; exact he
    have hcv : Pf.chV v d = 0 := by unfold Pf.chV; rw [if_neg he]
    rw [hcv] at HC
    clear hv hd e1 e2 he hcv
    generalize Pf.chE v d = E at *
    go_enter Try.func21, Try.ntmps21
    go_wp2_with fail
    refine HC.out.mono ?_; rintro e w' ⟨rfl, rfl⟩
    go_wp2_with fail
    go_ret2
    exact ⟨rfl, 0, rfl⟩
end Go.Proofs.Ytgmpaffoajmmmaa
