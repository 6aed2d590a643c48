/- Layer 51: the contracts of the functions of numbers, of the program and of the reference. -/
import Derived.Test.YtgclfkgnkohgdaaFxOps
import Derived.Test.YtgclfkgnkohgdaaVtPlain
import Derived.Lib.Hide
import Derived.WalkKit
import Derived.Deep.QuietTactic
import Derived.BigQuiet
namespace Go.Proofs.Ytgclfkgnkohgdaa
set_option linter.unusedSimpArgs false
set_option linter.unusedVariables false
open Go.RowKit

theorem xAlt_yes (x : Int) (h : Vt.okAlt x) (w : World) : Calls Try.prog 30 #[.int .i64 x] w fun e w' => e = .returned (.bool true) ∧ w = w' := by
  obtain ⟨h0, h1⟩ := h
  go_enter Try.func30, Try.ntmps30
  go_wp2_with fail
  go_ret
  exact ⟨rfl, rfl⟩
theorem xAlt_no (x : Int) (h : ¬ Vt.okAlt x) (w : World) : Calls Try.prog 30 #[.int .i64 x] w fun e w' => e = .returned (.bool false) ∧ w = w' := by
  have h' : x < -200000 ∨ 6000000 < x := by unfold Vt.okAlt at h; omega
  clear h
  rcases h' with h | h
  · have h0 : ¬ -200000 ≤ x := by omega
    go_enter Try.func30, Try.ntmps30
    go_wp2_with fail
    go_ret
    exact ⟨rfl, rfl⟩
  · have h0 : -200000 ≤ x := by omega
    have h1 : ¬ x ≤ 6000000 := by omega
    go_enter Try.func30, Try.ntmps30
    go_wp2_with fail
    go_ret
    exact ⟨rfl, rfl⟩
theorem xRate_yes (x : Int) (h : Vt.okRate x) (w : World) : Calls Try.prog 34 #[.int .i64 x] w fun e w' => e = .returned (.bool true) ∧ w = w' := by
  obtain ⟨h0, h1⟩ := h
  go_enter Try.func34, Try.ntmps34
  go_wp2_with fail
  go_ret
  exact ⟨rfl, rfl⟩
theorem xRate_no (x : Int) (h : ¬ Vt.okRate x) (w : World) : Calls Try.prog 34 #[.int .i64 x] w fun e w' => e = .returned (.bool false) ∧ w = w' := by
  have h' : x < -10000 ∨ 10000 < x := by unfold Vt.okRate at h; omega
  clear h
  rcases h' with h | h
  · have h0 : ¬ -10000 ≤ x := by omega
    go_enter Try.func34, Try.ntmps34
    go_wp2_with fail
    go_ret
    exact ⟨rfl, rfl⟩
  · have h0 : -10000 ≤ x := by omega
    have h1 : ¬ x ≤ 10000 := by omega
    go_enter Try.func34, Try.ntmps34
    go_wp2_with fail
    go_ret
    exact ⟨rfl, rfl⟩
theorem rAlt_yes (x : Int) (h : Vt.okAlt x) (w : World) : Calls Try.prog 33 #[.int .i64 x] w fun e w' => e = .returned (.bool true) ∧ w = w' := by
  obtain ⟨h0, h1⟩ := h
  go_enter Try.func33, Try.ntmps33
  go_wp2_with fail
  go_ret
  exact ⟨rfl, rfl⟩
theorem rAlt_no (x : Int) (h : ¬ Vt.okAlt x) (w : World) : Calls Try.prog 33 #[.int .i64 x] w fun e w' => e = .returned (.bool false) ∧ w = w' := by
  have h' : x < -200000 ∨ 6000000 < x := by unfold Vt.okAlt at h; omega
  clear h
  rcases h' with h | h
  · have h0 : ¬ -200000 ≤ x := by omega
    go_enter Try.func33, Try.ntmps33
    go_wp2_with fail
    go_ret
    exact ⟨rfl, rfl⟩
  · have h0 : -200000 ≤ x := by omega
    have h1 : ¬ x ≤ 6000000 := by omega
    go_enter Try.func33, Try.ntmps33
    go_wp2_with fail
    go_ret
    exact ⟨rfl, rfl⟩
theorem rRate_yes (x : Int) (h : Vt.okRate x) (w : World) : Calls Try.prog 36 #[.int .i64 x] w fun e w' => e = .returned (.bool true) ∧ w = w' := by
  obtain ⟨h0, h1⟩ := h
  go_enter Try.func36, Try.ntmps36
  go_wp2_with fail
  go_ret
  exact ⟨rfl, rfl⟩
theorem rRate_no (x : Int) (h : ¬ Vt.okRate x) (w : World) : Calls Try.prog 36 #[.int .i64 x] w fun e w' => e = .returned (.bool false) ∧ w = w' := by
  have h' : x < -10000 ∨ 10000 < x := by unfold Vt.okRate at h; omega
  clear h
  rcases h' with h | h
  · have h0 : ¬ -10000 ≤ x := by omega
    go_enter Try.func36, Try.ntmps36
    go_wp2_with fail
    go_ret
    exact ⟨rfl, rfl⟩
  · have h0 : -10000 ≤ x := by omega
    have h1 : ¬ x ≤ 10000 := by omega
    go_enter Try.func36, Try.ntmps36
    go_wp2_with fail
    go_ret
    exact ⟨rfl, rfl⟩

set_option maxRecDepth 100000 in
set_option maxHeartbeats 1000000 in
theorem xCommand (a t m : Int) (w : World) :
    Calls Try.prog 14 #[.int .i64 a, .int .i64 t, .int .i64 m] w fun e w' => e = .returned (.tuple #[.int .i64 (Vt.cmV a t m), .int .i64 (Vt.cmE a t m)]) ∧ ∃ q, w' = w.drewN q := by
  by_cases ha : Vt.okAlt a
  · by_cases ht : Vt.okAlt t
    · have HA := Lib.hid (fun w => xAlt_yes a ha w)
      have HT := Lib.hid (fun w => xAlt_yes t ht w)
      by_cases hm : m < 0
      · have E := Lib.hid (Vt.okCm_no (a := a) (t := t) (m := m) (fun h => by have := h.2.2; omega))
        clear ha ht
        go_enter Try.func14, Try.ntmps14
        go_wp2_with fail
        refine (HA.out _).mono ?_; rintro e w' ⟨rfl, rfl⟩
        go_wp2_with fail
        refine (HT.out _).mono ?_; rintro e w' ⟨rfl, rfl⟩
        go_wp2_with fail
        go_ret2
        exact ⟨ret_tup2 E.out.1.symm E.out.2.symm, 0, rfl⟩
      · by_cases hm2 : 10000 < m
        · have E := Lib.hid (Vt.okCm_no (a := a) (t := t) (m := m) (fun h => by have := h.2.2; omega))
          clear ha ht
          go_enter Try.func14, Try.ntmps14
          go_wp2_with fail
          refine (HA.out _).mono ?_; rintro e w' ⟨rfl, rfl⟩
          go_wp2_with fail
          refine (HT.out _).mono ?_; rintro e w' ⟨rfl, rfl⟩
          go_wp2_with fail
          go_ret2
          exact ⟨ret_tup2 E.out.1.symm E.out.2.symm, 0, rfl⟩
        · have hok : Vt.okCm a t m := ⟨ha, ht, by omega, by omega⟩
          obtain ⟨a0, a1⟩ := ha
          obtain ⟨t0, t1⟩ := ht
          by_cases hlt : t < a
          · have E := Lib.hid (Vt.okCm_dn hok hlt)
            clear hok
            obtain ⟨D, hD⟩ : ∃ D, a - t = D := ⟨_, rfl⟩
            have h16 := Vt.ceil16 (d := D) (by omega) (by omega)
            rw [hD] at E
            have hmg := Lib.hid (show Vt.mag D m = min ((D + 15) / 16) m from rfl)
            have HDe := Lib.hid hD
            have d0 : 0 ≤ D := by omega
            have d1 : D ≤ 6200000 := by omega
            have e1 : t - a = -D := by omega
            clear hD
            have HC := Lib.hid (fun w => xCeil D 16 ⟨by omega, by omega⟩ ⟨by decide, by decide⟩ w)
            rw [h16.1, h16.2] at HC
            have hab := Lib.hid (fun w => xAbs (-D) ⟨by omega, by omega⟩ w)
            rw [show satV (((-D).natAbs : Nat) : Int) = D by rw [satV_mid ⟨by omega, by omega⟩]; omega] at hab
            go_enter Try.func14, Try.ntmps14
            go_wp2_with fail
            refine (HA.out _).mono ?_; rintro e w' ⟨rfl, rfl⟩
            go_wp2_with fail
            refine (HT.out _).mono ?_; rintro e w' ⟨rfl, rfl⟩
            go_wp2_with fail
            refine (hab.out _).mono ?_; rintro e w' ⟨rfl, rfl⟩
            go_wp2_with fail
            refine (HC.out _).mono ?_; rintro e w' ⟨rfl, q, rfl⟩
            go_wp2_with fail
            go_ret2
            exact ⟨ret_tup2 (by rw [E.out.1, hmg.out]) E.out.2.symm, q, rfl⟩
          · have E := Lib.hid (Vt.okCm_up hok hlt)
            clear hok
            obtain ⟨D, hD⟩ : ∃ D, t - a = D := ⟨_, rfl⟩
            have h16 := Vt.ceil16 (d := D) (by omega) (by omega)
            rw [hD] at E
            have hmg := Lib.hid (show Vt.mag D m = min ((D + 15) / 16) m from rfl)
            have HDe := Lib.hid hD
            have d0 : 0 ≤ D := by omega
            have d1 : D ≤ 6200000 := by omega
            have e1 : t - a = D := by omega
            clear hD
            have HC := Lib.hid (fun w => xCeil D 16 ⟨by omega, by omega⟩ ⟨by decide, by decide⟩ w)
            rw [h16.1, h16.2] at HC
            have hab := Lib.hid (fun w => xAbs (D) ⟨by omega, by omega⟩ w)
            rw [show satV (((D).natAbs : Nat) : Int) = D by rw [satV_mid ⟨by omega, by omega⟩]; omega] at hab
            go_enter Try.func14, Try.ntmps14
            go_wp2_with fail
            refine (HA.out _).mono ?_; rintro e w' ⟨rfl, rfl⟩
            go_wp2_with fail
            refine (HT.out _).mono ?_; rintro e w' ⟨rfl, rfl⟩
            go_wp2_with fail
            refine (hab.out _).mono ?_; rintro e w' ⟨rfl, rfl⟩
            go_wp2_with fail
            refine (HC.out _).mono ?_; rintro e w' ⟨rfl, q, rfl⟩
            go_wp2_with fail
            go_ret2
            exact ⟨ret_tup2 (by rw [E.out.1, hmg.out]) E.out.2.symm, q, rfl⟩
    · have HA := Lib.hid (fun w => xAlt_yes a ha w)
      have HT := Lib.hid (fun w => xAlt_no t ht w)
      have E := Lib.hid (Vt.okCm_no (a := a) (t := t) (m := m) (fun h => ht h.2.1))
      clear ha ht
      go_enter Try.func14, Try.ntmps14
      go_wp2_with fail
      refine (HA.out _).mono ?_; rintro e w' ⟨rfl, rfl⟩
      go_wp2_with fail
      refine (HT.out _).mono ?_; rintro e w' ⟨rfl, rfl⟩
      go_wp2_with fail
      go_ret2
      exact ⟨ret_tup2 E.out.1.symm E.out.2.symm, 0, rfl⟩
  · have HA := Lib.hid (fun w => xAlt_no a ha w)
    have E := Lib.hid (Vt.okCm_no (a := a) (t := t) (m := m) (fun h => ha h.1))
    clear ha
    go_enter Try.func14, Try.ntmps14
    go_wp2_with fail
    refine (HA.out _).mono ?_; rintro e w' ⟨rfl, rfl⟩
    go_wp2_with fail
    go_ret2
    exact ⟨ret_tup2 E.out.1.symm E.out.2.symm, 0, rfl⟩

set_option maxRecDepth 100000 in
set_option maxHeartbeats 1000000 in
theorem rCommand (a t m : Int) (w : World) :
    Calls Try.prog 15 #[.int .i64 a, .int .i64 t, .int .i64 m] w fun e w' => e = .returned (.tuple #[.int .i64 (Vt.cmV a t m), .int .i64 (Vt.cmE a t m)]) ∧ ∃ q, w' = w.drewN q := by
  by_cases ha : Vt.okAlt a
  · by_cases ht : Vt.okAlt t
    · have HA := Lib.hid (fun w => rAlt_yes a ha w)
      have HT := Lib.hid (fun w => rAlt_yes t ht w)
      by_cases hm : m < 0
      · have E := Lib.hid (Vt.okCm_no (a := a) (t := t) (m := m) (fun h => by have := h.2.2; omega))
        clear ha ht
        go_enter Try.func15, Try.ntmps15
        go_wp2_with fail
        refine (HA.out _).mono ?_; rintro e w' ⟨rfl, rfl⟩
        go_wp2_with fail
        refine (HT.out _).mono ?_; rintro e w' ⟨rfl, rfl⟩
        go_wp2_with fail
        go_ret2
        exact ⟨ret_tup2 E.out.1.symm E.out.2.symm, 0, rfl⟩
      · by_cases hm2 : 10000 < m
        · have E := Lib.hid (Vt.okCm_no (a := a) (t := t) (m := m) (fun h => by have := h.2.2; omega))
          clear ha ht
          go_enter Try.func15, Try.ntmps15
          go_wp2_with fail
          refine (HA.out _).mono ?_; rintro e w' ⟨rfl, rfl⟩
          go_wp2_with fail
          refine (HT.out _).mono ?_; rintro e w' ⟨rfl, rfl⟩
          go_wp2_with fail
          go_ret2
          exact ⟨ret_tup2 E.out.1.symm E.out.2.symm, 0, rfl⟩
        · have hok : Vt.okCm a t m := ⟨ha, ht, by omega, by omega⟩
          obtain ⟨a0, a1⟩ := ha
          obtain ⟨t0, t1⟩ := ht
          by_cases hlt : t < a
          · have E := Lib.hid (Vt.okCm_dn hok hlt)
            clear hok
            obtain ⟨D, hD⟩ : ∃ D, a - t = D := ⟨_, rfl⟩
            have h16 := Vt.ceil16 (d := D) (by omega) (by omega)
            rw [hD] at E
            have hmg := Lib.hid (show Vt.mag D m = min ((D + 15) / 16) m from rfl)
            have HDe := Lib.hid hD
            have d0 : 0 ≤ D := by omega
            have d1 : D ≤ 6200000 := by omega
            have e1 : t - a = -D := by omega
            clear hD
            go_enter Try.func15, Try.ntmps15
            go_wp2_with fail
            refine (HA.out _).mono ?_; rintro e w' ⟨rfl, rfl⟩
            go_wp2_with fail
            refine (HT.out _).mono ?_; rintro e w' ⟨rfl, rfl⟩
            go_wp2_with fail
            go_ret2
            exact ⟨ret_tup2 (by rw [E.out.1, hmg.out, show D + 16 - 1 = D + 15 from by omega]) E.out.2.symm, 0, rfl⟩
          · have E := Lib.hid (Vt.okCm_up hok hlt)
            clear hok
            obtain ⟨D, hD⟩ : ∃ D, t - a = D := ⟨_, rfl⟩
            have h16 := Vt.ceil16 (d := D) (by omega) (by omega)
            rw [hD] at E
            have hmg := Lib.hid (show Vt.mag D m = min ((D + 15) / 16) m from rfl)
            have HDe := Lib.hid hD
            have d0 : 0 ≤ D := by omega
            have d1 : D ≤ 6200000 := by omega
            have e1 : t - a = D := by omega
            clear hD
            go_enter Try.func15, Try.ntmps15
            go_wp2_with fail
            refine (HA.out _).mono ?_; rintro e w' ⟨rfl, rfl⟩
            go_wp2_with fail
            refine (HT.out _).mono ?_; rintro e w' ⟨rfl, rfl⟩
            go_wp2_with fail
            go_ret2
            exact ⟨ret_tup2 (by rw [E.out.1, hmg.out, show D + 16 - 1 = D + 15 from by omega]) E.out.2.symm, 0, rfl⟩
    · have HA := Lib.hid (fun w => rAlt_yes a ha w)
      have HT := Lib.hid (fun w => rAlt_no t ht w)
      have E := Lib.hid (Vt.okCm_no (a := a) (t := t) (m := m) (fun h => ht h.2.1))
      clear ha ht
      go_enter Try.func15, Try.ntmps15
      go_wp2_with fail
      refine (HA.out _).mono ?_; rintro e w' ⟨rfl, rfl⟩
      go_wp2_with fail
      refine (HT.out _).mono ?_; rintro e w' ⟨rfl, rfl⟩
      go_wp2_with fail
      go_ret2
      exact ⟨ret_tup2 E.out.1.symm E.out.2.symm, 0, rfl⟩
  · have HA := Lib.hid (fun w => rAlt_no a ha w)
    have E := Lib.hid (Vt.okCm_no (a := a) (t := t) (m := m) (fun h => ha h.1))
    clear ha
    go_enter Try.func15, Try.ntmps15
    go_wp2_with fail
    refine (HA.out _).mono ?_; rintro e w' ⟨rfl, rfl⟩
    go_wp2_with fail
    go_ret2
    exact ⟨ret_tup2 E.out.1.symm E.out.2.symm, 0, rfl⟩

set_option maxRecDepth 100000 in
set_option maxHeartbeats 1000000 in
theorem xLimit (l x : Int) (w : World) :
    Calls Try.prog 16 #[.int .i64 l, .int .i64 x] w fun e w' => e = .returned (.tuple #[.int .i64 (Vt.lmV l x), .int .i64 (Vt.lmE l x)]) ∧ w = w' := by
  by_cases hl : Vt.okRate l
  · have HL := Lib.hid (fun w => xRate_yes l hl w)
    by_cases hx : Vt.okRate x
    · have HX := Lib.hid (fun w => xRate_yes x hx w)
      have E := Lib.hid (show Vt.lmV l x = Vt.clmp x (l - 40) (l + 40) ∧ Vt.lmE l x = 0 by unfold Vt.lmV Vt.lmE; rw [if_pos ⟨hl, hx⟩, if_pos ⟨hl, hx⟩]; exact ⟨rfl, rfl⟩)
      obtain ⟨l0, l1⟩ := hl
      obtain ⟨x0, x1⟩ := hx
      go_enter Try.func16, Try.ntmps16
      go_wp2_with fail
      refine (HL.out _).mono ?_; rintro e w' ⟨rfl, rfl⟩
      go_wp2_with fail
      refine (HX.out _).mono ?_; rintro e w' ⟨rfl, rfl⟩
      go_wp2_with fail
      refine (xClamp x (l - 40) (l + 40) _).mono ?_; rintro e w' ⟨rfl, rfl⟩
      go_wp2_with fail
      go_ret2
      exact ⟨ret_tup2 (by rw [E.out.1]; rfl) E.out.2.symm, rfl⟩
    · have HX := Lib.hid (fun w => xRate_no x hx w)
      have E := Lib.hid (show Vt.lmV l x = 0 ∧ Vt.lmE l x = 2 by unfold Vt.lmV Vt.lmE; rw [if_neg (fun h => hx h.2), if_neg (fun h => hx h.2)]; exact ⟨rfl, rfl⟩)
      clear hl hx
      go_enter Try.func16, Try.ntmps16
      go_wp2_with fail
      refine (HL.out _).mono ?_; rintro e w' ⟨rfl, rfl⟩
      go_wp2_with fail
      refine (HX.out _).mono ?_; rintro e w' ⟨rfl, rfl⟩
      go_wp2_with fail
      go_ret2
      exact ⟨ret_tup2 E.out.1.symm E.out.2.symm, rfl⟩
  · have HL := Lib.hid (fun w => xRate_no l hl w)
    have E := Lib.hid (show Vt.lmV l x = 0 ∧ Vt.lmE l x = 2 by unfold Vt.lmV Vt.lmE; rw [if_neg (fun h => hl h.1), if_neg (fun h => hl h.1)]; exact ⟨rfl, rfl⟩)
    clear hl
    go_enter Try.func16, Try.ntmps16
    go_wp2_with fail
    refine (HL.out _).mono ?_; rintro e w' ⟨rfl, rfl⟩
    go_wp2_with fail
    go_ret2
    exact ⟨ret_tup2 E.out.1.symm E.out.2.symm, rfl⟩

set_option maxRecDepth 100000 in
set_option maxHeartbeats 1000000 in
theorem rLimit (l x : Int) (w : World) :
    Calls Try.prog 17 #[.int .i64 l, .int .i64 x] w fun e w' => e = .returned (.tuple #[.int .i64 (Vt.lmV l x), .int .i64 (Vt.lmE l x)]) ∧ w = w' := by
  by_cases hl : Vt.okRate l
  · have HL := Lib.hid (fun w => rRate_yes l hl w)
    by_cases hx : Vt.okRate x
    · have HX := Lib.hid (fun w => rRate_yes x hx w)
      have E := Lib.hid (show Vt.lmV l x = Vt.clmp x (l - 40) (l + 40) ∧ Vt.lmE l x = 0 by unfold Vt.lmV Vt.lmE; rw [if_pos ⟨hl, hx⟩, if_pos ⟨hl, hx⟩]; exact ⟨rfl, rfl⟩)
      obtain ⟨l0, l1⟩ := hl
      obtain ⟨x0, x1⟩ := hx
      go_enter Try.func17, Try.ntmps17
      go_wp2_with fail
      refine (HL.out _).mono ?_; rintro e w' ⟨rfl, rfl⟩
      go_wp2_with fail
      refine (HX.out _).mono ?_; rintro e w' ⟨rfl, rfl⟩
      go_wp2_with fail
      go_ret2
      exact ⟨ret_tup2 (by rw [E.out.1, Vt.clmp_eq _ _ _ (by omega)]) E.out.2.symm, rfl⟩
    · have HX := Lib.hid (fun w => rRate_no x hx w)
      have E := Lib.hid (show Vt.lmV l x = 0 ∧ Vt.lmE l x = 2 by unfold Vt.lmV Vt.lmE; rw [if_neg (fun h => hx h.2), if_neg (fun h => hx h.2)]; exact ⟨rfl, rfl⟩)
      clear hl hx
      go_enter Try.func17, Try.ntmps17
      go_wp2_with fail
      refine (HL.out _).mono ?_; rintro e w' ⟨rfl, rfl⟩
      go_wp2_with fail
      refine (HX.out _).mono ?_; rintro e w' ⟨rfl, rfl⟩
      go_wp2_with fail
      go_ret2
      exact ⟨ret_tup2 E.out.1.symm E.out.2.symm, rfl⟩
  · have HL := Lib.hid (fun w => rRate_no l hl w)
    have E := Lib.hid (show Vt.lmV l x = 0 ∧ Vt.lmE l x = 2 by unfold Vt.lmV Vt.lmE; rw [if_neg (fun h => hl h.1), if_neg (fun h => hl h.1)]; exact ⟨rfl, rfl⟩)
    clear hl
    go_enter Try.func17, Try.ntmps17
    go_wp2_with fail
    refine (HL.out _).mono ?_; rintro e w' ⟨rfl, rfl⟩
    go_wp2_with fail
    go_ret2
    exact ⟨ret_tup2 E.out.1.symm E.out.2.symm, rfl⟩

theorem xcap_ok {a v t : Int} (h : Vt.okCp a v t) : Vt.cpB a v t = (if t = a then true else if a < t then decide (t - a ≤ 16 * v) else decide (16 * v ≤ t - a)) ∧ Vt.cpE a v t = 0 := by
  unfold Vt.cpB Vt.cpE; rw [if_pos h, if_pos h]; exact ⟨rfl, rfl⟩
theorem xcap_no {a v t : Int} (h : ¬ Vt.okCp a v t) : Vt.cpB a v t = false ∧ Vt.cpE a v t = 2 := by
  unfold Vt.cpB Vt.cpE; rw [if_neg h, if_neg h]; exact ⟨rfl, rfl⟩
theorem xret_bi {a b : Bool} {x y : Int} (h : a = b) (h2 : x = y) : Ending.returned (.tuple #[.bool a, .int .i64 x]) = .returned (.tuple #[.bool b, .int .i64 y]) := by rw [h, h2]
set_option maxRecDepth 100000 in
set_option maxHeartbeats 2000000 in
theorem xCapture (a v t : Int) (w : World) :
    Calls Try.prog 18 #[.int .i64 a, .int .i64 v, .int .i64 t] w fun e w' => e = .returned (.tuple #[.bool (Vt.cpB a v t), .int .i64 (Vt.cpE a v t)]) ∧ w = w' := by
  by_cases ha : Vt.okAlt a
  · have HA := Lib.hid (fun w => xAlt_yes a ha w)
    by_cases ht : Vt.okAlt t
    · have HT := Lib.hid (fun w => xAlt_yes t ht w)
      by_cases hv : Vt.okRate v
      · have HV := Lib.hid (fun w => xRate_yes v hv w)
        have E := Lib.hid (xcap_ok ⟨ha, ht, hv⟩)
        obtain ⟨a0, a1⟩ := ha
        obtain ⟨t0, t1⟩ := ht
        obtain ⟨v0, v1⟩ := hv
        obtain ⟨D, hD⟩ : ∃ D, t - a = D := ⟨_, rfl⟩
        have HD := Lib.hid hD
        have d0 : -6200000 ≤ D := by omega
        have d1 : D ≤ 6200000 := by omega
        have hw : IntKind.i64.wrap (t - a) = D := by rw [hD]; exact IntWalk.i64_in _ (by omega)
        rcases Int.lt_trichotomy D 0 with h | h | h
        · have h2 : ¬ 0 < D := by omega
          have h3 : (D == 0) = false := beq_eq_false_iff_ne.2 (by omega)
          go_enter Try.func18, Try.ntmps18
          go_wp2_with fail
          refine (HA.out _).mono ?_; rintro e w' ⟨rfl, rfl⟩
          go_wp2_with fail
          refine (HT.out _).mono ?_; rintro e w' ⟨rfl, rfl⟩
          go_wp2_with fail
          refine (HV.out _).mono ?_; rintro e w' ⟨rfl, rfl⟩
          go_wp2_with fail
          go_ret2
          exact ⟨xret_bi (by rw [E.out.1, if_neg (by have := HD.out; omega), if_neg (by have := HD.out; omega), HD.out]) E.out.2.symm, rfl⟩
        · subst h
          go_enter Try.func18, Try.ntmps18
          go_wp2_with fail
          refine (HA.out _).mono ?_; rintro e w' ⟨rfl, rfl⟩
          go_wp2_with fail
          refine (HT.out _).mono ?_; rintro e w' ⟨rfl, rfl⟩
          go_wp2_with fail
          refine (HV.out _).mono ?_; rintro e w' ⟨rfl, rfl⟩
          go_wp2_with fail
          go_ret2
          exact ⟨xret_bi (by rw [E.out.1, if_pos (by have := HD.out; omega)]) E.out.2.symm, rfl⟩
        · have h3 : (D == 0) = false := beq_eq_false_iff_ne.2 (by omega)
          go_enter Try.func18, Try.ntmps18
          go_wp2_with fail
          refine (HA.out _).mono ?_; rintro e w' ⟨rfl, rfl⟩
          go_wp2_with fail
          refine (HT.out _).mono ?_; rintro e w' ⟨rfl, rfl⟩
          go_wp2_with fail
          refine (HV.out _).mono ?_; rintro e w' ⟨rfl, rfl⟩
          go_wp2_with fail
          go_ret2
          exact ⟨xret_bi (by rw [E.out.1, if_neg (by have := HD.out; omega), if_pos (by have := HD.out; omega), HD.out]) E.out.2.symm, rfl⟩
      · have HV := Lib.hid (fun w => xRate_no v hv w)
        have E := Lib.hid (xcap_no (a := a) (v := v) (t := t) (fun h => hv h.2.2))
        clear ha ht hv
        go_enter Try.func18, Try.ntmps18
        go_wp2_with fail
        refine (HA.out _).mono ?_; rintro e w' ⟨rfl, rfl⟩
        go_wp2_with fail
        refine (HT.out _).mono ?_; rintro e w' ⟨rfl, rfl⟩
        go_wp2_with fail
        refine (HV.out _).mono ?_; rintro e w' ⟨rfl, rfl⟩
        go_wp2_with fail
        go_ret2
        exact ⟨xret_bi E.out.1.symm E.out.2.symm, rfl⟩
    · have HT := Lib.hid (fun w => xAlt_no t ht w)
      have E := Lib.hid (xcap_no (a := a) (v := v) (t := t) (fun h => ht h.2.1))
      clear ha ht
      go_enter Try.func18, Try.ntmps18
      go_wp2_with fail
      refine (HA.out _).mono ?_; rintro e w' ⟨rfl, rfl⟩
      go_wp2_with fail
      refine (HT.out _).mono ?_; rintro e w' ⟨rfl, rfl⟩
      go_wp2_with fail
      go_ret2
      exact ⟨xret_bi E.out.1.symm E.out.2.symm, rfl⟩
  · have HA := Lib.hid (fun w => xAlt_no a ha w)
    have E := Lib.hid (xcap_no (a := a) (v := v) (t := t) (fun h => ha h.1))
    clear ha
    go_enter Try.func18, Try.ntmps18
    go_wp2_with fail
    refine (HA.out _).mono ?_; rintro e w' ⟨rfl, rfl⟩
    go_wp2_with fail
    go_ret2
    exact ⟨xret_bi E.out.1.symm E.out.2.symm, rfl⟩

theorem rcap_ok {a v t : Int} (h : Vt.okCp a v t) : Vt.cpB a v t = (if t = a then true else if a < t then decide (t - a ≤ 16 * v) else decide (16 * v ≤ t - a)) ∧ Vt.cpE a v t = 0 := by
  unfold Vt.cpB Vt.cpE; rw [if_pos h, if_pos h]; exact ⟨rfl, rfl⟩
theorem rcap_no {a v t : Int} (h : ¬ Vt.okCp a v t) : Vt.cpB a v t = false ∧ Vt.cpE a v t = 2 := by
  unfold Vt.cpB Vt.cpE; rw [if_neg h, if_neg h]; exact ⟨rfl, rfl⟩
theorem rret_bi {a b : Bool} {x y : Int} (h : a = b) (h2 : x = y) : Ending.returned (.tuple #[.bool a, .int .i64 x]) = .returned (.tuple #[.bool b, .int .i64 y]) := by rw [h, h2]
set_option maxRecDepth 100000 in
set_option maxHeartbeats 2000000 in
theorem rCapture (a v t : Int) (w : World) :
    Calls Try.prog 19 #[.int .i64 a, .int .i64 v, .int .i64 t] w fun e w' => e = .returned (.tuple #[.bool (Vt.cpB a v t), .int .i64 (Vt.cpE a v t)]) ∧ w = w' := by
  by_cases ha : Vt.okAlt a
  · have HA := Lib.hid (fun w => rAlt_yes a ha w)
    by_cases ht : Vt.okAlt t
    · have HT := Lib.hid (fun w => rAlt_yes t ht w)
      by_cases hv : Vt.okRate v
      · have HV := Lib.hid (fun w => rRate_yes v hv w)
        have E := Lib.hid (rcap_ok ⟨ha, ht, hv⟩)
        obtain ⟨a0, a1⟩ := ha
        obtain ⟨t0, t1⟩ := ht
        obtain ⟨v0, v1⟩ := hv
        obtain ⟨D, hD⟩ : ∃ D, t - a = D := ⟨_, rfl⟩
        have HD := Lib.hid hD
        have d0 : -6200000 ≤ D := by omega
        have d1 : D ≤ 6200000 := by omega
        have hw : IntKind.i64.wrap (t - a) = D := by rw [hD]; exact IntWalk.i64_in _ (by omega)
        rcases Int.lt_trichotomy D 0 with h | h | h
        · have h2 : ¬ 0 < D := by omega
          have h3 : (D == 0) = false := beq_eq_false_iff_ne.2 (by omega)
          go_enter Try.func19, Try.ntmps19
          go_wp2_with fail
          refine (HA.out _).mono ?_; rintro e w' ⟨rfl, rfl⟩
          go_wp2_with fail
          refine (HT.out _).mono ?_; rintro e w' ⟨rfl, rfl⟩
          go_wp2_with fail
          refine (HV.out _).mono ?_; rintro e w' ⟨rfl, rfl⟩
          go_wp2_with fail
          all_goals (go_ret2; refine ⟨rret_bi ?_ E.out.2.symm, rfl⟩; rw [E.out.1, if_neg (by have := HD.out; omega), if_neg (by have := HD.out; omega), HD.out]; try first | (rw [Bool.eq_iff_iff]; (simp only [decide_eq_true_eq] <;> omega)) | (symm; exact decide_eq_false (by omega)))
        · subst h
          go_enter Try.func19, Try.ntmps19
          go_wp2_with fail
          refine (HA.out _).mono ?_; rintro e w' ⟨rfl, rfl⟩
          go_wp2_with fail
          refine (HT.out _).mono ?_; rintro e w' ⟨rfl, rfl⟩
          go_wp2_with fail
          refine (HV.out _).mono ?_; rintro e w' ⟨rfl, rfl⟩
          go_wp2_with fail
          go_ret2
          exact ⟨rret_bi (by rw [E.out.1, if_pos (by have := HD.out; omega)]) E.out.2.symm, rfl⟩
        · have h3 : (D == 0) = false := beq_eq_false_iff_ne.2 (by omega)
          go_enter Try.func19, Try.ntmps19
          go_wp2_with fail
          refine (HA.out _).mono ?_; rintro e w' ⟨rfl, rfl⟩
          go_wp2_with fail
          refine (HT.out _).mono ?_; rintro e w' ⟨rfl, rfl⟩
          go_wp2_with fail
          refine (HV.out _).mono ?_; rintro e w' ⟨rfl, rfl⟩
          go_wp2_with fail
          all_goals (go_ret2; refine ⟨rret_bi ?_ E.out.2.symm, rfl⟩; rw [E.out.1, if_neg (by have := HD.out; omega), if_pos (by have := HD.out; omega), HD.out]; try first | (rw [Bool.eq_iff_iff]; (simp only [decide_eq_true_eq] <;> omega)) | (symm; exact decide_eq_false (by omega)))
      · have HV := Lib.hid (fun w => rRate_no v hv w)
        have E := Lib.hid (rcap_no (a := a) (v := v) (t := t) (fun h => hv h.2.2))
        clear ha ht hv
        go_enter Try.func19, Try.ntmps19
        go_wp2_with fail
        refine (HA.out _).mono ?_; rintro e w' ⟨rfl, rfl⟩
        go_wp2_with fail
        refine (HT.out _).mono ?_; rintro e w' ⟨rfl, rfl⟩
        go_wp2_with fail
        refine (HV.out _).mono ?_; rintro e w' ⟨rfl, rfl⟩
        go_wp2_with fail
        go_ret2
        exact ⟨rret_bi E.out.1.symm E.out.2.symm, rfl⟩
    · have HT := Lib.hid (fun w => rAlt_no t ht w)
      have E := Lib.hid (rcap_no (a := a) (v := v) (t := t) (fun h => ht h.2.1))
      clear ha ht
      go_enter Try.func19, Try.ntmps19
      go_wp2_with fail
      refine (HA.out _).mono ?_; rintro e w' ⟨rfl, rfl⟩
      go_wp2_with fail
      refine (HT.out _).mono ?_; rintro e w' ⟨rfl, rfl⟩
      go_wp2_with fail
      go_ret2
      exact ⟨rret_bi E.out.1.symm E.out.2.symm, rfl⟩
  · have HA := Lib.hid (fun w => rAlt_no a ha w)
    have E := Lib.hid (rcap_no (a := a) (v := v) (t := t) (fun h => ha h.1))
    clear ha
    go_enter Try.func19, Try.ntmps19
    go_wp2_with fail
    refine (HA.out _).mono ?_; rintro e w' ⟨rfl, rfl⟩
    go_wp2_with fail
    go_ret2
    exact ⟨rret_bi E.out.1.symm E.out.2.symm, rfl⟩
end Go.Proofs.Ytgclfkgnkohgdaa
