/- Layer 33: the contracts of excess, of the program and of the reference (printed by gen_exc.py). -/
import Derived.Test.YtgplpapphmaafaaCsBt
import Derived.Deep.QuietTactic
import Derived.BigQuiet
import Derived.Deep.RegionHeld3
namespace Go.Proofs.Ytgplpapphmaafaa
set_option linter.unusedSimpArgs false
set_option linter.unusedVariables false
open Go.RowKit

def ExcPost (V : Int) (w : World) (e : Ending) (w' : World) : Prop := e = .returned (.int .i64 V) ∧ Below w.heap.size w w'
theorem exc_eq {ws st : Cs.Wins} {i : Nat} : Cs.exc ws st i i = Cs.lo ws i - Cs.hi ws i := by unfold Cs.exc; rw [if_pos rfl]
theorem exc_bad {ws st : Cs.Wins} {i j : Nat} (h : i < j) (hb : Cs.hi ws i < Cs.lo ws i ∨ Cs.hi ws j < Cs.lo ws j) : Cs.exc ws st i j = 0 := by unfold Cs.exc; rw [if_neg (by omega), if_pos hb]
theorem exc_ok {ws st : Cs.Wins} {i j : Nat} (h : i < j) (hb : ¬ (Cs.hi ws i < Cs.lo ws i ∨ Cs.hi ws j < Cs.lo ws j)) : Cs.exc ws st i j = max (Cs.lo ws j - (Cs.hi ws i + Cs.rise st i j)) (Cs.lo ws i - Cs.fall st i j - Cs.hi ws j) := by unfold Cs.exc; rw [if_neg (by omega), if_neg hb]

set_option maxRecDepth 100000 in
set_option maxHeartbeats 2000000 in
theorem xexcess (A S : Option Addr) (n cn m cm i j : Nat) (ws st : Cs.Wins) (w : World) (hw : Pairs w A n ws) (hs : Pairs w S m st) (hmc : m ≤ cm) (hcm : cm ≤ maxLen) (hok : Cs.CsOk ws st) (hij : i ≤ j) (hj : j < n) :
    Calls Try.prog 52 #[.slice A n cn, .slice S m cm, .int .i64 i, .int .i64 j] w (ExcPost (Cs.exc ws st i j) w) := by
  have lw := hw.len
  have ls := hs.len
  have l1 := hok.len
  have l2 := hok.slen
  have hn64 : n ≤ 64 := by omega
  have hm64 : m ≤ 64 := by omega
  have hjm : j ≤ m := by omega
  obtain ⟨p, hp⟩ := get_ex (k := i) lw (by omega)
  obtain ⟨q, hq⟩ := get_ex (k := j) lw hj
  obtain ⟨b, off, rfl, hb, c0, c1⟩ := hw.cell hp
  obtain ⟨b', off', he, hb', d0, d1⟩ := hw.cell hq
  injection he with he
  injection he with e1 e2
  subst e1 e2
  have hpo := hok.wok p (List.mem_of_getElem? hp)
  have hqo := hok.wok q (List.mem_of_getElem? hq)
  obtain ⟨⟨pa, pb⟩, pc, pd⟩ := hpo
  obtain ⟨⟨qa, qb⟩, qc, qd⟩ := hqo
  have P1 := Lib.hid (Cs.lo_of hp)
  have Q1 := Lib.hid (Cs.lo_of hq)
  have HS := Lib.hid hs
  have HOK := Lib.hid hok
  have n0 := World.new_ne w _ c0
  have n1 := World.new_ne w _ c1
  have n2 := World.new_ne w _ d0
  have n3 := World.new_ne w _ d1
  have hin : i < n := by omega
  have bi0 : (0 : Int) ≤ (i : Int) := by omega
  have bi1 : (i : Int) < (n : Int) := by omega
  have bj0 : (0 : Int) ≤ (j : Int) := by omega
  have bj1 : (j : Int) < (n : Int) := by omega
  clear hw hs hok lw ls l1 l2
  by_cases hije : i = j
  · subst hije
    obtain rfl : p = q := by rw [hp] at hq; exact Option.some.inj hq
    have hv := Lib.hid (exc_eq (ws := ws) (st := st) (i := i))
    clear hp hq
    go_enter Try.func52, Try.ntmps52
    go_wp2_with fail
    go_region
    all_goals (go_wp2_with fail)
    all_goals go_ret
    all_goals (exact ⟨ret_int (by rw [hv.out, P1.out.1, P1.out.2]), (by (first | exact (((Below.refl _ _).alloc (Nat.le_refl _) _).alloc (by simp) _) | exact (((Below.refl _ _).alloc (Nat.le_refl _) _).alloc (by simp) _).drew | exact below_drewN (((Below.refl _ _).alloc (Nat.le_refl _) _).alloc (by simp) _) _))⟩)
  · have hlt : i < j := by omega
    have hne : ((i : Int) == (j : Int)) = false := beq_eq_false_iff_ne.2 (by omega)
    clear hp hq hije
    by_cases hb1 : p.2 < p.1
    · have hv := Lib.hid (exc_bad (ws := ws) (st := st) hlt (.inl (by rw [P1.out.1, P1.out.2]; exact hb1)))
      go_enter Try.func52, Try.ntmps52
      go_wp2_with fail
      go_region
      all_goals (go_wp2_with fail)
      all_goals go_ret
      all_goals (exact ⟨ret_int hv.out.symm, (by (first | exact (((Below.refl _ _).alloc (Nat.le_refl _) _).alloc (by simp) _) | exact (((Below.refl _ _).alloc (Nat.le_refl _) _).alloc (by simp) _).drew | exact below_drewN (((Below.refl _ _).alloc (Nat.le_refl _) _).alloc (by simp) _) _))⟩)
    · by_cases hb2 : q.2 < q.1
      · have hv := Lib.hid (exc_bad (ws := ws) (st := st) hlt (.inr (by rw [Q1.out.1, Q1.out.2]; exact hb2)))
        go_enter Try.func52, Try.ntmps52
        go_wp2_with fail
        go_region
        all_goals (go_wp2_with fail)
        all_goals go_ret
        all_goals (exact ⟨ret_int hv.out.symm, (by (first | exact (((Below.refl _ _).alloc (Nat.le_refl _) _).alloc (by simp) _) | exact (((Below.refl _ _).alloc (Nat.le_refl _) _).alloc (by simp) _).drew | exact below_drewN (((Below.refl _ _).alloc (Nat.le_refl _) _).alloc (by simp) _) _))⟩)
      · have hv := Lib.hid (exc_ok (ws := ws) (st := st) hlt (by rw [P1.out.1, P1.out.2, Q1.out.1, Q1.out.2]; omega))
        obtain ⟨⟨r0, r1⟩, f0, f1⟩ := bt_bd HOK.out i j (by omega) (by omega)
        have HBT := Lib.hid (fun W (h : Pairs W S m st) => xbetween S m cm i j ws st W h hmc hcm hm64 HOK.out hlt hjm)
        generalize Cs.rise st i j = RR at *
        generalize Cs.fall st i j = FF at *
        go_enter Try.func52, Try.ntmps52
        go_wp2_with fail
        go_region
        all_goals (go_wp2_with fail)
        all_goals (refine (HBT.out _ (HS.out.below (by (first | exact (((Below.refl _ _).alloc (Nat.le_refl _) _).alloc (by simp) _) | exact (((Below.refl _ _).alloc (Nat.le_refl _) _).alloc (by simp) _).drew | exact below_drewN (((Below.refl _ _).alloc (Nat.le_refl _) _).alloc (by simp) _) _)))).mono ?_; rintro e w2 ⟨rfl, hB⟩)
        all_goals (have k0 := hB.cell (p := ⟨w.heap.size, 0, none⟩) (by simp; try omega); have k1 := hB.cell (p := ⟨w.heap.size, 1, none⟩) (by simp; try omega); have k2 := hB.cell (p := ⟨w.heap.size + 1, 0, none⟩) (by simp; try omega); have k3 := hB.cell (p := ⟨w.heap.size + 1, 1, none⟩) (by simp; try omega))
        all_goals (have HBB := Lib.hid hB; clear hB)
        all_goals (go_wp2_with fail)
        all_goals go_ret
        all_goals (exact ⟨ret_int (by rw [hv.out, P1.out.1, P1.out.2, Q1.out.1, Q1.out.2]), ((by (first | exact (((Below.refl _ _).alloc (Nat.le_refl _) _).alloc (by simp) _) | exact (((Below.refl _ _).alloc (Nat.le_refl _) _).alloc (by simp) _).drew | exact below_drewN (((Below.refl _ _).alloc (Nat.le_refl _) _).alloc (by simp) _) _) : Below w.heap.size w _)).trans (HBB.out.mono (by simp; try omega))⟩)
end Go.Proofs.Ytgplpapphmaafaa
