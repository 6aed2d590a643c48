/- Layer 33: the contracts of excess, of the program and of the reference (of the reference; printed by gen_exc.py). -/
import Derived.Test.YtgplpapphmaafaaCsExc
import Derived.Deep.QuietTactic
import Derived.BigQuiet
import Derived.Deep.RegionHeld3
namespace Go.Proofs.Ytgplpapphmaafaa
set_option linter.unusedSimpArgs false
set_option linter.unusedVariables false
open Go.RowKit


set_option maxRecDepth 100000 in
set_option maxHeartbeats 2000000 in
theorem rexcess (A S : Option Addr) (n cn m cm i j : Nat) (ws st : Cs.Wins) (w : World) (hw : Pairs w A n ws) (hs : Pairs w S m st) (hmc : m ≤ cm) (hcm : cm ≤ maxLen) (hok : Cs.CsOk ws st) (hij : i ≤ j) (hj : j < n) :
    Calls Try.prog 56 #[.slice A n cn, .slice S m cm, .int .i64 i, .int .i64 j] w (ExcPost (Cs.exc ws st i j) w) := by
  have lw := hw.len
  have ls := hs.len
  have l1 := hok.len
  have l2 := hok.slen
  have hn64 : n ≤ 64 := by omega
  have hm64 : m ≤ 64 := by omega
  have hjm : j ≤ m := by omega
  obtain ⟨p, hp⟩ := get_ex (k := i) lw (by omega)
  obtain ⟨q, hq⟩ := get_ex (k := j) lw hj
  obtain ⟨b, off, rfl, hb, c0, c1⟩ := hw.cell hp
  obtain ⟨b', off', he, hb', d0, d1⟩ := hw.cell hq
  injection he with he
  injection he with e1 e2
  subst e1 e2
  have hpo := hok.wok p (List.mem_of_getElem? hp)
  have hqo := hok.wok q (List.mem_of_getElem? hq)
  obtain ⟨⟨pa, pb⟩, pc, pd⟩ := hpo
  obtain ⟨⟨qa, qb⟩, qc, qd⟩ := hqo
  have P1 := Lib.hid (Cs.lo_of hp)
  have Q1 := Lib.hid (Cs.lo_of hq)
  have HS := Lib.hid hs
  have HOK := Lib.hid hok
  have n0 := World.new_ne w _ c0
  have n1 := World.new_ne w _ c1
  have n2 := World.new_ne w _ d0
  have n3 := World.new_ne w _ d1
  have hin : i < n := by omega
  have bi0 : (0 : Int) ≤ (i : Int) := by omega
  have bi1 : (i : Int) < (n : Int) := by omega
  have bj0 : (0 : Int) ≤ (j : Int) := by omega
  have bj1 : (j : Int) < (n : Int) := by omega
  clear hw hs hok lw ls l1 l2
  by_cases hije : i = j
  · subst hije
    obtain rfl : p = q := by rw [hp] at hq; exact Option.some.inj hq
    have hv := Lib.hid (exc_eq (ws := ws) (st := st) (i := i))
    clear hp hq
    go_enter Try.func56, Try.ntmps56
    go_wp2_with fail
    go_quiet (fail)
    go_wp2_with fail
    go_ret
    exact ⟨ret_int (by rw [hv.out, P1.out.1, P1.out.2]), below_drewN (Below.refl _ _) _⟩
  · have hlt : i < j := by omega
    have hne : ((i : Int) == (j : Int)) = false := beq_eq_false_iff_ne.2 (by omega)
    clear hp hq hije
    by_cases hb1 : p.2 < p.1
    · have hv := Lib.hid (exc_bad (ws := ws) (st := st) hlt (.inl (by rw [P1.out.1, P1.out.2]; exact hb1)))
      have hd : decide (p.2 < p.1) = true := by simpa using hb1
      go_enter Try.func56, Try.ntmps56
      go_wp2_with fail
      go_quiet (fail)
      go_wp2_with fail
      go_ret
      exact ⟨ret_int hv.out.symm, below_drewN (Below.refl _ _) _⟩
    · have hd : decide (p.2 < p.1) = false := by simpa using hb1
      by_cases hb2 : q.2 < q.1
      · have hv := Lib.hid (exc_bad (ws := ws) (st := st) hlt (.inr (by rw [Q1.out.1, Q1.out.2]; exact hb2)))
        have hd2 : decide (q.2 < q.1) = true := by simpa using hb2
        go_enter Try.func56, Try.ntmps56
        go_wp2_with fail
        go_quiet (fail)
        go_wp2_with fail
        go_ret
        exact ⟨ret_int hv.out.symm, below_drewN (Below.refl _ _) _⟩
      · have hv := Lib.hid (exc_ok (ws := ws) (st := st) hlt (by rw [P1.out.1, P1.out.2, Q1.out.1, Q1.out.2]; omega))
        have hd2 : decide (q.2 < q.1) = false := by simpa using hb2
        obtain ⟨⟨r0, r1⟩, f0, f1⟩ := bt_bd HOK.out i j (by omega) (by omega)
        have HR := Lib.hid (fun W (h : Below w.heap.size w W) => (rRise S m cm i j ws st W (HS.out.below h) hmc hcm hm64 HOK.out hlt hjm).mono (R' := fun e w' => e = .returned (.int .i64 (Cs.rise st i j)) ∧ Below w.heap.size w w') fun _ _ hh => ⟨hh.1, bel_trans h hh.2⟩)
        have HF := Lib.hid (fun W (h : Below w.heap.size w W) => (rFall S m cm i j ws st W (HS.out.below h) hmc hcm hm64 HOK.out hlt hjm).mono (R' := fun e w' => e = .returned (.int .i64 (Cs.fall st i j)) ∧ Below w.heap.size w w') fun _ _ hh => ⟨hh.1, bel_trans h hh.2⟩)
        generalize Cs.rise st i j = RR at *
        generalize Cs.fall st i j = FF at *
        have s1 : IntKind.i64.wrap (p.2 + RR) = p.2 + RR := IntWalk.i64_in _ (by omega)
        have s2 : IntKind.i64.wrap (q.1 - (p.2 + RR)) = q.1 - (p.2 + RR) := IntWalk.i64_in _ (by omega)
        have s3 : IntKind.i64.wrap (p.1 - FF) = p.1 - FF := IntWalk.i64_in _ (by omega)
        have s4 : IntKind.i64.wrap (p.1 - FF - q.2) = p.1 - FF - q.2 := IntWalk.i64_in _ (by omega)
        go_enter Try.func56, Try.ntmps56
        go_wp2_with fail
        go_quiet (fail)
        go_wp2_with fail
        go_region_held3 (fun w' => w'.cell? ⟨b, off + i * 2, none⟩ = some (.int .i64 p.1) ∧ w'.cell? ⟨b, off + i * 2 + 1, none⟩ = some (.int .i64 p.2) ∧ w'.cell? ⟨b, off + j * 2, none⟩ = some (.int .i64 q.1) ∧ w'.cell? ⟨b, off + j * 2 + 1, none⟩ = some (.int .i64 q.2)) (go_keep) (first | (go_at_call 46; refine (HR.out _ ?_).mono ?_; (first | exact HWr.out | exact HWr.out.drew | exact HWf.out | exact HWf.out.drew | exact (below_drewN (Below.refl _ _) _).drew | exact below_drewN (Below.refl _ _) _ | exact Below.refl _ _ | exact (Below.refl _ _).drew); rintro e w2 ⟨rfl, HWrb⟩; have c0w2 : w2.cell? ⟨b, off + i * 2, none⟩ = some (.int .i64 p.1) := (HWrb.cell (p := ⟨b, off + i * 2, none⟩) hb).trans c0; have c1w2 : w2.cell? ⟨b, off + i * 2 + 1, none⟩ = some (.int .i64 p.2) := (HWrb.cell (p := ⟨b, off + i * 2 + 1, none⟩) hb).trans c1; have d0w2 : w2.cell? ⟨b, off + j * 2, none⟩ = some (.int .i64 q.1) := (HWrb.cell (p := ⟨b, off + j * 2, none⟩) hb).trans d0; have d1w2 : w2.cell? ⟨b, off + j * 2 + 1, none⟩ = some (.int .i64 q.2) := (HWrb.cell (p := ⟨b, off + j * 2 + 1, none⟩) hb).trans d1; have HWr := Lib.hid HWrb; clear HWrb) | (go_at_call 47; refine (HF.out _ ?_).mono ?_; (first | exact HWr.out | exact HWr.out.drew | exact HWf.out | exact HWf.out.drew | exact (below_drewN (Below.refl _ _) _).drew | exact below_drewN (Below.refl _ _) _ | exact Below.refl _ _ | exact (Below.refl _ _).drew); rintro e w3 ⟨rfl, HWfb⟩; have c0w3 : w3.cell? ⟨b, off + i * 2, none⟩ = some (.int .i64 p.1) := (HWfb.cell (p := ⟨b, off + i * 2, none⟩) hb).trans c0; have c1w3 : w3.cell? ⟨b, off + i * 2 + 1, none⟩ = some (.int .i64 p.2) := (HWfb.cell (p := ⟨b, off + i * 2 + 1, none⟩) hb).trans c1; have d0w3 : w3.cell? ⟨b, off + j * 2, none⟩ = some (.int .i64 q.1) := (HWfb.cell (p := ⟨b, off + j * 2, none⟩) hb).trans d0; have d1w3 : w3.cell? ⟨b, off + j * 2 + 1, none⟩ = some (.int .i64 q.2) := (HWfb.cell (p := ⟨b, off + j * 2 + 1, none⟩) hb).trans d1; have HWf := Lib.hid HWfb; clear HWfb))
        all_goals (go_wp2_with fail)
        all_goals go_ret
        all_goals (exact ⟨ret_int (by rw [hv.out, P1.out.1, P1.out.2, Q1.out.1, Q1.out.2]), (by first | exact HWr.out | exact HWf.out | exact HWr.out.drew | exact HWf.out.drew)⟩)
end Go.Proofs.Ytgplpapphmaafaa
