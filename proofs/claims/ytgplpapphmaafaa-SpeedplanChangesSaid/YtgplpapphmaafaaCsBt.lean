/- Layer 33: the contracts of between, and of the reference's Rise and Fall (printed by gen_cs.py). -/
import Derived.Test.YtgplpapphmaafaaCs
namespace Go.Proofs.Ytgplpapphmaafaa
set_option linter.unusedSimpArgs false
set_option linter.unusedVariables false
open Go.RowKit

def BtRel (st : Cs.Wins) (i j : Nat) (w : World) (s6 s7 t : Value) (wr : World) : Prop := ∃ k : Nat, k ≤ j - i ∧ t = .int .i64 k ∧ s6 = .int .i64 (Cs.rise st i (i + k)) ∧ s7 = .int .i64 (Cs.fall st i (i + k)) ∧ Below w.heap.size w wr
def BtRelU (st : Cs.Wins) (i j : Nat) (w : World) (s7 t : Value) (wr : World) : Prop := ∃ k : Nat, k ≤ j - i ∧ t = .int .i64 k ∧ s7 = .int .i64 (Cs.rise st i (i + k)) ∧ Below w.heap.size w wr
def BtRelD (st : Cs.Wins) (i j : Nat) (w : World) (s7 t : Value) (wr : World) : Prop := ∃ k : Nat, k ≤ j - i ∧ t = .int .i64 k ∧ s7 = .int .i64 (Cs.fall st i (i + k)) ∧ Below w.heap.size w wr
theorem bt_bd {ws st : Cs.Wins} (hok : Cs.CsOk ws st) (i j : Nat) (hij : i ≤ j) (hj : j ≤ 64) : (0 ≤ Cs.rise st i j ∧ Cs.rise st i j ≤ 70368744177664) ∧ 0 ≤ Cs.fall st i j ∧ Cs.fall st i j ≤ 70368744177664 := by
  have h1 := hok.rise_nn hij
  have h2 := hok.fall_nn hij
  have h3 := (Cs.psum_bd (fun i => (hok.step i).1) j).2
  have h4 := (Cs.psum_bd (fun i => (hok.step i).1) i).1
  have h5 := (Cs.psum_bd (fun i => (hok.step i).2) j).2
  have h6 := (Cs.psum_bd (fun i => (hok.step i).2) i).1
  unfold Cs.rise Cs.fall at *
  omega

set_option maxRecDepth 100000 in
set_option maxHeartbeats 2000000 in
theorem xbetween (S : Option Addr) (m cm i j : Nat) (ws st : Cs.Wins) (w : World) (hs : Pairs w S m st) (hmc : m ≤ cm) (hcm : cm ≤ maxLen) (hm : m ≤ 64) (hok : Cs.CsOk ws st) (hij : i < j) (hj : j ≤ m) :
    Calls Try.prog 55 #[.slice S m cm, .int .i64 i, .int .i64 j] w fun e w' => e = .returned (.tuple #[.int .i64 (Cs.rise st i j), .int .i64 (Cs.fall st i j)]) ∧ Below w.heap.size w w' := by
  unfold maxLen at hcm
  have HL := Lib.hid hs.len
  have HS := Lib.hid hs
  obtain ⟨b, off, rfl, hb, hc⟩ := hs.cells (by omega)
  have HC := Lib.hid hc
  have HOK := Lib.hid hok
  have hci : ¬ cm = i := by omega
  clear hs hc hok
  go_enter Try.func55, Try.ntmps55
  go_wp2_with fail
  go_loopw [6, 7, 15] (fun s6 s7 t wr => BtRel st i j w s6 s7 t wr) (fun _ _ t _ => (j - i) - (intOf t).toNat)
  case atStart => exact ⟨0, by omega, rfl, by rw [Nat.add_zero, Cs.rise_self], by rw [Nat.add_zero, Cs.fall_self], Below.refl _ _⟩
  case round =>
    obtain ⟨k, hk, rfl, rfl, rfl, hB⟩ := hrel
    have HB := Lib.hid hB
    clear hB
    by_cases hlt : k < j - i
    · obtain ⟨p, hp⟩ := get_ex (k := i + k) HL.out (by omega)
      have c0 : wr.cell? ⟨b, off + i * 2 + k * 2, none⟩ = some (.int .i64 p.1) := by
        rw [show off + i * 2 + k * 2 = off + (i + k) * 2 + 0 from by omega]
        exact (HB.out.cell (p := ⟨b, off + (i + k) * 2 + 0, none⟩) hb).trans (HC.out (i + k) p hp 0 _ rfl)
      have c1 : wr.cell? ⟨b, off + i * 2 + k * 2 + 1, none⟩ = some (.int .i64 p.2) := by
        rw [show off + i * 2 + k * 2 + 1 = off + (i + k) * 2 + 1 from by omega]
        exact (HB.out.cell (p := ⟨b, off + (i + k) * 2 + 1, none⟩) hb).trans (HC.out (i + k) p hp 1 _ rfl)
      have NS := Lib.hid (show Cs.rise st i (i + (k + 1)) = Cs.rise st i (i + k) + p.1 ∧ Cs.fall st i (i + (k + 1)) = Cs.fall st i (i + k) + p.2 by
        rw [← Nat.add_assoc, Cs.rise_succ, Cs.fall_succ, (Cs.up_of hp).1, (Cs.up_of hp).2]; exact ⟨rfl, rfl⟩)
      have hpo := HOK.out.tok p (List.mem_of_getElem? hp)
      obtain ⟨⟨p0, p1⟩, p2, p3⟩ := hpo
      obtain ⟨⟨r0, r1⟩, d0, d1⟩ := bt_bd HOK.out i (i + k) (by omega) (by omega)
      clear hp
      generalize Cs.rise st i (i + k) = R at *
      generalize Cs.fall st i (i + k) = D at *
      go_wp2_with fail
      go_roundw
      case rel => exact ⟨k + 1, by omega, by go_num, by rw [NS.out.1], by rw [NS.out.2], HB.out.alloc HB.out.size _⟩
      case measure => simp only [intOf]; omega
    · have hj := Lib.hid (show i + k = j by omega)
      go_wp2_with fail
      go_ret2
      exact ⟨ret_tup2 (by rw [hj.out]) (by rw [hj.out]), HB.out⟩

set_option maxRecDepth 100000 in
set_option maxHeartbeats 2000000 in
theorem rRise (S : Option Addr) (m cm i j : Nat) (ws st : Cs.Wins) (w : World) (hs : Pairs w S m st) (hmc : m ≤ cm) (hcm : cm ≤ maxLen) (hm : m ≤ 64) (hok : Cs.CsOk ws st) (hij : i < j) (hj : j ≤ m) :
    Calls Try.prog 46 #[.slice S m cm, .int .i64 i, .int .i64 j] w fun e w' => e = .returned (.int .i64 (Cs.rise st i j)) ∧ Below w.heap.size w w' := by
  unfold maxLen at hcm
  have HL := Lib.hid hs.len
  have HS := Lib.hid hs
  obtain ⟨b, off, rfl, hb, hc⟩ := hs.cells (by omega)
  have HC := Lib.hid hc
  have HOK := Lib.hid hok
  have hci : ¬ cm = i := by omega
  clear hs hc hok
  go_enter Try.func46, Try.ntmps46
  go_wp2_with fail
  go_loopw [7, 15] (fun s7 t wr => BtRelU st i j w s7 t wr) (fun _ t _ => (j - i) - (intOf t).toNat)
  case atStart => exact ⟨0, by omega, rfl, by rw [Nat.add_zero, Cs.rise_self], Below.refl _ _⟩
  case round =>
    obtain ⟨k, hk, rfl, rfl, hB⟩ := hrel
    have HB := Lib.hid hB
    clear hB
    by_cases hlt : k < j - i
    · obtain ⟨p, hp⟩ := get_ex (k := i + k) HL.out (by omega)
      have c0 : wr.cell? ⟨b, off + i * 2 + k * 2, none⟩ = some (.int .i64 p.1) := by
        rw [show off + i * 2 + k * 2 = off + (i + k) * 2 + 0 from by omega]
        exact (HB.out.cell (p := ⟨b, off + (i + k) * 2 + 0, none⟩) hb).trans (HC.out (i + k) p hp 0 _ rfl)
      have c1 : wr.cell? ⟨b, off + i * 2 + k * 2 + 1, none⟩ = some (.int .i64 p.2) := by
        rw [show off + i * 2 + k * 2 + 1 = off + (i + k) * 2 + 1 from by omega]
        exact (HB.out.cell (p := ⟨b, off + (i + k) * 2 + 1, none⟩) hb).trans (HC.out (i + k) p hp 1 _ rfl)
      have NS := Lib.hid (show Cs.rise st i (i + (k + 1)) = Cs.rise st i (i + k) + p.1 ∧ Cs.fall st i (i + (k + 1)) = Cs.fall st i (i + k) + p.2 by
        rw [← Nat.add_assoc, Cs.rise_succ, Cs.fall_succ, (Cs.up_of hp).1, (Cs.up_of hp).2]; exact ⟨rfl, rfl⟩)
      have hpo := HOK.out.tok p (List.mem_of_getElem? hp)
      obtain ⟨⟨p0, p1⟩, p2, p3⟩ := hpo
      obtain ⟨⟨r0, r1⟩, _⟩ := bt_bd HOK.out i (i + k) (by omega) (by omega)
      clear hp
      generalize Cs.rise st i (i + k) = R at *
      go_wp2_with fail
      go_roundw
      case rel => exact ⟨k + 1, by omega, by go_num, by rw [NS.out.1], HB.out.alloc HB.out.size _⟩
      case measure => simp only [intOf]; omega
    · have hj := Lib.hid (show i + k = j by omega)
      go_wp2_with fail
      go_ret
      exact ⟨ret_int (by rw [hj.out]), HB.out⟩

set_option maxRecDepth 100000 in
set_option maxHeartbeats 2000000 in
theorem rFall (S : Option Addr) (m cm i j : Nat) (ws st : Cs.Wins) (w : World) (hs : Pairs w S m st) (hmc : m ≤ cm) (hcm : cm ≤ maxLen) (hm : m ≤ 64) (hok : Cs.CsOk ws st) (hij : i < j) (hj : j ≤ m) :
    Calls Try.prog 47 #[.slice S m cm, .int .i64 i, .int .i64 j] w fun e w' => e = .returned (.int .i64 (Cs.fall st i j)) ∧ Below w.heap.size w w' := by
  unfold maxLen at hcm
  have HL := Lib.hid hs.len
  have HS := Lib.hid hs
  obtain ⟨b, off, rfl, hb, hc⟩ := hs.cells (by omega)
  have HC := Lib.hid hc
  have HOK := Lib.hid hok
  have hci : ¬ cm = i := by omega
  clear hs hc hok
  go_enter Try.func47, Try.ntmps47
  go_wp2_with fail
  go_loopw [7, 15] (fun s7 t wr => BtRelD st i j w s7 t wr) (fun _ t _ => (j - i) - (intOf t).toNat)
  case atStart => exact ⟨0, by omega, rfl, by rw [Nat.add_zero, Cs.fall_self], Below.refl _ _⟩
  case round =>
    obtain ⟨k, hk, rfl, rfl, hB⟩ := hrel
    have HB := Lib.hid hB
    clear hB
    by_cases hlt : k < j - i
    · obtain ⟨p, hp⟩ := get_ex (k := i + k) HL.out (by omega)
      have c0 : wr.cell? ⟨b, off + i * 2 + k * 2, none⟩ = some (.int .i64 p.1) := by
        rw [show off + i * 2 + k * 2 = off + (i + k) * 2 + 0 from by omega]
        exact (HB.out.cell (p := ⟨b, off + (i + k) * 2 + 0, none⟩) hb).trans (HC.out (i + k) p hp 0 _ rfl)
      have c1 : wr.cell? ⟨b, off + i * 2 + k * 2 + 1, none⟩ = some (.int .i64 p.2) := by
        rw [show off + i * 2 + k * 2 + 1 = off + (i + k) * 2 + 1 from by omega]
        exact (HB.out.cell (p := ⟨b, off + (i + k) * 2 + 1, none⟩) hb).trans (HC.out (i + k) p hp 1 _ rfl)
      have NS := Lib.hid (show Cs.rise st i (i + (k + 1)) = Cs.rise st i (i + k) + p.1 ∧ Cs.fall st i (i + (k + 1)) = Cs.fall st i (i + k) + p.2 by
        rw [← Nat.add_assoc, Cs.rise_succ, Cs.fall_succ, (Cs.up_of hp).1, (Cs.up_of hp).2]; exact ⟨rfl, rfl⟩)
      have hpo := HOK.out.tok p (List.mem_of_getElem? hp)
      obtain ⟨⟨p0, p1⟩, p2, p3⟩ := hpo
      obtain ⟨_, d0, d1⟩ := bt_bd HOK.out i (i + k) (by omega) (by omega)
      clear hp
      generalize Cs.fall st i (i + k) = D at *
      go_wp2_with fail
      go_roundw
      case rel => exact ⟨k + 1, by omega, by go_num, by rw [NS.out.2], HB.out.alloc HB.out.size _⟩
      case measure => simp only [intOf]; omega
    · have hj := Lib.hid (show i + k = j by omega)
      go_wp2_with fail
      go_ret
      exact ⟨ret_int (by rw [hj.out]), HB.out⟩
end Go.Proofs.Ytgplpapphmaafaa
