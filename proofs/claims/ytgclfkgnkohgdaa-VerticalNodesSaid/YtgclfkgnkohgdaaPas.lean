/- Predictions: the passages in memory, and the lists of altitudes and speeds (printed by gen_vt.py). -/
import Derived.Test.YtgclfkgnkohgdaaPfR
import Derived.Test.YtgclfkgnkohgdaaVt
import Derived.OwnWalk
import Derived.BigRegion
import Derived.Laws.NewBlocks
import Derived.Laws.Rows
namespace Go.Proofs.Ytgclfkgnkohgdaa
set_option linter.unusedSimpArgs false
set_option linter.unusedVariables false
open Go.RowKit

structure Pass where
  alt : Int
  cas : Int
  tas : Int
  ground : Int
  tick : Int
  fuel : Int
  gl : Int
  gh : Int
  tl : Int
  th : Int
  fl : Int
  fh : Int
  phase : Int
def Pass.cells (p : Pass) : List Value := [.int .i64 p.alt, .int .i64 p.cas, .int .i64 p.tas, .int .i64 p.ground, .int .i64 p.tick, .int .i64 p.fuel, .int .i64 p.gl, .int .i64 p.gh, .int .i64 p.tl, .int .i64 p.th, .int .i64 p.fl, .int .i64 p.fh, .int .u8 p.phase]
def Passes (w : World) (A : Option Addr) (n : Nat) (ps : List Pass) : Prop := Recs Pass.cells 13 w A n ps
theorem Passes.below {w w' : World} {A : Option Addr} {n : Nat} {ps : List Pass} (h : Passes w A n ps) (hb : Below w.heap.size w w') : Passes w' A n ps := Recs.below h hb

def AltRel (w : World) (B : Nat) (f : Pass → Int) (ps : List Pass) (n : Nat) (v i : Value) (wr : World) : Prop :=
  ∃ k : Nat, k ≤ n ∧ i = .int .i64 k ∧ wr.ownsRow B 2 1 v k ((ps.take k).map fun p => .int .i64 (f p)) ∧ Below B w wr ∧ B ≤ wr.heap.size
def AltPost (f : Pass → Int) (ps : List Pass) (n : Nat) (w : World) (e : Ending) (w' : World) : Prop := ∃ A c, e = .returned (.slice A n c) ∧ Ints w' A n (ps.map f) ∧ Below w.heap.size w w'

set_option maxRecDepth 100000 in
set_option maxHeartbeats 1000000 in
theorem xalts (A : Option Addr) (n c : Nat) (ps : List Pass) (x y z : Value) (w : World) (hp : Passes w A n ps) (hn : n * 8 ≤ 140737488355328) :
    Calls Try.prog 38 #[.agg #[.slice A n c, x, y, z]] w (AltPost Pass.alt ps n w) := by
  have HP := Lib.hid hp
  have HL := Lib.hid hp.len
  obtain ⟨i0, hi, hz0, hz1, hz2⟩ := info_parts infoI64
  clear hp
  go_enter Try.func38, Try.ntmps38
  go_wp2_with fail
  go_loopw [3, 9] (fun v i wr => AltRel w w.heap.size Pass.alt ps n v i wr) (fun _ i _ => n - (intOf i).toNat)
  case atStart => exact ⟨0, by omega, rfl, World.ownsRow_nil _ _ _ _, (Below.refl _ _).alloc (Nat.le_refl _) _, by simp⟩
  case round =>
    obtain ⟨k, hk, rfl, hown, hB, hsz⟩ := hrel
    have HO := Lib.hid hown
    have HB := Lib.hid hB
    clear hown hB
    by_cases hlt : k < n
    · obtain ⟨q, hq⟩ := get_ex HL.out hlt
      obtain ⟨b, off, rfl, hb, hc⟩ := HP.out.cells (by omega)
      have hcw := fun j v hv => (HB.out.cell (p := ⟨b, _, none⟩) hb).trans (hc k q hq j v hv)
      have c0 : wr.cell? ⟨b, off + k * 13, none⟩ = some (.int .i64 q.alt) := hcw 0 _ rfl
      have c1 := hcw 1 _ rfl
      have c2 := hcw 2 _ rfl
      have c3 := hcw 3 _ rfl
      have c4 := hcw 4 _ rfl
      have c5 := hcw 5 _ rfl
      have c6 := hcw 6 _ rfl
      have c7 := hcw 7 _ rfl
      have c8 := hcw 8 _ rfl
      have c9 := hcw 9 _ rfl
      have c10 := hcw 10 _ rfl
      have c11 := hcw 11 _ rfl
      have c12 := hcw 12 _ rfl
      have HQ := Lib.hid hq
      clear hc hcw hq
      have h1 := Lib.hid ((HO.out.alloc (.cells #[.int .i64 q.alt, .int .i64 q.cas, .int .i64 q.tas, .int .i64 q.ground, .int .i64 q.tick, .int .i64 q.fuel, .int .i64 q.gl, .int .i64 q.gh, .int .i64 q.tl, .int .i64 q.th, .int .i64 q.fl, .int .i64 q.fh, .int .u8 q.phase] 42)).alloc (.cells #[.int .i64 q.alt] 2))
      have hts := Lib.hid (show ((ps.take (k + 1)).map fun p => Value.int .i64 p.alt) = ((ps.take k).map fun p => Value.int .i64 p.alt) ++ [.int .i64 q.alt] by rw [take_succ_get ps k q HQ.out, List.map_append]; rfl)
      go_wp2_with (at_builtin; refine wpList_append_own _ rfl _ _ 37 rfl w.heap.size 2 i0 (.int .i64 0) 1 8 Try.underlying37 hi hz0 hz1 hz2 rfl (by decide) _ _ _ rfl h1.out ⟨wr.heap.size + 1, 0, none⟩ 1 1 [.int .i64 q.alt] rfl rfl (news_new _ _ (by simp) _ _ _ rfl) (by intro u hu; simp at hu; subst hu; rfl) (by unfold maxLen; omega) (by omega) (by simp; omega) ?_; intro v1 w1 hown1 hgrow1 hnil1)
      go_roundw
      case rel => exact ⟨k + 1, by omega, by go_num, by rw [hts.out]; exact hown1, (((HB.out.alloc hsz _).alloc (by simp; omega) _).grown hgrow1 (by simp; omega) (own_block_ge HO.out)), Nat.le_trans (by simp; omega) hgrow1.size⟩
      case measure => simp only [intOf]; omega
    · obtain ⟨A', c', rfl⟩ := own_form HO.out
      have HKN := Lib.hid (show k = n by omega)
      have HI := Lib.hid (Ints.of_own (xs := (ps.take k).map Pass.alt) (by rw [List.map_map]; exact HO.out))
      rw [show ps.take k = ps by rw [List.take_of_length_le (by have := HL.out; omega)]] at HI
      go_wp2_with fail
      go_ret
      exact ⟨A', c', by rw [HKN.out]; rfl, by rw [← HKN.out]; exact HI.out, HB.out⟩

set_option maxRecDepth 100000 in
set_option maxHeartbeats 1000000 in
theorem ralts (A : Option Addr) (n c : Nat) (ps : List Pass) (x y z : Value) (w : World) (hp : Passes w A n ps) (hn : n * 8 ≤ 140737488355328) :
    Calls Try.prog 40 #[.agg #[.slice A n c, x, y, z]] w (AltPost Pass.alt ps n w) := by
  have HP := Lib.hid hp
  have HL := Lib.hid hp.len
  obtain ⟨i0, hi, hz0, hz1, hz2⟩ := info_parts infoI64
  clear hp
  go_enter Try.func40, Try.ntmps40
  go_wp2_with fail
  go_loopw [3, 9] (fun v i wr => AltRel w w.heap.size Pass.alt ps n v i wr) (fun _ i _ => n - (intOf i).toNat)
  case atStart => exact ⟨0, by omega, rfl, World.ownsRow_nil _ _ _ _, (Below.refl _ _).alloc (Nat.le_refl _) _, by simp⟩
  case round =>
    obtain ⟨k, hk, rfl, hown, hB, hsz⟩ := hrel
    have HO := Lib.hid hown
    have HB := Lib.hid hB
    clear hown hB
    by_cases hlt : k < n
    · obtain ⟨q, hq⟩ := get_ex HL.out hlt
      obtain ⟨b, off, rfl, hb, hc⟩ := HP.out.cells (by omega)
      have hcw := fun j v hv => (HB.out.cell (p := ⟨b, _, none⟩) hb).trans (hc k q hq j v hv)
      have c0 : wr.cell? ⟨b, off + k * 13, none⟩ = some (.int .i64 q.alt) := hcw 0 _ rfl
      have c1 := hcw 1 _ rfl
      have c2 := hcw 2 _ rfl
      have c3 := hcw 3 _ rfl
      have c4 := hcw 4 _ rfl
      have c5 := hcw 5 _ rfl
      have c6 := hcw 6 _ rfl
      have c7 := hcw 7 _ rfl
      have c8 := hcw 8 _ rfl
      have c9 := hcw 9 _ rfl
      have c10 := hcw 10 _ rfl
      have c11 := hcw 11 _ rfl
      have c12 := hcw 12 _ rfl
      have HQ := Lib.hid hq
      clear hc hcw hq
      have h1 := Lib.hid ((HO.out.alloc (.cells #[.int .i64 q.alt, .int .i64 q.cas, .int .i64 q.tas, .int .i64 q.ground, .int .i64 q.tick, .int .i64 q.fuel, .int .i64 q.gl, .int .i64 q.gh, .int .i64 q.tl, .int .i64 q.th, .int .i64 q.fl, .int .i64 q.fh, .int .u8 q.phase] 42)).alloc (.cells #[.int .i64 q.alt] 2))
      have hts := Lib.hid (show ((ps.take (k + 1)).map fun p => Value.int .i64 p.alt) = ((ps.take k).map fun p => Value.int .i64 p.alt) ++ [.int .i64 q.alt] by rw [take_succ_get ps k q HQ.out, List.map_append]; rfl)
      go_wp2_with (at_builtin; refine wpList_append_own _ rfl _ _ 37 rfl w.heap.size 2 i0 (.int .i64 0) 1 8 Try.underlying37 hi hz0 hz1 hz2 rfl (by decide) _ _ _ rfl h1.out ⟨wr.heap.size + 1, 0, none⟩ 1 1 [.int .i64 q.alt] rfl rfl (news_new _ _ (by simp) _ _ _ rfl) (by intro u hu; simp at hu; subst hu; rfl) (by unfold maxLen; omega) (by omega) (by simp; omega) ?_; intro v1 w1 hown1 hgrow1 hnil1)
      go_roundw
      case rel => exact ⟨k + 1, by omega, by go_num, by rw [hts.out]; exact hown1, (((HB.out.alloc hsz _).alloc (by simp; omega) _).grown hgrow1 (by simp; omega) (own_block_ge HO.out)), Nat.le_trans (by simp; omega) hgrow1.size⟩
      case measure => simp only [intOf]; omega
    · obtain ⟨A', c', rfl⟩ := own_form HO.out
      have HKN := Lib.hid (show k = n by omega)
      have HI := Lib.hid (Ints.of_own (xs := (ps.take k).map Pass.alt) (by rw [List.map_map]; exact HO.out))
      rw [show ps.take k = ps by rw [List.take_of_length_le (by have := HL.out; omega)]] at HI
      go_wp2_with fail
      go_ret
      exact ⟨A', c', by rw [HKN.out]; rfl, by rw [← HKN.out]; exact HI.out, HB.out⟩

set_option maxRecDepth 100000 in
set_option maxHeartbeats 1000000 in
theorem xSpeed (A D : Option Addr) (n c m cm : Nat) (ps : List Pass) (d : List Int) (s : Int) (x y z : Value) (w : World) (hp : Passes w A n ps) (hd : Ints w D m d) (hn : n * 8 ≤ 140737488355328) (hm : m ≤ maxLen) (hs : I64 s) :
    Calls Try.prog 21 #[.agg #[.slice A n c, x, y, z], .slice D m cm, .int .i64 s] w (BwB (Pf.bwV (ps.map Pass.cas) d s) (Pf.bwE (ps.map Pass.cas) d s) w) := by
  have HP := Lib.hid hp
  have HD := Lib.hid hd
  have HL := Lib.hid hp.len
  obtain ⟨i0, hi, hz0, hz1, hz2⟩ := info_parts infoI64
  clear hp hd
  go_enter Try.func21, Try.ntmps21
  go_wp2_with fail
  go_loopw [8, 14] (fun v i wr => AltRel w w.heap.size Pass.cas ps n v i wr) (fun _ i _ => n - (intOf i).toNat)
  case atStart => exact ⟨0, by omega, rfl, World.ownsRow_nil _ _ _ _, (Below.refl _ _).alloc (Nat.le_refl _) _, by simp⟩
  case round =>
    obtain ⟨k, hk, rfl, hown, hB, hsz⟩ := hrel
    have HO := Lib.hid hown
    have HB := Lib.hid hB
    clear hown hB
    by_cases hlt : k < n
    · obtain ⟨q, hq⟩ := get_ex HL.out hlt
      obtain ⟨b, off, rfl, hb, hc⟩ := HP.out.cells (by omega)
      have hcw := fun j v hv => (HB.out.cell (p := ⟨b, _, none⟩) hb).trans (hc k q hq j v hv)
      have c0 : wr.cell? ⟨b, off + k * 13, none⟩ = some (.int .i64 q.alt) := hcw 0 _ rfl
      have c1 := hcw 1 _ rfl
      have c2 := hcw 2 _ rfl
      have c3 := hcw 3 _ rfl
      have c4 := hcw 4 _ rfl
      have c5 := hcw 5 _ rfl
      have c6 := hcw 6 _ rfl
      have c7 := hcw 7 _ rfl
      have c8 := hcw 8 _ rfl
      have c9 := hcw 9 _ rfl
      have c10 := hcw 10 _ rfl
      have c11 := hcw 11 _ rfl
      have c12 := hcw 12 _ rfl
      have HQ := Lib.hid hq
      clear hc hcw hq
      have h1 := Lib.hid ((HO.out.alloc (.cells #[.int .i64 q.alt, .int .i64 q.cas, .int .i64 q.tas, .int .i64 q.ground, .int .i64 q.tick, .int .i64 q.fuel, .int .i64 q.gl, .int .i64 q.gh, .int .i64 q.tl, .int .i64 q.th, .int .i64 q.fl, .int .i64 q.fh, .int .u8 q.phase] 42)).alloc (.cells #[.int .i64 q.cas] 2))
      have hts := Lib.hid (show ((ps.take (k + 1)).map fun p => Value.int .i64 p.cas) = ((ps.take k).map fun p => Value.int .i64 p.cas) ++ [.int .i64 q.cas] by rw [take_succ_get ps k q HQ.out, List.map_append]; rfl)
      go_wp2_with (at_builtin; refine wpList_append_own _ rfl _ _ 37 rfl w.heap.size 2 i0 (.int .i64 0) 1 8 Try.underlying37 hi hz0 hz1 hz2 rfl (by decide) _ _ _ rfl h1.out ⟨wr.heap.size + 1, 0, none⟩ 1 1 [.int .i64 q.cas] rfl rfl (news_new _ _ (by simp) _ _ _ rfl) (by intro u hu; simp at hu; subst hu; rfl) (by unfold maxLen; omega) (by omega) (by simp; omega) ?_; intro v1 w1 hown1 hgrow1 hnil1)
      go_roundw
      case rel => exact ⟨k + 1, by omega, by go_num, by rw [hts.out]; exact hown1, (((HB.out.alloc hsz _).alloc (by simp; omega) _).grown hgrow1 (by simp; omega) (own_block_ge HO.out)), Nat.le_trans (by simp; omega) hgrow1.size⟩
      case measure => simp only [intOf]; omega
    · obtain ⟨A', c', rfl⟩ := own_form HO.out
      have HKN := Lib.hid (show k = n by omega)
      have HI := Lib.hid (Ints.of_own (xs := (ps.take k).map Pass.cas) (by rw [List.map_map]; exact HO.out))
      rw [show ps.take k = ps by rw [List.take_of_length_le (by have := HL.out; omega)]] at HI
      go_wp2_with fail
      refine (between_any A' D k c' m cm (ps.map Pass.cas) d s wr HI.out (HD.out.below HB.out) (by unfold maxLen; omega) hm hs).mono ?_; rintro e w2 ⟨rfl, q, rfl⟩
      go_wp2_with fail
      go_ret2
      exact ⟨rfl, below_drewN HB.out q⟩

set_option maxRecDepth 100000 in
set_option maxHeartbeats 1000000 in
theorem rSpeed (A D : Option Addr) (n c m cm : Nat) (ps : List Pass) (d : List Int) (s : Int) (x y z : Value) (w : World) (hp : Passes w A n ps) (hd : Ints w D m d) (hn : n * 8 ≤ 140737488355328) (hm : m ≤ maxLen) (hs : I64 s) :
    Calls Try.prog 23 #[.agg #[.slice A n c, x, y, z], .slice D m cm, .int .i64 s] w (BwB (Pf.bwV (ps.map Pass.cas) d s) (Pf.bwE (ps.map Pass.cas) d s) w) := by
  have HP := Lib.hid hp
  have HD := Lib.hid hd
  have HL := Lib.hid hp.len
  obtain ⟨i0, hi, hz0, hz1, hz2⟩ := info_parts infoI64
  clear hp hd
  go_enter Try.func23, Try.ntmps23
  go_wp2_with fail
  go_loopw [8, 14] (fun v i wr => AltRel w w.heap.size Pass.cas ps n v i wr) (fun _ i _ => n - (intOf i).toNat)
  case atStart => exact ⟨0, by omega, rfl, World.ownsRow_nil _ _ _ _, (Below.refl _ _).alloc (Nat.le_refl _) _, by simp⟩
  case round =>
    obtain ⟨k, hk, rfl, hown, hB, hsz⟩ := hrel
    have HO := Lib.hid hown
    have HB := Lib.hid hB
    clear hown hB
    by_cases hlt : k < n
    · obtain ⟨q, hq⟩ := get_ex HL.out hlt
      obtain ⟨b, off, rfl, hb, hc⟩ := HP.out.cells (by omega)
      have hcw := fun j v hv => (HB.out.cell (p := ⟨b, _, none⟩) hb).trans (hc k q hq j v hv)
      have c0 : wr.cell? ⟨b, off + k * 13, none⟩ = some (.int .i64 q.alt) := hcw 0 _ rfl
      have c1 := hcw 1 _ rfl
      have c2 := hcw 2 _ rfl
      have c3 := hcw 3 _ rfl
      have c4 := hcw 4 _ rfl
      have c5 := hcw 5 _ rfl
      have c6 := hcw 6 _ rfl
      have c7 := hcw 7 _ rfl
      have c8 := hcw 8 _ rfl
      have c9 := hcw 9 _ rfl
      have c10 := hcw 10 _ rfl
      have c11 := hcw 11 _ rfl
      have c12 := hcw 12 _ rfl
      have HQ := Lib.hid hq
      clear hc hcw hq
      have h1 := Lib.hid ((HO.out.alloc (.cells #[.int .i64 q.alt, .int .i64 q.cas, .int .i64 q.tas, .int .i64 q.ground, .int .i64 q.tick, .int .i64 q.fuel, .int .i64 q.gl, .int .i64 q.gh, .int .i64 q.tl, .int .i64 q.th, .int .i64 q.fl, .int .i64 q.fh, .int .u8 q.phase] 42)).alloc (.cells #[.int .i64 q.cas] 2))
      have hts := Lib.hid (show ((ps.take (k + 1)).map fun p => Value.int .i64 p.cas) = ((ps.take k).map fun p => Value.int .i64 p.cas) ++ [.int .i64 q.cas] by rw [take_succ_get ps k q HQ.out, List.map_append]; rfl)
      go_wp2_with (at_builtin; refine wpList_append_own _ rfl _ _ 37 rfl w.heap.size 2 i0 (.int .i64 0) 1 8 Try.underlying37 hi hz0 hz1 hz2 rfl (by decide) _ _ _ rfl h1.out ⟨wr.heap.size + 1, 0, none⟩ 1 1 [.int .i64 q.cas] rfl rfl (news_new _ _ (by simp) _ _ _ rfl) (by intro u hu; simp at hu; subst hu; rfl) (by unfold maxLen; omega) (by omega) (by simp; omega) ?_; intro v1 w1 hown1 hgrow1 hnil1)
      go_roundw
      case rel => exact ⟨k + 1, by omega, by go_num, by rw [hts.out]; exact hown1, (((HB.out.alloc hsz _).alloc (by simp; omega) _).grown hgrow1 (by simp; omega) (own_block_ge HO.out)), Nat.le_trans (by simp; omega) hgrow1.size⟩
      case measure => simp only [intOf]; omega
    · obtain ⟨A', c', rfl⟩ := own_form HO.out
      have HKN := Lib.hid (show k = n by omega)
      have HI := Lib.hid (Ints.of_own (xs := (ps.take k).map Pass.cas) (by rw [List.map_map]; exact HO.out))
      rw [show ps.take k = ps by rw [List.take_of_length_le (by have := HL.out; omega)]] at HI
      go_wp2_with fail
      refine (rbetween_any A' D k c' m cm (ps.map Pass.cas) d s wr HI.out (HD.out.below HB.out) (by unfold maxLen; omega) hm hs).mono ?_; rintro e w2 ⟨rfl, hB2⟩
      go_wp2_with fail
      go_ret2
      exact ⟨rfl, bel_trans HB.out hB2⟩

set_option maxRecDepth 100000 in
set_option maxHeartbeats 1000000 in
theorem xTarget (A D : Option Addr) (n c m cm : Nat) (ps : List Pass) (d : List Int) (s : Int) (x y z : Value) (w : World) (hp : Passes w A n ps) (hd : Ints w D m d) (hn : n * 8 ≤ 140737488355328) (hm : m ≤ maxLen) (hs : I64 s) :
    Calls Try.prog 20 #[.agg #[.slice A n c, x, y, z], .slice D m cm, .int .i64 s] w (BwB (Pf.bwV (ps.map Pass.alt) d s) (Pf.bwE (ps.map Pass.alt) d s) w) := by
  have HP := Lib.hid hp
  have HD := Lib.hid hd
  clear hp hd
  go_enter Try.func20, Try.ntmps20
  go_wp2_with fail
  refine (xalts A n c ps x y z _ (HP.out.below ((Below.refl _ _).alloc (Nat.le_refl _) _)) hn).mono ?_; rintro e w1 ⟨A', c', rfl, HI, hB⟩
  have hB0 : Below w.heap.size w w1 := ((Below.refl _ w).alloc (Nat.le_refl _) _).trans (hB.mono (by simp))
  clear hB
  go_wp2_with fail
  refine (between_any A' D n c' m cm (ps.map Pass.alt) d s w1 HI (HD.out.below hB0) (by unfold maxLen; omega) hm hs).mono ?_; rintro e w2 ⟨rfl, q, rfl⟩
  go_wp2_with fail
  go_ret2
  exact ⟨rfl, below_drewN hB0 q⟩

set_option maxRecDepth 100000 in
set_option maxHeartbeats 1000000 in
theorem rTarget (A D : Option Addr) (n c m cm : Nat) (ps : List Pass) (d : List Int) (s : Int) (x y z : Value) (w : World) (hp : Passes w A n ps) (hd : Ints w D m d) (hn : n * 8 ≤ 140737488355328) (hm : m ≤ maxLen) (hs : I64 s) :
    Calls Try.prog 22 #[.agg #[.slice A n c, x, y, z], .slice D m cm, .int .i64 s] w (BwB (Pf.bwV (ps.map Pass.alt) d s) (Pf.bwE (ps.map Pass.alt) d s) w) := by
  have HP := Lib.hid hp
  have HD := Lib.hid hd
  clear hp hd
  go_enter Try.func22, Try.ntmps22
  go_wp2_with fail
  refine (ralts A n c ps x y z _ (HP.out.below ((Below.refl _ _).alloc (Nat.le_refl _) _)) hn).mono ?_; rintro e w1 ⟨A', c', rfl, HI, hB⟩
  have hB0 : Below w.heap.size w w1 := ((Below.refl _ w).alloc (Nat.le_refl _) _).trans (hB.mono (by simp))
  clear hB
  go_wp2_with fail
  refine (rbetween_any A' D n c' m cm (ps.map Pass.alt) d s w1 HI (HD.out.below hB0) (by unfold maxLen; omega) hm hs).mono ?_; rintro e w2 ⟨rfl, hB2⟩
  go_wp2_with fail
  go_ret2
  exact ⟨rfl, bel_trans hB0 hB2⟩
end Go.Proofs.Ytgclfkgnkohgdaa
