/- Layer 59: CheckSense of an input that is in order. -/
import Derived.Test.YtkomooeohlcnaaaSeS
import Derived.Test.YtkomooeohlcnaaaSimRep
namespace Go.Proofs.Ytkomooeohlcnaaa
set_option linter.unusedSimpArgs false
set_option linter.unusedVariables false
open Go.RowKit
theorem xInU (n lo hi : Int) (w : World) : Calls Try.prog 18 #[.int .i64 n, .int .i64 lo, .int .i64 hi] w fun e w' => e = .returned (.bool (inB n lo hi)) ∧ w = w' := by
  have hv := Lib.hid (show inB n lo hi = (decide (lo ≤ n) && decide (n ≤ hi)) from rfl)
  by_cases h1 : n < lo
  · go_enter Try.func18, Try.ntmps18
    go_wp2
    go_ret
    exact ⟨ret_bool (by rw [hv.out, Bool.eq_iff_iff]; simp; try omega), rfl⟩
  · by_cases h2 : hi < n
    · go_enter Try.func18, Try.ntmps18
      go_wp2
      go_ret
      exact ⟨ret_bool (by rw [hv.out, Bool.eq_iff_iff]; simp; try omega), rfl⟩
    · go_enter Try.func18, Try.ntmps18
      go_wp2
      go_ret
      exact ⟨ret_bool (by rw [hv.out, Bool.eq_iff_iff]; simp; try omega), rfl⟩
structure CkOk (z : SeZ) : Prop where
  tk : inB z.tk 0 1099511627776 = true
  ve : inB z.ve (-2000) 2000 = true
  vn : inB z.vn (-2000) 2000 = true
  dr : inB z.dr 0 1000 = true
  al : inB z.al (-200000) 6000000 = true
  vs : inB z.vs (-10000) 10000 = true
  ca : inB z.ca 0 1000 = true
  fu : inB z.fu 0 3000000000 = true
  n : z.cm.size ≤ 120
  b : z.cm.data.toList.all chB = true
def CkRel (z : SeZ) (A1 : Option Addr) (q c1 : Nat) (w : World) (t : Value) (wr : World) : Prop :=
  ∃ k : Nat, k ≤ q ∧ t = .int .i64 k ∧ Has wr w.heap.size (z.cells (.slice A1 q c1)) ∧ Below w.heap.size w wr
set_option maxRecDepth 100000 in
set_option maxHeartbeats 2000000 in
theorem xCheckSense (z : SeZ) (A1 : Option Addr) (q c1 : Nat) (RL : List Rep) (w : World) (h1 : Recs Rep.cells 8 w A1 q RL) (hq : q ≤ 4) (hz : CkOk z)
    (hr : ∀ r ∈ RL, repE r.so r.ki r.x r.y r.va r.bo r.we r.tk = 0 ∧ I64 r.so ∧ 0 ≤ r.ki ∧ r.ki ≤ 255) :
    Calls Try.prog 7 #[.agg #[.int .i64 z.tk, .slice A1 q c1, .int .i64 z.ve, .int .i64 z.vn, .int .i64 z.dr, .int .i64 z.al, .int .i64 z.vs, .int .i64 z.ca, .int .i64 z.fu, .bool z.gr, .bool z.th, .bool z.st, .string z.cm]] w fun e w' => e = .returned (.int .i64 0) ∧ Below w.heap.size w w' := by
  have H1 := Lib.hid h1
  have HLN := Lib.hid h1.len
  have HR := Lib.hid hr
  have I0 := Lib.hid (fun W => xInU z.tk 0 1099511627776 W)
  rw [hz.tk] at I0
  have I1 := Lib.hid (fun W => xInU z.ve (-2000) 2000 W)
  rw [hz.ve] at I1
  have I2 := Lib.hid (fun W => xInU z.vn (-2000) 2000 W)
  rw [hz.vn] at I2
  have I3 := Lib.hid (fun W => xInU z.dr 0 1000 W)
  rw [hz.dr] at I3
  have I4 := Lib.hid (fun W => xInU z.al (-200000) 6000000 W)
  rw [hz.al] at I4
  have I5 := Lib.hid (fun W => xInU z.vs (-10000) 10000 W)
  rw [hz.vs] at I5
  have I6 := Lib.hid (fun W => xInU z.ca 0 1000 W)
  rw [hz.ca] at I6
  have I7 := Lib.hid (fun W => xInU z.fu 0 3000000000 W)
  rw [hz.fu] at I7
  have HS := Lib.hid hz.n
  have HC := Lib.hid hz.b
  have hcv2 := fun w s => run_bytes_of_string (P := Try.prog) w 9 74 5 s Try.underlying9 Try.underlying74 Try.underlying5
  clear h1 hr hz
  go_enter Try.func7, Try.ntmps7
  have K : Hid (Has (w.alloc (.cells #[.int .i64 z.tk, .slice A1 q c1, .int .i64 z.ve, .int .i64 z.vn, .int .i64 z.dr, .int .i64 z.al, .int .i64 z.vs, .int .i64 z.ca, .int .i64 z.fu, .bool z.gr, .bool z.th, .bool z.st, .string z.cm] 39)) w.heap.size (z.cells (.slice A1 q c1))) := Lib.hid (Has.new w _ _)
  have HB : Hid (Below w.heap.size w (w.alloc (.cells #[.int .i64 z.tk, .slice A1 q c1, .int .i64 z.ve, .int .i64 z.vn, .int .i64 z.dr, .int .i64 z.al, .int .i64 z.vs, .int .i64 z.ca, .int .i64 z.fu, .bool z.gr, .bool z.th, .bool z.st, .string z.cm] 39))) := Lib.hid (below_alloc1 _ _)
  have a0 := K.out.cell 0 (.int .i64 z.tk) rfl
  have a1 := K.out.cell 1 (.slice A1 q c1) rfl
  go_wp2_with fail
  refine (I0.out _).mono ?_; rintro e wx ⟨rfl, rfl⟩
  have hq4 : ¬ 4 < (q : Int) := by omega
  go_wp2_with fail
  clear a0 a1
  go_loopw [19] (fun t wr => CkRel z A1 q c1 w t wr) (fun t _ => q - (intOf t).toNat)
  case atStart => exact ⟨0, by omega, rfl, K.out, HB.out⟩
  case round =>
    obtain ⟨k, hk, rfl, hx, hy⟩ := hrel
    replace K := Lib.hid hx
    replace HB := Lib.hid hy
    clear hx hy
    by_cases hlt : k < q
    · obtain ⟨r, hr⟩ := get_ex HLN.out hlt
      obtain ⟨b, off, rfl, hb, hc⟩ := H1.out.cells (by omega)
      obtain ⟨g0, ⟨g1, g2⟩, g3, g4⟩ := HR.out r (List.mem_of_getElem? hr)
      have hcw := fun j v hv => (HB.out.cell (p := ⟨b, _, none⟩) hb).trans (hc k r hr j v hv)
      have y0 : wr.cell? ⟨b, off + k * 8, none⟩ = some (.int .i64 r.so) := hcw 0 _ rfl
      have y1 : wr.cell? ⟨b, off + k * 8 + 1, none⟩ = some (.int .u8 r.ki) := hcw 1 _ rfl
      have y2 : wr.cell? ⟨b, off + k * 8 + 2, none⟩ = some (.int .i64 r.x) := hcw 2 _ rfl
      have y3 : wr.cell? ⟨b, off + k * 8 + 3, none⟩ = some (.int .i64 r.y) := hcw 3 _ rfl
      have y4 : wr.cell? ⟨b, off + k * 8 + 4, none⟩ = some (.int .i64 r.va) := hcw 4 _ rfl
      have y5 : wr.cell? ⟨b, off + k * 8 + 5, none⟩ = some (.int .i64 r.bo) := hcw 5 _ rfl
      have y6 : wr.cell? ⟨b, off + k * 8 + 6, none⟩ = some (.int .i64 r.we) := hcw 6 _ rfl
      have y7 : wr.cell? ⟨b, off + k * 8 + 7, none⟩ = some (.int .i64 r.tk) := hcw 7 _ rfl
      have HRP := Lib.hid (fun W => xRep r.so r.ki r.x r.y r.va r.bo r.we r.tk ⟨g1, g2⟩ g3 g4 W)
      rw [g0] at HRP
      clear hc hcw hr
      go_wp2_with fail
      refine (HRP.out _).mono ?_; rintro e w2 ⟨rfl, hB⟩
      clear y0 y1 y2 y3 y4 y5 y6 y7
      replace K := Lib.hid ((K.out.alloc (.cells #[.int .i64 r.so, .int .u8 r.ki, .int .i64 r.x, .int .i64 r.y, .int .i64 r.va, .int .i64 r.bo, .int .i64 r.we, .int .i64 r.tk] 49)).below hB)
      replace HB := Lib.hid (bel_trans (bel_alloc1 HB.out (.cells #[.int .i64 r.so, .int .u8 r.ki, .int .i64 r.x, .int .i64 r.y, .int .i64 r.va, .int .i64 r.bo, .int .i64 r.we, .int .i64 r.tk] 49)) hB)
      clear hB
      go_wp2_with fail
      go_roundw
      case rel => exact ⟨k + 1, by omega, by go_num, K.out, HB.out⟩
      case measure => simp only [intOf]; omega
    have a2 := K.out.cell 2 (.int .i64 z.ve) rfl
    have a3 := K.out.cell 3 (.int .i64 z.vn) rfl
    have a4 := K.out.cell 4 (.int .i64 z.dr) rfl
    have a5 := K.out.cell 5 (.int .i64 z.al) rfl
    have a6 := K.out.cell 6 (.int .i64 z.vs) rfl
    have a7 := K.out.cell 7 (.int .i64 z.ca) rfl
    have a8 := K.out.cell 8 (.int .i64 z.fu) rfl
    have a9 := K.out.cell 9 (.bool z.gr) rfl
    have a12 := K.out.cell 12 (.string z.cm) rfl
    go_wp2_with fail
    refine (I1.out _).mono ?_; rintro e wx ⟨rfl, rfl⟩
    go_wp2_with fail
    refine (I2.out _).mono ?_; rintro e wx ⟨rfl, rfl⟩
    go_wp2_with fail
    refine (I3.out _).mono ?_; rintro e wx ⟨rfl, rfl⟩
    go_wp2_with fail
    refine (I4.out _).mono ?_; rintro e wx ⟨rfl, rfl⟩
    go_wp2_with fail
    refine (I5.out _).mono ?_; rintro e wx ⟨rfl, rfl⟩
    go_wp2_with fail
    refine (I6.out _).mono ?_; rintro e wx ⟨rfl, rfl⟩
    go_wp2_with fail
    refine (I7.out _).mono ?_; rintro e wx ⟨rfl, rfl⟩
    have hs120 : ¬ 120 < (z.cm.size : Int) := by have := HS.out; omega
    go_wp2_with fail
    have HBW : Hid (Below w.heap.size w ((wr.alloc (.cells (bytesRow z.cm (grownCap wr z.cm.size 0 5)) 5 ((bytesRow z.cm (grownCap wr z.cm.size 0 5)).size, (bytesRow z.cm (grownCap wr z.cm.size 0 5)).size + 1))).drew)) := Lib.hid (bel_alloc1 HB.out _).drew
    have HCC : Hid (∀ (j : Nat) (hj : j < z.cm.data.size), (((wr.alloc (.cells (bytesRow z.cm (grownCap wr z.cm.size 0 5)) 5 ((bytesRow z.cm (grownCap wr z.cm.size 0 5)).size, (bytesRow z.cm (grownCap wr z.cm.size 0 5)).size + 1))).drew)).cell? ⟨wr.heap.size, j, none⟩ = some (.int .u8 (z.cm.data[j].toNat : Int))) :=
      Lib.hid (fun j hj => by rw [World.cell?_drew, World.cell?_alloc_mark, bytesRow_at _ _ j hj])
    generalize ((wr.alloc (.cells (bytesRow z.cm (grownCap wr z.cm.size 0 5)) 5 ((bytesRow z.cm (grownCap wr z.cm.size 0 5)).size, (bytesRow z.cm (grownCap wr z.cm.size 0 5)).size + 1))).drew) = w5 at *
    generalize grownCap wr z.cm.size 0 5 = cap
    have HN := Lib.hid (show z.cm.data.size = z.cm.size by simp [← ByteArray.size_data])
    clear a2 a3 a4 a5 a6 a7 a8 a9 a12 hcv2 K HB
    generalize z.cm = S at *
    generalize wr.heap.size = bb at *
    go_loop [79] (fun t => ∃ k : Nat, k ≤ S.data.size ∧ t = .int .i64 k) (fun t => S.data.size - (intOf t).toNat)
    case atStart => exact ⟨0, by omega, rfl⟩
    case round =>
      obtain ⟨j, hj, rfl⟩ := hrel
      have hN := HN.out
      have hS := HS.out
      by_cases hjl : j < S.data.size
      · have cj := HCC.out j hjl
        have hch := List.all_eq_true.1 HC.out S.data[j] (by rw [Array.mem_toList_iff]; exact Array.getElem_mem hjl)
        have g1 : ¬ (S.data[j].toNat : Int) < 32 := by unfold chB at hch; simp at hch; omega
        have g2 : ¬ 126 < (S.data[j].toNat : Int) := by unfold chB at hch; simp at hch; omega
        clear hch
        generalize S.data[j] = ch at *
        have cb : ch.toNat < 256 := ch.toNat_lt
        have hlt : (j : Int) < (S.size : Int) := by omega
        have hlt0 : 0 ≤ (j : Int) := by omega
        clear hN
        go_wp2_with fail
        go_round
        case rel => exact ⟨j + 1, by omega, by go_num⟩
        case measure => simp only [intOf]; omega
      · have hge : ¬ (j : Int) < (S.size : Int) := by omega
        clear hN
        go_wp2_with fail
        go_ret
        exact ⟨rfl, HBW.out⟩
end Go.Proofs.Ytkomooeohlcnaaa
