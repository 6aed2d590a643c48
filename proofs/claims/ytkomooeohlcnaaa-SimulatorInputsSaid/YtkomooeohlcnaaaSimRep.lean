/- Layer 41: the check of a report, of the program and of the reference. -/
import Derived.Test.YtkomooeohlcnaaaSimPlain2
import Derived.Test.YtkomooeohlcnaaaOpen
namespace Go.Proofs.Ytkomooeohlcnaaa
set_option linter.unusedSimpArgs false
set_option linter.unusedVariables false
open Go.RowKit
theorem xFrom (n lo hi : Int) (w : World) : Calls Try.prog 37 #[.int .i64 n, .int .i64 lo, .int .i64 hi] w fun e w' => e = .returned (.bool (inB n lo hi)) ∧ w = w' := by
  have hv := Lib.hid (show inB n lo hi = (decide (lo ≤ n) && decide (n ≤ hi)) from rfl)
  by_cases h1 : n < lo
  · go_enter Try.func37, Try.ntmps37
    go_wp2
    go_ret
    exact ⟨ret_bool (by rw [hv.out, Bool.eq_iff_iff]; simp; try omega), rfl⟩
  · by_cases h2 : hi < n
    · go_enter Try.func37, Try.ntmps37
      go_wp2
      go_ret
      exact ⟨ret_bool (by rw [hv.out, Bool.eq_iff_iff]; simp; try omega), rfl⟩
    · go_enter Try.func37, Try.ntmps37
      go_wp2
      go_ret
      exact ⟨ret_bool (by rw [hv.out, Bool.eq_iff_iff]; simp; try omega), rfl⟩
set_option maxRecDepth 100000 in
set_option maxHeartbeats 2000000 in
theorem xRep (so ki x y va bo we tk : Int) (hso : I64 so) (hk0 : 0 ≤ ki) (hk9 : ki ≤ 255) (w : World) : Calls Try.prog 19 #[.agg #[.int .i64 so, .int .u8 ki, .int .i64 x, .int .i64 y, .int .i64 va, .int .i64 bo, .int .i64 we, .int .i64 tk]] w fun e w' => e = .returned (.int .i64 (repE so ki x y va bo we tk)) ∧ Below w.heap.size w w' := by
  have hv := Lib.hid (show repE so ki x y va bo we tk = if ((inB so 1 8 && ((ki == 1) || (ki == 2) || (ki == 3))) && (ptB x y && inB we 1 16)) = true then (if (inB tk 0 1099511627776 && (inB bo 0 (if (ki == 3) = true then 3600000 else 600000) && inB va 0 (if (ki == 2) = true then 8000000 else if (ki == 3) = true then 129599999 else 0))) = true then 0 else 2) else 1 from rfl)
  obtain ⟨so0, so1⟩ := hso
  go_enter Try.func19, Try.ntmps19
  go_wp2_with fail
  refine (xFrom _ _ _ _).mono ?_; rintro e w1 ⟨rfl, rfl⟩
  cases hs : inB so 1 8
  · go_wp2_with fail
    go_ret
    exact ⟨ret_int (by rw [hv.out, hs]; rfl), bel0 w _⟩
  by_cases hn : ki < 1
  · have hq : ((ki == 1) || (ki == 2) || (ki == 3)) = false := by simp; omega
    have HQ := Lib.hid hq
    clear hq
    go_wp2_with fail
    go_ret
    exact ⟨ret_int (by rw [hv.out, hs, HQ.out]; rfl), bel0 w _⟩
  have p1 := hn
  clear hn
  by_cases hn : 3 < ki
  · have hq : ((ki == 1) || (ki == 2) || (ki == 3)) = false := by simp; omega
    have HQ := Lib.hid hq
    clear hq
    go_wp2_with fail
    go_ret
    exact ⟨ret_int (by rw [hv.out, hs, HQ.out]; rfl), bel0 w _⟩
  have p2 := hn
  clear hn
  rcases (show ki = 1 ∨ ki = 2 ∨ ki = 3 by omega) with rfl | rfl | rfl
  · go_wp2_with fail
    refine (xValid _ _ _).mono ?_; rintro e w11 ⟨rfl, hB⟩
    have k0 : w11.cell? ⟨w.heap.size, 0, none⟩ = some (.int .i64 so) := (hB.cell (p := ⟨w.heap.size, 0, none⟩) (by simp)).trans (one_box w _ _ 0)
    have k1 : w11.cell? ⟨w.heap.size, 1, none⟩ = some (.int .u8 1) := (hB.cell (p := ⟨w.heap.size, 1, none⟩) (by simp)).trans (one_box w _ _ 1)
    have k2 : w11.cell? ⟨w.heap.size, 2, none⟩ = some (.int .i64 x) := (hB.cell (p := ⟨w.heap.size, 2, none⟩) (by simp)).trans (one_box w _ _ 2)
    have k3 : w11.cell? ⟨w.heap.size, 3, none⟩ = some (.int .i64 y) := (hB.cell (p := ⟨w.heap.size, 3, none⟩) (by simp)).trans (one_box w _ _ 3)
    have k4 : w11.cell? ⟨w.heap.size, 4, none⟩ = some (.int .i64 va) := (hB.cell (p := ⟨w.heap.size, 4, none⟩) (by simp)).trans (one_box w _ _ 4)
    have k5 : w11.cell? ⟨w.heap.size, 5, none⟩ = some (.int .i64 bo) := (hB.cell (p := ⟨w.heap.size, 5, none⟩) (by simp)).trans (one_box w _ _ 5)
    have k6 : w11.cell? ⟨w.heap.size, 6, none⟩ = some (.int .i64 we) := (hB.cell (p := ⟨w.heap.size, 6, none⟩) (by simp)).trans (one_box w _ _ 6)
    have k7 : w11.cell? ⟨w.heap.size, 7, none⟩ = some (.int .i64 tk) := (hB.cell (p := ⟨w.heap.size, 7, none⟩) (by simp)).trans (one_box w _ _ 7)
    have HB := Lib.hid (bel_al hB)
    clear hB
    cases hp : ptB x y
    · have G := Lib.hid hp
      clear hp
      go_wp2_with fail
      go_ret
      exact ⟨ret_int (by rw [hv.out, hs]; simp [G.out]), HB.out⟩
    have HP := Lib.hid hp
    clear hp
    go_wp2_with fail
    refine (xFrom _ _ _ _).mono ?_; rintro e w12 ⟨rfl, rfl⟩
    cases hw : inB we 1 16
    · have G := Lib.hid hw
      clear hw
      go_wp2_with fail
      go_ret
      exact ⟨ret_int (by rw [hv.out, hs]; simp [HP.out, G.out]), HB.out⟩
    have HW := Lib.hid hw
    clear hw
    go_wp2_with fail
    refine (xFrom _ _ _ _).mono ?_; rintro e w13 ⟨rfl, rfl⟩
    cases ht : inB tk 0 1099511627776
    · have G := Lib.hid ht
      clear ht
      go_wp2_with fail
      go_ret
      exact ⟨ret_int (by rw [hv.out, hs]; simp [HP.out, HW.out, G.out]), HB.out⟩
    have HT := Lib.hid ht
    clear ht
    go_wp2_with fail
    refine (xFrom _ _ _ _).mono ?_; rintro e w14 ⟨rfl, rfl⟩
    cases hd : inB bo 0 600000
    · have G := Lib.hid hd
      clear hd
      go_wp2_with fail
      go_ret
      exact ⟨ret_int (by rw [hv.out, hs]; simp [HP.out, HW.out, HT.out, G.out]), HB.out⟩
    have HD := Lib.hid hd
    clear hd
    go_wp2_with fail
    refine (xFrom _ _ _ _).mono ?_; rintro e w15 ⟨rfl, rfl⟩
    cases hu : inB va 0 0
    · have G := Lib.hid hu
      clear hu
      go_wp2_with fail
      go_ret
      exact ⟨ret_int (by rw [hv.out, hs]; simp [HP.out, HW.out, HT.out, HD.out, G.out]), HB.out⟩
    have HU := Lib.hid hu
    clear hu
    go_wp2_with fail
    go_ret
    exact ⟨ret_int (by rw [hv.out, hs]; simp [HP.out, HW.out, HT.out, HD.out, HU.out]), HB.out⟩
  · go_wp2_with fail
    refine (xValid _ _ _).mono ?_; rintro e w11 ⟨rfl, hB⟩
    have k0 : w11.cell? ⟨w.heap.size, 0, none⟩ = some (.int .i64 so) := (hB.cell (p := ⟨w.heap.size, 0, none⟩) (by simp)).trans (one_box w _ _ 0)
    have k1 : w11.cell? ⟨w.heap.size, 1, none⟩ = some (.int .u8 2) := (hB.cell (p := ⟨w.heap.size, 1, none⟩) (by simp)).trans (one_box w _ _ 1)
    have k2 : w11.cell? ⟨w.heap.size, 2, none⟩ = some (.int .i64 x) := (hB.cell (p := ⟨w.heap.size, 2, none⟩) (by simp)).trans (one_box w _ _ 2)
    have k3 : w11.cell? ⟨w.heap.size, 3, none⟩ = some (.int .i64 y) := (hB.cell (p := ⟨w.heap.size, 3, none⟩) (by simp)).trans (one_box w _ _ 3)
    have k4 : w11.cell? ⟨w.heap.size, 4, none⟩ = some (.int .i64 va) := (hB.cell (p := ⟨w.heap.size, 4, none⟩) (by simp)).trans (one_box w _ _ 4)
    have k5 : w11.cell? ⟨w.heap.size, 5, none⟩ = some (.int .i64 bo) := (hB.cell (p := ⟨w.heap.size, 5, none⟩) (by simp)).trans (one_box w _ _ 5)
    have k6 : w11.cell? ⟨w.heap.size, 6, none⟩ = some (.int .i64 we) := (hB.cell (p := ⟨w.heap.size, 6, none⟩) (by simp)).trans (one_box w _ _ 6)
    have k7 : w11.cell? ⟨w.heap.size, 7, none⟩ = some (.int .i64 tk) := (hB.cell (p := ⟨w.heap.size, 7, none⟩) (by simp)).trans (one_box w _ _ 7)
    have HB := Lib.hid (bel_al hB)
    clear hB
    cases hp : ptB x y
    · have G := Lib.hid hp
      clear hp
      go_wp2_with fail
      go_ret
      exact ⟨ret_int (by rw [hv.out, hs]; simp [G.out]), HB.out⟩
    have HP := Lib.hid hp
    clear hp
    go_wp2_with fail
    refine (xFrom _ _ _ _).mono ?_; rintro e w12 ⟨rfl, rfl⟩
    cases hw : inB we 1 16
    · have G := Lib.hid hw
      clear hw
      go_wp2_with fail
      go_ret
      exact ⟨ret_int (by rw [hv.out, hs]; simp [HP.out, G.out]), HB.out⟩
    have HW := Lib.hid hw
    clear hw
    go_wp2_with fail
    refine (xFrom _ _ _ _).mono ?_; rintro e w13 ⟨rfl, rfl⟩
    cases ht : inB tk 0 1099511627776
    · have G := Lib.hid ht
      clear ht
      go_wp2_with fail
      go_ret
      exact ⟨ret_int (by rw [hv.out, hs]; simp [HP.out, HW.out, G.out]), HB.out⟩
    have HT := Lib.hid ht
    clear ht
    go_wp2_with fail
    refine (xFrom _ _ _ _).mono ?_; rintro e w14 ⟨rfl, rfl⟩
    cases hd : inB bo 0 600000
    · have G := Lib.hid hd
      clear hd
      go_wp2_with fail
      go_ret
      exact ⟨ret_int (by rw [hv.out, hs]; simp [HP.out, HW.out, HT.out, G.out]), HB.out⟩
    have HD := Lib.hid hd
    clear hd
    go_wp2_with fail
    refine (xFrom _ _ _ _).mono ?_; rintro e w15 ⟨rfl, rfl⟩
    cases hu : inB va 0 8000000
    · have G := Lib.hid hu
      clear hu
      go_wp2_with fail
      go_ret
      exact ⟨ret_int (by rw [hv.out, hs]; simp [HP.out, HW.out, HT.out, HD.out, G.out]), HB.out⟩
    have HU := Lib.hid hu
    clear hu
    go_wp2_with fail
    go_ret
    exact ⟨ret_int (by rw [hv.out, hs]; simp [HP.out, HW.out, HT.out, HD.out, HU.out]), HB.out⟩
  · go_wp2_with fail
    refine (xValid _ _ _).mono ?_; rintro e w11 ⟨rfl, hB⟩
    have k0 : w11.cell? ⟨w.heap.size, 0, none⟩ = some (.int .i64 so) := (hB.cell (p := ⟨w.heap.size, 0, none⟩) (by simp)).trans (one_box w _ _ 0)
    have k1 : w11.cell? ⟨w.heap.size, 1, none⟩ = some (.int .u8 3) := (hB.cell (p := ⟨w.heap.size, 1, none⟩) (by simp)).trans (one_box w _ _ 1)
    have k2 : w11.cell? ⟨w.heap.size, 2, none⟩ = some (.int .i64 x) := (hB.cell (p := ⟨w.heap.size, 2, none⟩) (by simp)).trans (one_box w _ _ 2)
    have k3 : w11.cell? ⟨w.heap.size, 3, none⟩ = some (.int .i64 y) := (hB.cell (p := ⟨w.heap.size, 3, none⟩) (by simp)).trans (one_box w _ _ 3)
    have k4 : w11.cell? ⟨w.heap.size, 4, none⟩ = some (.int .i64 va) := (hB.cell (p := ⟨w.heap.size, 4, none⟩) (by simp)).trans (one_box w _ _ 4)
    have k5 : w11.cell? ⟨w.heap.size, 5, none⟩ = some (.int .i64 bo) := (hB.cell (p := ⟨w.heap.size, 5, none⟩) (by simp)).trans (one_box w _ _ 5)
    have k6 : w11.cell? ⟨w.heap.size, 6, none⟩ = some (.int .i64 we) := (hB.cell (p := ⟨w.heap.size, 6, none⟩) (by simp)).trans (one_box w _ _ 6)
    have k7 : w11.cell? ⟨w.heap.size, 7, none⟩ = some (.int .i64 tk) := (hB.cell (p := ⟨w.heap.size, 7, none⟩) (by simp)).trans (one_box w _ _ 7)
    have HB := Lib.hid (bel_al hB)
    clear hB
    cases hp : ptB x y
    · have G := Lib.hid hp
      clear hp
      go_wp2_with fail
      go_ret
      exact ⟨ret_int (by rw [hv.out, hs]; simp [G.out]), HB.out⟩
    have HP := Lib.hid hp
    clear hp
    go_wp2_with fail
    refine (xFrom _ _ _ _).mono ?_; rintro e w12 ⟨rfl, rfl⟩
    cases hw : inB we 1 16
    · have G := Lib.hid hw
      clear hw
      go_wp2_with fail
      go_ret
      exact ⟨ret_int (by rw [hv.out, hs]; simp [HP.out, G.out]), HB.out⟩
    have HW := Lib.hid hw
    clear hw
    go_wp2_with fail
    refine (xFrom _ _ _ _).mono ?_; rintro e w13 ⟨rfl, rfl⟩
    cases ht : inB tk 0 1099511627776
    · have G := Lib.hid ht
      clear ht
      go_wp2_with fail
      go_ret
      exact ⟨ret_int (by rw [hv.out, hs]; simp [HP.out, HW.out, G.out]), HB.out⟩
    have HT := Lib.hid ht
    clear ht
    go_wp2_with fail
    refine (xFrom _ _ _ _).mono ?_; rintro e w14 ⟨rfl, rfl⟩
    cases hd : inB bo 0 3600000
    · have G := Lib.hid hd
      clear hd
      go_wp2_with fail
      go_ret
      exact ⟨ret_int (by rw [hv.out, hs]; simp [HP.out, HW.out, HT.out, G.out]), HB.out⟩
    have HD := Lib.hid hd
    clear hd
    go_wp2_with fail
    refine (xFrom _ _ _ _).mono ?_; rintro e w15 ⟨rfl, rfl⟩
    cases hu : inB va 0 129599999
    · have G := Lib.hid hu
      clear hu
      go_wp2_with fail
      go_ret
      exact ⟨ret_int (by rw [hv.out, hs]; simp [HP.out, HW.out, HT.out, HD.out, G.out]), HB.out⟩
    have HU := Lib.hid hu
    clear hu
    go_wp2_with fail
    go_ret
    exact ⟨ret_int (by rw [hv.out, hs]; simp [HP.out, HW.out, HT.out, HD.out, HU.out]), HB.out⟩
end Go.Proofs.Ytkomooeohlcnaaa
