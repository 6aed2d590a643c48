/- Layer 59: the checks, of the program and of the reference. -/
import Derived.Test.YtkomooeohlcnaaaSimPlain
namespace Go.Proofs.Ytkomooeohlcnaaa
set_option linter.unusedSimpArgs false
set_option linter.unusedVariables false
open Go.RowKit
theorem bel0 (w : World) (o : Obj) : Below w.heap.size w (w.alloc o) := (Below.refl _ _).alloc (Nat.le_refl _) _
theorem bel_al {w w1 : World} {o : Obj} (h : Below (w.alloc o).heap.size (w.alloc o) w1) : Below w.heap.size w w1 := ((Below.refl _ _).alloc (Nat.le_refl _) _).trans (h.mono (by simp))
theorem xIn (n lo hi : Int) (w : World) : Calls Try.prog 25 #[.int .i64 n, .int .i64 lo, .int .i64 hi] w fun e w' => e = .returned (.bool (inB n lo hi)) ∧ w = w' := by
  have hv := Lib.hid (show inB n lo hi = (decide (lo ≤ n) && decide (n ≤ hi)) from rfl)
  by_cases h1 : n < lo
  · go_enter Try.func25, Try.ntmps25
    go_wp2
    go_ret
    exact ⟨ret_bool (by rw [hv.out, Bool.eq_iff_iff]; simp; try omega), rfl⟩
  · by_cases h2 : hi < n
    · go_enter Try.func25, Try.ntmps25
      go_wp2
      go_ret
      exact ⟨ret_bool (by rw [hv.out, Bool.eq_iff_iff]; simp; try omega), rfl⟩
    · go_enter Try.func25, Try.ntmps25
      go_wp2
      go_ret
      exact ⟨ret_bool (by rw [hv.out, Bool.eq_iff_iff]; simp; try omega), rfl⟩
theorem xValid (x y : Int) (w : World) : Calls Try.prog 20 #[.agg #[.int .i64 x, .int .i64 y]] w fun e w' => e = .returned (.bool (ptB x y)) ∧ Below w.heap.size w w' := by
  have hv := Lib.hid (show ptB x y = ((decide (-2000000 ≤ x) && decide (x ≤ 2000000)) && (decide (-2000000 ≤ y) && decide (y ≤ 2000000))) from rfl)
  by_cases h1 : x < -2000000
  · go_enter Try.func20, Try.ntmps20
    go_wp2
    go_ret
    exact ⟨ret_bool (by rw [hv.out, Bool.eq_iff_iff]; simp; try omega), (Below.refl _ _).alloc (Nat.le_refl _) _⟩
  by_cases h2 : 2000000 < x
  · go_enter Try.func20, Try.ntmps20
    go_wp2
    go_ret
    exact ⟨ret_bool (by rw [hv.out, Bool.eq_iff_iff]; simp; try omega), (Below.refl _ _).alloc (Nat.le_refl _) _⟩
  by_cases h3 : y < -2000000
  · go_enter Try.func20, Try.ntmps20
    go_wp2
    go_ret
    exact ⟨ret_bool (by rw [hv.out, Bool.eq_iff_iff]; simp; try omega), (Below.refl _ _).alloc (Nat.le_refl _) _⟩
  by_cases h4 : 2000000 < y
  · go_enter Try.func20, Try.ntmps20
    go_wp2
    go_ret
    exact ⟨ret_bool (by rw [hv.out, Bool.eq_iff_iff]; simp; try omega), (Below.refl _ _).alloc (Nat.le_refl _) _⟩
  · go_enter Try.func20, Try.ntmps20
    go_wp2
    go_ret
    exact ⟨ret_bool (by rw [hv.out, Bool.eq_iff_iff]; simp; try omega), (Below.refl _ _).alloc (Nat.le_refl _) _⟩
set_option maxRecDepth 100000 in
set_option maxHeartbeats 2000000 in
theorem xCraft (tk px py ve vn al vs hd ca fu bk : Int) (gr : Bool) (w : World) : Calls Try.prog 12 #[.agg #[.int .i64 tk, .int .i64 px, .int .i64 py, .int .i64 ve, .int .i64 vn, .int .i64 al, .int .i64 vs, .int .i64 hd, .int .i64 ca, .int .i64 fu, .int .i64 bk, .bool gr]] w fun e w' => e = .returned (.int .i64 (cftE tk px py ve vn al vs hd ca fu bk)) ∧ Below w.heap.size w w' := by
  have hv := Lib.hid (show cftE tk px py ve vn al vs hd ca fu bk = if (inB tk 0 1099511627776 && inB al (-200000) 6000000 && inB vs (-10000) 10000 && inB hd 0 129599999 && inB ca 0 1000 && inB fu 0 3000000000 && inB bk (-3000) 3000 && inB ve (-2000) 2000 && inB vn (-2000) 2000) = true then (if ptB px py = true then 0 else 1) else 2 from rfl)
  go_enter Try.func12, Try.ntmps12
  go_wp2_with fail
  refine (xIn _ _ _ _).mono ?_; rintro e w0 ⟨rfl, rfl⟩
  cases h0 : inB tk 0 1099511627776
  · have G := Lib.hid h0
    clear h0
    go_wp2_with fail
    go_ret
    exact ⟨ret_int (by rw [hv.out, G.out]; simp), bel0 w _⟩
  have H0 := Lib.hid h0
  clear h0
  go_wp2_with fail
  refine (xIn _ _ _ _).mono ?_; rintro e w1 ⟨rfl, rfl⟩
  cases h1 : inB al (-200000) 6000000
  · have G := Lib.hid h1
    clear h1
    go_wp2_with fail
    go_ret
    exact ⟨ret_int (by rw [hv.out, G.out]; simp), bel0 w _⟩
  have H1 := Lib.hid h1
  clear h1
  go_wp2_with fail
  refine (xIn _ _ _ _).mono ?_; rintro e w2 ⟨rfl, rfl⟩
  cases h2 : inB vs (-10000) 10000
  · have G := Lib.hid h2
    clear h2
    go_wp2_with fail
    go_ret
    exact ⟨ret_int (by rw [hv.out, G.out]; simp), bel0 w _⟩
  have H2 := Lib.hid h2
  clear h2
  go_wp2_with fail
  refine (xIn _ _ _ _).mono ?_; rintro e w3 ⟨rfl, rfl⟩
  cases h3 : inB hd 0 129599999
  · have G := Lib.hid h3
    clear h3
    go_wp2_with fail
    go_ret
    exact ⟨ret_int (by rw [hv.out, G.out]; simp), bel0 w _⟩
  have H3 := Lib.hid h3
  clear h3
  go_wp2_with fail
  refine (xIn _ _ _ _).mono ?_; rintro e w4 ⟨rfl, rfl⟩
  cases h4 : inB ca 0 1000
  · have G := Lib.hid h4
    clear h4
    go_wp2_with fail
    go_ret
    exact ⟨ret_int (by rw [hv.out, G.out]; simp), bel0 w _⟩
  have H4 := Lib.hid h4
  clear h4
  go_wp2_with fail
  refine (xIn _ _ _ _).mono ?_; rintro e w5 ⟨rfl, rfl⟩
  cases h5 : inB fu 0 3000000000
  · have G := Lib.hid h5
    clear h5
    go_wp2_with fail
    go_ret
    exact ⟨ret_int (by rw [hv.out, G.out]; simp), bel0 w _⟩
  have H5 := Lib.hid h5
  clear h5
  go_wp2_with fail
  refine (xIn _ _ _ _).mono ?_; rintro e w6 ⟨rfl, rfl⟩
  cases h6 : inB bk (-3000) 3000
  · have G := Lib.hid h6
    clear h6
    go_wp2_with fail
    go_ret
    exact ⟨ret_int (by rw [hv.out, G.out]; simp), bel0 w _⟩
  have H6 := Lib.hid h6
  clear h6
  go_wp2_with fail
  refine (xIn _ _ _ _).mono ?_; rintro e w7 ⟨rfl, rfl⟩
  cases h7 : inB ve (-2000) 2000
  · have G := Lib.hid h7
    clear h7
    go_wp2_with fail
    go_ret
    exact ⟨ret_int (by rw [hv.out, G.out]; simp), bel0 w _⟩
  have H7 := Lib.hid h7
  clear h7
  go_wp2_with fail
  refine (xIn _ _ _ _).mono ?_; rintro e w8 ⟨rfl, rfl⟩
  cases h8 : inB vn (-2000) 2000
  · have G := Lib.hid h8
    clear h8
    go_wp2_with fail
    go_ret
    exact ⟨ret_int (by rw [hv.out, G.out]; simp), bel0 w _⟩
  have H8 := Lib.hid h8
  clear h8
  go_wp2_with fail
  refine (xValid _ _ _).mono ?_; rintro e w9 ⟨rfl, hB⟩
  have HB := Lib.hid hB
  clear hB
  cases h9 : ptB px py
  · have G := Lib.hid h9
    clear h9
    go_wp2_with fail
    go_ret
    exact ⟨ret_int (by rw [hv.out, H0.out, H1.out, H2.out, H3.out, H4.out, H5.out, H6.out, H7.out, H8.out, G.out]; rfl), bel_al HB.out⟩
  · have G := Lib.hid h9
    clear h9
    go_wp2_with fail
    go_ret
    exact ⟨ret_int (by rw [hv.out, H0.out, H1.out, H2.out, H3.out, H4.out, H5.out, H6.out, H7.out, H8.out, G.out]; rfl), bel_al HB.out⟩
end Go.Proofs.Ytkomooeohlcnaaa
