/- Layers 59 and 41: the checks of a sensor and of a report, of the program and of the reference. -/
import Derived.Test.YtkomooeohlcnaaaSimPlain2
namespace Go.Proofs.Ytkomooeohlcnaaa
set_option linter.unusedSimpArgs false
set_option linter.unusedVariables false
open Go.RowKit
set_option maxRecDepth 100000 in
set_option maxHeartbeats 2000000 in
theorem xcheckSensor (co so ki qx qy bo we : Int) (hso : I64 so) (w : World) : Calls Try.prog 24 #[.agg #[.int .i64 co, .int .i64 so, .int .u8 ki, .int .i64 qx, .int .i64 qy, .int .i64 bo, .int .i64 we]] w fun e w' => e = .returned (.int .i64 (snsE co so ki qx qy bo we)) ∧ Below w.heap.size w w' := by
  have hv := Lib.hid (show snsE co so ki qx qy bo we = if (((co == 1) || (co == 2)) && (inB so 1 8 && inB we 1 16)) = true then
    (if ((ki == 1) || (ki == 2) || (ki == 3)) = true then (if inB bo 0 (if (ki == 3) = true then 3600000 else 600000) = true then (if ptB qx qy = true then 0 else 1) else 2) else 17)
    else 2 from rfl)
  obtain ⟨so0, so1⟩ := hso
  rcases (show (co == 1) = true ∨ (co == 2) = true ∨ ((co == 1) = false ∧ (co == 2) = false) by
    cases (co == 1) <;> cases (co == 2) <;> simp) with hc | hc | ⟨hc, hd⟩
  rotate_left 2
  · have hc' : (co != 1) = true := by rw [bne, hc]; rfl
    have hd' : (co != 2) = true := by rw [bne, hd]; rfl
    have HC := Lib.hid hc
    have HD := Lib.hid hd
    clear hc hd
    go_enter Try.func24, Try.ntmps24
    go_wp2_with fail
    go_ret
    exact ⟨ret_int (by rw [hv.out, HC.out, HD.out]; rfl), bel0 w _⟩
  all_goals (
    obtain rfl := eq_of_beq hc
    clear hc
    go_enter Try.func24, Try.ntmps24
    go_wp2_with fail
    refine (xIn _ _ _ _).mono ?_; rintro e w1 ⟨rfl, rfl⟩
    cases hs : inB so 1 8
    · go_wp2_with fail
      go_ret
      exact ⟨ret_int (by rw [hv.out, hs]; rfl), bel0 w _⟩
    go_wp2_with fail
    refine (xIn _ _ _ _).mono ?_; rintro e w2 ⟨rfl, rfl⟩
    cases hw : inB we 1 16
    · go_wp2_with fail
      go_ret
      exact ⟨ret_int (by rw [hv.out, hs, hw]; rfl), bel0 w _⟩
    rcases (show (ki == 1) = true ∨ (ki == 2) = true ∨ (ki == 3) = true ∨ ((ki == 1) = false ∧ (ki == 2) = false ∧ (ki == 3) = false) by
      cases (ki == 1) <;> cases (ki == 2) <;> cases (ki == 3) <;> simp) with hk | hk | hk | ⟨hk1, hk2, hk3⟩
    rotate_left 3
    · have HC := Lib.hid (And.intro hk1 (And.intro hk2 hk3))
      go_wp2_with fail
      go_ret
      exact ⟨ret_int (by rw [hv.out, hs, hw, HC.out.1, HC.out.2.1, HC.out.2.2]; rfl), bel0 w _⟩
    · obtain rfl := eq_of_beq hk
      clear hk
      go_wp2_with fail
      refine (xIn _ _ _ _).mono ?_; rintro e w3 ⟨rfl, rfl⟩
      cases hb : inB bo 0 600000
      · have HC := Lib.hid hb
        clear hb
        go_wp2_with fail
        go_ret
        exact ⟨ret_int (by rw [hv.out, hs, hw]; simp [HC.out]), bel0 w _⟩
      have HC := Lib.hid hb
      clear hb
      go_wp2_with fail
      refine (xValid _ _ _).mono ?_; rintro e w9 ⟨rfl, hB⟩
      have HB := Lib.hid hB
      clear hB
      cases h9 : ptB qx qy
      · have G := Lib.hid h9
        clear h9
        go_wp2_with fail
        go_ret
        exact ⟨ret_int (by rw [hv.out, hs, hw, G.out]; simp [HC.out]), bel_al HB.out⟩
      · have G := Lib.hid h9
        clear h9
        go_wp2_with fail
        go_ret
        exact ⟨ret_int (by rw [hv.out, hs, hw, G.out]; simp [HC.out]), bel_al HB.out⟩
    · obtain rfl := eq_of_beq hk
      clear hk
      go_wp2_with fail
      refine (xIn _ _ _ _).mono ?_; rintro e w3 ⟨rfl, rfl⟩
      cases hb : inB bo 0 600000
      · have HC := Lib.hid hb
        clear hb
        go_wp2_with fail
        go_ret
        exact ⟨ret_int (by rw [hv.out, hs, hw]; simp [HC.out]), bel0 w _⟩
      have HC := Lib.hid hb
      clear hb
      go_wp2_with fail
      refine (xValid _ _ _).mono ?_; rintro e w9 ⟨rfl, hB⟩
      have HB := Lib.hid hB
      clear hB
      cases h9 : ptB qx qy
      · have G := Lib.hid h9
        clear h9
        go_wp2_with fail
        go_ret
        exact ⟨ret_int (by rw [hv.out, hs, hw, G.out]; simp [HC.out]), bel_al HB.out⟩
      · have G := Lib.hid h9
        clear h9
        go_wp2_with fail
        go_ret
        exact ⟨ret_int (by rw [hv.out, hs, hw, G.out]; simp [HC.out]), bel_al HB.out⟩
    · obtain rfl := eq_of_beq hk
      clear hk
      go_wp2_with fail
      refine (xIn _ _ _ _).mono ?_; rintro e w3 ⟨rfl, rfl⟩
      cases hb : inB bo 0 3600000
      · have HC := Lib.hid hb
        clear hb
        go_wp2_with fail
        go_ret
        exact ⟨ret_int (by rw [hv.out, hs, hw]; simp [HC.out]), bel0 w _⟩
      have HC := Lib.hid hb
      clear hb
      go_wp2_with fail
      refine (xValid _ _ _).mono ?_; rintro e w9 ⟨rfl, hB⟩
      have HB := Lib.hid hB
      clear hB
      cases h9 : ptB qx qy
      · have G := Lib.hid h9
        clear h9
        go_wp2_with fail
        go_ret
        exact ⟨ret_int (by rw [hv.out, hs, hw, G.out]; simp [HC.out]), bel_al HB.out⟩
      · have G := Lib.hid h9
        clear h9
        go_wp2_with fail
        go_ret
        exact ⟨ret_int (by rw [hv.out, hs, hw, G.out]; simp [HC.out]), bel_al HB.out⟩)
end Go.Proofs.Ytkomooeohlcnaaa
