/- Layer 34: Cruise of the program and of the reference (printed by gen_cr.py). -/
import Derived.Test.YtgmpaffoajmmmaaBl
namespace Go.Proofs.Ytgmpaffoajmmmaa
set_option linter.unusedSimpArgs false
set_option linter.unusedVariables false
open Go.RowKit

/-- the first and the last place of a value among the first k of a list -/
def scn (l : List Int) (v : Int) : Nat → Int × Int
  | 0 => (-1, -1)
  | k + 1 => if l.getD k 0 = v then (if (scn l v k).1 < 0 then (k : Int) else (scn l v k).1, (k : Int)) else scn l v k
def crV (ws st : Cs.Wins) (level : Int) : List Int := (Cs.tight (Cs.lowL ws (List.replicate ws.length level)) st).map fun p => p.2
def crE (ws st : Cs.Wins) (level : Int) : Int := Cs.belE ws st (List.replicate ws.length level)
def CrPost (ws st : Cs.Wins) (level : Int) (n : Nat) (w : World) (e : Ending) (w' : World) : Prop :=
  (crE ws st level = 0 → ∃ A c, e = .returned (.tuple #[.slice A n c, .int .i64 (scn (crV ws st level) level n).1, .int .i64 (scn (crV ws st level) level n).2, .int .i64 0]) ∧ Ints w' A n (crV ws st level)) ∧
  (crE ws st level ≠ 0 → e = .returned (.tuple #[.slice none 0 0, .int .i64 0, .int .i64 0, .int .i64 (crE ws st level)])) ∧ Below w.heap.size w w'
def CfRel (w : World) (g n : Nat) (level : Int) (t : Value) (wr : World) : Prop := ∃ k : Nat, k ≤ n ∧ t = .int .i64 k ∧ RowI w g n (fillF (List.replicate n level) k) wr
def CsRel (l : List Int) (level : Int) (n : Nat) (f z t : Value) : Prop := ∃ k : Nat, k ≤ n ∧ t = .int .i64 k ∧ f = .int .i64 (scn l level k).1 ∧ z = .int .i64 (scn l level k).2
theorem scn_yes {l : List Int} {v : Int} {k : Nat} (h : l[k]? = some v) : scn l v (k + 1) = (if (scn l v k).1 < 0 then (k : Int) else (scn l v k).1, (k : Int)) := by
  show (if l.getD k 0 = v then _ else _) = _
  rw [if_pos (by rw [List.getD_eq_getElem?_getD, h]; rfl)]
theorem scn_no {l : List Int} {v x : Int} {k : Nat} (h : l[k]? = some x) (hx : x ≠ v) : scn l v (k + 1) = scn l v k := by
  show (if l.getD k 0 = v then _ else _) = _
  rw [if_neg (by rw [List.getD_eq_getElem?_getD, h]; exact hx)]

set_option maxRecDepth 100000 in
set_option maxHeartbeats 4000000 in
theorem xCruise (A S : Option Addr) (n cn m cm : Nat) (ws st : Cs.Wins) (level : Int) (w : World) (hw : Pairs w A n ws) (hs : Pairs w S m st) (hn : n ≤ 8796093022208) (hm : m ≤ maxLen) (hmc : m ≤ cm) (hcm : cm ≤ maxLen) (hA : A = none → cn = 0) :
    Calls Try.prog 17 #[.slice A n cn, .slice S m cm, .int .i64 level] w (CrPost ws st level n w) := by
  have HN := Lib.hid hw.len
  have HB := Lib.hid (fun V nv cv W (hV : Ints W V nv (List.replicate ws.length level)) (hnv : nv ≤ maxLen) (h : Below w.heap.size w W) => xBelow A S V n cn m cm nv cv ws st (List.replicate ws.length level) W (hw.below h) (hs.below h) hV (by unfold maxLen; omega) hm hnv hmc hcm)
  have hmk := run_make_row' (P := Try.prog) 25 2 (.int .i64 0) 8 Try.underlying25 infoI64 rfl .i64 .i64 n (by omega) (by omega)
  clear hw hs hm hmc hcm hA
  go_enter Try.func17, Try.ntmps17
  go_wp2_with fail
  have HR0 := Lib.hid (RowI.made n (Below.refl w.heap.size w) 2)
  generalize hw2 : w.alloc (.cells (madeCells #[.int .i64 0] n) 2) = w2 at *
  generalize hg : w.heap.size = g at *
  go_loopw [19] (fun t wr => CfRel w g n level t wr) (fun t _ => n - (intOf t).toNat)
  case atStart => exact ⟨0, by omega, rfl, HR0.out.congr fun j _ => fillF_zero _ j⟩
  case round =>
    obtain ⟨k, hk, rfl, hR⟩ := hrel
    have HR := Lib.hid hR
    clear hR
    by_cases hlt : k < n
    · have hpm := Lib.hid (show (List.replicate n level)[k]? = some level by rw [List.getElem?_replicate, if_pos hlt])
      have d0 := HR.out.cell k hlt
      have d1 := HR.out.fr k
      have hgl := HR.out.lt
      go_wp2_with fail
      go_roundw
      case rel => exact ⟨k + 1, by omega, by go_num, (HR.out.set hlt _).congr fun j _ => fillF_step hpm.out j⟩
      case measure => simp only [intOf]; omega
    · have hkn := Lib.hid (show k = n by omega)
      have hfin := HR.out
      rw [hkn.out] at hfin
      have HBR := Lib.hid hfin.bel
      have HBC := HB.out (some ⟨g, 0, none⟩) n n wr (by rw [HN.out]; exact hfin.ints (by simp)) (by unfold maxLen; omega) (by rw [← hg]; exact hfin.bel)
      have HLEN := Lib.hid (show (crV ws st level).length = n by unfold crV; rw [List.length_map, Cs.tight_len, Cs.lowL_len]; exact HN.out)
      by_cases he : crE ws st level = 0
      · have HC2 := Lib.hid (HBC.mono (R' := fun e w' => ∃ A' c', e = .returned (.tuple #[.slice A' n c', .int .i64 0]) ∧ Ints w' A' n (crV ws st level) ∧ Below wr.heap.size wr w') fun e w' h => by
          obtain ⟨A', c', h1, h2⟩ := h.1 he
          exact ⟨A', c', h1, h2, h.2.2⟩)
        have HE := Lib.hid he
        clear he hfin HBC
        go_wp2_with fail
        refine HC2.out.mono ?_; rintro e w3 ⟨A', c', rfl, hI, hB⟩
        have HI := Lib.hid hI
        have HBW := Lib.hid hB
        clear hI hB
        go_wp2_with fail
        go_loop [7, 8, 39] (fun f z t => CsRel (crV ws st level) level n f z t) (fun _ _ t => n - (intOf t).toNat)
        case atStart => exact ⟨0, by omega, rfl, rfl, rfl⟩
        case round =>
          obtain ⟨q, hq, rfl, rfl, rfl⟩ := hrel
          by_cases hlt2 : q < n
          · obtain ⟨x, hx⟩ := get_ex HLEN.out hlt2
            obtain ⟨bv, ov, rfl, hbv, cx⟩ := ints_cell HI.out hx
            have HX := Lib.hid hx
            clear hx
            by_cases hxl : x = level
            · subst hxl
              have HY := Lib.hid (scn_yes HX.out)
              by_cases hf : (scn (crV ws st x) x q).1 < 0
              · have HF := Lib.hid hf
                have HS3 := Lib.hid (show scn (crV ws st x) x (q + 1) = ((q : Int), (q : Int)) by rw [HY.out, if_pos HF.out])
                generalize (scn (crV ws st x) x q).1 = F0 at *
                generalize (scn (crV ws st x) x q).2 = Z0 at *
                go_wp2_with fail
                go_round
                case rel => exact ⟨q + 1, by omega, by go_num, by rw [HS3.out], by rw [HS3.out]⟩
                case measure => simp only [intOf]; omega
              · have HF := Lib.hid hf
                have HS3 := Lib.hid (show scn (crV ws st x) x (q + 1) = ((scn (crV ws st x) x q).1, (q : Int)) by rw [HY.out, if_neg HF.out])
                clear HY
                generalize (scn (crV ws st x) x q).1 = F0 at *
                generalize (scn (crV ws st x) x q).2 = Z0 at *
                go_wp2_with fail
                go_round
                case rel => exact ⟨q + 1, by omega, by go_num, by rw [HS3.out], by rw [HS3.out]⟩
                case measure => simp only [intOf]; omega
            · have HS3 := Lib.hid (scn_no HX.out hxl)
              have hxn : (x != level) = true := by rw [bne_iff_ne]; exact hxl
              generalize hF0 : (scn (crV ws st level) level q).1 = F0 at *
              generalize hZ0 : (scn (crV ws st level) level q).2 = Z0 at *
              have HFZ := Lib.hid (And.intro hF0 hZ0)
              clear hF0 hZ0
              go_wp2_with fail
              go_round
              case rel => exact ⟨q + 1, by omega, by go_num, by rw [HS3.out, HFZ.out.1], by rw [HS3.out, HFZ.out.2]⟩
              case measure => simp only [intOf]; omega
          · have hqn := Lib.hid (show q = n by omega)
            have hfin2 : CrPost ws st level n w (.returned (.tuple #[.slice A' n c', .int .i64 (scn (crV ws st level) level q).1, .int .i64 (scn (crV ws st level) level q).2, .int .i64 0])) w3 := by
              rw [hqn.out]
              exact ⟨fun _ => ⟨_, _, rfl, HI.out⟩, fun h => absurd HE.out h, bel_trans HBR.out HBW.out⟩
            have HFIN := Lib.hid hfin2
            clear hfin2
            generalize (scn (crV ws st level) level q).1 = F0 at *
            generalize (scn (crV ws st level) level q).2 = Z0 at *
            go_wp2_with fail
            refine bodyPost_ret (results_tmp4 rfl _ _ _) rfl ?_
            exact HFIN.out
      · have hne : (crE ws st level != 0) = true := by rw [bne_iff_ne]; exact he
        have HC2 := Lib.hid (HBC.mono (R' := fun e w' => e = .returned (.tuple #[.slice none 0 0, .int .i64 (crE ws st level)]) ∧ Below wr.heap.size wr w') fun e w' h => ⟨h.2.1 he, h.2.2⟩)
        have FIN := Lib.hid (show ∀ w', Below w.heap.size w w' → CrPost ws st level n w (.returned (.tuple #[.slice none 0 0, .int .i64 0, .int .i64 0, .int .i64 (crE ws st level)])) w' from fun w' hb => ⟨fun h => absurd h he, fun _ => rfl, hb⟩)
        clear he hfin HBC
        generalize crE ws st level = E at *
        go_wp2_with fail
        refine HC2.out.mono ?_; rintro e w3 ⟨rfl, hB⟩
        have HBW := Lib.hid hB
        clear hB
        go_wp2_with fail
        refine bodyPost_ret (results_tmp4 rfl _ _ _) rfl ?_
        exact FIN.out _ (bel_trans HBR.out HBW.out)

set_option maxRecDepth 100000 in
set_option maxHeartbeats 4000000 in
theorem rCruise (A S : Option Addr) (n cn m cm : Nat) (ws st : Cs.Wins) (level : Int) (w : World) (hw : Pairs w A n ws) (hs : Pairs w S m st) (hn : n ≤ 8796093022208) (hm : m ≤ maxLen) (hmc : m ≤ cm) (hcm : cm ≤ maxLen) (hA : A = none → cn = 0) :
    Calls Try.prog 18 #[.slice A n cn, .slice S m cm, .int .i64 level] w (CrPost ws st level n w) := by
  have HN := Lib.hid hw.len
  have HB := Lib.hid (fun V nv cv W (hV : Ints W V nv (List.replicate ws.length level)) (hnv : nv ≤ maxLen) (h : Below w.heap.size w W) => rBelow A S V n cn m cm nv cv ws st (List.replicate ws.length level) W (hw.below h) (hs.below h) hV (by unfold maxLen; omega) hm hnv hmc hcm hA)
  have hmk := run_make_row' (P := Try.prog) 25 2 (.int .i64 0) 8 Try.underlying25 infoI64 rfl .i64 .i64 n (by omega) (by omega)
  clear hw hs hm hmc hcm hA
  go_enter Try.func18, Try.ntmps18
  go_wp2_with fail
  have HR0 := Lib.hid (RowI.made n (Below.refl w.heap.size w) 2)
  generalize hw2 : w.alloc (.cells (madeCells #[.int .i64 0] n) 2) = w2 at *
  generalize hg : w.heap.size = g at *
  go_loopw [23] (fun t wr => CfRel w g n level t wr) (fun t _ => n - (intOf t).toNat)
  case atStart => exact ⟨0, by omega, rfl, HR0.out.congr fun j _ => fillF_zero _ j⟩
  case round =>
    obtain ⟨k, hk, rfl, hR⟩ := hrel
    have HR := Lib.hid hR
    clear hR
    by_cases hlt : k < n
    · have hpm := Lib.hid (show (List.replicate n level)[k]? = some level by rw [List.getElem?_replicate, if_pos hlt])
      have d0 := HR.out.cell k hlt
      have d1 := HR.out.fr k
      have hgl := HR.out.lt
      go_wp2_with fail
      go_roundw
      case rel => exact ⟨k + 1, by omega, by go_num, (HR.out.set hlt _).congr fun j _ => fillF_step hpm.out j⟩
      case measure => simp only [intOf]; omega
    · have hkn := Lib.hid (show k = n by omega)
      have hfin := HR.out
      rw [hkn.out] at hfin
      have HBR := Lib.hid hfin.bel
      have HBC := HB.out (some ⟨g, 0, none⟩) n n wr (by rw [HN.out]; exact hfin.ints (by simp)) (by unfold maxLen; omega) (by rw [← hg]; exact hfin.bel)
      have HLEN := Lib.hid (show (crV ws st level).length = n by unfold crV; rw [List.length_map, Cs.tight_len, Cs.lowL_len]; exact HN.out)
      by_cases he : crE ws st level = 0
      · have HC2 := Lib.hid (HBC.mono (R' := fun e w' => ∃ A' c', e = .returned (.tuple #[.slice A' n c', .int .i64 0]) ∧ Ints w' A' n (crV ws st level) ∧ Below wr.heap.size wr w') fun e w' h => by
          obtain ⟨A', c', h1, h2⟩ := h.1 he
          exact ⟨A', c', h1, h2, h.2.2⟩)
        have HE := Lib.hid he
        clear he hfin HBC
        go_wp2_with fail
        refine HC2.out.mono ?_; rintro e w3 ⟨A', c', rfl, hI, hB⟩
        have HI := Lib.hid hI
        have HBW := Lib.hid hB
        clear hI hB
        go_wp2_with fail
        go_loop [14, 15, 43] (fun f z t => CsRel (crV ws st level) level n f z t) (fun _ _ t => n - (intOf t).toNat)
        case atStart => exact ⟨0, by omega, rfl, rfl, rfl⟩
        case round =>
          obtain ⟨q, hq, rfl, rfl, rfl⟩ := hrel
          by_cases hlt2 : q < n
          · obtain ⟨x, hx⟩ := get_ex HLEN.out hlt2
            obtain ⟨bv, ov, rfl, hbv, cx⟩ := ints_cell HI.out hx
            have HX := Lib.hid hx
            clear hx
            by_cases hxl : x = level
            · subst hxl
              have HY := Lib.hid (scn_yes HX.out)
              by_cases hf : (scn (crV ws st x) x q).1 < 0
              · have HF := Lib.hid hf
                have HS3 := Lib.hid (show scn (crV ws st x) x (q + 1) = ((q : Int), (q : Int)) by rw [HY.out, if_pos HF.out])
                generalize (scn (crV ws st x) x q).1 = F0 at *
                generalize (scn (crV ws st x) x q).2 = Z0 at *
                go_wp2_with fail
                go_round
                case rel => exact ⟨q + 1, by omega, by go_num, by rw [HS3.out], by rw [HS3.out]⟩
                case measure => simp only [intOf]; omega
              · have HF := Lib.hid hf
                have HS3 := Lib.hid (show scn (crV ws st x) x (q + 1) = ((scn (crV ws st x) x q).1, (q : Int)) by rw [HY.out, if_neg HF.out])
                clear HY
                generalize (scn (crV ws st x) x q).1 = F0 at *
                generalize (scn (crV ws st x) x q).2 = Z0 at *
                go_wp2_with fail
                go_round
                case rel => exact ⟨q + 1, by omega, by go_num, by rw [HS3.out], by rw [HS3.out]⟩
                case measure => simp only [intOf]; omega
            · have HS3 := Lib.hid (scn_no HX.out hxl)
              have hxn : (x == level) = false := beq_eq_false_iff_ne.2 hxl
              generalize hF0 : (scn (crV ws st level) level q).1 = F0 at *
              generalize hZ0 : (scn (crV ws st level) level q).2 = Z0 at *
              have HFZ := Lib.hid (And.intro hF0 hZ0)
              clear hF0 hZ0
              go_wp2_with fail
              go_round
              case rel => exact ⟨q + 1, by omega, by go_num, by rw [HS3.out, HFZ.out.1], by rw [HS3.out, HFZ.out.2]⟩
              case measure => simp only [intOf]; omega
          · have hqn := Lib.hid (show q = n by omega)
            have hfin2 : CrPost ws st level n w (.returned (.tuple #[.slice A' n c', .int .i64 (scn (crV ws st level) level q).1, .int .i64 (scn (crV ws st level) level q).2, .int .i64 0])) w3 := by
              rw [hqn.out]
              exact ⟨fun _ => ⟨_, _, rfl, HI.out⟩, fun h => absurd HE.out h, bel_trans HBR.out HBW.out⟩
            have HFIN := Lib.hid hfin2
            clear hfin2
            generalize (scn (crV ws st level) level q).1 = F0 at *
            generalize (scn (crV ws st level) level q).2 = Z0 at *
            go_wp2_with fail
            refine bodyPost_ret (results_tmp4 rfl _ _ _) rfl ?_
            exact HFIN.out
      · have hne : (crE ws st level != 0) = true := by rw [bne_iff_ne]; exact he
        have HC2 := Lib.hid (HBC.mono (R' := fun e w' => e = .returned (.tuple #[.slice none 0 0, .int .i64 (crE ws st level)]) ∧ Below wr.heap.size wr w') fun e w' h => ⟨h.2.1 he, h.2.2⟩)
        have FIN := Lib.hid (show ∀ w', Below w.heap.size w w' → CrPost ws st level n w (.returned (.tuple #[.slice none 0 0, .int .i64 0, .int .i64 0, .int .i64 (crE ws st level)])) w' from fun w' hb => ⟨fun h => absurd h he, fun _ => rfl, hb⟩)
        clear he hfin HBC
        generalize crE ws st level = E at *
        go_wp2_with fail
        refine HC2.out.mono ?_; rintro e w3 ⟨rfl, hB⟩
        have HBW := Lib.hid hB
        clear hB
        go_wp2_with fail
        refine bodyPost_ret (results_tmp4 rfl _ _ _) rfl ?_
        exact FIN.out _ (bel_trans HBR.out HBW.out)
end Go.Proofs.Ytgmpaffoajmmmaa
