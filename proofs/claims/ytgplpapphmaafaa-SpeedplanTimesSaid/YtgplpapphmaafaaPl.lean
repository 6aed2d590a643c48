/- Layer 34: Greatest and Least, of the program and of the reference (printed by gen_pl.py). -/
import Derived.Test.YtgplpapphmaafaaPlRow
import Derived.Test.YtgplpapphmaafaaCsTight
import Derived.Test.YtgplpapphmaafaaCsTightR
namespace Go.Proofs.Ytgplpapphmaafaa
set_option linter.unusedSimpArgs false
set_option linter.unusedVariables false
open Go.RowKit

/-- the ending of a function that returns numbers of a tightened chain -/
def GrPost (f : Int × Int → Int) (ws st : Cs.Wins) (n : Nat) (w : World) (e : Ending) (w' : World) : Prop :=
  (Cs.tgE ws st = 0 → ∃ A c, e = .returned (.tuple #[.slice A n c, .int .i64 0]) ∧ Ints w' A n ((Cs.tight ws st).map f)) ∧ (Cs.tgE ws st ≠ 0 → e = .returned (.tuple #[.slice none 0 0, .int .i64 (Cs.tgE ws st)])) ∧ Below w.heap.size w w'
def GrRel (w : World) (g n : Nat) (l : List Int) (t : Value) (wr : World) : Prop := ∃ k : Nat, k ≤ n ∧ t = .int .i64 k ∧ RowI w g n (fillF l k) wr
def GsRel (w : World) (n : Nat) (l : List Int) (v t : Value) (wr : World) : Prop := ∃ k : Nat, k ≤ n ∧ t = .int .i64 k ∧ wr.ownsRow w.heap.size 2 1 v k ((l.take k).map fun x => .int .i64 x) ∧ Below w.heap.size w wr
theorem tgE_n {ws st : Cs.Wins} (h : Cs.tgE ws st = 0) : ws.length ≤ 64 := (Cs.csOk_of (Cs.tgE_0 h).1).len

set_option maxRecDepth 100000 in
set_option maxHeartbeats 4000000 in
theorem xGreatest (A S : Option Addr) (n cn m cm : Nat) (ws st : Cs.Wins) (w : World) (hw : Pairs w A n ws) (hs : Pairs w S m st) (hn : n ≤ maxLen) (hm : m ≤ maxLen) (hmc : m ≤ cm) (hcm : cm ≤ maxLen) :
    Calls Try.prog 28 #[.slice A n cn, .slice S m cm] w (GrPost (fun p => p.2) ws st n w) := by
  have HC := Lib.hid (xTighten A S n cn m cm ws st w hw hs hn hm hmc hcm)
  have HN := Lib.hid hw.len
  by_cases he : Cs.tgE ws st = 0
  · have hn64 : n ≤ 64 := by have := tgE_n he; have := hw.len; omega
    have HE := Lib.hid he
    have HC2 := Lib.hid (HC.out.mono (R' := fun e w' => ∃ A' c', e = .returned (.tuple #[.slice A' n c', .int .i64 0]) ∧ Pairs w' A' n (Cs.tight ws st) ∧ Below w.heap.size w w') fun e w' h => by
      obtain ⟨A', c', h1, h2⟩ := h.1 he
      exact ⟨A', c', h1, h2, h.2.2⟩)
    have HL := Lib.hid (show ((Cs.tight ws st).map fun p => p.2).length = n by rw [List.length_map, Cs.tight_len]; exact HN.out)
    clear hw hs he HC hn hm
    have hmk := run_make_row' (P := Try.prog) 22 2 (.int .i64 0) 8 Try.underlying22 infoI64 rfl .i64 .i64 n (by omega) (by omega)
    go_enter Try.func28, Try.ntmps28
    go_wp2_with fail
    refine HC2.out.mono ?_; rintro e w1 ⟨A', c', rfl, hP1, hB1⟩
    have HP := Lib.hid hP1
    have HB1 := Lib.hid hB1
    clear hP1 hB1
    go_wp2_with fail
    have HR0 := Lib.hid (RowI.made n HB1.out 2)
    have hw12 := Lib.hid ((Below.refl w1.heap.size w1).alloc (Nat.le_refl _) (.cells (madeCells #[.int .i64 0] n) 2))
    generalize hw2 : w1.alloc (.cells (madeCells #[.int .i64 0] n) 2) = w2 at *
    generalize hg : w1.heap.size = g at *
    go_loopw [25] (fun t wr => GrRel w g n ((Cs.tight ws st).map fun p => p.2) t wr ∧ Below g w1 wr) (fun t _ => n - (intOf t).toNat)
    case atStart => exact ⟨⟨0, by omega, rfl, HR0.out.congr fun j _ => fillF_zero _ j⟩, hw12.out⟩
    case round =>
      obtain ⟨⟨k, hk, rfl, hR⟩, hB⟩ := hrel
      have HR := Lib.hid hR
      have HB := Lib.hid hB
      clear hR hB
      by_cases hlt : k < n
      · obtain ⟨p, hp⟩ := get_ex (l := Cs.tight ws st) (by rw [Cs.tight_len]; exact HN.out) hlt
        have hpm := Lib.hid (show ((Cs.tight ws st).map fun p => p.2)[k]? = some (p.2) by rw [List.getElem?_map, hp]; rfl)
        obtain ⟨b, off, rfl, hb, c0, c1⟩ := HP.out.cell hp
        replace c0 := (HB.out.cell (p := ⟨b, off + k * 2, none⟩) (by rw [← hg]; exact hb)).trans c0
        replace c1 := (HB.out.cell (p := ⟨b, off + k * 2 + 1, none⟩) (by rw [← hg]; exact hb)).trans c1
        have d0 := HR.out.cell k hlt
        have d1 := HR.out.fr k
        have hgl := HR.out.lt
        clear hp
        go_wp2_with fail
        go_roundw
        case rel => exact ⟨⟨k + 1, by omega, by go_num, ((HR.out.set hlt _).congr fun j _ => fillF_step hpm.out j).alloc _⟩, (HB.out.setCell (p := ⟨g, k, none⟩) (Nat.le_refl _) _).alloc (by have := HR.out.lt; simp [World.setCell]; omega) _⟩
        case measure => simp only [intOf]; omega
      · have hkn := Lib.hid (show k = n by omega)
        go_wp2_with fail
        go_ret2
        have hfin := HR.out
        rw [hkn.out] at hfin
        exact ⟨fun _ => ⟨_, _, rfl, hfin.ints HL.out⟩, fun h => absurd HE.out h, hfin.bel⟩
  · have HE := Lib.hid he
    have hne : (Cs.tgE ws st != 0) = true := by rw [bne_iff_ne]; exact he
    have HC2 := Lib.hid (HC.out.mono (R' := fun e w' => e = .returned (.tuple #[.slice none 0 0, .int .i64 (Cs.tgE ws st)]) ∧ Below w.heap.size w w') fun e w' h => ⟨h.2.1 he, h.2.2⟩)
    have FIN := Lib.hid (show ∀ (w' : World), Below w.heap.size w w' → GrPost (fun p => p.2) ws st n w (.returned (.tuple #[.slice none 0 0, .int .i64 (Cs.tgE ws st)])) w' from fun w' hb => ⟨fun h => absurd h HE.out, fun _ => rfl, hb⟩)
    clear hw hs he HC
    generalize Cs.tgE ws st = E at *
    go_enter Try.func28, Try.ntmps28
    go_wp2_with fail
    refine HC2.out.mono ?_; rintro e w1 ⟨rfl, hB1⟩
    have HB1 := Lib.hid hB1
    clear hB1
    go_wp2_with fail
    go_ret2
    exact FIN.out _ HB1.out

set_option maxRecDepth 100000 in
set_option maxHeartbeats 4000000 in
theorem xLeast (A S : Option Addr) (n cn m cm : Nat) (ws st : Cs.Wins) (w : World) (hw : Pairs w A n ws) (hs : Pairs w S m st) (hn : n ≤ maxLen) (hm : m ≤ maxLen) (hmc : m ≤ cm) (hcm : cm ≤ maxLen) :
    Calls Try.prog 27 #[.slice A n cn, .slice S m cm] w (GrPost (fun p => p.1) ws st n w) := by
  have HC := Lib.hid (xTighten A S n cn m cm ws st w hw hs hn hm hmc hcm)
  have HN := Lib.hid hw.len
  by_cases he : Cs.tgE ws st = 0
  · have hn64 : n ≤ 64 := by have := tgE_n he; have := hw.len; omega
    have HE := Lib.hid he
    have HC2 := Lib.hid (HC.out.mono (R' := fun e w' => ∃ A' c', e = .returned (.tuple #[.slice A' n c', .int .i64 0]) ∧ Pairs w' A' n (Cs.tight ws st) ∧ Below w.heap.size w w') fun e w' h => by
      obtain ⟨A', c', h1, h2⟩ := h.1 he
      exact ⟨A', c', h1, h2, h.2.2⟩)
    have HL := Lib.hid (show ((Cs.tight ws st).map fun p => p.1).length = n by rw [List.length_map, Cs.tight_len]; exact HN.out)
    clear hw hs he HC hn hm
    have hmk := run_make_row' (P := Try.prog) 22 2 (.int .i64 0) 8 Try.underlying22 infoI64 rfl .i64 .i64 n (by omega) (by omega)
    go_enter Try.func27, Try.ntmps27
    go_wp2_with fail
    refine HC2.out.mono ?_; rintro e w1 ⟨A', c', rfl, hP1, hB1⟩
    have HP := Lib.hid hP1
    have HB1 := Lib.hid hB1
    clear hP1 hB1
    go_wp2_with fail
    have HR0 := Lib.hid (RowI.made n HB1.out 2)
    have hw12 := Lib.hid ((Below.refl w1.heap.size w1).alloc (Nat.le_refl _) (.cells (madeCells #[.int .i64 0] n) 2))
    generalize hw2 : w1.alloc (.cells (madeCells #[.int .i64 0] n) 2) = w2 at *
    generalize hg : w1.heap.size = g at *
    go_loopw [25] (fun t wr => GrRel w g n ((Cs.tight ws st).map fun p => p.1) t wr ∧ Below g w1 wr) (fun t _ => n - (intOf t).toNat)
    case atStart => exact ⟨⟨0, by omega, rfl, HR0.out.congr fun j _ => fillF_zero _ j⟩, hw12.out⟩
    case round =>
      obtain ⟨⟨k, hk, rfl, hR⟩, hB⟩ := hrel
      have HR := Lib.hid hR
      have HB := Lib.hid hB
      clear hR hB
      by_cases hlt : k < n
      · obtain ⟨p, hp⟩ := get_ex (l := Cs.tight ws st) (by rw [Cs.tight_len]; exact HN.out) hlt
        have hpm := Lib.hid (show ((Cs.tight ws st).map fun p => p.1)[k]? = some (p.1) by rw [List.getElem?_map, hp]; rfl)
        obtain ⟨b, off, rfl, hb, c0, c1⟩ := HP.out.cell hp
        replace c0 := (HB.out.cell (p := ⟨b, off + k * 2, none⟩) (by rw [← hg]; exact hb)).trans c0
        replace c1 := (HB.out.cell (p := ⟨b, off + k * 2 + 1, none⟩) (by rw [← hg]; exact hb)).trans c1
        have d0 := HR.out.cell k hlt
        have d1 := HR.out.fr k
        have hgl := HR.out.lt
        clear hp
        go_wp2_with fail
        go_roundw
        case rel => exact ⟨⟨k + 1, by omega, by go_num, ((HR.out.set hlt _).congr fun j _ => fillF_step hpm.out j).alloc _⟩, (HB.out.setCell (p := ⟨g, k, none⟩) (Nat.le_refl _) _).alloc (by have := HR.out.lt; simp [World.setCell]; omega) _⟩
        case measure => simp only [intOf]; omega
      · have hkn := Lib.hid (show k = n by omega)
        go_wp2_with fail
        go_ret2
        have hfin := HR.out
        rw [hkn.out] at hfin
        exact ⟨fun _ => ⟨_, _, rfl, hfin.ints HL.out⟩, fun h => absurd HE.out h, hfin.bel⟩
  · have HE := Lib.hid he
    have hne : (Cs.tgE ws st != 0) = true := by rw [bne_iff_ne]; exact he
    have HC2 := Lib.hid (HC.out.mono (R' := fun e w' => e = .returned (.tuple #[.slice none 0 0, .int .i64 (Cs.tgE ws st)]) ∧ Below w.heap.size w w') fun e w' h => ⟨h.2.1 he, h.2.2⟩)
    have FIN := Lib.hid (show ∀ (w' : World), Below w.heap.size w w' → GrPost (fun p => p.1) ws st n w (.returned (.tuple #[.slice none 0 0, .int .i64 (Cs.tgE ws st)])) w' from fun w' hb => ⟨fun h => absurd h HE.out, fun _ => rfl, hb⟩)
    clear hw hs he HC
    generalize Cs.tgE ws st = E at *
    go_enter Try.func27, Try.ntmps27
    go_wp2_with fail
    refine HC2.out.mono ?_; rintro e w1 ⟨rfl, hB1⟩
    have HB1 := Lib.hid hB1
    clear hB1
    go_wp2_with fail
    go_ret2
    exact FIN.out _ HB1.out

set_option maxRecDepth 100000 in
set_option maxHeartbeats 4000000 in
theorem rGreatest (A S : Option Addr) (n cn m cm : Nat) (ws st : Cs.Wins) (w : World) (hw : Pairs w A n ws) (hs : Pairs w S m st) (hn : n ≤ maxLen) (hm : m ≤ maxLen) (hmc : m ≤ cm) (hcm : cm ≤ maxLen) :
    Calls Try.prog 43 #[.slice A n cn, .slice S m cm] w (GrPost (fun p => p.2) ws st n w) := by
  have HC := Lib.hid (rTighten A S n cn m cm ws st w hw hs hn hm hmc hcm)
  have HN := Lib.hid hw.len
  by_cases he : Cs.tgE ws st = 0
  · have hn64 : n ≤ 64 := by have := tgE_n he; have := hw.len; omega
    have HE := Lib.hid he
    have HC2 := Lib.hid (HC.out.mono (R' := fun e w' => ∃ A' c', e = .returned (.tuple #[.slice A' n c', .int .i64 0]) ∧ Pairs w' A' n (Cs.tight ws st) ∧ Below w.heap.size w w') fun e w' h => by
      obtain ⟨A', c', h1, h2⟩ := h.1 he
      exact ⟨A', c', h1, h2, h.2.2⟩)
    have HL := Lib.hid (show ((Cs.tight ws st).map fun p => p.2).length = n by rw [List.length_map, Cs.tight_len]; exact HN.out)
    clear hw hs he HC hn hm
    obtain ⟨i0, hi, hz0, hz1, hz2⟩ := info_parts infoI64
    go_enter Try.func43, Try.ntmps43
    go_wp2_with fail
    refine HC2.out.mono ?_; rintro e w1 ⟨A', c', rfl, hP1, hB1⟩
    have HP := Lib.hid hP1
    have HB1 := Lib.hid hB1
    clear hP1 hB1
    go_wp2_with fail
    go_loopw [8, 22] (fun v t wr => GsRel w1 n ((Cs.tight ws st).map fun p => p.2) v t wr) (fun _ t _ => n - (intOf t).toNat)
    case atStart => exact ⟨0, by omega, rfl, World.ownsRow_nil _ _ _ _, Below.refl _ _⟩
    case round =>
      obtain ⟨k, hk, rfl, hO, hB⟩ := hrel
      have HO := Lib.hid hO
      have HB := Lib.hid hB
      have hsz := hB.size
      clear hO hB
      by_cases hlt : k < n
      · obtain ⟨p, hp⟩ := get_ex (l := Cs.tight ws st) (by rw [Cs.tight_len]; exact HN.out) hlt
        have hpm := Lib.hid (take_succ_get ((Cs.tight ws st).map fun p => p.2) k (p.2) (by rw [List.getElem?_map, hp]; rfl))
        obtain ⟨b, off, rfl, hb, c0, c1⟩ := HP.out.cell hp
        replace c0 := (HB.out.cell (p := ⟨b, off + k * 2, none⟩) hb).trans c0
        replace c1 := (HB.out.cell (p := ⟨b, off + k * 2 + 1, none⟩) hb).trans c1
        clear hp
        go_wp2_with (at_builtin; refine wpList_append_own _ rfl _ _ 22 rfl w1.heap.size 2 i0 (.int .i64 0) 1 8 Try.underlying22 hi hz0 hz1 hz2 rfl (by decide) _ _ _ rfl ((HO.out.alloc _).alloc _) _ 1 1 [.int .i64 (p.2)] rfl rfl (news_new _ _ (by simp) _ _ _ rfl) (by intro u hu; simp at hu; subst hu; rfl) (by unfold maxLen; omega) (by omega) (by simp; omega) ?_; intro v1 w3 hown1 hgrow1 hnil1)
        go_roundw
        case rel => exact ⟨k + 1, by omega, by go_num, by rw [hpm.out, List.map_append]; exact hown1, ((HB.out.alloc HB.out.size _).alloc (by simp; omega) _).grown hgrow1 (by simp; omega) (own_block_ge HO.out)⟩
        case measure => simp only [intOf]; omega
      · have hkn := Lib.hid (show k = n by omega)
        have hfin := HO.out
        rw [hkn.out, List.take_of_length_le (by rw [HL.out]; exact Nat.le_refl _)] at hfin
        obtain ⟨A2, c2, hv⟩ := own_form hfin
        subst hv
        have HF := Lib.hid (Ints.of_own hfin)
        clear hfin
        go_wp2_with fail
        go_ret2
        exact ⟨fun _ => ⟨_, _, rfl, HF.out⟩, fun h => absurd HE.out h, bel_trans HB1.out HB.out⟩
  · have HE := Lib.hid he
    have hne : (Cs.tgE ws st != 0) = true := by rw [bne_iff_ne]; exact he
    have HC2 := Lib.hid (HC.out.mono (R' := fun e w' => e = .returned (.tuple #[.slice none 0 0, .int .i64 (Cs.tgE ws st)]) ∧ Below w.heap.size w w') fun e w' h => ⟨h.2.1 he, h.2.2⟩)
    have FIN := Lib.hid (show ∀ (w' : World), Below w.heap.size w w' → GrPost (fun p => p.2) ws st n w (.returned (.tuple #[.slice none 0 0, .int .i64 (Cs.tgE ws st)])) w' from fun w' hb => ⟨fun h => absurd h HE.out, fun _ => rfl, hb⟩)
    clear hw hs he HC
    generalize Cs.tgE ws st = E at *
    go_enter Try.func43, Try.ntmps43
    go_wp2_with fail
    refine HC2.out.mono ?_; rintro e w1 ⟨rfl, hB1⟩
    have HB1 := Lib.hid hB1
    clear hB1
    go_wp2_with fail
    go_ret2
    exact FIN.out _ HB1.out

end Go.Proofs.Ytgplpapphmaafaa
