/- Layer 33: the contract of the reference's All (printed by gen_all.py). -/
import Derived.Test.YtgplpapphmaafaaCsAll
namespace Go.Proofs.Ytgplpapphmaafaa
set_option linter.unusedSimpArgs false
set_option linter.unusedVariables false
open Go.RowKit

/-- one row of the call's own -/
structure RowRel (w : World) (L : Cs.Wins) (v : Value) (wr : World) : Prop where
  s : wr.ownsRow w.heap.size 64 2 v L.length (L.flatMap win)
  bel : Below w.heap.size w wr
theorem RowRel.below {w wr w2 : World} {L : Cs.Wins} {v : Value} (h : RowRel w L v wr) (hb : Below wr.heap.size wr w2) : RowRel w L v w2 := ⟨own_below h.s hb, bel_trans h.bel hb⟩
theorem RowRel.grow {w wr w1 : World} {L : Cs.Wins} {v v1 : Value} {o : Obj} {q : Int × Int} (h : RowRel w L v wr) (hown : w1.ownsRow w.heap.size 64 2 v1 (L.length + 1) (L.flatMap win ++ win q)) (hg : (wr.alloc o).grownBy w1 v.ownBlock) : RowRel w (L ++ [q]) v1 w1 :=
  ⟨by rw [flat_snoc, List.length_append]; exact hown, (h.bel.alloc h.bel.size _).grown hg (by have := h.bel.size; simp; omega) (own_block_ge h.s)⟩
def Al1 (ws st : Cs.Wins) (n : Nat) (w : World) (v t : Value) (wr : World) : Prop := ∃ i : Nat, i ≤ n ∧ t = .int .i64 i ∧ RowRel w (Cs.sU ws st i) v wr
def Al2 (ws st : Cs.Wins) (n : Nat) (w : World) (v t : Value) (wr : World) : Prop := ∃ i : Nat, i ≤ n ∧ t = .int .i64 i ∧ RowRel w (Cs.sU ws st n ++ Cs.pU ws st n i) v wr
def Al3 (ws st : Cs.Wins) (n i : Nat) (w : World) (v t : Value) (wr : World) : Prop := ∃ k : Nat, i < k ∧ k ≤ n ∧ t = .int .i64 k ∧ RowRel w (Cs.sU ws st n ++ (Cs.pU ws st n i ++ Cs.rU ws st i k)) v wr
theorem al_len (ws st : Cs.Wins) (n i j : Nat) (hn : n ≤ 64) (hi : i < n) (hj : j ≤ n) : (Cs.sU ws st n ++ (Cs.pU ws st n i ++ Cs.rU ws st i j)).length ≤ 4300 := by
  rw [List.length_append]
  have h1 := pr_len ws st n i j hn hi hj
  have h2 := Cs.sU_len ws st n
  omega

set_option maxRecDepth 100000 in
set_option maxHeartbeats 4000000 in
theorem rAll (A S : Option Addr) (n cn m cm : Nat) (ws st : Cs.Wins) (w : World) (hw : Pairs w A n ws) (hs : Pairs w S m st) (hn : n ≤ maxLen) (hm : m ≤ maxLen) (hmc : m ≤ cm) (hcm : cm ≤ maxLen) :
    Calls Try.prog 53 #[.slice A n cn, .slice S m cm] w (AllPost ws st w) := by
  have HC := Lib.hid (rCheck A S n cn m cm ws st w hw hs hn hm)
  by_cases he : Cs.chkE ws st = 0
  · rw [he] at HC
    have hok := Cs.csOk_of he
    have hn64 : n ≤ 64 := by have := hok.len; have := hw.len; omega
    have HN := Lib.hid hw.len
    have HE := Lib.hid he
    have HOK := Lib.hid hok
    have HX := Lib.hid (fun W i j (hb : Below w.heap.size w W) (hij : i ≤ j) (hj : j < n) => rexcess A S n cn m cm i j ws st W (hw.below hb) (hs.below hb) hmc hcm hok hij hj)
    obtain ⟨i0, hi, hz0, hz1, hz2⟩ := info_parts infoConf
    clear hw hs he hok hn hm
    go_enter Try.func53, Try.ntmps53
    go_wp2_with fail
    refine HC.out.mono ?_; rintro e w1 ⟨rfl, hB1⟩
    have HB1 := Lib.hid hB1
    clear hB1
    go_wp2_with fail
    go_loopw [7, 19] (fun v t wr => Al1 ws st n w v t wr) (fun _ t _ => n - (intOf t).toNat)
    case atStart => exact ⟨0, by omega, rfl, ⟨World.ownsRow_nil _ _ _ _, HB1.out⟩⟩
    case round =>
      obtain ⟨i, hi', rfl, hR1⟩ := hrel
      have HR1 := Lib.hid hR1
      clear hR1
      by_cases hlt : i < n
      · have HXX := Lib.hid (HX.out wr i i HR1.out.bel (Nat.le_refl _) hlt)
        by_cases hc : 0 < Cs.exc ws st i i
        · have hgr := Lib.hid (show Cs.sU ws st (i + 1) = Cs.sU ws st i ++ [((i : Int), (i : Int))] by rw [Cs.sU_succ]; unfold Cs.sgl; rw [if_pos hc])
          have hle : (Cs.sU ws st i).length ≤ 100 := by have := Cs.sU_len ws st i; omega
          generalize Cs.exc ws st i i = V at *
          go_wp2_with fail
          refine HXX.out.mono ?_; rintro e wr2 ⟨rfl, hB2⟩
          have HR := Lib.hid (HR1.out.below hB2)
          clear hB2
          have hww : w.heap.size ≤ wr2.heap.size := HR.out.bel.size
          go_wp2_with (at_builtin; refine wpList_append_own_at _ rfl _ _ 60 rfl w.heap.size 64 i0 (.agg #[.int .i64 0, .int .i64 0]) 2 16 Try.underlying60 hi hz0 hz1 hz2 rfl (by decide) _ _ _ rfl (HR.out.s.alloc _) ⟨wr2.heap.size, 0, none⟩ 1 1 (win ((i : Int), (i : Int))) rfl rfl (news_new _ _ rfl _ _ _ rfl) (by intro u hu; simp [win] at hu; rcases hu with rfl | rfl <;> rfl) (by unfold maxLen; omega) (by omega) (by have := HR.out.bel.size; simp; omega) ?_; intro v1 w3 hown1 hgrow1 hnil1 hblk1)
          go_roundw
          case rel => exact ⟨i + 1, by omega, by go_num, by rw [hgr.out]; exact HR.out.grow hown1 hgrow1⟩
          case measure => simp only [intOf]; omega
        · have hsm := Lib.hid (show Cs.sU ws st (i + 1) = Cs.sU ws st i by rw [Cs.sU_succ]; unfold Cs.sgl; rw [if_neg hc, List.append_nil])
          generalize Cs.exc ws st i i = V at *
          go_wp2_with fail
          refine HXX.out.mono ?_; rintro e wr2 ⟨rfl, hB2⟩
          have HR := Lib.hid (HR1.out.below hB2)
          clear hB2
          go_wp2_with fail
          go_roundw
          case rel => exact ⟨i + 1, by omega, by go_num, by rw [hsm.out]; exact HR.out⟩
          case measure => simp only [intOf]; omega
      · have hin := Lib.hid (show i = n by omega)
        go_wp2_with fail
        go_loopw [7, 37] (fun v t wr => Al2 ws st n w v t wr) (fun _ t _ => n - (intOf t).toNat)
        case atStart => exact ⟨0, by omega, rfl, by rw [← hin.out]; simp [Cs.pU]; exact HR1.out⟩
        case round =>
          obtain ⟨i, hi', rfl, hR0⟩ := hrel
          have HR0 := Lib.hid hR0
          clear hR0
          by_cases hlt : i < n
          · obtain ⟨wo, rfl⟩ : ∃ wo : World, wo = wr := ⟨_, rfl⟩
            go_wp2_with fail
            go_loopw [7, 10] (fun v t wr => Al3 ws st n i w v t wr) (fun _ t _ => n - (intOf t).toNat)
            case atStart => exact ⟨i + 1, by omega, by omega, by go_num, by rw [Cs.rU_nil ws st i (i + 1) (by omega), List.append_nil]; exact HR0.out⟩
            case round =>
              obtain ⟨k, hik, hk, rfl, hR1⟩ := hrel
              have HR1 := Lib.hid hR1
              clear hR1
              by_cases hlt2 : k < n
              · have HXX := Lib.hid (HX.out wr i k HR1.out.bel (by omega) hlt2)
                have hne : ((i : Int) == (k : Int)) = false := beq_eq_false_iff_ne.2 (by omega)
                by_cases hc : 0 < Cs.exc ws st i k
                · have hgr := Lib.hid (show Cs.sU ws st n ++ (Cs.pU ws st n i ++ Cs.rU ws st i (k + 1)) = (Cs.sU ws st n ++ (Cs.pU ws st n i ++ Cs.rU ws st i k)) ++ [((i : Int), (k : Int))] by rw [Cs.rU_succ, List.append_assoc, List.append_assoc]; unfold Cs.row; rw [if_pos ⟨hik, hc⟩])
                  have hle : (Cs.sU ws st n ++ (Cs.pU ws st n i ++ Cs.rU ws st i k)).length ≤ 4300 := al_len ws st n i k hn64 hlt hk
                  generalize Cs.exc ws st i k = V at *
                  go_wp2_with fail
                  refine HXX.out.mono ?_; rintro e wr2 ⟨rfl, hB2⟩
                  have HR := Lib.hid (HR1.out.below hB2)
                  clear hB2
                  have hww : w.heap.size ≤ wr2.heap.size := HR.out.bel.size
                  go_wp2_with (at_builtin; refine wpList_append_own_at _ rfl _ _ 60 rfl w.heap.size 64 i0 (.agg #[.int .i64 0, .int .i64 0]) 2 16 Try.underlying60 hi hz0 hz1 hz2 rfl (by decide) _ _ _ rfl (HR.out.s.alloc _) ⟨wr2.heap.size, 0, none⟩ 1 1 (win ((i : Int), (k : Int))) rfl rfl (news_new _ _ rfl _ _ _ rfl) (by intro u hu; simp [win] at hu; rcases hu with rfl | rfl <;> rfl) (by unfold maxLen; omega) (by omega) (by have := HR.out.bel.size; simp; omega) ?_; intro v1 w3 hown1 hgrow1 hnil1 hblk1)
                  go_roundw
                  case rel => exact ⟨k + 1, by omega, by omega, by go_num, by rw [hgr.out]; exact HR.out.grow hown1 hgrow1⟩
                  case measure => simp only [intOf]; omega
                · have hsm := Lib.hid (show Cs.rU ws st i (k + 1) = Cs.rU ws st i k by rw [Cs.rU_succ]; unfold Cs.row; rw [if_neg (fun h => hc h.2), List.append_nil])
                  generalize Cs.exc ws st i k = V at *
                  go_wp2_with fail
                  refine HXX.out.mono ?_; rintro e wr2 ⟨rfl, hB2⟩
                  have HR := Lib.hid (HR1.out.below hB2)
                  clear hB2
                  go_wp2_with fail
                  go_roundw
                  case rel => exact ⟨k + 1, by omega, by omega, by go_num, by rw [hsm.out]; exact HR.out⟩
                  case measure => simp only [intOf]; omega
              · have hkn := Lib.hid (show k = n by omega)
                have hend := Lib.hid (show Cs.pU ws st n i ++ Cs.rU ws st i k = Cs.pU ws st n (i + 1) by rw [Cs.pU_succ, hkn.out])
                go_wp2_with fail
                go_roundw
                case rel => exact ⟨i + 1, by omega, by go_num, by rw [← hend.out]; exact HR1.out⟩
                case measure => simp only [intOf]; omega
          · have hin2 := Lib.hid (show i = n by omega)
            have hcl := Lib.hid (show Cs.confL ws st = Cs.sU ws st n ++ Cs.pU ws st n i by unfold Cs.confL; rw [HN.out, hin2.out])
            obtain ⟨A', c', hv'⟩ := own_form HR0.out.s
            subst hv'
            have HO := Lib.hid HR0.out.s
            go_wp2_with fail
            go_ret2
            refine ⟨fun _ => ⟨A', c', ?_, ?_⟩, fun h => absurd HE.out h, HR0.out.bel⟩
            · rw [hcl.out]; rfl
            · exact Recs.of_own win_len rfl (by rw [hcl.out]; exact HO.out)
  · have hne : (Cs.chkE ws st != 0) = true := by rw [bne_iff_ne]; exact he
    have HE := Lib.hid he
    have hp : ∀ e w', e = .returned (.tuple #[.slice none 0 0, .int .i64 (Cs.chkE ws st)]) → Below w.heap.size w w' → AllPost ws st w e w' := fun e w' h1 h2 => ⟨fun h => absurd h he, fun _ => h1, h2⟩
    have HP := Lib.hid hp
    clear he hp hw hs
    generalize Cs.chkE ws st = E at *
    go_enter Try.func53, Try.ntmps53
    go_wp2_with fail
    refine HC.out.mono ?_; rintro e w1 ⟨rfl, hB1⟩
    go_wp2_with fail
    go_ret2
    exact HP.out _ _ rfl hB1
end Go.Proofs.Ytgplpapphmaafaa
