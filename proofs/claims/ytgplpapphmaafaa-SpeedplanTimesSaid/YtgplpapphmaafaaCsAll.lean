/- Layer 33: the contracts of All, of the program and of the reference (printed by gen_all.py). -/
import Derived.Test.YtgplpapphmaafaaCsExcR
import Derived.Laws.AppendOwnNone
import Derived.Maps.AppendAt
namespace Go.Proofs.Ytgplpapphmaafaa
set_option linter.unusedSimpArgs false
set_option linter.unusedVariables false
open Go.RowKit

theorem infoConf : (Try.prog.info? 64).map (fun i => (i.zero, i.size, i.bytes)) = some (some (.agg #[.int .i64 0, .int .i64 0]), 2, 16) := by kernel_rfl
theorem own_below {w w' : World} {base : Nat} {e : TypeId} {size : Nat} {v : Value} {n : Nat} {xs : List Value} (h : w.ownsRow base e size v n xs) (hb : Below w.heap.size w w') : w'.ownsRow base e size v n xs :=
  h.kept (row := none) ⟨hb.os, hb.tape, hb.output, hb.size, fun k hk _ => hb.block k hk⟩ (by cases v.ownBlock <;> simp)
/-- two rows of the call's own, in blocks of their own -/
structure AllRel (w : World) (S P : Cs.Wins) (sv pv : Value) (wr : World) : Prop where
  s : wr.ownsRow w.heap.size 64 2 sv S.length (S.flatMap win)
  p : wr.ownsRow w.heap.size 64 2 pv P.length (P.flatMap win)
  dis : ∀ k, sv.ownBlock = some k → pv.ownBlock ≠ some k
  bel : Below w.heap.size w wr
theorem AllRel.below {w wr w2 : World} {S P : Cs.Wins} {sv pv : Value} (h : AllRel w S P sv pv wr) (hb : Below wr.heap.size wr w2) : AllRel w S P sv pv w2 :=
  ⟨own_below h.s hb, own_below h.p hb, h.dis, bel_trans h.bel hb⟩
theorem flat_snoc (S : Cs.Wins) (q : Int × Int) : (S ++ [q]).flatMap win = S.flatMap win ++ win q := by simp
theorem AllRel.grow_s {w wr w1 : World} {S P : Cs.Wins} {sv pv v1 : Value} {o : Obj} {q : Int × Int} (h : AllRel w S P sv pv wr) (hown : w1.ownsRow w.heap.size 64 2 v1 (S.length + 1) (S.flatMap win ++ win q)) (hg : (wr.alloc o).grownBy w1 sv.ownBlock)
    (hb : v1.ownBlock = sv.ownBlock ∨ v1.ownBlock = some (wr.alloc o).heap.size) : AllRel w (S ++ [q]) P v1 pv w1 := by
  refine ⟨by rw [flat_snoc, List.length_append]; exact hown, (h.p.alloc o).kept hg ?_, ?_, (h.bel.alloc h.bel.size _).grown hg (by have := h.bel.size; simp; omega) (own_block_ge h.s)⟩
  · cases hp : pv.ownBlock with
    | none => exact .inl rfl
    | some k => exact .inr fun e => h.dis k e.symm hp
  · intro k hk hp
    rcases hb with hb | hb
    · exact h.dis k (hb ▸ hk) hp
    · rw [hb] at hk
      have := (h.p.lt k hp).2
      injection hk with hk
      simp at hk
      omega
theorem AllRel.grow_p {w wr w1 : World} {S P : Cs.Wins} {sv pv v1 : Value} {o : Obj} {q : Int × Int} (h : AllRel w S P sv pv wr) (hown : w1.ownsRow w.heap.size 64 2 v1 (P.length + 1) (P.flatMap win ++ win q)) (hg : (wr.alloc o).grownBy w1 pv.ownBlock)
    (hb : v1.ownBlock = pv.ownBlock ∨ v1.ownBlock = some (wr.alloc o).heap.size) : AllRel w S (P ++ [q]) sv v1 w1 := by
  refine ⟨(h.s.alloc o).kept hg ?_, by rw [flat_snoc, List.length_append]; exact hown, ?_, (h.bel.alloc h.bel.size _).grown hg (by have := h.bel.size; simp; omega) (own_block_ge h.p)⟩
  · cases hs : sv.ownBlock with
    | none => exact .inl rfl
    | some k => exact .inr fun e => h.dis k hs e.symm
  · intro k hk hp
    rcases hb with hb | hb
    · exact h.dis k hk (hb ▸ hp)
    · rw [hb] at hp
      have := (h.s.lt k hk).2
      injection hp with hp
      simp at hp
      omega
def AllPost (ws st : Cs.Wins) (w : World) (e : Ending) (w' : World) : Prop :=
  (Cs.chkE ws st = 0 → ∃ A c, e = .returned (.tuple #[.slice A (Cs.confL ws st).length c, .int .i64 0]) ∧ Pairs w' A (Cs.confL ws st).length (Cs.confL ws st)) ∧ (Cs.chkE ws st ≠ 0 → e = .returned (.tuple #[.slice none 0 0, .int .i64 (Cs.chkE ws st)])) ∧ Below w.heap.size w w'
/-- the singles and pairs found so far, in row i ahead of column j -/
def SofS (ws st : Cs.Wins) (i j : Nat) : Cs.Wins := if i < j then Cs.sU ws st (i + 1) else Cs.sU ws st i
theorem SofS_lo {ws st : Cs.Wins} {i : Nat} : SofS ws st i i = Cs.sU ws st i := by unfold SofS; rw [if_neg (by omega)]
theorem SofS_hi {ws st : Cs.Wins} {i j : Nat} (h : i < j) : SofS ws st i j = Cs.sU ws st (i + 1) := by unfold SofS; rw [if_pos h]
theorem SofS_len {ws st : Cs.Wins} {i j : Nat} : (SofS ws st i j).length ≤ i + 1 := by
  unfold SofS
  split
  · exact Cs.sU_len ws st (i + 1)
  · have := Cs.sU_len ws st i; omega
def AllOut (ws st : Cs.Wins) (n : Nat) (w : World) (sv pv t : Value) (wr : World) : Prop := ∃ i : Nat, i ≤ n ∧ t = .int .i64 i ∧ AllRel w (Cs.sU ws st i) (Cs.pU ws st n i) sv pv wr
def AllIn (ws st : Cs.Wins) (n i : Nat) (w : World) (sv pv t : Value) (wr : World) : Prop := ∃ j : Nat, i ≤ j ∧ j ≤ n ∧ t = .int .i64 j ∧ AllRel w (SofS ws st i j) (Cs.pU ws st n i ++ Cs.rU ws st i j) sv pv wr
theorem pr_len (ws st : Cs.Wins) (n i j : Nat) (hn : n ≤ 64) (hi : i < n) (hj : j ≤ n) : (Cs.pU ws st n i ++ Cs.rU ws st i j).length ≤ 4200 := by
  rw [List.length_append]
  have h1 := Cs.pU_len ws st n i
  have h2 := Cs.rU_len ws st i j
  have h3 : n * i ≤ 64 * 64 := Nat.mul_le_mul hn (by omega)
  omega

set_option maxRecDepth 100000 in
set_option maxHeartbeats 4000000 in
theorem xAll (A S : Option Addr) (n cn m cm : Nat) (ws st : Cs.Wins) (w : World) (hw : Pairs w A n ws) (hs : Pairs w S m st) (hn : n ≤ maxLen) (hm : m ≤ maxLen) (hmc : m ≤ cm) (hcm : cm ≤ maxLen) :
    Calls Try.prog 44 #[.slice A n cn, .slice S m cm] w (AllPost ws st w) := by
  have HC := Lib.hid (xCheck A S n cn m cm ws st w hw hs hn hm)
  by_cases he : Cs.chkE ws st = 0
  · rw [he] at HC
    have hok := Cs.csOk_of he
    have hn64 : n ≤ 64 := by have := hok.len; have := hw.len; omega
    have HN := Lib.hid hw.len
    have HE := Lib.hid he
    have HOK := Lib.hid hok
    have HX := Lib.hid (fun W i j (hb : Below w.heap.size w W) (hij : i ≤ j) (hj : j < n) => xexcess A S n cn m cm i j ws st W (hw.below hb) (hs.below hb) hmc hcm hok hij hj)
    obtain ⟨i0, hi, hz0, hz1, hz2⟩ := info_parts infoConf
    clear hw hs he hok hn hm
    go_enter Try.func44, Try.ntmps44
    go_wp2_with fail
    refine HC.out.mono ?_; rintro e w1 ⟨rfl, hB1⟩
    have HB1 := Lib.hid hB1
    clear hB1
    go_wp2_with fail
    go_loopw [7, 8, 19] (fun sv pv t wr => AllOut ws st n w sv pv t wr) (fun _ _ t _ => n - (intOf t).toNat)
    case atStart => exact ⟨0, by omega, rfl, ⟨World.ownsRow_nil _ _ _ _, World.ownsRow_nil _ _ _ _, fun k hk => by simp [Value.ownBlock] at hk, HB1.out⟩⟩
    case round =>
      obtain ⟨i, hi', rfl, hR0⟩ := hrel
      have HR0 := Lib.hid hR0
      clear hR0
      by_cases hlt : i < n
      · obtain ⟨wo, rfl⟩ : ∃ wo : World, wo = wr := ⟨_, rfl⟩
        go_wp2_with fail
        go_loopw [7, 8, 10] (fun sv pv t wr => AllIn ws st n i w sv pv t wr) (fun _ _ t _ => n - (intOf t).toNat)
        case atStart => exact ⟨i, Nat.le_refl _, by omega, rfl, by rw [SofS_lo, Cs.rU_nil ws st i i (by omega), List.append_nil]; exact HR0.out⟩
        case round =>
          obtain ⟨j, hij, hj, rfl, hR1⟩ := hrel
          have HR1 := Lib.hid hR1
          clear hR1
          by_cases hlt2 : j < n
          · have HXX := Lib.hid (HX.out wr i j HR1.out.bel hij hlt2)
            by_cases hc : 0 < Cs.exc ws st i j
            · have hc' : ¬ Cs.exc ws st i j ≤ 0 := by omega
              by_cases hij2 : i = j
              · subst hij2
                have hsg := Lib.hid (show SofS ws st i (i + 1) = SofS ws st i i ++ [((i : Int), (i : Int))] by rw [SofS_hi (by omega), SofS_lo, Cs.sU_succ]; unfold Cs.sgl; rw [if_pos hc])
                have hrw := Lib.hid (show Cs.rU ws st i (i + 1) = Cs.rU ws st i i by rw [Cs.rU_nil ws st i (i + 1) (by omega), Cs.rU_nil ws st i i (by omega)])
                have hle : (SofS ws st i i).length ≤ 100 := by have := @SofS_len ws st i i; omega
                generalize Cs.exc ws st i i = V at *
                go_wp2_with fail
                refine HXX.out.mono ?_; rintro e wr2 ⟨rfl, hB2⟩
                have HR := Lib.hid (HR1.out.below hB2)
                clear hB2
                have hww : w.heap.size ≤ wr2.heap.size := HR.out.bel.size
                go_wp2_with (at_builtin; refine wpList_append_own_at _ rfl _ _ 60 rfl w.heap.size 64 i0 (.agg #[.int .i64 0, .int .i64 0]) 2 16 Try.underlying60 hi hz0 hz1 hz2 rfl (by decide) _ _ _ rfl (HR.out.s.alloc _) ⟨wr2.heap.size, 0, none⟩ 1 1 (win ((i : Int), (i : Int))) rfl rfl (news_new _ _ rfl _ _ _ rfl) (by intro u hu; simp [win] at hu; rcases hu with rfl | rfl <;> rfl) (by unfold maxLen; omega) (by omega) (by have := HR.out.bel.size; simp; omega) ?_; intro v1 w3 hown1 hgrow1 hnil1 hblk1)
                go_roundw
                case rel => exact ⟨i + 1, by omega, by omega, by go_num, by rw [hsg.out, hrw.out]; exact HR.out.grow_s hown1 hgrow1 hblk1⟩
                case measure => simp only [intOf]; omega
              · have hne : ((i : Int) == (j : Int)) = false := beq_eq_false_iff_ne.2 (by omega)
                have hil : i < j := by omega
                have hsg := Lib.hid (show SofS ws st i (j + 1) = SofS ws st i j by rw [SofS_hi (by omega), SofS_hi hil])
                have hrw := Lib.hid (show Cs.pU ws st n i ++ Cs.rU ws st i (j + 1) = (Cs.pU ws st n i ++ Cs.rU ws st i j) ++ [((i : Int), (j : Int))] by rw [Cs.rU_succ, List.append_assoc]; unfold Cs.row; rw [if_pos ⟨hil, hc⟩])
                have hle := pr_len ws st n i j hn64 hlt hj
                generalize Cs.exc ws st i j = V at *
                clear hij2
                go_wp2_with fail
                refine HXX.out.mono ?_; rintro e wr2 ⟨rfl, hB2⟩
                have HR := Lib.hid (HR1.out.below hB2)
                clear hB2
                have hww : w.heap.size ≤ wr2.heap.size := HR.out.bel.size
                go_wp2_with (at_builtin; refine wpList_append_own_at _ rfl _ _ 60 rfl w.heap.size 64 i0 (.agg #[.int .i64 0, .int .i64 0]) 2 16 Try.underlying60 hi hz0 hz1 hz2 rfl (by decide) _ _ _ rfl (HR.out.p.alloc _) ⟨wr2.heap.size, 0, none⟩ 1 1 (win ((i : Int), (j : Int))) rfl rfl (news_new _ _ rfl _ _ _ rfl) (by intro u hu; simp [win] at hu; rcases hu with rfl | rfl <;> rfl) (by unfold maxLen; omega) (by omega) (by have := HR.out.bel.size; simp; omega) ?_; intro v1 w3 hown1 hgrow1 hnil1 hblk1)
                go_roundw
                case rel => exact ⟨j + 1, by omega, by omega, by go_num, by rw [hsg.out, hrw.out]; exact HR.out.grow_p hown1 hgrow1 hblk1⟩
                case measure => simp only [intOf]; omega
            · have hc' : Cs.exc ws st i j ≤ 0 := by omega
              have hsg := Lib.hid (show SofS ws st i (j + 1) = SofS ws st i j by
                rcases Nat.lt_or_ge i j with h | h
                · rw [SofS_hi (by omega), SofS_hi h]
                · obtain rfl : i = j := by omega
                  rw [SofS_hi (by omega), SofS_lo, Cs.sU_succ]; unfold Cs.sgl; rw [if_neg hc, List.append_nil])
              have hrw := Lib.hid (show Cs.rU ws st i (j + 1) = Cs.rU ws st i j by rw [Cs.rU_succ]; unfold Cs.row; rw [if_neg (fun h => hc h.2), List.append_nil])
              generalize Cs.exc ws st i j = V at *
              go_wp2_with fail
              refine HXX.out.mono ?_; rintro e wr2 ⟨rfl, hB2⟩
              have HR := Lib.hid (HR1.out.below hB2)
              clear hB2
              go_wp2_with fail
              go_roundw
              case rel => exact ⟨j + 1, by omega, by omega, by go_num, by rw [hsg.out, hrw.out]; exact HR.out⟩
              case measure => simp only [intOf]; omega
          · have hjn := Lib.hid (show j = n by omega)
            have hend := Lib.hid (show SofS ws st i j = Cs.sU ws st (i + 1) ∧ Cs.pU ws st n i ++ Cs.rU ws st i j = Cs.pU ws st n (i + 1) by rw [SofS_hi (by omega), Cs.pU_succ, hjn.out]; exact ⟨rfl, rfl⟩)
            go_wp2_with fail
            go_roundw
            case rel => exact ⟨i + 1, by omega, by go_num, by rw [← hend.out.1, ← hend.out.2]; exact HR1.out⟩
            case measure => simp only [intOf]; omega
      · have hin := Lib.hid (show i = n by omega)
        have hcl := Lib.hid (show Cs.confL ws st = Cs.sU ws st i ++ Cs.pU ws st n i by unfold Cs.confL; rw [HN.out, hin.out])
        have hl1 := Cs.sU_len ws st i
        have hl2 := Cs.pU_len ws st n i
        have hl3 : n * i ≤ 64 * 64 := Nat.mul_le_mul hn64 (by omega)
        have hww : w.heap.size ≤ wr.heap.size := HR0.out.bel.size
        have hl4 : (Cs.pU ws st n i).length ≤ 4096 := by omega
        clear hl2 hl3
        rcases HR0.out.p.2 with ⟨hpv, hp0⟩ | ⟨g, cap, cur, hpv, hg, _⟩
        · have hpn := Lib.hid (List.eq_nil_of_length_eq_zero hp0)
          subst hpv
          clear hp0
          go_wp2_with (at_builtin; refine wpList_append_own_none rfl _ _ 60 rfl w.heap.size 64 i0 2 Try.underlying60 hi _ _ _ rfl HR0.out.s rfl ?_)
          obtain ⟨A', c', hsv⟩ := own_form HR0.out.s
          go_ret2
          refine ⟨fun _ => ⟨A', c', ?_, ?_⟩, fun h => absurd HE.out h, HR0.out.bel⟩
          · rw [hcl.out, hpn.out, List.append_nil, ← hsv]; rfl
          · rw [hcl.out, hpn.out, List.append_nil]; exact Recs.of_own win_len rfl (by rw [← hsv]; exact HR0.out.s)
        · subst hpv
          have hcells := Lib.hid (HR0.out.p.cells (g := g) rfl)
          have hpl := Lib.hid HR0.out.p.1
          have h1c : ∀ u ∈ (Cs.pU ws st n i).flatMap win, u.oneCell' = true := by
            intro u hu
            rw [List.mem_flatMap] at hu
            obtain ⟨q, _, hq⟩ := hu
            simp [win] at hq
            rcases hq with rfl | rfl <;> rfl
          have H1C := Lib.hid h1c
          clear h1c
          go_wp2_with (at_builtin; refine wpList_append_own_at _ rfl _ _ 60 rfl w.heap.size 64 i0 (.agg #[.int .i64 0, .int .i64 0]) 2 16 Try.underlying60 hi hz0 hz1 hz2 rfl (by decide) _ _ _ rfl HR0.out.s ⟨g, 0, none⟩ (Cs.pU ws st n i).length cap ((Cs.pU ws st n i).flatMap win) rfl hpl.out hcells.out H1C.out (by unfold maxLen; omega) (by omega) hww ?_; intro v1 w3 hown1 hgrow1 hnil1 hblk1)
          obtain ⟨A', c', hsv⟩ := own_form hown1
          have hlen : (Cs.confL ws st).length = (Cs.sU ws st i).length + (Cs.pU ws st n i).length := by rw [hcl.out, List.length_append]
          go_ret2
          refine ⟨fun _ => ⟨A', c', ?_, ?_⟩, fun h => absurd HE.out h, HR0.out.bel.grown hgrow1 hww (own_block_ge HR0.out.s)⟩
          · rw [hlen, ← hsv]; rfl
          · exact Recs.of_own win_len rfl (by rw [hcl.out, List.length_append, List.flatMap_append, ← hsv]; exact hown1)
  · have hne : (Cs.chkE ws st != 0) = true := by rw [bne_iff_ne]; exact he
    have HE := Lib.hid he
    have hp : ∀ e w', e = .returned (.tuple #[.slice none 0 0, .int .i64 (Cs.chkE ws st)]) → Below w.heap.size w w' → AllPost ws st w e w' := fun e w' h1 h2 => ⟨fun h => absurd h he, fun _ => h1, h2⟩
    have HP := Lib.hid hp
    clear he hp hw hs
    generalize Cs.chkE ws st = E at *
    go_enter Try.func44, Try.ntmps44
    go_wp2_with fail
    refine HC.out.mono ?_; rintro e w1 ⟨rfl, hB1⟩
    go_wp2_with fail
    go_ret2
    exact HP.out _ _ rfl hB1
end Go.Proofs.Ytgplpapphmaafaa
