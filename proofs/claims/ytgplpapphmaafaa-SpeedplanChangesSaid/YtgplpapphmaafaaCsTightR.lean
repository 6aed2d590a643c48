/- Layer 33: the contract of the reference's Tighten (printed by gen_tightr.py). -/
import Derived.Test.YtgplpapphmaafaaCsTight
import Derived.Test.YtgplpapphmaafaaCsConfR
import Derived.Deep.RegionWith
import Derived.Deep.DeepCutAuto
import Derived.Deep.DrawnRows
namespace Go.Proofs.Ytgplpapphmaafaa
set_option linter.unusedSimpArgs false
set_option linter.unusedVariables false
open Go.RowKit
attribute [local go_sem ↓] Go.wp_at_zero Go.wp_at_succ

/-- a row of the call's own, and a box of two cells beside it -/
structure TRel (w : World) (L : Cs.Wins) (v : Value) (g : Nat) (X Y : Int) (wr : World) : Prop where
  own : wr.ownsRow w.heap.size 42 2 v L.length (L.flatMap win)
  b0 : wr.cell? ⟨g, 0, none⟩ = some (.int .i64 X)
  b1 : wr.cell? ⟨g, 1, none⟩ = some (.int .i64 Y)
  f0 : wr.frozen? ⟨g, 0, none⟩ = false
  f1 : wr.frozen? ⟨g, 1, none⟩ = false
  lt : g < wr.heap.size
  ge : w.heap.size ≤ g
  ne : v.ownBlock ≠ some g
  bel : Below w.heap.size w wr
theorem TRel.below {w wr w2 : World} {L : Cs.Wins} {v : Value} {g : Nat} {X Y : Int} (h : TRel w L v g X Y wr) (hb : Below wr.heap.size wr w2) : TRel w L v g X Y w2 :=
  ⟨own_below h.own hb, (hb.cell (p := ⟨g, 0, none⟩) h.lt).trans h.b0, (hb.cell (p := ⟨g, 1, none⟩) h.lt).trans h.b1, (hb.frozen (p := ⟨g, 0, none⟩) h.lt).trans h.f0, (hb.frozen (p := ⟨g, 1, none⟩) h.lt).trans h.f1, Nat.lt_of_lt_of_le h.lt hb.size, h.ge, h.ne, bel_trans h.bel hb⟩
theorem TRel.drew {w wr : World} {L : Cs.Wins} {v : Value} {g : Nat} {X Y : Int} (h : TRel w L v g X Y wr) : TRel w L v g X Y wr.drew := h.below ((Below.refl _ wr).drew)
theorem own_setBox {w : World} {base : Nat} {e : TypeId} {size : Nat} {v : Value} {n g o : Nat} {xs : List Value} (h : w.ownsRow base e size v n xs) (hne : v.ownBlock ≠ some g) (u : Value) : (w.setCell ⟨g, o, none⟩ u).ownsRow base e size v n xs :=
  h.kept (row := some g) ⟨rfl, rfl, rfl, by simp [World.setCell], fun k hk hn => Below.heap_setCell w ⟨g, o, none⟩ u k (fun e => hn (by rw [e]))⟩ (.inr hne)
theorem TRel.set1 {w wr : World} {L : Cs.Wins} {v : Value} {g : Nat} {X Y : Int} (h : TRel w L v g X Y wr) (u : Int) : TRel w L v g X u (wr.setCell ⟨g, 1, none⟩ (.int .i64 u)) :=
  ⟨own_setBox h.own h.ne _, by rw [World.cell?_setCell_other wr ⟨g, 1, none⟩ ⟨g, 0, none⟩ _ (by intro e; injection e with _ e; omega)]; exact h.b0, World.cell?_setCell_same wr ⟨g, 1, none⟩ _ h.b1, by rw [World.frozen?_setCell]; exact h.f0, by rw [World.frozen?_setCell]; exact h.f1, by simpa [World.setCell] using h.lt, h.ge, h.ne, h.bel.setCell (p := ⟨g, 1, none⟩) h.ge _⟩
theorem TRel.set0 {w wr : World} {L : Cs.Wins} {v : Value} {g : Nat} {X Y : Int} (h : TRel w L v g X Y wr) (u : Int) : TRel w L v g u Y (wr.setCell ⟨g, 0, none⟩ (.int .i64 u)) :=
  ⟨own_setBox h.own h.ne _, World.cell?_setCell_same wr ⟨g, 0, none⟩ _ h.b0, by rw [World.cell?_setCell_other wr ⟨g, 0, none⟩ ⟨g, 1, none⟩ _ (by intro e; injection e with _ e; omega)]; exact h.b1, by rw [World.frozen?_setCell]; exact h.f0, by rw [World.frozen?_setCell]; exact h.f1, by simpa [World.setCell] using h.lt, h.ge, h.ne, h.bel.setCell (p := ⟨g, 0, none⟩) h.ge _⟩
def TOut (ws st : Cs.Wins) (n : Nat) (w : World) (v t : Value) (wr : World) : Prop := ∃ i : Nat, i ≤ n ∧ t = .int .i64 i ∧ wr.ownsRow w.heap.size 42 2 v i (((Cs.tight ws st).take i).flatMap win) ∧ Below w.heap.size w wr
def TIn (ws st : Cs.Wins) (n i g : Nat) (v : Value) (w : World) (t : Value) (wr : World) : Prop := ∃ k : Nat, k ≤ n ∧ t = .int .i64 k ∧ TRel w ((Cs.tight ws st).take i) v g (Cs.mx (Cs.gL ws st i) (Cs.lo ws i) k) (Cs.mn (Cs.gH ws st i) (Cs.hi ws i) k) wr
theorem TRel.start {ws st : Cs.Wins} {w wr : World} {v : Value} {i : Nat} (h : wr.ownsRow w.heap.size 42 2 v i (((Cs.tight ws st).take i).flatMap win)) (hb : Below w.heap.size w wr) (hi : i ≤ ws.length) (t : TypeId) (X Y : Int) :
    TRel w ((Cs.tight ws st).take i) v wr.heap.size X Y (wr.alloc (.cells #[.int .i64 X, .int .i64 Y] t)) := by
  have hl : ((Cs.tight ws st).take i).length = i := by rw [List.length_take, Cs.tight_len]; omega
  refine ⟨by rw [hl]; exact h.alloc _, by rw [World.cell?_alloc_new]; rfl, by rw [World.cell?_alloc_new]; rfl, Blk0 wr _ _ 0, Blk0 wr _ _ 1, by simp, hb.size, fun hk => ?_, hb.alloc hb.size _⟩
  have := (h.lt _ hk).2
  omega
theorem mn_le (f : Nat → Int) (a : Int) (k : Nat) : Cs.mn f a k ≤ a := (Cs.le_mn.1 (Int.le_refl _)).1
theorem le_mx (f : Nat → Int) (a : Int) (k : Nat) : a ≤ Cs.mx f a k := (Cs.mx_le.1 (Int.le_refl _)).1
theorem mn_bd {f : Nat → Int} {a : Int} {k : Nat} {b : Int} (ha : b ≤ a) (h : ∀ j, j < k → b ≤ f j) : b ≤ Cs.mn f a k := Cs.le_mn.2 ⟨ha, h⟩
theorem mx_bd {f : Nat → Int} {a : Int} {k : Nat} {b : Int} (ha : a ≤ b) (h : ∀ j, j < k → f j ≤ b) : Cs.mx f a k ≤ b := Cs.mx_le.2 ⟨ha, h⟩
theorem g_bd {ws st : Cs.Wins} (hok : Cs.CsOk ws st) {i k : Nat} (hi : i < ws.length) (hk : k < ws.length) : -1099511627776 ≤ Cs.gH ws st i k ∧ Cs.gL ws st i k ≤ 1099511627776 := by
  have hwi := hok.win hi
  have hwk := hok.win hk
  unfold Pf.inB at hwi hwk
  unfold Cs.gH Cs.gL
  rcases Nat.lt_trichotomy k i with h | h | h
  · rw [if_pos h, if_pos h]
    have := hok.rise_nn (show k ≤ i by omega)
    have := hok.fall_nn (show k ≤ i by omega)
    omega
  · rw [if_neg (show ¬ k < i by omega), if_neg (show ¬ i < k by omega), if_neg (show ¬ k < i by omega), if_neg (show ¬ i < k by omega)]; omega
  · rw [if_neg (show ¬ k < i by omega), if_pos h, if_neg (show ¬ k < i by omega), if_pos h]
    have := hok.rise_nn (show i ≤ k by omega)
    have := hok.fall_nn (show i ≤ k by omega)
    omega

set_option maxRecDepth 100000 in
set_option maxHeartbeats 4000000 in
theorem rTighten (A S : Option Addr) (n cn m cm : Nat) (ws st : Cs.Wins) (w : World) (hw : Pairs w A n ws) (hs : Pairs w S m st) (hn : n ≤ maxLen) (hm : m ≤ maxLen) (hmc : m ≤ cm) (hcm : cm ≤ maxLen) :
    Calls Try.prog 37 #[.slice A n cn, .slice S m cm] w (TgPost ws st n w) := by
  have HC := Lib.hid (rConflicts A S n cn m cm ws st w hw hs hn hm hmc hcm)
  have HN := Lib.hid hw.len
  have HW := Lib.hid hw
  have HS := Lib.hid hs
  obtain ⟨i0, hi, hz0, hz1, hz2⟩ := info_parts infoWin
  by_cases he : Cs.chkE ws st = 0
  · by_cases hcf : Cs.confL ws st = []
    · have hok := Cs.csOk_of he
      have hn64 : n ≤ 64 := by have := hok.len; have := hw.len; omega
      have hmn := Lib.hid (show m = n - 1 by have := hok.slen; have := hw.len; have := hs.len; omega)
      have HE := Lib.hid (Cs.tgE_ok he hcf)
      obtain ⟨q1, q2⟩ := cf_none he hcf
      unfold CfPost at HC
      rw [q1, q2, he] at HC
      have HOK := Lib.hid hok
      have HRi := Lib.hid (fun i j (hij : i < j) (hj : j ≤ m) W (h : Below w.heap.size w W) => rRise S m cm i j ws st W (hs.below h) hmc hcm (by have := hmn.out; omega) hok hij hj)
      have HFa := Lib.hid (fun i j (hij : i < j) (hj : j ≤ m) W (h : Below w.heap.size w W) => rFall S m cm i j ws st W (hs.below h) hmc hcm (by have := hmn.out; omega) hok hij hj)
      clear hw hs he hcf hok hn hm q1 q2
      go_enter Try.func37, Try.ntmps37
      go_wp2_with fail
      refine HC.out.mono ?_; rintro e w1 ⟨rfl, hB1⟩
      have HB1 := Lib.hid hB1
      clear hB1
      go_wp2_with fail
      go_loopw [9, 26] (fun v t wr => TOut ws st n w v t wr) (fun _ t _ => n - (intOf t).toNat)
      case atStart => exact ⟨0, by omega, rfl, World.ownsRow_nil _ _ _ _, HB1.out.alloc HB1.out.size _⟩
      case round =>
        obtain ⟨i, hi', rfl, hown, hB⟩ := hrel
        have HO := Lib.hid hown
        have HB := Lib.hid hB
        clear hown hB
        by_cases hlt : i < n
        · obtain ⟨p, hp⟩ := get_ex HN.out hlt
          obtain ⟨b, off, rfl, hb, c0, c1⟩ := HW.out.cell hp
          replace c0 := (HB.out.cell (p := ⟨b, off + i * 2, none⟩) hb).trans c0
          replace c1 := (HB.out.cell (p := ⟨b, off + i * 2 + 1, none⟩) hb).trans c1
          have hpl := Lib.hid (Cs.lo_of hp)
          have hwl := HOK.out.wok p (List.mem_of_getElem? hp)
          obtain ⟨⟨wl0, wl1⟩, wh0, wh1⟩ := hwl
          go_wp2_with fail
          have HT0 := Lib.hid (TRel.start (i := i) (ws := ws) (st := st) HO.out HB.out (by have := HN.out; omega) 42 p.1 p.2)
          generalize wr.alloc (.cells #[.int .i64 p.1, .int .i64 p.2] 42) = wo at *
          generalize wr.heap.size = g at *
          go_loopw [35] (fun t wr => TIn ws st n i g u9 w t wr) (fun t _ => n - (intOf t).toNat)
          case atStart => exact ⟨0, by omega, rfl, by have := HT0.out; rw [← hpl.out.1, ← hpl.out.2] at this; exact this⟩
          case round =>
            obtain ⟨k, hk, rfl, hT⟩ := hrel
            have hXX := mx_bd (f := Cs.gL ws st i) (a := Cs.lo ws i) (k := k) (b := 1099511627776) (by rw [hpl.out.1]; exact wl1) (fun j hj => (g_bd HOK.out (by have := HN.out; omega) (by have := HN.out; omega)).2)
            have hXX2 : p.1 ≤ Cs.mx (Cs.gL ws st i) (Cs.lo ws i) k := by
              have h1 := le_mx (Cs.gL ws st i) (Cs.lo ws i) k
              have h2 := hpl.out.1
              omega
            have hYY := mn_bd (f := Cs.gH ws st i) (a := Cs.hi ws i) (k := k) (b := -1099511627776) (by rw [hpl.out.2]; exact wh0) (fun j hj => (g_bd HOK.out (by have := HN.out; omega) (by have := HN.out; omega)).1)
            have hYY2 : Cs.mn (Cs.gH ws st i) (Cs.hi ws i) k ≤ p.2 := by
              have h1 := mn_le (Cs.gH ws st i) (Cs.hi ws i) k
              have h2 := hpl.out.2
              omega
            by_cases hlt2 : k < n
            · obtain ⟨q, hq⟩ := get_ex HN.out hlt2
              obtain ⟨b', off', hbe, _, d0, d1⟩ := HW.out.cell hq
              injection hbe with hbe
              injection hbe with hb1 hb2
              subst hb1 hb2
              have C0 := Lib.hid d0
              have C1 := Lib.hid d1
              have hql := Lib.hid (Cs.lo_of hq)
              have hqw := HOK.out.wok q (List.mem_of_getElem? hq)
              obtain ⟨⟨ql0, ql1⟩, qh0, qh1⟩ := hqw
              have NX := Lib.hid (show Cs.mn (Cs.gH ws st i) (Cs.hi ws i) (k + 1) = min (Cs.mn (Cs.gH ws st i) (Cs.hi ws i) k) (Cs.gH ws st i k) ∧ Cs.mx (Cs.gL ws st i) (Cs.lo ws i) (k + 1) = max (Cs.mx (Cs.gL ws st i) (Cs.lo ws i) k) (Cs.gL ws st i k) from ⟨rfl, rfl⟩)
              clear hq d0 d1 hp c0 c1
              generalize Cs.mx (Cs.gL ws st i) (Cs.lo ws i) k = XX at *
              generalize Cs.mn (Cs.gH ws st i) (Cs.hi ws i) k = YY at *
              have HT := Lib.hid hT
              clear hT
              rcases Nat.lt_trichotomy k i with hki | hki | hki
              · have hgk := Lib.hid (show Cs.gH ws st i k = q.2 + Cs.rise st k i ∧ Cs.gL ws st i k = q.1 - Cs.fall st k i by unfold Cs.gH Cs.gL; rw [if_pos hki, if_pos hki, hql.out.1, hql.out.2]; exact ⟨rfl, rfl⟩)
                obtain ⟨⟨r0, r1⟩, s0, s1⟩ := bt_bd HOK.out k i (by omega) (by omega)
                have HR := Lib.hid (HRi.out k i hki (by have := hmn.out; omega))
                have HF := Lib.hid (HFa.out k i hki (by have := hmn.out; omega))
                generalize Cs.rise st k i = RR at *
                generalize Cs.fall st k i = FF at *
                have nki : ¬ i < k := by omega
                go_wp2_with fail
                go_upto_region 15 with fail
                go_cut [] (fun wx => TRel w ((Cs.tight ws st).take i) u9 g XX (min YY (q.2 + RR)) wx)
                case first =>
                  have e0 := HT.out.b1
                  have e1 := (HT.out.bel.cell (p := ⟨b, off + k * 2 + 1, none⟩) hb).trans C1.out
                  have fz := HT.out.f1
                  have z1 : IntKind.i64.wrap (q.2 + RR) = q.2 + RR := IntWalk.i64_in _ (by omega)
                  go_region_with (first | (go_at_call 46; refine (HR.out _ ?_).mono ?_; (first | exact HT.out.bel | exact HT.out.bel.drew | exact HT.out.drew.bel); rintro e wc ⟨rfl, hBc⟩; have HTc : Hid (TRel w ((Cs.tight ws st).take i) u9 g XX YY wc) := Lib.hid (by first | exact HT.out.below hBc | exact HT.out.drew.below hBc); have q0 : wc.cell? ⟨g, 1, none⟩ = some (.int .i64 YY) := HTc.out.b1; have q1 : wc.cell? ⟨b, off + k * 2 + 1, none⟩ = some (.int .i64 q.2) := (HTc.out.bel.cell (p := ⟨b, off + k * 2 + 1, none⟩) hb).trans C1.out; have qf := HTc.out.f1; clear hBc))
                  all_goals (go_wp2_with fail; go_meet; first | exact HTc.out.set1 _ | exact (HTc.out.set1 _).drew)
                case rest =>
                  have HT := Lib.hid hcut
                  clear hcut
                  go_upto_region 16 with fail
                  go_cut [] (fun wx => TRel w ((Cs.tight ws st).take i) u9 g (max XX (q.1 - FF)) (min YY (q.2 + RR)) wx)
                  case first =>
                    have e0 := HT.out.b0
                    have e1 := (HT.out.bel.cell (p := ⟨b, off + k * 2, none⟩) hb).trans C0.out
                    have fz := HT.out.f0
                    have z1 : IntKind.i64.wrap (q.1 - FF) = q.1 - FF := IntWalk.i64_in _ (by omega)
                    go_region_with (first | (go_at_call 47; refine (HF.out _ ?_).mono ?_; (first | exact HT.out.bel | exact HT.out.bel.drew | exact HT.out.drew.bel); rintro e wc ⟨rfl, hBc⟩; have HTc : Hid (TRel w ((Cs.tight ws st).take i) u9 g XX (min YY (q.2 + RR)) wc) := Lib.hid (by first | exact HT.out.below hBc | exact HT.out.drew.below hBc); have q0 : wc.cell? ⟨g, 0, none⟩ = some (.int .i64 XX) := HTc.out.b0; have q1 : wc.cell? ⟨b, off + k * 2, none⟩ = some (.int .i64 q.1) := (HTc.out.bel.cell (p := ⟨b, off + k * 2, none⟩) hb).trans C0.out; have qf := HTc.out.f0; clear hBc))
                    all_goals (go_wp2_with fail; go_meet; first | exact HTc.out.set0 _ | exact (HTc.out.set0 _).drew)
                  case rest =>
                    have HT := Lib.hid hcut
                    clear hcut
                    go_wp2_with fail
                    go_roundw
                    case rel => exact ⟨k + 1, by omega, by go_num, by rw [NX.out.1, NX.out.2, hgk.out.1, hgk.out.2]; exact HT.out⟩
                    case measure => simp only [intOf]; omega
              · subst hki
                have hgk := Lib.hid (show Cs.gH ws st k k = q.2 ∧ Cs.gL ws st k k = q.1 by unfold Cs.gH Cs.gL; rw [if_neg (by omega), if_neg (by omega), if_neg (by omega), if_neg (by omega), hql.out.1, hql.out.2]; exact ⟨rfl, rfl⟩)
                have hpq := Lib.hid (show p.1 = q.1 ∧ p.2 = q.2 by rw [← hpl.out.1, ← hpl.out.2, hql.out.1, hql.out.2]; exact ⟨rfl, rfl⟩)
                have hmin := Lib.hid (show min YY q.2 = YY ∧ max XX q.1 = XX by have := hpq.out; omega)
                go_wp2_with fail
                go_roundw
                case rel => exact ⟨k + 1, by omega, by go_num, by rw [NX.out.1, NX.out.2, hgk.out.1, hgk.out.2, hmin.out.1, hmin.out.2]; exact HT.out⟩
                case measure => simp only [intOf]; omega
              · have nki : ¬ k < i := by omega
                have hgk := Lib.hid (show Cs.gH ws st i k = q.2 + Cs.fall st i k ∧ Cs.gL ws st i k = q.1 - Cs.rise st i k by unfold Cs.gH Cs.gL; rw [if_neg nki, if_pos hki, if_neg nki, if_pos hki, hql.out.1, hql.out.2]; exact ⟨rfl, rfl⟩)
                obtain ⟨⟨r0, r1⟩, s0, s1⟩ := bt_bd HOK.out i k (by omega) (by omega)
                have HR := Lib.hid (HRi.out i k hki (by have := hmn.out; omega))
                have HF := Lib.hid (HFa.out i k hki (by have := hmn.out; omega))
                generalize Cs.rise st i k = RR at *
                generalize Cs.fall st i k = FF at *
                go_upto_region 18 with fail
                go_cut [] (fun wx => TRel w ((Cs.tight ws st).take i) u9 g XX (min YY (q.2 + FF)) wx)
                case first =>
                  have e0 := HT.out.b1
                  have e1 := (HT.out.bel.cell (p := ⟨b, off + k * 2 + 1, none⟩) hb).trans C1.out
                  have fz := HT.out.f1
                  have z1 : IntKind.i64.wrap (q.2 + FF) = q.2 + FF := IntWalk.i64_in _ (by omega)
                  go_region_with (first | (go_at_call 47; refine (HF.out _ ?_).mono ?_; (first | exact HT.out.bel | exact HT.out.bel.drew | exact HT.out.drew.bel); rintro e wc ⟨rfl, hBc⟩; have HTc : Hid (TRel w ((Cs.tight ws st).take i) u9 g XX YY wc) := Lib.hid (by first | exact HT.out.below hBc | exact HT.out.drew.below hBc); have q0 : wc.cell? ⟨g, 1, none⟩ = some (.int .i64 YY) := HTc.out.b1; have q1 : wc.cell? ⟨b, off + k * 2 + 1, none⟩ = some (.int .i64 q.2) := (HTc.out.bel.cell (p := ⟨b, off + k * 2 + 1, none⟩) hb).trans C1.out; have qf := HTc.out.f1; clear hBc))
                  all_goals (go_wp2_with fail; go_meet; first | exact HTc.out.set1 _ | exact (HTc.out.set1 _).drew)
                case rest =>
                  have HT := Lib.hid hcut
                  clear hcut
                  go_upto_region 19 with fail
                  have e0 := HT.out.b0
                  have e1 := (HT.out.bel.cell (p := ⟨b, off + k * 2, none⟩) hb).trans C0.out
                  have fz := HT.out.f0
                  have z1 : IntKind.i64.wrap (q.1 - RR) = q.1 - RR := IntWalk.i64_in _ (by omega)
                  go_region_with (first | (go_at_call 46; refine (HR.out _ ?_).mono ?_; (first | exact HT.out.bel | exact HT.out.bel.drew | exact HT.out.drew.bel); rintro e wc ⟨rfl, hBc⟩; have HTc : Hid (TRel w ((Cs.tight ws st).take i) u9 g XX (min YY (q.2 + FF)) wc) := Lib.hid (by first | exact HT.out.below hBc | exact HT.out.drew.below hBc); have q0 : wc.cell? ⟨g, 0, none⟩ = some (.int .i64 XX) := HTc.out.b0; have q1 : wc.cell? ⟨b, off + k * 2, none⟩ = some (.int .i64 q.1) := (HTc.out.bel.cell (p := ⟨b, off + k * 2, none⟩) hb).trans C0.out; have qf := HTc.out.f0; clear hBc))
                  all_goals
                    clear q0 q1 qf
                    have HTn := Lib.hid (HTc.out.set0 (max XX (q.1 - RR)))
                    go_wp2_with fail
                    go_roundw
                    case rel => exact ⟨k + 1, by omega, by go_num, by rw [NX.out.1, NX.out.2, hgk.out.1, hgk.out.2]; first | exact HTn.out | exact HTn.out.drew⟩
                    case measure => simp only [intOf]; omega
            · have hkn := Lib.hid (show k = n by omega)
              have htl := Lib.hid (show Cs.mx (Cs.gL ws st i) (Cs.lo ws i) k = Cs.tL ws st i ∧ Cs.mn (Cs.gH ws st i) (Cs.hi ws i) k = Cs.tH ws st i by unfold Cs.tL Cs.tH; rw [hkn.out, HN.out]; exact ⟨rfl, rfl⟩)
              rw [htl.out.1, htl.out.2] at hT
              have hsn := Lib.hid (show ((Cs.tight ws st).take (i + 1)).flatMap win = ((Cs.tight ws st).take i).flatMap win ++ win (Cs.tL ws st i, Cs.tH ws st i) by rw [take_succ_get _ i _ (Cs.tight_get (by have := HN.out; omega)), flat_snoc])
              have hll : ((Cs.tight ws st).take i).length = i := by rw [List.length_take, Cs.tight_len]; have := HN.out; omega
              have howo := hT.own
              rw [hll] at howo
              have HT := Lib.hid hT
              have e0 := hT.b0
              have e1 := hT.b1
              have HOW := Lib.hid howo
              clear hT hll howo hXX hXX2 hYY hYY2
              generalize Cs.tL ws st i = TL at *
              generalize Cs.tH ws st i = TH at *
              have hww : w.heap.size ≤ wr.heap.size := HT.out.bel.size
              go_wp2_with (at_builtin; refine wpList_append_own _ rfl _ _ 34 rfl w.heap.size 42 i0 (.agg #[.int .i64 0, .int .i64 0]) 2 16 Try.underlying34 hi hz0 hz1 hz2 rfl (by decide) _ _ _ rfl (HOW.out.alloc _) ⟨wr.heap.size, 0, none⟩ 1 1 (win (TL, TH)) rfl rfl (news_new _ _ rfl _ _ _ rfl) (by intro u hu; simp [win] at hu; rcases hu with rfl | rfl <;> rfl) (by unfold maxLen; omega) (by omega) (by simp; omega) ?_; intro v1 w3 hown1 hgrow1 hnil1)
              go_roundw
              case rel => exact ⟨i + 1, by omega, by go_num, by rw [hsn.out]; exact hown1, (HT.out.bel.alloc hww _).grown hgrow1 (by simp; omega) (own_block_ge HOW.out)⟩
              case measure => simp only [intOf]; omega
        · have hin := Lib.hid (show i = n by omega)
          obtain ⟨A', c', hv'⟩ := own_form HO.out
          subst hv'
          have hP := Lib.hid (show Pairs wr A' n (Cs.tight ws st) by
            have h1 := HO.out
            rw [List.take_of_length_le (by rw [Cs.tight_len]; have := HN.out; have := hin.out; omega)] at h1
            rw [hin.out] at h1
            exact Recs.of_own win_len (by rw [Cs.tight_len]; exact HN.out) h1)
          go_wp2_with fail
          go_ret2
          exact ⟨fun _ => ⟨A', c', by rw [hin.out]; rfl, hP.out⟩, fun h => absurd HE.out h, HB.out⟩
    · have HE := Lib.hid (Cs.tgE_conf he hcf)
      obtain ⟨p, t, hpt⟩ : ∃ p t, Cs.confL ws st = p :: t := by
        cases h : Cs.confL ws st with
        | nil => exact absurd h hcf
        | cons p t => exact ⟨p, t, rfl⟩
      obtain ⟨q1, q2⟩ := cf_some he hpt
      unfold CfPost at HC
      rw [q1, q2, he] at HC
      clear hw hs he hcf hn hm q1 q2 hpt
      go_enter Try.func37, Try.ntmps37
      go_wp2_with fail
      refine HC.out.mono ?_; rintro e w1 ⟨rfl, hB1⟩
      have HB1 := Lib.hid hB1
      clear hB1
      go_wp2_with fail
      go_ret2
      exact tgPost_err HE.out (by decide) rfl (HB1.out.alloc HB1.out.size _)
  · have HE := Lib.hid (Cs.tgE_chk he)
    have hne : (Cs.chkE ws st != 0) = true := by rw [bne_iff_ne]; exact he
    have HNE := Lib.hid he
    obtain ⟨q1, q2⟩ := cf_bad he
    unfold CfPost at HC
    rw [q1, q2] at HC
    clear hw hs he q1 q2
    generalize Cs.chkE ws st = E at *
    go_enter Try.func37, Try.ntmps37
    go_wp2_with fail
    refine HC.out.mono ?_; rintro e w1 ⟨rfl, hB1⟩
    have HB1 := Lib.hid hB1
    clear hB1
    go_wp2_with fail
    go_ret2
    exact tgPost_err HE.out HNE.out rfl (HB1.out.alloc HB1.out.size _)
end Go.Proofs.Ytgplpapphmaafaa
