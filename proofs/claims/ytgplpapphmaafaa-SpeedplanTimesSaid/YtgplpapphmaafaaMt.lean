/- Layer 33: the contract of the program's Meets (printed by gen_mt.py). -/
import Derived.Test.YtgplpapphmaafaaCs
import Derived.Test.YtgplpapphmaafaaCsMeet
import Derived.Test.YtgplpapphmaafaaCsBt
import Derived.Deep.RegionWith
import Derived.Deep.RegionHeld3
import Derived.Deep.QuietTactic
import Derived.BigQuiet
import Derived.Deep.DeepCutAuto
import Derived.Deep.DrawnRows
namespace Go.Proofs.Ytgplpapphmaafaa
set_option linter.unusedSimpArgs false
set_option linter.unusedVariables false
open Go.RowKit
attribute [local go_sem ↓] Go.wp_at_zero Go.wp_at_succ

/-- a list of values meets a chain -/
def Meet (ws st : Cs.Wins) (vs : List Int) : Prop := Cs.chkE ws st = 0 ∧ vs.length = ws.length ∧ Cs.Sol ws st (fun i => vs.getD i 0)
def MtPost (ws st : Cs.Wins) (vs : List Int) (w : World) (e : Ending) (w' : World) : Prop := (Meet ws st vs → e = .returned (.bool true)) ∧ (¬ Meet ws st vs → e = .returned (.bool false)) ∧ Below w.heap.size w w'
theorem mt_yes {ws st : Cs.Wins} {vs : List Int} {w w' : World} (h : Meet ws st vs) (hb : Below w.heap.size w w') : MtPost ws st vs w (.returned (.bool true)) w' := ⟨fun _ => rfl, fun k => absurd h k, hb⟩
theorem mt_no {ws st : Cs.Wins} {vs : List Int} {w w' : World} (h : ¬ Meet ws st vs) (hb : Below w.heap.size w w') : MtPost ws st vs w (.returned (.bool false)) w' := ⟨fun k => absurd k h, fun _ => rfl, hb⟩
structure MtUp (ws st : Cs.Wins) (vs : List Int) (k : Nat) : Prop where
  win : ∀ i, i < k → Cs.lo ws i ≤ vs.getD i 0 ∧ vs.getD i 0 ≤ Cs.hi ws i
  stp : ∀ i, i + 1 < k → vs.getD (i + 1) 0 - vs.getD i 0 ≤ Cs.up st i ∧ vs.getD i 0 - vs.getD (i + 1) 0 ≤ Cs.dn st i
def MtRel (ws st : Cs.Wins) (vs : List Int) (n : Nat) (w : World) (t : Value) (wr : World) : Prop := ∃ k : Nat, k ≤ n ∧ t = .int .i64 k ∧ MtUp ws st vs k ∧ Below w.heap.size w wr
theorem MtUp.zero {ws st : Cs.Wins} {vs : List Int} : MtUp ws st vs 0 := ⟨fun i h => absurd h (by omega), fun i h => absurd h (by omega)⟩
theorem getD_of {vs : List Int} {i : Nat} {x : Int} (h : vs[i]? = some x) : vs.getD i 0 = x := by rw [List.getD_eq_getElem?_getD, h]; rfl
theorem MtUp.next {ws st : Cs.Wins} {vs : List Int} {k : Nat} {p q : Int × Int} {x y : Int} (h : MtUp ws st vs (k + 1)) (hp : ws[k + 1]? = some p) (hx : vs[k + 1]? = some x) (hq : st[k]? = some q) (hy : vs[k]? = some y)
    (h1 : p.1 ≤ x ∧ x ≤ p.2) (h2 : -q.2 ≤ x - y ∧ x - y ≤ q.1) : MtUp ws st vs (k + 1 + 1) := by
  have e1 := Cs.lo_of hp
  have e2 := Cs.up_of hq
  have e3 := getD_of hx
  have e4 := getD_of hy
  refine ⟨fun i hi => ?_, fun i hi => ?_⟩
  · by_cases e : i = k + 1
    · subst e; rw [e3, e1.1, e1.2]; exact h1
    · exact h.win i (by omega)
  · by_cases e : i = k
    · subst e; rw [e3, e4, e2.1, e2.2]; omega
    · exact h.stp i (by omega)
theorem MtUp.first {ws st : Cs.Wins} {vs : List Int} {p : Int × Int} {x : Int} (hp : ws[0]? = some p) (hx : vs[0]? = some x) (h1 : p.1 ≤ x ∧ x ≤ p.2) : MtUp ws st vs 1 := by
  have e1 := Cs.lo_of hp
  have e3 := getD_of hx
  refine ⟨fun i hi => ?_, fun i hi => absurd hi (by omega)⟩
  obtain rfl : i = 0 := by omega
  rw [e3, e1.1, e1.2]; exact h1
theorem not_win {ws st : Cs.Wins} {vs : List Int} {k : Nat} {p : Int × Int} {x : Int} (hp : ws[k]? = some p) (hx : vs[k]? = some x) (h1 : ¬ (p.1 ≤ x ∧ x ≤ p.2)) : ¬ Meet ws st vs := fun hm => h1 (by
  have e1 := Cs.lo_of hp
  have e3 := getD_of hx
  have h := hm.2.2.win k (List.getElem?_eq_some_iff.1 hp).1
  simp only [e3, e1.1, e1.2] at h
  exact h)
theorem not_stp {ws st : Cs.Wins} {vs : List Int} {k : Nat} {p q : Int × Int} {x y : Int} (hp : ws[k + 1]? = some p) (hx : vs[k + 1]? = some x) (hq : st[k]? = some q) (hy : vs[k]? = some y) (h1 : ¬ (-q.2 ≤ x - y ∧ x - y ≤ q.1)) : ¬ Meet ws st vs := fun hm => h1 (by
  have e2 := Cs.up_of hq
  have e3 := getD_of hx
  have e4 := getD_of hy
  have h := hm.2.2.stp k (List.getElem?_eq_some_iff.1 hp).1
  simp only [e3, e4, e2.1, e2.2] at h
  omega)
theorem flip2 {F : FuncId} {args : Array Value} {w : World} {v : Value} (h : Calls Try.prog F args w fun e w' => e = .returned v ∧ w = w') : Calls Try.prog F args w fun e w' => e = .returned v ∧ w' = w :=
  h.mono fun _ _ ⟨h1, h2⟩ => ⟨h1, h2.symm⟩
theorem Ints.cell {w : World} {A : Option Addr} {n k : Nat} {l : List Int} {x : Int} (h : Ints w A n l) (hk : l[k]? = some x) : ∃ b off, A = some ⟨b, off, none⟩ ∧ b < w.heap.size ∧ w.cell? ⟨b, off + k, none⟩ = some (.int .i64 x) := by
  have hl := h.len
  have := (List.getElem?_eq_some_iff.1 hk).1
  obtain ⟨b, off, e, hb, hc⟩ := h.cells (by omega)
  exact ⟨b, off, e, hb, hc k x hk⟩

set_option maxRecDepth 100000 in
set_option maxHeartbeats 4000000 in
theorem xMeets (A S V : Option Addr) (n cn m cm nv cv : Nat) (ws st : Cs.Wins) (vs : List Int) (w : World) (hw : Pairs w A n ws) (hs : Pairs w S m st) (hv : Ints w V nv vs) (hn : n ≤ maxLen) (hm : m ≤ maxLen) (hnv : nv ≤ maxLen) :
    Calls Try.prog 24 #[.slice A n cn, .slice S m cm, .slice V nv cv] w (MtPost ws st vs w) := by
  have HC := Lib.hid (xCheck A S n cn m cm ws st w hw hs hn hm)
  unfold ChkPost at HC
  by_cases he : Cs.chkE ws st = 0
  · by_cases hnn : nv = n
    · subst hnn
      have hok := Cs.csOk_of he
      have hn64 : nv ≤ 64 := by have := hok.len; have := hw.len; omega
      have hmn := Lib.hid (show m = nv - 1 by have := hok.slen; have := hw.len; have := hs.len; omega)
      rw [he] at HC
      have HN := Lib.hid hw.len
      have HM := Lib.hid hs.len
      have HV0 := Lib.hid hv.len
      have HW := Lib.hid hw
      have HS := Lib.hid hs
      have HV := Lib.hid hv
      have HE := Lib.hid he
      have HOK := Lib.hid hok
      clear hw hs hv he hok hn hm hnv
      go_enter Try.func24, Try.ntmps24
      go_wp2_with fail
      refine HC.out.mono ?_; rintro e w1 ⟨rfl, hB1⟩
      have HB1 := Lib.hid hB1
      clear hB1
      go_wp2_with fail
      go_loopw [22] (fun t wr => MtRel ws st vs nv w t wr) (fun t _ => nv - (intOf t).toNat)
      case atStart => exact ⟨0, by omega, rfl, MtUp.zero, HB1.out⟩
      case round =>
        obtain ⟨k, hk, rfl, hU, hB⟩ := hrel
        have HU := Lib.hid hU
        have HB := Lib.hid hB
        clear hU hB
        by_cases hlt : k < nv
        · obtain ⟨p, hp⟩ := get_ex HN.out hlt
          obtain ⟨x, hx⟩ := get_ex HV0.out hlt
          obtain ⟨b, off, rfl, hb, c0, c1⟩ := HW.out.cell hp
          obtain ⟨bv, ov, rfl, hbv, cx⟩ := HV.out.cell hx
          replace c0 := (HB.out.cell (p := ⟨b, off + k * 2, none⟩) hb).trans c0
          replace c1 := (HB.out.cell (p := ⟨b, off + k * 2 + 1, none⟩) hb).trans c1
          have CX := Lib.hid cx
          replace cx := (HB.out.cell (p := ⟨bv, ov + k, none⟩) hbv).trans cx
          have HP := Lib.hid hp
          have HX := Lib.hid hx
          have hpw := HOK.out.wok p (List.mem_of_getElem? hp)
          obtain ⟨⟨pl0, pl1⟩, ph0, ph1⟩ := hpw
          clear hp hx
          by_cases h1 : p.1 ≤ x ∧ x ≤ p.2
          · have H1 := Lib.hid h1
            by_cases hk0 : k = 0
            · have HK0 := Lib.hid hk0
              have hgt : ¬ (0 : Int) < (k : Int) := by omega
              have hgd : decide (0 < k) = false := decide_eq_false (by omega)
              clear h1 hk0
              go_wp2_with fail
              have b0 : (wr.alloc (.cells #[.int .i64 p.1, .int .i64 p.2] 42)).cell? ⟨wr.heap.size, 0, none⟩ = some (.int .i64 p.1) := by rw [World.cell?_alloc_new]; rfl
              have b1 : (wr.alloc (.cells #[.int .i64 p.1, .int .i64 p.2] 42)).cell? ⟨wr.heap.size, 1, none⟩ = some (.int .i64 p.2) := by rw [World.cell?_alloc_new]; rfl
              have HBo := Lib.hid (HB.out.alloc HB.out.size (.cells #[.int .i64 p.1, .int .i64 p.2] 42))
              have cx2 := (HBo.out.cell (p := ⟨bv, ov + k, none⟩) hbv).trans CX.out
              generalize wr.alloc (.cells #[.int .i64 p.1, .int .i64 p.2] 42) = wo at *
              generalize wr.heap.size = g at *
              go_region_held3 (fun w' => w'.cell? ⟨g, 0, none⟩ = some (.int .i64 p.1) ∧ w'.cell? ⟨g, 1, none⟩ = some (.int .i64 p.2) ∧ w'.cell? ⟨bv, ov + k, none⟩ = some (.int .i64 x)) (go_keep) ((go_at_call 39; refine (within_yes _ _ _ H1.out _).mono ?_; rintro e wc ⟨rfl, rfl⟩))
              go_wp2_with fail
              go_quiet (fail)
              go_wp2_with fail
              go_roundw
              case rel => exact ⟨k + 1, by omega, by go_num, (by have h3 := HK0.out; subst h3; exact MtUp.first HP.out HX.out H1.out), (by first | exact HBo.out.drew.drew | exact HBo.out.drew | exact below_drewN HBo.out _ | exact below_drewN HBo.out.drew _)⟩
              case measure => simp only [intOf]; omega
            · obtain ⟨q, hq⟩ := get_ex (k := k - 1) HM.out (by have := hmn.out; omega)
              obtain ⟨y, hy⟩ := get_ex (k := k - 1) HV0.out (by omega)
              obtain ⟨bs, os, rfl, hbs, d0, d1⟩ := HS.out.cell hq
              obtain ⟨bv', ov', hbe, _, cy⟩ := HV.out.cell hy
              injection hbe with hbe
              injection hbe with hb1 hb2
              subst hb1 hb2
              have D0 := Lib.hid d0
              have D1 := Lib.hid d1
              have CY := Lib.hid cy
              clear d0 d1 cy
              have hgt : (0 : Int) < (k : Int) := by omega
              have hgd : decide (0 < k) = true := decide_eq_true (by omega)
              have hk1 : ((k : Int) - 1).toNat = k - 1 := by omega
              have hk2 := Lib.hid (show k - 1 + 1 = k by omega)
              have hw1 : IntKind.i64.wrap ((k : Int) - 1) = ((k - 1 : Nat) : Int) := by rw [show (k : Int) - 1 = ((k - 1 : Nat) : Int) by omega]; exact IntWalk.i64_in _ (by omega)
              have hkl : k - 1 < nv := by omega
              have hkm : k - 1 < m := by have := hmn.out; omega
              have HK0 := Lib.hid hk0
              have HQ := Lib.hid hq
              have HY := Lib.hid hy
              have hyb := Lib.hid (HU.out.win (k - 1) (by omega))
              have yb : -1099511627776 ≤ y ∧ y ≤ 1099511627776 := by
                have h := hyb.out
                obtain ⟨p', hp'⟩ := get_ex HN.out hkl
                have e1 := Cs.lo_of hp'
                have e2 := getD_of hy
                rw [e1.1, e1.2, e2] at h
                obtain ⟨⟨a0, a1⟩, a2, a3⟩ := HOK.out.wok p' (List.mem_of_getElem? hp')
                omega
              obtain ⟨y0, y1⟩ := yb
              obtain ⟨⟨qa0, qa1⟩, qb0, qb1⟩ := HOK.out.tok q (List.mem_of_getElem? hq)
              have s1 : IntKind.i64.wrap (x - y) = x - y := IntWalk.i64_in _ (by omega)
              have s2 : IntKind.i64.wrap (-q.2) = -q.2 := IntWalk.i64_in _ (by omega)
              clear h1 hk0 hq hy
              go_wp2_with fail
              have b0 : (wr.alloc (.cells #[.int .i64 p.1, .int .i64 p.2] 42)).cell? ⟨wr.heap.size, 0, none⟩ = some (.int .i64 p.1) := by rw [World.cell?_alloc_new]; rfl
              have b1 : (wr.alloc (.cells #[.int .i64 p.1, .int .i64 p.2] 42)).cell? ⟨wr.heap.size, 1, none⟩ = some (.int .i64 p.2) := by rw [World.cell?_alloc_new]; rfl
              have HBo := Lib.hid (HB.out.alloc HB.out.size (.cells #[.int .i64 p.1, .int .i64 p.2] 42))
              have cx2 := (HBo.out.cell (p := ⟨bv, ov + k, none⟩) hbv).trans CX.out
              generalize wr.alloc (.cells #[.int .i64 p.1, .int .i64 p.2] 42) = wo at *
              generalize wr.heap.size = g at *
              go_region_held3 (fun w' => w'.cell? ⟨g, 0, none⟩ = some (.int .i64 p.1) ∧ w'.cell? ⟨g, 1, none⟩ = some (.int .i64 p.2) ∧ w'.cell? ⟨bv, ov + k, none⟩ = some (.int .i64 x)) (go_keep) ((go_at_call 39; refine (within_yes _ _ _ H1.out _).mono ?_; rintro e wc ⟨rfl, rfl⟩))
              have HBd := Lib.hid HBo.out.drew
              generalize wo.drew = wd at *
              have e1 := (HBd.out.cell (p := ⟨bv, ov + k, none⟩) hbv).trans CX.out
              have e2 := (HBd.out.cell (p := ⟨bv, ov + (k - 1), none⟩) hbv).trans CY.out
              have e3 := (HBd.out.cell (p := ⟨bs, os + (k - 1) * 2, none⟩) hbs).trans D0.out
              have e4 := (HBd.out.cell (p := ⟨bs, os + (k - 1) * 2 + 1, none⟩) hbs).trans D1.out
              go_wp2_with fail
              by_cases h2 : -q.2 ≤ x - y ∧ x - y ≤ q.1
              · have H2 := Lib.hid h2
                clear h2
                go_quiet ((go_at_call 39; exact Calls.quiet_of_same (flip2 (within_yes _ _ _ H2.out _))))
                go_wp2_with fail
                go_roundw
                case rel => exact ⟨k + 1, by omega, by go_num, (by have h3 := hk2.out; have h4 := HP.out; have h5 := HX.out; rw [← h3] at h4 h5; have h6 := MtUp.next (by rw [h3]; exact HU.out) h4 h5 HQ.out HY.out H1.out H2.out; rw [h3] at h6; exact h6), (by first | exact HBd.out.drew | exact HBd.out | exact below_drewN HBd.out _)⟩
                case measure => simp only [intOf]; omega
              · have HX2 := Lib.hid (not_stp (vs := vs) (by rw [hk2.out]; exact HP.out) (by rw [hk2.out]; exact HX.out) HQ.out HY.out h2)
                have H2 := Lib.hid h2
                clear h2
                go_quiet ((go_at_call 39; exact Calls.quiet_of_same (flip2 (within_no _ _ _ H2.out _))))
                go_wp2_with fail
                go_ret
                exact mt_no HX2.out (by first | exact HBd.out.drew | exact HBd.out | exact below_drewN HBd.out _)
          · have HX2 := Lib.hid (not_win (st := st) HP.out HX.out h1)
            have H1 := Lib.hid h1
            clear h1
            go_wp2_with fail
            have b0 : (wr.alloc (.cells #[.int .i64 p.1, .int .i64 p.2] 42)).cell? ⟨wr.heap.size, 0, none⟩ = some (.int .i64 p.1) := by rw [World.cell?_alloc_new]; rfl
            have b1 : (wr.alloc (.cells #[.int .i64 p.1, .int .i64 p.2] 42)).cell? ⟨wr.heap.size, 1, none⟩ = some (.int .i64 p.2) := by rw [World.cell?_alloc_new]; rfl
            have HBo := Lib.hid (HB.out.alloc HB.out.size (.cells #[.int .i64 p.1, .int .i64 p.2] 42))
            have cx2 := (HBo.out.cell (p := ⟨bv, ov + k, none⟩) hbv).trans CX.out
            generalize wr.alloc (.cells #[.int .i64 p.1, .int .i64 p.2] 42) = wo at *
            generalize wr.heap.size = g at *
            go_region_held3 (fun w' => w'.cell? ⟨g, 0, none⟩ = some (.int .i64 p.1) ∧ w'.cell? ⟨g, 1, none⟩ = some (.int .i64 p.2) ∧ w'.cell? ⟨bv, ov + k, none⟩ = some (.int .i64 x)) (go_keep) ((go_at_call 39; refine (within_no _ _ _ H1.out _).mono ?_; rintro e wc ⟨rfl, rfl⟩))
            go_wp2_with fail
            go_ret
            exact mt_no HX2.out (by first | exact HBo.out.drew | exact HBo.out)
        · have hkn := Lib.hid (show k = nv by omega)
          go_wp2_with fail
          go_ret
          have hU := HU.out
          exact mt_yes ⟨HE.out, by rw [HV0.out, HN.out], ⟨fun i hi => hU.win i (by have := HN.out; have := hkn.out; omega), fun i hi => hU.stp i (by have := HN.out; have := hkn.out; omega)⟩⟩ HB.out
    · have hne : ((nv : Int) != (n : Int)) = true := by rw [bne_iff_ne]; omega
      have HX := Lib.hid (show ¬ Meet ws st vs from fun h => hnn (by have := h.2.1; have := hw.len; have := hv.len; omega))
      rw [he] at HC
      clear hw hs hv he
      go_enter Try.func24, Try.ntmps24
      go_wp2_with fail
      refine HC.out.mono ?_; rintro e w1 ⟨rfl, hB1⟩
      have HB1 := Lib.hid hB1
      clear hB1
      go_wp2_with fail
      go_ret
      exact mt_no HX.out HB1.out
  · have hne : (Cs.chkE ws st != 0) = true := by rw [bne_iff_ne]; exact he
    have HX := Lib.hid (show ¬ Meet ws st vs from fun h => he h.1)
    clear hw hs hv he
    generalize Cs.chkE ws st = E at *
    go_enter Try.func24, Try.ntmps24
    go_wp2_with fail
    refine HC.out.mono ?_; rintro e w1 ⟨rfl, hB1⟩
    have HB1 := Lib.hid hB1
    clear hB1
    go_wp2_with fail
    go_ret
    exact mt_no HX.out HB1.out
end Go.Proofs.Ytgplpapphmaafaa
