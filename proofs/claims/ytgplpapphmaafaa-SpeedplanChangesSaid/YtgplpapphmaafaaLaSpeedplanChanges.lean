/- The statement SpeedplanChanges: for every input the law returns true, and every argument reads afterwards as before. No condition. -/
import Derived.Test.YtgplpapphmaafaaRows
import Derived.Test.YtgplpapphmaafaaLaBase35
import Derived.Test.YtgplpapphmaafaaSpPlain2
import Derived.Test.YtgplpapphmaafaaPl
import Derived.SizedLaws
import Derived.WalkKit
import Derived.ProofKit
import Derived.OpenShut
import Derived.ShutString
import Derived.ChangeOld
import Derived.Below
namespace Go.Proofs.Ytgplpapphmaafaa
set_option linter.unusedSimpArgs false
set_option linter.unusedVariables false
open Go.RowKit
open Sp
theorem gr_sl {F : FuncId} {args : Array Value} {f : Int × Int → Int} {ws st : Cs.Wins} {n : Nat} {w : World} (h : Calls Try.prog F args w (GrPost f ws st n w)) (ht : Cs.tgE ws st = 0) : Calls Try.prog F args w (SlRes ((Cs.tight ws st).map f) n 0 w) := by
  refine h.mono fun e w' ⟨h1, h2, h3⟩ => ?_
  obtain ⟨A, c, he, hI⟩ := h1 ht
  exact ⟨A, c, he, hI, h3⟩
theorem mt_b {F : FuncId} {args : Array Value} {ws st : Cs.Wins} {vs : List Int} {w : World} (hm : Meet ws st vs) (h : Calls Try.prog F args w (MtPost ws st vs w)) : Calls Try.prog F args w fun e w' => e = .returned (.bool true) ∧ Below w.heap.size w w' :=
  h.mono fun e w' ⟨h1, h2, h3⟩ => ⟨h1 hm, h3⟩
theorem mt_n {F : FuncId} {args : Array Value} {ws st : Cs.Wins} {vs : List Int} {w : World} (hm : ¬ Meet ws st vs) (h : Calls Try.prog F args w (MtPost ws st vs w)) : Calls Try.prog F args w fun e w' => e = .returned (.bool false) ∧ Below w.heap.size w w' :=
  h.mono fun e w' ⟨h1, h2, h3⟩ => ⟨h2 hm, h3⟩
def ChRel (n : Nat) (w : World) (t : Value) (wr : World) : Prop := ∃ j : Nat, j ≤ n ∧ t = .int .i64 j ∧ Below w.heap.size w wr
def CgRel (w0 : World) (g n : Nat) (t : Value) (wr : World) : Prop := ∃ k : Nat, k ≤ n ∧ t = .int .i64 k ∧ RowI w0 g n (fillF (List.replicate n 1000) k) wr
theorem pl_sol {zs ys : Cs.Wins} {wish : List Int} (h : plE zs ys wish = 0) : rdE zs ys = 0 ∧ (plL zs wish ys).length = zs.length ∧ Cs.Sol zs ys (fun i => (plL zs wish ys).getD i 0) := by
  by_cases hr : rdE zs ys = 0
  · rw [plE_b hr] at h
    refine ⟨hr, ?_, (bel_best h).1⟩
    unfold plL
    rw [List.length_map, Cs.tight_len, Cs.lowL_len]
  · rw [plE_r hr] at h; exact absurd h hr
theorem st_mul {a x : Int} : a * x / 6000 * 6000 ≤ a * x := by
  have := Int.emod_nonneg (a * x) (show (6000 : Int) ≠ 0 by decide)
  have := Int.emod_add_mul_ediv (a * x) 6000
  omega
theorem ret_tt_SpeedplanChanges {b : Bool} (h : b = true) : Ending.returned (.bool b) = .returned (.bool true) := by rw [h]
set_option maxRecDepth 100000 in
set_option maxHeartbeats 4000000 in
theorem walk_SpeedplanChanges (A : Option Addr) (n cn : Nat) (zs : Cs.Wins) (B : Option Addr) (md cd : Nat) (d : List Int) (a c : Int) (w : World) (hw : Pairs w A n zs) (hzf : ∀ x ∈ zs, WinWf x) (hn : n ≤ maxLen) (hn8 : n * 16 ≤ reachBytes) (hcA : CapOk A n cn) (hd : Ints w B md d) (hfd : ∀ x ∈ d, (Lit.int .i64 x).wf = true) (hmd : md ≤ maxLen) (h8md : md * 8 ≤ reachBytes) (haf : (Lit.int .i64 a).wf = true) (hcf : (Lit.int .i64 c).wf = true) :
    Calls Try.prog 6 #[.slice A n cn, .slice B md cd, .agg #[.int .i64 a, .int .i64 c]] w fun e w' => e = .returned (.bool true) ∧ Below w.heap.size w w' := by
  have HW := Lib.hid hw
  have HD := Lib.hid hd
  have HLW := Lib.hid hw.len
  have HLD := Lib.hid hd.len
  have HNM := Lib.hid (And.intro hn hmd)
  unfold reachBytes at hn8
  have hn43 : n ≤ 8796093022208 := by omega
  clear hw hd hcA hzf hfd hn8 h8md hn hmd haf hcf
  by_cases hst : stE d a c = 0
  · have hl64 : ¬ 64 ≤ d.length := fun h => by rw [stE_3 h] at hst; omega
    have hac : okV a ∧ okV c := by
      by_cases h : okV a ∧ okV c
      · exact h
      · rw [stE_2 hl64 h] at hst; omega
    have hds : ∀ x ∈ d, Pf.okD x := by
      intro x hx
      by_cases h : Pf.okD x
      · exact h
      · rw [stE_b hl64 hac hx h] at hst; omega
    have HST := Lib.hid hst
    have HAC := Lib.hid hac
    have HDS := Lib.hid hds
    have md64 : md ≤ 63 := by have := HLD.out; omega
    have hmk := run_make_row' (P := Try.prog) 22 2 (.int .i64 0) 8 Try.underlying22 infoI64 rfl .i64 .i64 n (by omega) (by omega)
    clear hst hl64 hac hds
    go_enter Try.func6, Try.ntmps6
    go_wp2_with fail
    refine (awake_any _).mono ?_; rintro e w1 ⟨rfl, hB⟩
    have k0 : w1.cell? ⟨w.heap.size, 0, none⟩ = some (.int .i64 a) := (hB.cell (p := ⟨w.heap.size, 0, none⟩) (by simp)).trans (one_box w _ _ 0)
    have k1 : w1.cell? ⟨w.heap.size, 1, none⟩ = some (.int .i64 c) := (hB.cell (p := ⟨w.heap.size, 1, none⟩) (by simp)).trans (one_box w _ _ 1)
    have hlt0 : w.heap.size < w1.heap.size := by have := hB.size; simp at this; omega
    have HB1 := Lib.hid (bel_alloc hB)
    clear hB
    go_wp2_with fail
    refine (pr_ex (xSpSteps B md cd d a c w1 (HD.out.below HB1.out) HNM.out.2) HST.out rfl).mono ?_; rintro e w2 ⟨A1, c1, rfl, hP, hC, hB⟩
    have P1 := Lib.hid hP
    have HC1 := Lib.hid hC
    have HB2 := Lib.hid (bel_trans HB1.out hB)
    replace k0 : w2.cell? ⟨w.heap.size, 0, none⟩ = some (.int .i64 a) := (hB.cell (p := ⟨w.heap.size, 0, none⟩) hlt0).trans k0
    replace k1 : w2.cell? ⟨w.heap.size, 1, none⟩ = some (.int .i64 c) := (hB.cell (p := ⟨w.heap.size, 1, none⟩) hlt0).trans k1
    replace hlt0 : w.heap.size < w2.heap.size := Nat.lt_of_lt_of_le hlt0 hB.size
    clear hP hC hB
    go_wp2_with fail
    have HR0 := Lib.hid (RowI.made (w0 := w2) n (Below.refl w2.heap.size w2) 2)
    generalize hw3 : w2.alloc (.cells (madeCells #[.int .i64 0] n) 2) = w3 at *
    generalize hg : w2.heap.size = g at *
    go_loopw [34] (fun t wr => CgRel w2 g n t wr) (fun t _ => n - (intOf t).toNat)
    case atStart => exact ⟨0, by omega, rfl, HR0.out.congr fun j _ => fillF_zero _ j⟩
    case round =>
      obtain ⟨k, hk, rfl, hR⟩ := hrel
      have HR := Lib.hid hR
      clear hR
      by_cases hlt : k < n
      · have hpm := Lib.hid (show (List.replicate n (1000 : Int))[k]? = some 1000 by rw [List.getElem?_replicate, if_pos hlt])
        have d0 := HR.out.cell k hlt
        have d1 := HR.out.fr k
        have hgl := HR.out.lt
        go_wp2_with fail
        go_roundw
        case rel => exact ⟨k + 1, by omega, by go_num, (HR.out.set hlt _).congr fun j _ => fillF_step hpm.out j⟩
        case measure => simp only [intOf]; omega
      · have hkn := Lib.hid (show k = n by omega)
        have hfin := HR.out
        rw [hkn.out] at hfin
        have IW := Lib.hid (hfin.ints (l := List.replicate n 1000) (by simp))
        have hbR := hfin.bel
        have HB3 := Lib.hid (bel_trans HB2.out hbR)
        have hlt2 : w.heap.size < w2.heap.size := by rw [hg]; exact hlt0
        have m0 : wr.cell? ⟨w.heap.size, 0, none⟩ = some (.int .i64 a) := (hbR.cell (p := ⟨w.heap.size, 0, none⟩) hlt2).trans k0
        have m1 : wr.cell? ⟨w.heap.size, 1, none⟩ = some (.int .i64 c) := (hbR.cell (p := ⟨w.heap.size, 1, none⟩) hlt2).trans k1
        have hlt3 : w.heap.size < wr.heap.size := Nat.lt_of_lt_of_le hlt2 hbR.size
        have P2 := Lib.hid (P1.out.below hbR)
        clear k0 k1 hlt0 hfin hbR hlt2
        have HPL := (fun (h : md ≤ maxLen) => xSpPlan A A1 (some ⟨g, 0, none⟩) n cn md c1 n n zs (stL d a c) (List.replicate n 1000) wr (HW.out.below HB3.out) P2.out IW.out HNM.out.1 h HNM.out.1 HC1.out.le HC1.out.mx) HNM.out.2
        by_cases hpl : plE zs (stL d a c) (List.replicate n 1000) = 0
        · obtain ⟨hrd, hpn, hsol⟩ := pl_sol hpl
          have HCH := Lib.hid (Cs.csOk_of (rdE_0 hrd).1)
          have HPN := Lib.hid (hpn.trans HLW.out)
          have HSOL := Lib.hid hsol
          have HZP := Lib.hid (rdE_0 hrd).2
          have HPL2 := Lib.hid (sl_ex HPL hpl rfl)
          have hnd : 0 < n → md + 1 = n := fun h => by have h1 := HCH.out.slen; have := HLW.out; have := HLD.out; unfold stL at h1; rw [List.length_map] at h1; omega
          have HND := Lib.hid hnd
          generalize plL zs (List.replicate n 1000) (stL d a c) = PL at *
          have hn64 : n ≤ 64 := by have := HCH.out.len; have := HLW.out; omega
          have hnn : ((n : Int) != (n : Int)) = false := by simp
          have hg1 : decide (0 < n) = true → ((md : Int) != (n : Int) - 1) = false := fun h => by
            have := hnd (of_decide_eq_true h)
            rw [bne_eq_false_iff_eq]; omega
          clear HPL hpl hrd hpn hsol hnd
          go_wp2_with fail
          refine HPL2.out.mono ?_; rintro e w4 ⟨A2, c2, rfl, hI, hB⟩
          have I2 := Lib.hid hI
          have HB4 := Lib.hid (bel_trans HB3.out hB)
          replace m0 : w4.cell? ⟨w.heap.size, 0, none⟩ = some (.int .i64 a) := (hB.cell (p := ⟨w.heap.size, 0, none⟩) hlt3).trans m0
          replace m1 : w4.cell? ⟨w.heap.size, 1, none⟩ = some (.int .i64 c) := (hB.cell (p := ⟨w.heap.size, 1, none⟩) hlt3).trans m1
          replace hlt3 : w.heap.size < w4.heap.size := Nat.lt_of_lt_of_le hlt3 hB.size
          clear hI hB HPL2
          by_cases hn0 : 0 < n
          · have hg2 : decide (0 < n) = true := decide_eq_true hn0
            have hg3 := hg1 hg2
            have hg4 : (0 : Int) < (n : Int) := by omega
            have hw0 : IntKind.i64.wrap ((n : Int) - 1) = (n : Int) - 1 := IntWalk.i64_in _ (by omega)
            clear hg1
            go_wp2_with fail
            go_loopw [73] (fun t wr => ChRel n w4 t wr) (fun t _ => n - (intOf t).toNat)
            case atStart => exact ⟨0, by omega, rfl, Below.refl _ _⟩
            case round =>
              obtain ⟨j, hj, rfl, hB⟩ := hrel
              have HBr := Lib.hid hB
              have l0 := (hB.cell (p := ⟨w.heap.size, 0, none⟩) hlt3).trans m0
              have l1 := (hB.cell (p := ⟨w.heap.size, 1, none⟩) hlt3).trans m1
              clear hB
              by_cases hlt : j < n
              · have hjz : j < zs.length := by have := HLW.out; omega
                obtain ⟨x, hx⟩ := get_ex HPN.out hlt
                obtain ⟨p, hp⟩ := get_ex (k := j) HLW.out hlt
                have hwn := HSOL.out.win j hjz
                rw [getD_of hx, (Cs.lo_of hp).1, (Cs.lo_of hp).2] at hwn
                have hpo := HZP.out p (List.mem_of_getElem? hp)
                unfold okP okV at hpo
                obtain ⟨b1, o1, rfl, hb1, c1'⟩ := ints_cell I2.out hx
                obtain ⟨b2, o2, rfl, hb2, c2', c3'⟩ := HW.out.cell hp
                have d1 := (HBr.out.cell (p := ⟨b1, o1 + j, none⟩) hb1).trans c1'
                have D1 := Lib.hid c1'
                have d2 := (HBr.out.cell (p := ⟨b2, o2 + j * 2, none⟩) (Nat.lt_of_lt_of_le hb2 HB4.out.size)).trans ((HB4.out.cell (p := ⟨b2, o2 + j * 2, none⟩) hb2).trans c2')
                have d3 := (HBr.out.cell (p := ⟨b2, o2 + j * 2 + 1, none⟩) (Nat.lt_of_lt_of_le hb2 HB4.out.size)).trans ((HB4.out.cell (p := ⟨b2, o2 + j * 2 + 1, none⟩) hb2).trans c3')
                have HX := Lib.hid hx
                have x0 : 0 ≤ x := by omega
                have x1 : x ≤ 1000 := by omega
                have t1 : decide (x < p.1) = false := decide_eq_false (by omega)
                have t2 : decide (p.2 < x) = false := decide_eq_false (by omega)
                have e0 : (0 : Int) ≤ (j : Int) := by omega
                have e1 : (j : Int) < (n : Int) := by omega
                clear hx hp c1' c2' c3' hwn hpo
                cases j with
                | zero =>
                  simp only [Nat.zero_mul, Nat.add_zero] at d1 d2 d3
                  go_wp2_with fail
                  go_quiet (fail)
                  have HB5 := Lib.hid (below_drewN HBr.out nq)
                  generalize wr.drewN nq = wq at *
                  go_wp2_with fail
                  go_quiet (fail)
                  go_wp2_with fail
                  go_roundw
                  case rel => exact ⟨1, by omega, rfl, below_drewN HB5.out _⟩
                  case measure => simp only [intOf]; omega
                | succ i =>
                  obtain ⟨y, hy⟩ := get_ex (k := i) HPN.out (by omega)
                  have hmd : md + 1 = n := HND.out (by omega)
                  obtain ⟨z, hz⟩ := get_ex (k := i) HLD.out (by omega)
                  have hzd := HDS.out z (List.mem_of_getElem? hz)
                  have hsp := HSOL.out.stp i hjz
                  have hyst : (stL d a c)[i]? = some (a * z / 6000, c * z / 6000) := by unfold stL; rw [List.getElem?_map, hz]; rfl
                  rw [getD_of HX.out, getD_of hy, (Cs.up_of hyst).1, (Cs.up_of hyst).2] at hsp
                  simp only at hsp
                  have hyw := HSOL.out.win i (by omega)
                  obtain ⟨p', hp'⟩ := get_ex (k := i) HLW.out (by omega)
                  rw [getD_of hy, (Cs.lo_of hp').1, (Cs.lo_of hp').2] at hyw
                  have hpo' := HZP.out p' (List.mem_of_getElem? hp')
                  unfold okP okV at hpo'
                  have q1 := st_prod HAC.out.1 hzd
                  have q2 := st_prod HAC.out.2 hzd
                  have u1 := st_mul (a := a) (x := z)
                  have u2 := st_mul (a := c) (x := z)
                  obtain ⟨b3, o3, hBe, hb3, c4'⟩ := ints_cell HD.out hz
                  have d4 := (HBr.out.cell (p := ⟨b3, o3 + i, none⟩) (Nat.lt_of_lt_of_le hb3 HB4.out.size)).trans ((HB4.out.cell (p := ⟨b3, o3 + i, none⟩) hb3).trans c4')
                  obtain ⟨b1', o1', hAe, hb1', c5'⟩ := ints_cell I2.out hy
                  injection hAe with hAe
                  injection hAe with hAe hOe
                  subst hAe hOe hBe
                  have d5 := (HBr.out.cell (p := ⟨b1, o1 + i, none⟩) hb1).trans c5'
                  have y0 : 0 ≤ y := by omega
                  have y1 : y ≤ 1000 := by omega
                  have w1' : IntKind.i64.wrap (((i + 1 : Nat) : Int) - 1) = (i : Int) := by rw [show ((i + 1 : Nat) : Int) - 1 = i from by omega]; exact IntWalk.i64_in _ (by omega)
                  have s1 : IntKind.i64.wrap (x - y) = x - y := IntWalk.i64_in _ (by omega)
                  have s2 : IntKind.i64.wrap (y - x) = y - x := IntWalk.i64_in _ (by omega)
                  have s3 : IntKind.i64.wrap ((x - y) * 6000) = (x - y) * 6000 := IntWalk.i64_in _ (by omega)
                  have s4 : IntKind.i64.wrap ((y - x) * 6000) = (y - x) * 6000 := IntWalk.i64_in _ (by omega)
                  have s5 : IntKind.i64.wrap (a * z) = a * z := IntWalk.i64_in _ (by omega)
                  have s6 : IntKind.i64.wrap (c * z) = c * z := IntWalk.i64_in _ (by omega)
                  have g1 : decide (a * z < (x - y) * 6000) = false := decide_eq_false (by omega)
                  have g2 : decide (c * z < (y - x) * 6000) = false := decide_eq_false (by omega)
                  have hgd : decide (0 < i + 1) = true := decide_eq_true (by omega)
                  have v1 : (i : Int) < (n : Int) := by omega
                  have v2 : (i : Int) < (md : Int) := by omega
                  have v3 : (0 : Int) ≤ (i : Int) := by omega
                  clear hy hz hzd hsp hyst hyw hpo' q1 q2 u1 u2 c4' c5' hp'
                  go_wp2_with fail
                  go_quiet (fail)
                  have HB5 := Lib.hid (below_drewN HBr.out nq)
                  replace l0 : (wr.drewN nq).cell? ⟨w.heap.size, 0, none⟩ = some (.int .i64 a) := l0
                  replace l1 : (wr.drewN nq).cell? ⟨w.heap.size, 1, none⟩ = some (.int .i64 c) := l1
                  replace d1 : (wr.drewN nq).cell? ⟨b1, o1 + (i + 1), none⟩ = some (.int .i64 x) := d1
                  replace d4 : (wr.drewN nq).cell? ⟨b3, o3 + i, none⟩ = some (.int .i64 z) := d4
                  replace d5 : (wr.drewN nq).cell? ⟨b1, o1 + i, none⟩ = some (.int .i64 y) := d5
                  clear d2 d3
                  generalize wr.drewN nq = wq at *
                  go_wp2_with fail
                  go_quiet (fail)
                  go_wp2_with fail
                  go_roundw
                  case rel => exact ⟨i + 1 + 1, by omega, by go_num, below_drewN HB5.out _⟩
                  case measure => simp only [intOf]; omega
              · go_wp2_with fail
                go_ret
                exact ⟨ret_tt_SpeedplanChanges (by simp), bel_trans HB4.out HBr.out⟩
          · have hg2 : decide (0 < n) = false := decide_eq_false hn0
            have hg4 : ¬ (0 : Int) < (n : Int) := by omega
            have hnz : n = 0 := by omega
            clear hg1 hn0
            subst hnz
            go_wp2_with fail
            refine wp_loop_rounds 1 ?_
            rw [rounds_succ]
            go_wp2_with fail
            go_ret
            exact ⟨ret_tt_SpeedplanChanges (by simp), HB4.out⟩
        · have hne : (plE zs (stL d a c) (List.replicate n 1000) != 0) = true := by rw [bne_iff_ne]; exact hpl
          have HPL2 := Lib.hid HPL
          have HON := Lib.hid (show okN (plE zs (stL d a c) (List.replicate n 1000)) n = 0 by unfold okN; rw [if_neg hpl])
          clear HPL hpl
          go_wp2_with fail
          refine HPL2.out.mono ?_; rintro e w4 ⟨A2, c2, rfl, hI, hB⟩
          have HB4 := Lib.hid (bel_trans HB3.out hB)
          rw [HON.out]
          clear hI hB HPL2 HON
          generalize plE zs (stL d a c) (List.replicate n 1000) = E at *
          go_wp2_with fail
          go_ret
          exact ⟨ret_tt_SpeedplanChanges (by simp), HB4.out⟩
  · have hne : (stE d a c != 0) = true := by rw [bne_iff_ne]; exact hst
    have HON := Lib.hid (show okN (stE d a c) md = 0 by unfold okN; rw [if_neg hst])
    clear hst
    go_enter Try.func6, Try.ntmps6
    go_wp2_with fail
    refine (awake_any _).mono ?_; rintro e w1 ⟨rfl, hB⟩
    have k0 : w1.cell? ⟨w.heap.size, 0, none⟩ = some (.int .i64 a) := (hB.cell (p := ⟨w.heap.size, 0, none⟩) (by simp)).trans (one_box w _ _ 0)
    have k1 : w1.cell? ⟨w.heap.size, 1, none⟩ = some (.int .i64 c) := (hB.cell (p := ⟨w.heap.size, 1, none⟩) (by simp)).trans (one_box w _ _ 1)
    have hlt0 : w.heap.size < w1.heap.size := by have := hB.size; simp at this; omega
    have HB1 := Lib.hid (bel_alloc hB)
    clear hB
    go_wp2_with fail
    refine (xSpSteps B md cd d a c w1 (HD.out.below HB1.out) HNM.out.2).mono ?_; rintro e w2 ⟨A1, c1, rfl, hP, hC, hB⟩
    have HB2 := Lib.hid (bel_trans HB1.out hB)
    rw [HON.out]
    clear hP hC hB
    generalize stE d a c = E at *
    go_wp2_with fail
    go_ret
    exact ⟨ret_tt_SpeedplanChanges (by simp), HB2.out⟩
end Go.Proofs.Ytgplpapphmaafaa
namespace Go.Proofs.Ytgplpapphmaafaa.speedplanChanges
open Go.ChangeShapes Go.WideShapes Go.ChangeAt Go.RowKit
open Go.ChangeMaps (open_string shut_string)
set_option linter.unusedVariables false
set_option linter.unusedSimpArgs false

theorem own : ownKnob Try.prog.godebug = none := by kernel_rfl
theorem laidOut : laidOutB Try.prog = true := by kernel_rfl

set_option maxRecDepth 100000 in
theorem lifted (os : Os) (started : os.Started) (H : Type) (enc : TypeId × Value → H) :
    ReturnsInHanded {} Try.checked os 6 .any (Rows.speedplanChangesSpec.pre6 enc Try.prog Try.f6 Rows.speedplanChangesRow.domain false) (Rows.speedplanChangesSpec.post enc Try.prog Try.f6 false true false false) := by
  refine returnsInHanded_of_change_sized (C := Try.checked) own started (by kernel_rfl) Try.func6
    (ChangeSpec.witness6 (enc := enc) (C := Try.checked) false ⟨#[], #[.slice none 0 0, .slice none 0 0, .agg #[.int .i64 0, .int .i64 0]], []⟩ 8 (by kernel_rfl) (by kernel_rfl) (by kernel_rfl) (by kernel_rfl)) ?_
  intro W base args ds gs before hval0 hW hcnd hsz0 _
  have hval : ∀ (j : Nat) t v, Try.f6.params[j]? = some t → args[j]? = some v → Value.okWide Try.prog W .any base t v := hval0
  have hW' := hW
  obtain ⟨p, q, hA0, hV, rfl, hfz, hnd⟩ := hW
  have hA : DataW.TrodAll enc Try.prog W 0 (fun _ => true) true Try.f6.params.toList args.toList ds p := hA0
  have hsz : (DataW.weightsEach Try.prog (Try.f6.params.toList ++ Rows.speedplanChangesSpec.plain.varTypes Try.prog) (ds ++ gs)).all (· ≤ reachBytes) = true := hsz0
  rw [Try.params6] at hA hval hsz
  obtain ⟨v0, vs0, d0, ds0, p0, q0, hargs, rfl, rfl, h0, r0⟩ := trodAll_cons hA
  obtain ⟨v1, vs1, d1, ds1, p1, q1, rfl, rfl, rfl, h1, r1⟩ := trodAll_cons r0
  obtain ⟨v2, vs2, d2, ds2, p2, q2, rfl, rfl, rfl, h2, r2⟩ := trodAll_cons r1
  obtain ⟨rfl, rfl, rfl⟩ := trodAll_nil r2
  obtain rfl : args = #[v0, v1, v2] := by cases args; simp_all
  obtain ⟨rfl, rfl⟩ := trodVars_none hV
  have k0 := h0
  have lt0 : ∀ x ∈ p0, x.block < W.heap.size := by obtain ⟨m, hm⟩ := k0; exact DataW.trod_lt m _ _ _ hm
  have k1 := h1
  have lt1 : ∀ x ∈ p1, x.block < W.heap.size := by obtain ⟨m, hm⟩ := k1; exact DataW.trod_lt m _ _ _ hm
  have k2 := h2
  have lt2 : ∀ x ∈ p2, x.block < W.heap.size := by obtain ⟨m, hm⟩ := k2; exact DataW.trod_lt m _ _ _ hm
  obtain ⟨A0, n0, c0, z0, rfl, m0, qc0, w0, u0, o0⟩ := open_recs_Trod win 2 (by decide) (fun _ => rfl) WinWf Try.underlying34 (by kernel_rfl) el_win (hval 0 34 v0 rfl rfl) h0
  have o0' := o0 (weights_arg hsz (j := 0) rfl rfl)
  rw [show Try.prog.bytesOf 42 = 16 by kernel_rfl] at o0'
  obtain ⟨A1, n1, c1, z1, rfl, m1, qc1, w1, u1, o1⟩ := open_ints_Trod Try.underlying22 Try.underlying2 (by kernel_rfl) (hval 1 22 v1 rfl rfl) h1
  have o1' := o1 (weights_arg hsz (j := 1) rfl rfl)
  rw [show Try.prog.bytesOf 2 = 8 by kernel_rfl] at o1'
  obtain ⟨a2, b2, rfl, w2, u2⟩ := open_arr2 Try.underlying23 Try.underlying2 (by kernel_rfl) (by kernel_rfl) (hval 2 23 v2 rfl rfl) h2
  clear hA0 hval0
  refine (Ytgplpapphmaafaa.walk_SpeedplanChanges A0 n0 c0 z0 A1 n1 c1 z1 a2 b2 W w0 u0 m0 o0' qc0 w1 u1 m1 o1' w2 u2).mono fun e W' ⟨he, bel⟩ => ?_
  subst he
  exact ⟨_, rfl, _, _, _, [], _, [], hW', trodAll_mk1 (shut_bool Try.underlying4 _), (trodAll_cons_mk (Below.trod laidOut (by kernel_rfl) (of_decide_eq_true (by kernel_rfl)) k0 bel lt0) (trodAll_cons_mk (Below.trod laidOut (by kernel_rfl) (of_decide_eq_true (by kernel_rfl)) k1 bel lt1) (trodAll_cons_mk (Below.trod laidOut (by kernel_rfl) (of_decide_eq_true (by kernel_rfl)) k2 bel lt2) trodAll_mk0))), rfl, bel.frame _, fun h => by cases h⟩

theorem over : Rows.speedplanChangesRow.holds Try.pinned (OpenSpec.ofChange Rows.speedplanChangesSpec) :=
  OpenClaim.holds_of_wide 6 Try.f6 rfl rfl rfl rfl rfl rfl rfl ⟨rfl, rfl, rfl, rfl, rfl⟩ rfl rfl rfl rfl rfl (by kernel_rfl) Try.func6 (by kernel_rfl)
    (of_decide_eq_true (by kernel_rfl)) (by unfold Func.isWrapper; first | (rw [if_pos (by decide +kernel)]; kernel_rfl) | (rw [if_neg (by decide +kernel)]; exact ⟨rfl, rfl⟩))
    (fun os started H enc _ => lifted os started H enc)

/-- the statement -/
theorem proved : Rows.SpeedplanChangesSaid := over
end Go.Proofs.Ytgplpapphmaafaa.speedplanChanges
