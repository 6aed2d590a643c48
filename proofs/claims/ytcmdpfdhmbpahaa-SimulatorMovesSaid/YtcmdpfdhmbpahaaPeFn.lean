/- Layer 31: the functions of performance tables, of the program and of the reference. -/
import Derived.Test.YtcmdpfdhmbpahaaPeTab
import Derived.Deep.RegionHeld3
namespace Go.Proofs.Ytcmdpfdhmbpahaa
set_option linter.unusedSimpArgs false
set_option linter.unusedVariables false
open Go.RowKit
/-- tables without an error -/
structure PfG (p : Prf) : Prop where
  em : 1 ≤ p.em ∧ p.em ≤ 3000000000
  r2 : 2 ≤ p.sal.n
  r12 : p.sal.n ≤ 12
  c2 : 2 ≤ p.sms.n
  c6 : p.sms.n ≤ 6
  scl : shpT (rowsL p.cl) p.sal.n p.sms.n = true
  scf : shpT (rowsL p.cf) p.sal.n p.sms.n = true
  scr : shpT (rowsL p.cr) p.sal.n p.sms.n = true
  lde : p.sde.n = p.sal.n
  lid : p.sid.n = p.sal.n
  lmx : p.smx.n = p.sal.n
  lmn : p.smn.n = p.sms.n
  aal : Pe.Asc p.al
  ams : Pe.Asc p.ms
  ral : ∀ x ∈ p.al, -200000 ≤ x ∧ x ≤ 6000000
  rce : -200000 ≤ p.ce ∧ p.ce ≤ 6000000
  rms : ∀ x ∈ p.ms, 1 ≤ x ∧ x ≤ 3000000000
  rcl : rngT (rowsL p.cl) 0 10000 = true
  rde : ∀ x ∈ p.de, 1 ≤ x ∧ x ≤ 10000
  rcf : rngT (rowsL p.cf) 0 50000 = true
  rcr : rngT (rowsL p.cr) 0 50000 = true
  rid : ∀ x ∈ p.id, 0 ≤ x ∧ x ≤ 50000
  rmx : ∀ x ∈ p.mx, 1 ≤ x ∧ x ≤ 1000
  rmn : ∀ x ∈ p.mn, 1 ≤ x ∧ x ≤ 1000
  rrf : 1 ≤ p.rf ∧ p.rf ≤ 1000
  rex : 0 ≤ p.ex ∧ p.ex ≤ 100
  ccf : lnUp (rowsL p.cf) = true
  ccr : lnUp (rowsL p.cr) = true
theorem pf_good {p : Prf} (h : pfE p = 0) : PfG p := by
  have H := firstE_all (l := pfL p) (by unfold pfL; simp) h
  unfold pfL at H
  exact ⟨inB_iff.1 (H _ (List.mem_of_getElem? (i := 1) rfl)), of_decide_eq_true (H _ (List.mem_of_getElem? (i := 3) rfl)), of_decide_eq_true (H _ (List.mem_of_getElem? (i := 4) rfl)), of_decide_eq_true (H _ (List.mem_of_getElem? (i := 5) rfl)), of_decide_eq_true (H _ (List.mem_of_getElem? (i := 6) rfl)), (H _ (List.mem_of_getElem? (i := 7) rfl)), (H _ (List.mem_of_getElem? (i := 8) rfl)), (H _ (List.mem_of_getElem? (i := 9) rfl)), of_decide_eq_true (H _ (List.mem_of_getElem? (i := 10) rfl)), of_decide_eq_true (H _ (List.mem_of_getElem? (i := 11) rfl)), of_decide_eq_true (H _ (List.mem_of_getElem? (i := 12) rfl)), of_decide_eq_true (H _ (List.mem_of_getElem? (i := 13) rfl)), of_decide_eq_true (H _ (List.mem_of_getElem? (i := 14) rfl)), of_decide_eq_true (H _ (List.mem_of_getElem? (i := 15) rfl)), rngL_bd (H _ (List.mem_of_getElem? (i := 16) rfl)), inB_iff.1 (H _ (List.mem_of_getElem? (i := 17) rfl)), rngL_bd (H _ (List.mem_of_getElem? (i := 18) rfl)), (H _ (List.mem_of_getElem? (i := 19) rfl)), rngL_bd (H _ (List.mem_of_getElem? (i := 20) rfl)), (H _ (List.mem_of_getElem? (i := 21) rfl)), (H _ (List.mem_of_getElem? (i := 22) rfl)), rngL_bd (H _ (List.mem_of_getElem? (i := 23) rfl)), rngL_bd (H _ (List.mem_of_getElem? (i := 24) rfl)), rngL_bd (H _ (List.mem_of_getElem? (i := 25) rfl)), inB_iff.1 (H _ (List.mem_of_getElem? (i := 26) rfl)), inB_iff.1 (H _ (List.mem_of_getElem? (i := 27) rfl)), (H _ (List.mem_of_getElem? (i := 30) rfl)), (H _ (List.mem_of_getElem? (i := 31) rfl))⟩
theorem load_prf {p : Prf} {W : World} {b : Nat} (h : Has W b p.cells) : (Instr.loadAt 41 (.pointer (some ⟨b, 0, none⟩))).run Try.prog W = .ok (.agg p.cells.toArray) W :=
  run_loadAt_mid W b 0 _ p.cells _ (h.range 0 (fun j v hv => by rw [Nat.zero_add]; exact hv)) Try.underlying41 rfl (by kernel_rfl)
theorem Sq.mono {w : World} {A : Option Addr} {n M : Nat} {hi HI : Int} {rs : List Row} (h : Sq w A n M hi rs) (hh : hi ≤ HI) : Sq w A n M HI rs := ⟨h.tab, h.len, fun r hr x hx => by have := h.bd r hr x hx; omega⟩
theorem PfG.sq {p : Prf} (g : PfG p) {w : World} {A : Option Addr} {n : Nat} {rs : List Row} {hi : Int} (ht : Tab w A n rs) (h1 : shpT (rowsL rs) p.sal.n p.sms.n = true) (h2 : rngT (rowsL rs) 0 hi = true) (hh : hi ≤ 50000) : Sq w A p.sal.n p.sms.n 50000 rs := by
  have hn := (shp_len h1 ht).1
  subst hn
  exact (Sq.of ht h1 h2).mono hh
def pcE (p : Prf) (alt mass : Int) : Int := if pfE p ≠ 0 then pfE p else if inB alt (-200000) 6000000 = true ∧ inB mass 1 3000000000 = true then 0 else 2
theorem pcE_0 {p : Prf} {alt mass : Int} (h : pcE p alt mass = 0) : pfE p = 0 ∧ (-200000 ≤ alt ∧ alt ≤ 6000000) ∧ 1 ≤ mass ∧ mass ≤ 3000000000 := by
  unfold pcE at h
  by_cases h1 : pfE p = 0
  · rw [if_neg (by rw [h1]; simp)] at h
    by_cases h2 : inB alt (-200000) 6000000 = true ∧ inB mass 1 3000000000 = true
    · exact ⟨h1, inB_iff.1 h2.1, inB_iff.1 h2.2⟩
    · rw [if_neg h2] at h; exact absurd h (by decide)
  · rw [if_pos h1] at h; exact absurd h h1
set_option maxRecDepth 100000 in
set_option maxHeartbeats 2000000 in
theorem xPcheck (p : Prf) (alt mass : Int) (w : World) (hl : p.lies w) (hok : p.ok) : Calls Try.prog 79 #[.agg p.cells.toArray, .int .i64 alt, .int .i64 mass] w fun e w' => e = .returned (.int .i64 (pcE p alt mass)) ∧ Below w.heap.size w w' := by
  have HV := Lib.hid (show pcE p alt mass = if pfE p ≠ 0 then pfE p else if inB alt (-200000) 6000000 = true ∧ inB mass 1 3000000000 = true then 0 else 2 from rfl)
  have HC := Lib.hid (fun w1 => xPfCheck p (w.alloc w1) (hl.below (below_alloc1 w w1)) hok)
  generalize pcE p alt mass = EE at *
  clear hl hok
  by_cases he : pfE p = 0
  rotate_left
  · have HF := Lib.hid (HV.out.trans (if_pos he))
    generalize pfE p = E at *
    have e1 := beq_of he
    have e2 := bne_of e1
    clear HV he
    go_enter Try.func79, Try.ntmps79
    go_wp2_with (refine at_prf (.tmp 3) rfl rfl rfl (Has.new w p.cells.toArray _) ?_)
    refine (HC.out _).mono ?_; rintro e w1 ⟨rfl, hB⟩
    have HB := Lib.hid (bel_alloc hB)
    clear hB
    go_wp2_with fail
    go_ret
    exact ⟨ret_int HF.out.symm, HB.out⟩
  rw [he] at HC HV
  replace HV := Lib.hid (HV.out.trans (if_neg (by simp)))
  clear he
  cases g1 : inB alt (-200000) 6000000
  · have HF := Lib.hid (HV.out.trans (if_neg (by rw [g1]; simp)))
    have G1 := Lib.hid g1
    clear g1
    go_enter Try.func79, Try.ntmps79
    go_wp2_with (refine at_prf (.tmp 3) rfl rfl rfl (Has.new w p.cells.toArray _) ?_)
    refine (HC.out _).mono ?_; rintro e w1 ⟨rfl, hB⟩
    have HB := Lib.hid (bel_alloc hB)
    clear hB
    go_wp2_with fail
    refine (xWi31 _ _ _ _).mono ?_; rintro e wx ⟨rfl, rfl⟩
    rw [G1.out]
    go_wp2_with fail
    go_ret
    exact ⟨ret_int HF.out.symm, HB.out⟩
  cases g2 : inB mass 1 3000000000
  · have HF := Lib.hid (HV.out.trans (if_neg (by rw [g2]; simp)))
    have G1 := Lib.hid g1
    have G2 := Lib.hid g2
    clear g1 g2
    go_enter Try.func79, Try.ntmps79
    go_wp2_with (refine at_prf (.tmp 3) rfl rfl rfl (Has.new w p.cells.toArray _) ?_)
    refine (HC.out _).mono ?_; rintro e w1 ⟨rfl, hB⟩
    have HB := Lib.hid (bel_alloc hB)
    clear hB
    go_wp2_with fail
    refine (xWi31 _ _ _ _).mono ?_; rintro e wx ⟨rfl, rfl⟩
    rw [G1.out]
    go_wp2_with fail
    refine (xWi31 _ _ _ _).mono ?_; rintro e wx ⟨rfl, rfl⟩
    rw [G2.out]
    go_wp2_with fail
    go_ret
    exact ⟨ret_int HF.out.symm, HB.out⟩
  have HF := Lib.hid (HV.out.trans (if_pos ⟨g1, g2⟩))
  have G1 := Lib.hid g1
  have G2 := Lib.hid g2
  clear g1 g2
  go_enter Try.func79, Try.ntmps79
  go_wp2_with (refine at_prf (.tmp 3) rfl rfl rfl (Has.new w p.cells.toArray _) ?_)
  refine (HC.out _).mono ?_; rintro e w1 ⟨rfl, hB⟩
  have HB := Lib.hid (bel_alloc hB)
  clear hB
  go_wp2_with fail
  refine (xWi31 _ _ _ _).mono ?_; rintro e wx ⟨rfl, rfl⟩
  rw [G1.out]
  go_wp2_with fail
  refine (xWi31 _ _ _ _).mono ?_; rintro e wx ⟨rfl, rfl⟩
  rw [G2.out]
  go_wp2_with fail
  go_ret
  exact ⟨ret_int HF.out.symm, HB.out⟩
def dscV (p : Prf) (alt : Int) : Int := if pcE p alt 1 = 0 then Pe.iv (p.al.zip p.de) alt else 0
def idlV (p : Prf) (alt : Int) : Int := if pcE p alt 1 = 0 then Pe.iv (p.al.zip p.id) alt else 0
def mxsV (p : Prf) (alt : Int) : Int := if pcE p alt 1 = 0 then Pe.iv (p.al.zip p.mx) alt else 0
def mnsV (p : Prf) (mass : Int) : Int := if pcE p 0 mass = 0 then Pe.iv (p.ms.zip p.mn) mass else 0
def clfV (p : Prf) (alt mass : Int) : Int := if pcE p alt mass = 0 then tabV p.al p.ms (rowsL p.cf) alt mass else 0
def crfE (p : Prf) (alt mass tas : Int) : Int := if pcE p alt mass ≠ 0 then pcE p alt mass else if inB tas 0 4000 = true then 0 else 2
def crfV (p : Prf) (alt mass tas : Int) : Int := if crfE p alt mass tas = 0 then min (tabV p.al p.ms (rowsL p.cr) alt mass * (1000 + p.ex * max (tas - p.rf) 0) / 1000) 50000 else 0
theorem crf_bd {v x y : Int} (hv : 0 ≤ v ∧ v ≤ 50000) (hx : 0 ≤ x ∧ x ≤ 100) (hy : 0 ≤ y ∧ y ≤ 4000) : (0 ≤ x * y ∧ x * y ≤ 400000) ∧ 0 ≤ v * (1000 + x * y) ∧ v * (1000 + x * y) ≤ 20050000000 := by
  have a0 : 0 ≤ x * y := Int.mul_nonneg hx.1 hy.1
  have a1 : x * y ≤ 100 * 4000 := Int.mul_le_mul hx.2 hy.2 hy.1 (by decide)
  have b0 : 0 ≤ v * (1000 + x * y) := Int.mul_nonneg hv.1 (by omega)
  have b1 : v * (1000 + x * y) ≤ 50000 * (1000 + 100 * 4000) := Int.mul_le_mul hv.2 (by omega) (by omega) (by decide)
  omega
def riseF (p : Prf) (mass : Int) : Nat → Int → Int
  | 0, a => a
  | k + 1, a => if p.ce ≤ a then a else if tabV p.al p.ms (rowsL p.cl) a mass = 0 then a else riseF p mass k (min (a + tabV p.al p.ms (rowsL p.cl) a mass) p.ce)
def rsE (p : Prf) (alt mass ticks : Int) : Int := if pcE p alt mass ≠ 0 then pcE p alt mass else if inB ticks 0 50000 = true then 0 else 2
def rsV (p : Prf) (alt mass ticks : Int) : Int := if rsE p alt mass ticks = 0 then riseF p mass ticks.toNat alt else 0
theorem cells15 {p : Prf} {W : World} {b : Nat} (h : Has W b p.cells) : W.cell? ⟨b, 0, none⟩ = some (.string p.nm) ∧ W.cell? ⟨b, 1, none⟩ = some (.int .i64 p.em) ∧ W.cell? ⟨b, 2, none⟩ = some (.int .i64 p.mf) ∧ W.cell? ⟨b, 3, none⟩ = some (.slice p.sal.A p.sal.n p.sal.c) ∧ W.cell? ⟨b, 4, none⟩ = some (.slice p.sms.A p.sms.n p.sms.c) ∧ W.cell? ⟨b, 5, none⟩ = some (.slice p.scl.A p.scl.n p.scl.c) ∧ W.cell? ⟨b, 6, none⟩ = some (.slice p.scf.A p.scf.n p.scf.c) ∧ W.cell? ⟨b, 7, none⟩ = some (.slice p.scr.A p.scr.n p.scr.c) ∧ W.cell? ⟨b, 8, none⟩ = some (.slice p.sde.A p.sde.n p.sde.c) ∧ W.cell? ⟨b, 9, none⟩ = some (.slice p.sid.A p.sid.n p.sid.c) ∧ W.cell? ⟨b, 10, none⟩ = some (.slice p.smx.A p.smx.n p.smx.c) ∧ W.cell? ⟨b, 11, none⟩ = some (.slice p.smn.A p.smn.n p.smn.c) ∧ W.cell? ⟨b, 12, none⟩ = some (.int .i64 p.rf) ∧ W.cell? ⟨b, 13, none⟩ = some (.int .i64 p.ex) ∧ W.cell? ⟨b, 14, none⟩ = some (.int .i64 p.ce) := ⟨h.cell 0 _ rfl, h.cell 1 _ rfl, h.cell 2 _ rfl, h.cell 3 _ rfl, h.cell 4 _ rfl, h.cell 5 _ rfl, h.cell 6 _ rfl, h.cell 7 _ rfl, h.cell 8 _ rfl, h.cell 9 _ rfl, h.cell 10 _ rfl, h.cell 11 _ rfl, h.cell 12 _ rfl, h.cell 13 _ rfl, h.cell 14 _ rfl⟩
set_option maxRecDepth 100000 in
set_option maxHeartbeats 2000000 in
theorem xCruiseFlow (p : Prf) (alt mass tas : Int) (w : World) (hl : p.lies w) (hok : p.ok) : Calls Try.prog 39 #[.agg p.cells.toArray, .int .i64 alt, .int .i64 mass, .int .i64 tas] w fun e w' => e = .returned (.tuple #[.int .i64 (crfV p alt mass tas), .int .i64 (crfE p alt mass tas)]) ∧ Below w.heap.size w w' := by
  have HE := Lib.hid (show crfE p alt mass tas = if pcE p alt mass ≠ 0 then pcE p alt mass else if inB tas 0 4000 = true then 0 else 2 from rfl)
  have HV := Lib.hid (show crfV p alt mass tas = if crfE p alt mass tas = 0 then min (tabV p.al p.ms (rowsL p.cr) alt mass * (1000 + p.ex * max (tas - p.rf) 0) / 1000) 50000 else 0 from rfl)
  have HC := Lib.hid (fun w1 => xPcheck p alt mass (w.alloc w1) (hl.below (below_alloc1 w w1)) hok)
  generalize crfV p alt mass tas = V at *
  generalize crfE p alt mass tas = EE at *
  by_cases he : pcE p alt mass = 0
  rotate_left
  · have HE1 := Lib.hid (HE.out.trans (if_pos he))
    have HF := Lib.hid (HV.out.trans (if_neg (by rw [HE1.out]; exact he)))
    generalize pcE p alt mass = E at *
    have e1 := beq_of he
    have e2 := bne_of e1
    clear HV HE he hl hok
    go_enter Try.func39, Try.ntmps39
    go_wp2_with (refine at_prf (.tmp 4) rfl rfl rfl (Has.new w p.cells.toArray _) ?_)
    refine (HC.out _).mono ?_; rintro e w1 ⟨rfl, hB⟩
    have HB := Lib.hid (bel_alloc hB)
    clear hB
    go_wp2_with fail
    go_ret2
    exact ⟨ret_tup2 HF.out.symm HE1.out.symm, HB.out⟩
  replace HE := Lib.hid (HE.out.trans (if_neg (by rw [he]; simp)))
  obtain ⟨hp0, ha, hm⟩ := pcE_0 he
  have g := pf_good hp0
  have HTB := Lib.hid (fun (W : World) (hB : Below w.heap.size w W) => xTab31 p p.scr.A p.scr.c p.cr alt mass W (hl.below hB) (g.sq (hl.below hB).cr g.scr g.rcr (by decide)) g.r2 g.r12 g.c2 g.c6 g.aal g.ams g.ral g.rms ha hm)
  have HPC := Lib.hid (show p.cells[7]? = some (.slice p.scr.A p.sal.n p.scr.c) ∧ p.cells[12]? = some (.int .i64 p.rf) ∧ p.cells[13]? = some (.int .i64 p.ex) from ⟨by rw [← (shp_len g.scr hl.cr).1]; rfl, rfl, rfl⟩)
  replace HTB := Lib.hid (show ∀ (W : World), Below w.heap.size w W → Calls Try.prog 80 #[.agg p.cells.toArray, .slice p.scr.A p.scr.n p.scr.c, .int .i64 alt, .int .i64 mass] W fun e w' => e = .returned (.int .i64 (tabV p.al p.ms (rowsL p.cr) alt mass)) ∧ Below W.heap.size W w' from fun W hB => by rw [(shp_len g.scr hl.cr).1]; exact HTB.out W hB)
  have tb := tabV_bd (alt := alt) (mass := mass) (g.sq hl.cr g.scr g.rcr (by decide)) g.aal hl.al.len (by have := g.r2; omega) g.ams hl.ms.len (by have := g.c2; omega)
  obtain ⟨f0, f1⟩ := g.rrf
  have hx := g.rex
  rw [he] at HC
  clear hp0 ha hm g hl hok he
  generalize tabV p.al p.ms (rowsL p.cr) alt mass = U at *
  cases gt : inB tas 0 4000
  · have HE1 := Lib.hid (HE.out.trans (if_neg (by rw [gt]; decide)))
    have HF := Lib.hid (HV.out.trans (if_neg (by rw [HE1.out]; decide)))
    have GT := Lib.hid gt
    clear gt
    go_enter Try.func39, Try.ntmps39
    go_wp2_with (refine at_prf (.tmp 4) rfl rfl rfl (Has.new w p.cells.toArray _) ?_)
    refine (HC.out _).mono ?_; rintro e w1 ⟨rfl, hB⟩
    have HB := Lib.hid (bel_alloc hB)
    clear hB
    go_wp2_with fail
    refine (xWi31 _ _ _ _).mono ?_; rintro e wx ⟨rfl, rfl⟩
    rw [GT.out]
    go_wp2_with fail
    go_ret2
    exact ⟨ret_tup2 HF.out.symm HE1.out.symm, HB.out⟩
  have GT := Lib.hid gt
  obtain ⟨t0, t1⟩ := inB_iff.1 gt
  clear gt
  have HE1 := Lib.hid (HE.out.trans (if_pos GT.out))
  have HF := Lib.hid (HV.out.trans (if_pos HE1.out))
  obtain ⟨⟨y0, y1⟩, y2, y3⟩ := crf_bd tb hx (y := max (tas - p.rf) 0) (by omega)
  clear tb hx HE HV
  go_enter Try.func39, Try.ntmps39
  go_wp2_with (refine at_prf (.tmp 4) rfl rfl rfl (Has.new w p.cells.toArray _) ?_)
  refine (HC.out _).mono ?_; rintro e w1 ⟨rfl, hB⟩
  have BP := Lib.hid ((Has.new w p.cells.toArray 41).below hB)
  have HB := Lib.hid (bel_alloc hB)
  clear hB
  go_wp2_with fail
  refine (xWi31 _ _ _ _).mono ?_; rintro e wx ⟨rfl, rfl⟩
  rw [GT.out]
  have S0 := cells15 BP.out
  obtain ⟨k0, k1, k2, k3, k4, k5, k6, k7, k8, k9, k10, k11, k12, k13, k14⟩ := S0
  go_wp2_with fail
  go_region_held3 (fun W => W.cell? ⟨w.heap.size, 0, none⟩ = some (.string p.nm) ∧ W.cell? ⟨w.heap.size, 1, none⟩ = some (.int .i64 p.em) ∧ W.cell? ⟨w.heap.size, 2, none⟩ = some (.int .i64 p.mf) ∧ W.cell? ⟨w.heap.size, 3, none⟩ = some (.slice p.sal.A p.sal.n p.sal.c) ∧ W.cell? ⟨w.heap.size, 4, none⟩ = some (.slice p.sms.A p.sms.n p.sms.c) ∧ W.cell? ⟨w.heap.size, 5, none⟩ = some (.slice p.scl.A p.scl.n p.scl.c) ∧ W.cell? ⟨w.heap.size, 6, none⟩ = some (.slice p.scf.A p.scf.n p.scf.c) ∧ W.cell? ⟨w.heap.size, 7, none⟩ = some (.slice p.scr.A p.scr.n p.scr.c) ∧ W.cell? ⟨w.heap.size, 8, none⟩ = some (.slice p.sde.A p.sde.n p.sde.c) ∧ W.cell? ⟨w.heap.size, 9, none⟩ = some (.slice p.sid.A p.sid.n p.sid.c) ∧ W.cell? ⟨w.heap.size, 10, none⟩ = some (.slice p.smx.A p.smx.n p.smx.c) ∧ W.cell? ⟨w.heap.size, 11, none⟩ = some (.slice p.smn.A p.smn.n p.smn.c) ∧ W.cell? ⟨w.heap.size, 12, none⟩ = some (.int .i64 p.rf) ∧ W.cell? ⟨w.heap.size, 13, none⟩ = some (.int .i64 p.ex) ∧ W.cell? ⟨w.heap.size, 14, none⟩ = some (.int .i64 p.ce)) ((first | exact cells15 (Hid.out (by assumption)) | exact cells15 (Has.drew (Hid.out (by assumption))))) ((go_at_call 80; refine (HTB.out _ (by first | exact Hid.out (by assumption) | exact Below.drew (Hid.out (by assumption)))).mono ?_; rintro e wx ⟨rfl, hB⟩; have KC : Hid (Has wx w.heap.size p.cells) := Lib.hid (Has.below (by first | exact Hid.out (by assumption) | exact Has.drew (Hid.out (by assumption))) hB); have BB : Hid (Below w.heap.size w wx) := Lib.hid (bel_trans (by first | exact Hid.out (by assumption) | exact Below.drew (Hid.out (by assumption))) hB); clear hB))
  all_goals (
    go_wp2_with fail
    go_ret2
    exact ⟨ret_tup2 HF.out.symm HE1.out.symm, by first | exact Hid.out (by assumption) | exact Below.drew (Hid.out (by assumption))⟩)
theorem rise_0 {p : Prf} {mass a : Int} : riseF p mass 0 a = a := rfl
theorem rise_c {p : Prf} {mass a : Int} {k : Nat} (h : p.ce ≤ a) : riseF p mass (k + 1) a = a := if_pos h
theorem rise_z {p : Prf} {mass a : Int} {k : Nat} (h : ¬ p.ce ≤ a) (h0 : tabV p.al p.ms (rowsL p.cl) a mass = 0) : riseF p mass (k + 1) a = a := by
  show (if _ then _ else _) = _
  rw [if_neg h, if_pos h0]
theorem rise_s {p : Prf} {mass a : Int} {k : Nat} (h : ¬ p.ce ≤ a) (h0 : tabV p.al p.ms (rowsL p.cl) a mass ≠ 0) : riseF p mass (k + 1) a = riseF p mass k (min (a + tabV p.al p.ms (rowsL p.cl) a mass) p.ce) := by
  show (if _ then _ else _) = _
  rw [if_neg h, if_neg h0]
end Go.Proofs.Ytcmdpfdhmbpahaa
