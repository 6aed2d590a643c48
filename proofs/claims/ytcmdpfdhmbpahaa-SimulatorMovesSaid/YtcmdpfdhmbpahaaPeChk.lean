/- Layer 31: Check, of the program and of the reference. -/
import Derived.Test.YtcmdpfdhmbpahaaPeV
import Derived.Test.YtcmdpfdhmbpahaaFxOps
import Derived.Test.YtcmdpfdhmbpahaaNm
import Derived.Deep.MidRow
namespace Go.Proofs.Ytcmdpfdhmbpahaa
set_option linter.unusedSimpArgs false
set_option linter.unusedVariables false
open Go.RowKit
/-- the first test that fails -/
def firstE : List (Bool × Int) → Int
  | [] => 0
  | (b, e) :: l => if b = true then firstE l else e
theorem firstE_t {b : Bool} {e : Int} {l : List (Bool × Int)} (h : b = true) : firstE ((b, e) :: l) = firstE l := if_pos h
theorem firstE_f {b : Bool} {e : Int} {l : List (Bool × Int)} (h : b = false) : firstE ((b, e) :: l) = e := if_neg (by rw [h]; decide)
theorem firstE_all : ∀ {l : List (Bool × Int)}, (∀ q ∈ l, q.2 ≠ 0) → firstE l = 0 → ∀ q ∈ l, q.1 = true
  | [], _, _, q, hq => by simp at hq
  | (b, e) :: l, he, h, q, hq => by
    cases b with
    | false => rw [firstE_f rfl] at h; exact absurd h (he (false, e) (by simp))
    | true =>
      rw [firstE_t rfl] at h
      rcases List.mem_cons.1 hq with rfl | hq
      · rfl
      · exact firstE_all (fun q hq => he q (List.mem_cons_of_mem _ hq)) h q hq
def pfL (p : Prf) : List (Bool × Int) := [(nmB p.nm 8, 5), (inB p.em 1 3000000000, 2), (inB p.mf 1 (3000000000 - p.em), 2), (decide (2 ≤ p.sal.n), 3), (decide (p.sal.n ≤ 12), 3), (decide (2 ≤ p.sms.n), 3), (decide (p.sms.n ≤ 6), 3), (shpT (rowsL p.cl) p.sal.n p.sms.n, 1), (shpT (rowsL p.cf) p.sal.n p.sms.n, 1), (shpT (rowsL p.cr) p.sal.n p.sms.n, 1), (decide (p.sde.n = p.sal.n), 1), (decide (p.sid.n = p.sal.n), 1), (decide (p.smx.n = p.sal.n), 1), (decide (p.smn.n = p.sms.n), 1), (ascB p.al, 9), (ascB p.ms, 9), (rngL p.al (-200000) 6000000, 2), (inB p.ce (-200000) 6000000, 2), (rngL p.ms 1 3000000000, 2), (rngT (rowsL p.cl) 0 10000, 2), (rngL p.de 1 10000, 2), (rngT (rowsL p.cf) 0 50000, 2), (rngT (rowsL p.cr) 0 50000, 2), (rngL p.id 0 50000, 2), (rngL p.mx 1 1000, 2), (rngL p.mn 1 1000, 2), (inB p.rf 1 1000, 2), (inB p.ex 0 100, 2), (lnDn (rowsL p.cl), 11), (gnB p.al (rowsL p.cl), 11), (lnUp (rowsL p.cf), 11), (lnUp (rowsL p.cr), 11), (upB p.de, 11), (dnB p.id, 11), (dnB p.mx, 11), (upB p.mn, 11)]
/-- the error of performance tables -/
def pfE (p : Prf) : Int := firstE (pfL p)
/-- a whole struct is loaded -/
theorem wpList_load_g {P : Program} {ops : Array Oper} {rest : List Oper} {op : Oper} {a : Act} {w : World} {Q : Exit → Act → World → Prop} (ty : TypeId) (x : Operand) (ho : op.op = .load ty x) (hw : Region.wanted op (yielded ops a.tmps) = true)
    (b o : Nat) (hx : a.eval x = .pointer (some ⟨b, o, none⟩)) (cs : List Value) (d : TypeDesc) (hc : w.rangeAt b o cs)
    (hu : P.underlying ty = some d) (hd : d.isRow = true) (hi : (P.info? ty).map (·.size) = some cs.length)
    (h : wpList P ops Q rest (a.put op.dst (.agg cs.toArray)) w) : wpList P ops Q (op :: rest) a w := by
  unfold wpList
  rw [if_pos hw]
  exact .inl (wp_load_mid ty x ho b o hx cs d hc hu hd hi h)
theorem Has.range {W : World} {b : Nat} {cs ds : List Value} (h : Has W b cs) (o : Nat) (hd : ∀ j v, ds[j]? = some v → cs[o + j]? = some v) : W.rangeAt b o ds := fun j v hv => h.cell (o + j) v (hd j v hv)
theorem at_prf {ops : Array Oper} {rest : List Oper} {op : Oper} {a : Act} {w : World} {Q : Exit → Act → World → Prop} {p : Prf} {b : Nat} (x : Operand) (ho : op.op = .load 41 x) (hw : Region.wanted op (yielded ops a.tmps) = true)
    (hx : a.eval x = .pointer (some ⟨b, 0, none⟩)) (hc : Has w b p.cells) (h : wpList Try.prog ops Q rest (a.put op.dst (.agg p.cells.toArray)) w) : wpList Try.prog ops Q (op :: rest) a w :=
  wpList_load_g 41 x ho hw b 0 hx p.cells _ (hc.range 0 (fun j v hv => by rw [Nat.zero_add]; exact hv)) Try.underlying41 rfl (by kernel_rfl) h
theorem shp_len {w : World} {A : Option Addr} {n N M : Nat} {rs : List Row} (h : shpT (rowsL rs) N M = true) (ht : Tab w A n rs) : n = N ∧ ∀ r ∈ rs, r.n = M := by
  unfold shpT at h
  rw [Bool.and_eq_true, decide_eq_true_eq, List.all_eq_true, rowsL_len, ht.top.len] at h
  refine ⟨h.1, fun r hr => ?_⟩
  have := h.2 r.l (List.mem_map.2 ⟨r, hr, rfl⟩)
  rw [decide_eq_true_eq, (ht.row r hr).len] at this
  exact this
theorem rngT_bd {rs : List Row} {lo hi : Int} (h : rngT (rowsL rs) lo hi = true) : ∀ r ∈ rs, ∀ x ∈ r.l, lo ≤ x ∧ x ≤ hi := by
  intro r hr x hx
  unfold rngT at h
  rw [List.all_eq_true] at h
  have := h r.l (List.mem_map.2 ⟨r, hr, rfl⟩)
  unfold rngL at this
  rw [List.all_eq_true] at this
  exact inB_iff.1 (this x hx)
theorem rngL_bd {l : List Int} {lo hi : Int} (h : rngL l lo hi = true) : ∀ x ∈ l, lo ≤ x ∧ x ≤ hi := by
  intro x hx
  unfold rngL at h
  rw [List.all_eq_true] at h
  exact inB_iff.1 (h x hx)
theorem Sq.of {w : World} {A : Option Addr} {n N M : Nat} {rs : List Row} {hi : Int} (ht : Tab w A n rs) (h1 : shpT (rowsL rs) N M = true) (h2 : rngT (rowsL rs) 0 hi = true) : Sq w A n M hi rs := ⟨ht, (shp_len h1 ht).2, rngT_bd h2⟩
theorem bd_up {l : List Int} {lo hi HI : Int} (h0 : 0 ≤ lo) (h1 : hi ≤ HI) (h : ∀ x ∈ l, lo ≤ x ∧ x ≤ hi) : ∀ x ∈ l, 0 ≤ x ∧ x ≤ HI := fun x hx => by have := h x hx; omega
theorem firstE_ff {a b : Bool} {e : Int} {l : List (Bool × Int)} (h : (a && b) = false) : firstE ((a, e) :: (b, e) :: l) = e := by
  cases a with
  | false => exact firstE_f rfl
  | true => rw [firstE_t rfl]; exact firstE_f (by simpa using h)
theorem firstE_tt {a b : Bool} {e f : Int} {l : List (Bool × Int)} (h : (a && b) = true) : firstE ((a, e) :: (b, f) :: l) = firstE l := by
  rw [Bool.and_eq_true] at h
  rw [firstE_t h.1, firstE_t h.2]
set_option maxRecDepth 100000 in
set_option maxHeartbeats 8000000 in
theorem xPfCheck (p : Prf) (w : World) (hl : p.lies w) (hok : p.ok) : Calls Try.prog 29 #[.agg p.cells.toArray] w fun e w' => e = .returned (.int .i64 (pfE p)) ∧ Below w.heap.size w w' := by
  have HV := Lib.hid (show pfE p = firstE [(nmB p.nm 8, 5), (inB p.em 1 3000000000, 2), (inB p.mf 1 (3000000000 - p.em), 2), (decide (2 ≤ p.sal.n), 3), (decide (p.sal.n ≤ 12), 3), (decide (2 ≤ p.sms.n), 3), (decide (p.sms.n ≤ 6), 3), (shpT (rowsL p.cl) p.sal.n p.sms.n, 1), (shpT (rowsL p.cf) p.sal.n p.sms.n, 1), (shpT (rowsL p.cr) p.sal.n p.sms.n, 1), (decide (p.sde.n = p.sal.n), 1), (decide (p.sid.n = p.sal.n), 1), (decide (p.smx.n = p.sal.n), 1), (decide (p.smn.n = p.sms.n), 1), (ascB p.al, 9), (ascB p.ms, 9), (rngL p.al (-200000) 6000000, 2), (inB p.ce (-200000) 6000000, 2), (rngL p.ms 1 3000000000, 2), (rngT (rowsL p.cl) 0 10000, 2), (rngL p.de 1 10000, 2), (rngT (rowsL p.cf) 0 50000, 2), (rngT (rowsL p.cr) 0 50000, 2), (rngL p.id 0 50000, 2), (rngL p.mx 1 1000, 2), (rngL p.mn 1 1000, 2), (inB p.rf 1 1000, 2), (inB p.ex 0 100, 2), (lnDn (rowsL p.cl), 11), (gnB p.al (rowsL p.cl), 11), (lnUp (rowsL p.cf), 11), (lnUp (rowsL p.cr), 11), (upB p.de, 11), (dnB p.id, 11), (dnB p.mx, 11), (upB p.mn, 11)] from rfl)
  have HPC := Lib.hid (show p.cells[0]? = some (.string p.nm) ∧ p.cells[1]? = some (.int .i64 p.em) ∧ p.cells[2]? = some (.int .i64 p.mf) ∧ p.cells[3]? = some (.slice p.sal.A p.sal.n p.sal.c) ∧ p.cells[4]? = some (.slice p.sms.A p.sms.n p.sms.c) ∧ p.cells[5]? = some (.slice p.scl.A p.scl.n p.scl.c) ∧ p.cells[6]? = some (.slice p.scf.A p.scf.n p.scf.c) ∧ p.cells[7]? = some (.slice p.scr.A p.scr.n p.scr.c) ∧ p.cells[8]? = some (.slice p.sde.A p.sde.n p.sde.c) ∧ p.cells[9]? = some (.slice p.sid.A p.sid.n p.sid.c) ∧ p.cells[10]? = some (.slice p.smx.A p.smx.n p.smx.c) ∧ p.cells[11]? = some (.slice p.smn.A p.smn.n p.smn.c) ∧ p.cells[12]? = some (.int .i64 p.rf) ∧ p.cells[13]? = some (.int .i64 p.ex) ∧ p.cells[14]? = some (.int .i64 p.ce) from ⟨rfl, rfl, rfl, rfl, rfl, rfl, rfl, rfl, rfl, rfl, rfl, rfl, rfl, rfl, rfl⟩)
  have HBOX := Lib.hid (fun w => Has.new w p.cells.toArray 41)
  have HLI := Lib.hid (fun w1 hB => hl.below (w' := w1) hB)
  have HOK := Lib.hid hok
  generalize pfE p = EE at *
  have b3 := hok.al
  have b4 := hok.ms
  have b8 := hok.de
  have b9 := hok.id
  have b10 := hok.mx
  have b11 := hok.mn
  unfold maxLen at b3 b4 b8 b9 b10 b11
  clear hl hok
  go_enter Try.func29, Try.ntmps29
  go_wp2_with fail
  have BP := Lib.hid (HBOX.out w)
  have HB := Lib.hid (below_alloc1 w (.cells p.cells.toArray 41))
  generalize w.alloc (.cells p.cells.toArray 41) = w1 at *
  have k3 : ∀ m, (w1.drewN m).cell? ⟨w.heap.size, 3, none⟩ = some (.slice p.sal.A p.sal.n p.sal.c) := fun m => (World.cell?_drewN w1 m _).trans (BP.out.cell 3 _ (by have := HPC.out; exact this.2.2.2.1))
  have k4 : ∀ m, (w1.drewN m).cell? ⟨w.heap.size, 4, none⟩ = some (.slice p.sms.A p.sms.n p.sms.c) := fun m => (World.cell?_drewN w1 m _).trans (BP.out.cell 4 _ (by have := HPC.out; exact this.2.2.2.2.1))
  go_quiet (fail)
  clear k3 k4
  replace BP := Lib.hid (BP.out.below (below_drewN (Below.refl _ _) nq))
  replace HB := Lib.hid (below_drewN HB.out nq)
  generalize w1.drewN nq = w2 at *
  have k0 : w2.cell? ⟨w.heap.size, 0, none⟩ = some (.string p.nm) := BP.out.cell 0 _ (HPC.out.1)
  go_wp2_with fail
  refine (xName p.nm 8 _ HOK.out.nm (by unfold maxLen; omega)).mono ?_; rintro e wx ⟨rfl, rfl⟩
  clear k0
  cases g : nmB p.nm 8
  · have HF := Lib.hid (HV.out.trans (firstE_f g))
    clear g
    go_wp2_with fail
    go_ret
    exact ⟨ret_int HF.out.symm, HB.out⟩
  have Gnm := Lib.hid g
  replace HV := Lib.hid (HV.out.trans (firstE_t g))
  clear g
  have k1 : w2.cell? ⟨w.heap.size, 1, none⟩ = some (.int .i64 p.em) := BP.out.cell 1 _ (HPC.out.2.1)
  go_wp2_with fail
  refine (xWi31 _ _ _ _).mono ?_; rintro e wx ⟨rfl, rfl⟩
  clear k1
  cases g : inB p.em 1 3000000000
  · have HF := Lib.hid (HV.out.trans (firstE_f g))
    clear g
    go_wp2_with fail
    go_ret
    exact ⟨ret_int HF.out.symm, HB.out⟩
  have Gem := Lib.hid g
  replace HV := Lib.hid (HV.out.trans (firstE_t g))
  clear g
  have em1 := (inB_iff.1 Gem.out).1
  have em2 := (inB_iff.1 Gem.out).2
  have k1 : w2.cell? ⟨w.heap.size, 1, none⟩ = some (.int .i64 p.em) := BP.out.cell 1 _ (HPC.out.2.1)
  have k2 : w2.cell? ⟨w.heap.size, 2, none⟩ = some (.int .i64 p.mf) := BP.out.cell 2 _ (HPC.out.2.2.1)
  go_wp2_with fail
  refine (xWi31 _ _ _ _).mono ?_; rintro e wx ⟨rfl, rfl⟩
  clear k1 k2
  cases g : inB p.mf 1 (3000000000 - p.em)
  · have HF := Lib.hid (HV.out.trans (firstE_f g))
    clear g
    go_wp2_with fail
    go_ret
    exact ⟨ret_int HF.out.symm, HB.out⟩
  have Gmf := Lib.hid g
  replace HV := Lib.hid (HV.out.trans (firstE_t g))
  clear g
  clear em1 em2
  by_cases g : 2 ≤ p.sal.n
  rotate_left
  · have HF := Lib.hid (HV.out.trans (firstE_f (by first | exact decide_eq_false g | exact inB_no.2 (by omega))))
    have i_r2 : (p.sal.n : Int) < 2 := by omega
    clear g
    go_wp2_with fail
    go_ret
    exact ⟨ret_int HF.out.symm, HB.out⟩
  have Gr2 := Lib.hid g
  replace HV := Lib.hid (HV.out.trans (firstE_t (by first | exact decide_eq_true g | exact inB_iff.2 (by omega))))
  have i_r2 : ¬ (p.sal.n : Int) < 2 := by omega
  clear g
  by_cases g : p.sal.n ≤ 12
  rotate_left
  · have HF := Lib.hid (HV.out.trans (firstE_f (by first | exact decide_eq_false g | exact inB_no.2 (by omega))))
    have i_r12 : 12 < (p.sal.n : Int) := by omega
    clear g
    go_wp2_with fail
    go_ret
    exact ⟨ret_int HF.out.symm, HB.out⟩
  have Gr12 := Lib.hid g
  replace HV := Lib.hid (HV.out.trans (firstE_t (by first | exact decide_eq_true g | exact inB_iff.2 (by omega))))
  have i_r12 : ¬ 12 < (p.sal.n : Int) := by omega
  clear g
  by_cases g : 2 ≤ p.sms.n
  rotate_left
  · have HF := Lib.hid (HV.out.trans (firstE_f (by first | exact decide_eq_false g | exact inB_no.2 (by omega))))
    have i_c2 : (p.sms.n : Int) < 2 := by omega
    clear g
    go_wp2_with fail
    go_ret
    exact ⟨ret_int HF.out.symm, HB.out⟩
  have Gc2 := Lib.hid g
  replace HV := Lib.hid (HV.out.trans (firstE_t (by first | exact decide_eq_true g | exact inB_iff.2 (by omega))))
  have i_c2 : ¬ (p.sms.n : Int) < 2 := by omega
  clear g
  by_cases g : p.sms.n ≤ 6
  rotate_left
  · have HF := Lib.hid (HV.out.trans (firstE_f (by first | exact decide_eq_false g | exact inB_no.2 (by omega))))
    have i_c6 : 6 < (p.sms.n : Int) := by omega
    clear g
    go_wp2_with fail
    go_ret
    exact ⟨ret_int HF.out.symm, HB.out⟩
  have Gc6 := Lib.hid g
  replace HV := Lib.hid (HV.out.trans (firstE_t (by first | exact decide_eq_true g | exact inB_iff.2 (by omega))))
  have i_c6 : ¬ 6 < (p.sms.n : Int) := by omega
  clear g
  have k5 : w2.cell? ⟨w.heap.size, 5, none⟩ = some (.slice p.scl.A p.scl.n p.scl.c) := BP.out.cell 5 _ (HPC.out.2.2.2.2.2.1)
  go_wp2_with (refine at_prf (.tmp 1) rfl rfl rfl BP.out ?_)
  refine (xShp31 p p.scl.A p.scl.n p.scl.c p.cl _ HOK.out (HLI.out _ HB.out).cl HOK.out.cl HOK.out.rcl).mono ?_; rintro e w3 ⟨rfl, hB⟩
  replace BP := Lib.hid (BP.out.below hB)
  replace HB := Lib.hid (bel_trans HB.out hB)
  clear hB
  clear k5
  clear i_r2 i_r12 i_c2 i_c6
  cases g : shpT (rowsL p.cl) p.sal.n p.sms.n
  · have HF := Lib.hid (HV.out.trans (firstE_f g))
    clear g
    go_wp2_with fail
    go_ret
    exact ⟨ret_int HF.out.symm, HB.out⟩
  have Gscl := Lib.hid g
  replace HV := Lib.hid (HV.out.trans (firstE_t g))
  clear g
  have k6 : w3.cell? ⟨w.heap.size, 6, none⟩ = some (.slice p.scf.A p.scf.n p.scf.c) := BP.out.cell 6 _ (HPC.out.2.2.2.2.2.2.1)
  go_wp2_with (refine at_prf (.tmp 1) rfl rfl rfl BP.out ?_)
  refine (xShp31 p p.scf.A p.scf.n p.scf.c p.cf _ HOK.out (HLI.out _ HB.out).cf HOK.out.cf HOK.out.rcf).mono ?_; rintro e w4 ⟨rfl, hB⟩
  replace BP := Lib.hid (BP.out.below hB)
  replace HB := Lib.hid (bel_trans HB.out hB)
  clear hB
  clear k6
  cases g : shpT (rowsL p.cf) p.sal.n p.sms.n
  · have HF := Lib.hid (HV.out.trans (firstE_f g))
    clear g
    go_wp2_with fail
    go_ret
    exact ⟨ret_int HF.out.symm, HB.out⟩
  have Gscf := Lib.hid g
  replace HV := Lib.hid (HV.out.trans (firstE_t g))
  clear g
  have k7 : w4.cell? ⟨w.heap.size, 7, none⟩ = some (.slice p.scr.A p.scr.n p.scr.c) := BP.out.cell 7 _ (HPC.out.2.2.2.2.2.2.2.1)
  go_wp2_with (refine at_prf (.tmp 1) rfl rfl rfl BP.out ?_)
  refine (xShp31 p p.scr.A p.scr.n p.scr.c p.cr _ HOK.out (HLI.out _ HB.out).cr HOK.out.cr HOK.out.rcr).mono ?_; rintro e w5 ⟨rfl, hB⟩
  replace BP := Lib.hid (BP.out.below hB)
  replace HB := Lib.hid (bel_trans HB.out hB)
  clear hB
  clear k7
  cases g : shpT (rowsL p.cr) p.sal.n p.sms.n
  · have HF := Lib.hid (HV.out.trans (firstE_f g))
    clear g
    go_wp2_with fail
    go_ret
    exact ⟨ret_int HF.out.symm, HB.out⟩
  have Gscr := Lib.hid g
  replace HV := Lib.hid (HV.out.trans (firstE_t g))
  clear g
  have k8 : w5.cell? ⟨w.heap.size, 8, none⟩ = some (.slice p.sde.A p.sde.n p.sde.c) := BP.out.cell 8 _ (HPC.out.2.2.2.2.2.2.2.2.1)
  have k9 : w5.cell? ⟨w.heap.size, 9, none⟩ = some (.slice p.sid.A p.sid.n p.sid.c) := BP.out.cell 9 _ (HPC.out.2.2.2.2.2.2.2.2.2.1)
  have k10 : w5.cell? ⟨w.heap.size, 10, none⟩ = some (.slice p.smx.A p.smx.n p.smx.c) := BP.out.cell 10 _ (HPC.out.2.2.2.2.2.2.2.2.2.2.1)
  have k11 : w5.cell? ⟨w.heap.size, 11, none⟩ = some (.slice p.smn.A p.smn.n p.smn.c) := BP.out.cell 11 _ (HPC.out.2.2.2.2.2.2.2.2.2.2.2.1)
  by_cases g : p.sde.n = p.sal.n
  rotate_left
  · have HF := Lib.hid (HV.out.trans (firstE_f (by first | exact decide_eq_false g | exact inB_no.2 (by omega))))
    have f_de : ((p.sde.n : Int) == (p.sal.n : Int)) = false := beq_of (by omega)
    have f2_de := bne_of f_de
    clear g
    go_wp2_with fail
    go_ret
    exact ⟨ret_int HF.out.symm, HB.out⟩
  have Glde := Lib.hid g
  replace HV := Lib.hid (HV.out.trans (firstE_t (by first | exact decide_eq_true g | exact inB_iff.2 (by omega))))
  have f_de : ((p.sde.n : Int) == (p.sal.n : Int)) = true := by rw [beq_iff_eq]; omega
  have f2_de : ((p.sde.n : Int) != (p.sal.n : Int)) = false := by rw [bne, f_de]; rfl
  clear g
  by_cases g : p.sid.n = p.sal.n
  rotate_left
  · have HF := Lib.hid (HV.out.trans (firstE_f (by first | exact decide_eq_false g | exact inB_no.2 (by omega))))
    have f_id : ((p.sid.n : Int) == (p.sal.n : Int)) = false := beq_of (by omega)
    have f2_id := bne_of f_id
    clear g
    go_wp2_with fail
    go_ret
    exact ⟨ret_int HF.out.symm, HB.out⟩
  have Glid := Lib.hid g
  replace HV := Lib.hid (HV.out.trans (firstE_t (by first | exact decide_eq_true g | exact inB_iff.2 (by omega))))
  have f_id : ((p.sid.n : Int) == (p.sal.n : Int)) = true := by rw [beq_iff_eq]; omega
  have f2_id : ((p.sid.n : Int) != (p.sal.n : Int)) = false := by rw [bne, f_id]; rfl
  clear g
  by_cases g : p.smx.n = p.sal.n
  rotate_left
  · have HF := Lib.hid (HV.out.trans (firstE_f (by first | exact decide_eq_false g | exact inB_no.2 (by omega))))
    have f_mx : ((p.smx.n : Int) == (p.sal.n : Int)) = false := beq_of (by omega)
    have f2_mx := bne_of f_mx
    clear g
    go_wp2_with fail
    go_ret
    exact ⟨ret_int HF.out.symm, HB.out⟩
  have Glmx := Lib.hid g
  replace HV := Lib.hid (HV.out.trans (firstE_t (by first | exact decide_eq_true g | exact inB_iff.2 (by omega))))
  have f_mx : ((p.smx.n : Int) == (p.sal.n : Int)) = true := by rw [beq_iff_eq]; omega
  have f2_mx : ((p.smx.n : Int) != (p.sal.n : Int)) = false := by rw [bne, f_mx]; rfl
  clear g
  by_cases g : p.smn.n = p.sms.n
  rotate_left
  · have HF := Lib.hid (HV.out.trans (firstE_f (by first | exact decide_eq_false g | exact inB_no.2 (by omega))))
    have f_mn : ((p.smn.n : Int) == (p.sms.n : Int)) = false := beq_of (by omega)
    have f2_mn := bne_of f_mn
    clear g
    go_wp2_with fail
    go_ret
    exact ⟨ret_int HF.out.symm, HB.out⟩
  have Glmn := Lib.hid g
  replace HV := Lib.hid (HV.out.trans (firstE_t (by first | exact decide_eq_true g | exact inB_iff.2 (by omega))))
  have f_mn : ((p.smn.n : Int) == (p.sms.n : Int)) = true := by rw [beq_iff_eq]; omega
  have f2_mn : ((p.smn.n : Int) != (p.sms.n : Int)) = false := by rw [bne, f_mn]; rfl
  clear g
  have k3 : w5.cell? ⟨w.heap.size, 3, none⟩ = some (.slice p.sal.A p.sal.n p.sal.c) := BP.out.cell 3 _ (HPC.out.2.2.2.1)
  go_wp2_with fail
  refine (xAsc31 p.sal.A p.sal.n p.sal.c p.al _ (HLI.out _ HB.out).al HOK.out.al).mono ?_; rintro e wx ⟨rfl, q, rfl⟩
  replace BP := Lib.hid (BP.out.below (below_drewN (Below.refl _ _) q))
  replace HB := Lib.hid (below_drewN HB.out q)
  generalize w5.drewN q = w6 at *
  clear k3
  clear k8 k9 k10 k11
  clear f_de f2_de f_id f2_id f_mx f2_mx f_mn f2_mn
  cases g : ascB p.al
  · have HF := Lib.hid (HV.out.trans (firstE_f g))
    clear g
    go_wp2_with fail
    go_ret
    exact ⟨ret_int HF.out.symm, HB.out⟩
  have Gaal := Lib.hid g
  replace HV := Lib.hid (HV.out.trans (firstE_t g))
  clear g
  have k4 : w6.cell? ⟨w.heap.size, 4, none⟩ = some (.slice p.sms.A p.sms.n p.sms.c) := BP.out.cell 4 _ (HPC.out.2.2.2.2.1)
  go_wp2_with fail
  refine (xAsc31 p.sms.A p.sms.n p.sms.c p.ms _ (HLI.out _ HB.out).ms HOK.out.ms).mono ?_; rintro e wx ⟨rfl, q, rfl⟩
  replace BP := Lib.hid (BP.out.below (below_drewN (Below.refl _ _) q))
  replace HB := Lib.hid (below_drewN HB.out q)
  generalize w6.drewN q = w7 at *
  clear k4
  cases g : ascB p.ms
  · have HF := Lib.hid (HV.out.trans (firstE_f g))
    clear g
    go_wp2_with fail
    go_ret
    exact ⟨ret_int HF.out.symm, HB.out⟩
  have Gams := Lib.hid g
  replace HV := Lib.hid (HV.out.trans (firstE_t g))
  clear g
  have k3 : w7.cell? ⟨w.heap.size, 3, none⟩ = some (.slice p.sal.A p.sal.n p.sal.c) := BP.out.cell 3 _ (HPC.out.2.2.2.1)
  go_wp2_with fail
  refine (xAll31 p.sal.A p.sal.n p.sal.c p.al (-200000) 6000000 _ (HLI.out _ HB.out).al HOK.out.al).mono ?_; rintro e wx ⟨rfl, rfl⟩
  clear k3
  cases g : rngL p.al (-200000) 6000000
  · have HF := Lib.hid (HV.out.trans (firstE_f g))
    clear g
    go_wp2_with fail
    go_ret
    exact ⟨ret_int HF.out.symm, HB.out⟩
  have Gral := Lib.hid g
  replace HV := Lib.hid (HV.out.trans (firstE_t g))
  clear g
  have k14 : w7.cell? ⟨w.heap.size, 14, none⟩ = some (.int .i64 p.ce) := BP.out.cell 14 _ (HPC.out.2.2.2.2.2.2.2.2.2.2.2.2.2.2)
  go_wp2_with fail
  refine (xWi31 _ _ _ _).mono ?_; rintro e wx ⟨rfl, rfl⟩
  clear k14
  cases g : inB p.ce (-200000) 6000000
  · have HF := Lib.hid (HV.out.trans (firstE_f g))
    clear g
    go_wp2_with fail
    go_ret
    exact ⟨ret_int HF.out.symm, HB.out⟩
  have Grce := Lib.hid g
  replace HV := Lib.hid (HV.out.trans (firstE_t g))
  clear g
  have k4 : w7.cell? ⟨w.heap.size, 4, none⟩ = some (.slice p.sms.A p.sms.n p.sms.c) := BP.out.cell 4 _ (HPC.out.2.2.2.2.1)
  go_wp2_with fail
  refine (xAll31 p.sms.A p.sms.n p.sms.c p.ms 1 3000000000 _ (HLI.out _ HB.out).ms HOK.out.ms).mono ?_; rintro e wx ⟨rfl, rfl⟩
  clear k4
  cases g : rngL p.ms 1 3000000000
  · have HF := Lib.hid (HV.out.trans (firstE_f g))
    clear g
    go_wp2_with fail
    go_ret
    exact ⟨ret_int HF.out.symm, HB.out⟩
  have Grms := Lib.hid g
  replace HV := Lib.hid (HV.out.trans (firstE_t g))
  clear g
  have k5 : w7.cell? ⟨w.heap.size, 5, none⟩ = some (.slice p.scl.A p.scl.n p.scl.c) := BP.out.cell 5 _ (HPC.out.2.2.2.2.2.1)
  go_wp2_with fail
  refine (xAllR31 p.scl.A p.scl.n p.scl.c p.cl 0 10000 _ (HLI.out _ HB.out).cl HOK.out.cl HOK.out.rcl).mono ?_; rintro e wx ⟨rfl, rfl⟩
  clear k5
  cases g : rngT (rowsL p.cl) 0 10000
  · have HF := Lib.hid (HV.out.trans (firstE_f g))
    clear g
    go_wp2_with fail
    go_ret
    exact ⟨ret_int HF.out.symm, HB.out⟩
  have Grcl := Lib.hid g
  replace HV := Lib.hid (HV.out.trans (firstE_t g))
  clear g
  have k8 : w7.cell? ⟨w.heap.size, 8, none⟩ = some (.slice p.sde.A p.sde.n p.sde.c) := BP.out.cell 8 _ (HPC.out.2.2.2.2.2.2.2.2.1)
  go_wp2_with fail
  refine (xAll31 p.sde.A p.sde.n p.sde.c p.de 1 10000 _ (HLI.out _ HB.out).de HOK.out.de).mono ?_; rintro e wx ⟨rfl, rfl⟩
  clear k8
  cases g : rngL p.de 1 10000
  · have HF := Lib.hid (HV.out.trans (firstE_f g))
    clear g
    go_wp2_with fail
    go_ret
    exact ⟨ret_int HF.out.symm, HB.out⟩
  have Grde := Lib.hid g
  replace HV := Lib.hid (HV.out.trans (firstE_t g))
  clear g
  have k6 : w7.cell? ⟨w.heap.size, 6, none⟩ = some (.slice p.scf.A p.scf.n p.scf.c) := BP.out.cell 6 _ (HPC.out.2.2.2.2.2.2.1)
  go_wp2_with fail
  refine (xAllR31 p.scf.A p.scf.n p.scf.c p.cf 0 50000 _ (HLI.out _ HB.out).cf HOK.out.cf HOK.out.rcf).mono ?_; rintro e wx ⟨rfl, rfl⟩
  clear k6
  cases g : rngT (rowsL p.cf) 0 50000
  · have HF := Lib.hid (HV.out.trans (firstE_f g))
    clear g
    go_wp2_with fail
    go_ret
    exact ⟨ret_int HF.out.symm, HB.out⟩
  have Grcf := Lib.hid g
  replace HV := Lib.hid (HV.out.trans (firstE_t g))
  clear g
  have k7 : w7.cell? ⟨w.heap.size, 7, none⟩ = some (.slice p.scr.A p.scr.n p.scr.c) := BP.out.cell 7 _ (HPC.out.2.2.2.2.2.2.2.1)
  go_wp2_with fail
  refine (xAllR31 p.scr.A p.scr.n p.scr.c p.cr 0 50000 _ (HLI.out _ HB.out).cr HOK.out.cr HOK.out.rcr).mono ?_; rintro e wx ⟨rfl, rfl⟩
  clear k7
  cases g : rngT (rowsL p.cr) 0 50000
  · have HF := Lib.hid (HV.out.trans (firstE_f g))
    clear g
    go_wp2_with fail
    go_ret
    exact ⟨ret_int HF.out.symm, HB.out⟩
  have Grcr := Lib.hid g
  replace HV := Lib.hid (HV.out.trans (firstE_t g))
  clear g
  have k9 : w7.cell? ⟨w.heap.size, 9, none⟩ = some (.slice p.sid.A p.sid.n p.sid.c) := BP.out.cell 9 _ (HPC.out.2.2.2.2.2.2.2.2.2.1)
  go_wp2_with fail
  refine (xAll31 p.sid.A p.sid.n p.sid.c p.id 0 50000 _ (HLI.out _ HB.out).id HOK.out.id).mono ?_; rintro e wx ⟨rfl, rfl⟩
  clear k9
  cases g : rngL p.id 0 50000
  · have HF := Lib.hid (HV.out.trans (firstE_f g))
    clear g
    go_wp2_with fail
    go_ret
    exact ⟨ret_int HF.out.symm, HB.out⟩
  have Grid := Lib.hid g
  replace HV := Lib.hid (HV.out.trans (firstE_t g))
  clear g
  have k10 : w7.cell? ⟨w.heap.size, 10, none⟩ = some (.slice p.smx.A p.smx.n p.smx.c) := BP.out.cell 10 _ (HPC.out.2.2.2.2.2.2.2.2.2.2.1)
  go_wp2_with fail
  refine (xAll31 p.smx.A p.smx.n p.smx.c p.mx 1 1000 _ (HLI.out _ HB.out).mx HOK.out.mx).mono ?_; rintro e wx ⟨rfl, rfl⟩
  clear k10
  cases g : rngL p.mx 1 1000
  · have HF := Lib.hid (HV.out.trans (firstE_f g))
    clear g
    go_wp2_with fail
    go_ret
    exact ⟨ret_int HF.out.symm, HB.out⟩
  have Grmx := Lib.hid g
  replace HV := Lib.hid (HV.out.trans (firstE_t g))
  clear g
  have k11 : w7.cell? ⟨w.heap.size, 11, none⟩ = some (.slice p.smn.A p.smn.n p.smn.c) := BP.out.cell 11 _ (HPC.out.2.2.2.2.2.2.2.2.2.2.2.1)
  go_wp2_with fail
  refine (xAll31 p.smn.A p.smn.n p.smn.c p.mn 1 1000 _ (HLI.out _ HB.out).mn HOK.out.mn).mono ?_; rintro e wx ⟨rfl, rfl⟩
  clear k11
  cases g : rngL p.mn 1 1000
  · have HF := Lib.hid (HV.out.trans (firstE_f g))
    clear g
    go_wp2_with fail
    go_ret
    exact ⟨ret_int HF.out.symm, HB.out⟩
  have Grmn := Lib.hid g
  replace HV := Lib.hid (HV.out.trans (firstE_t g))
  clear g
  have k12 : w7.cell? ⟨w.heap.size, 12, none⟩ = some (.int .i64 p.rf) := BP.out.cell 12 _ (HPC.out.2.2.2.2.2.2.2.2.2.2.2.2.1)
  go_wp2_with fail
  refine (xWi31 _ _ _ _).mono ?_; rintro e wx ⟨rfl, rfl⟩
  clear k12
  cases g : inB p.rf 1 1000
  · have HF := Lib.hid (HV.out.trans (firstE_f g))
    clear g
    go_wp2_with fail
    go_ret
    exact ⟨ret_int HF.out.symm, HB.out⟩
  have Grrf := Lib.hid g
  replace HV := Lib.hid (HV.out.trans (firstE_t g))
  clear g
  have k13 : w7.cell? ⟨w.heap.size, 13, none⟩ = some (.int .i64 p.ex) := BP.out.cell 13 _ (HPC.out.2.2.2.2.2.2.2.2.2.2.2.2.2.1)
  go_wp2_with fail
  refine (xWi31 _ _ _ _).mono ?_; rintro e wx ⟨rfl, rfl⟩
  clear k13
  cases g : inB p.ex 0 100
  · have HF := Lib.hid (HV.out.trans (firstE_f g))
    clear g
    go_wp2_with fail
    go_ret
    exact ⟨ret_int HF.out.symm, HB.out⟩
  have Grex := Lib.hid g
  replace HV := Lib.hid (HV.out.trans (firstE_t g))
  clear g
  have k5 : w7.cell? ⟨w.heap.size, 5, none⟩ = some (.slice p.scl.A p.scl.n p.scl.c) := BP.out.cell 5 _ (HPC.out.2.2.2.2.2.1)
  go_wp2_with fail
  refine (xLnDn p.scl.A p.scl.n p.scl.c p.sms.n 10000 p.cl _ (Sq.of (HLI.out _ HB.out).cl Gscl.out Grcl.out) (by decide) HOK.out.cl HOK.out.ms).mono ?_; rintro e wx ⟨rfl, q, rfl⟩
  replace BP := Lib.hid (BP.out.below (below_drewN (Below.refl _ _) q))
  replace HB := Lib.hid (below_drewN HB.out q)
  generalize w7.drewN q = w8 at *
  clear k5
  cases g : lnDn (rowsL p.cl)
  · have HF := Lib.hid (HV.out.trans (firstE_f g))
    clear g
    go_wp2_with fail
    go_ret
    exact ⟨ret_int HF.out.symm, HB.out⟩
  have Gccl := Lib.hid g
  replace HV := Lib.hid (HV.out.trans (firstE_t g))
  clear g
  go_wp2_with (refine at_prf (.tmp 1) rfl rfl rfl BP.out ?_)
  refine (xGentle p _ (HLI.out _ HB.out) (Sq.of (HLI.out _ HB.out).cl Gscl.out Grcl.out) HOK.out (shp_len Gscl.out (HLI.out _ HB.out).cl).1 (rngL_bd Gral.out)).mono ?_; rintro e w9 ⟨rfl, hB⟩
  replace BP := Lib.hid (BP.out.below hB)
  replace HB := Lib.hid (bel_trans HB.out hB)
  clear hB
  cases g : gnB p.al (rowsL p.cl)
  · have HF := Lib.hid (HV.out.trans (firstE_f g))
    clear g
    go_wp2_with fail
    go_ret
    exact ⟨ret_int HF.out.symm, HB.out⟩
  have Gcgn := Lib.hid g
  replace HV := Lib.hid (HV.out.trans (firstE_t g))
  clear g
  have k6 : w9.cell? ⟨w.heap.size, 6, none⟩ = some (.slice p.scf.A p.scf.n p.scf.c) := BP.out.cell 6 _ (HPC.out.2.2.2.2.2.2.1)
  go_wp2_with fail
  refine (xLnUp p.scf.A p.scf.n p.scf.c p.sms.n 50000 p.cf _ (Sq.of (HLI.out _ HB.out).cf Gscf.out Grcf.out) (by decide) HOK.out.cf HOK.out.ms).mono ?_; rintro e wx ⟨rfl, q, rfl⟩
  replace BP := Lib.hid (BP.out.below (below_drewN (Below.refl _ _) q))
  replace HB := Lib.hid (below_drewN HB.out q)
  generalize w9.drewN q = w10 at *
  clear k6
  cases g : lnUp (rowsL p.cf)
  · have HF := Lib.hid (HV.out.trans (firstE_f g))
    clear g
    go_wp2_with fail
    go_ret
    exact ⟨ret_int HF.out.symm, HB.out⟩
  have Gccf := Lib.hid g
  replace HV := Lib.hid (HV.out.trans (firstE_t g))
  clear g
  have k7 : w10.cell? ⟨w.heap.size, 7, none⟩ = some (.slice p.scr.A p.scr.n p.scr.c) := BP.out.cell 7 _ (HPC.out.2.2.2.2.2.2.2.1)
  go_wp2_with fail
  refine (xLnUp p.scr.A p.scr.n p.scr.c p.sms.n 50000 p.cr _ (Sq.of (HLI.out _ HB.out).cr Gscr.out Grcr.out) (by decide) HOK.out.cr HOK.out.ms).mono ?_; rintro e wx ⟨rfl, q, rfl⟩
  replace BP := Lib.hid (BP.out.below (below_drewN (Below.refl _ _) q))
  replace HB := Lib.hid (below_drewN HB.out q)
  generalize w10.drewN q = w11 at *
  clear k7
  cases g : lnUp (rowsL p.cr)
  · have HF := Lib.hid (HV.out.trans (firstE_f g))
    clear g
    go_wp2_with fail
    go_ret
    exact ⟨ret_int HF.out.symm, HB.out⟩
  have Gccr := Lib.hid g
  replace HV := Lib.hid (HV.out.trans (firstE_t g))
  clear g
  have k8 : w11.cell? ⟨w.heap.size, 8, none⟩ = some (.slice p.sde.A p.sde.n p.sde.c) := BP.out.cell 8 _ (HPC.out.2.2.2.2.2.2.2.2.1)
  go_wp2_with fail
  refine (xUp31 p.sde.A p.sde.n p.sde.c p.de _ (HLI.out _ HB.out).de HOK.out.de (bd_up (by decide) (by decide) (rngL_bd Grde.out))).mono ?_; rintro e wx ⟨rfl, q, rfl⟩
  replace BP := Lib.hid (BP.out.below (below_drewN (Below.refl _ _) q))
  replace HB := Lib.hid (below_drewN HB.out q)
  generalize w11.drewN q = w12 at *
  clear k8
  cases g : upB p.de
  · have HF := Lib.hid (HV.out.trans (firstE_f g))
    clear g
    go_wp2_with fail
    go_ret
    exact ⟨ret_int HF.out.symm, HB.out⟩
  have Gude := Lib.hid g
  replace HV := Lib.hid (HV.out.trans (firstE_t g))
  clear g
  have k9 : w12.cell? ⟨w.heap.size, 9, none⟩ = some (.slice p.sid.A p.sid.n p.sid.c) := BP.out.cell 9 _ (HPC.out.2.2.2.2.2.2.2.2.2.1)
  go_wp2_with fail
  refine (xDn31 p.sid.A p.sid.n p.sid.c p.id _ (HLI.out _ HB.out).id HOK.out.id (bd_up (by decide) (by decide) (rngL_bd Grid.out))).mono ?_; rintro e wx ⟨rfl, q, rfl⟩
  replace BP := Lib.hid (BP.out.below (below_drewN (Below.refl _ _) q))
  replace HB := Lib.hid (below_drewN HB.out q)
  generalize w12.drewN q = w13 at *
  clear k9
  cases g : dnB p.id
  · have HF := Lib.hid (HV.out.trans (firstE_f g))
    clear g
    go_wp2_with fail
    go_ret
    exact ⟨ret_int HF.out.symm, HB.out⟩
  have Gdid := Lib.hid g
  replace HV := Lib.hid (HV.out.trans (firstE_t g))
  clear g
  have k10 : w13.cell? ⟨w.heap.size, 10, none⟩ = some (.slice p.smx.A p.smx.n p.smx.c) := BP.out.cell 10 _ (HPC.out.2.2.2.2.2.2.2.2.2.2.1)
  go_wp2_with fail
  refine (xDn31 p.smx.A p.smx.n p.smx.c p.mx _ (HLI.out _ HB.out).mx HOK.out.mx (bd_up (by decide) (by decide) (rngL_bd Grmx.out))).mono ?_; rintro e wx ⟨rfl, q, rfl⟩
  replace BP := Lib.hid (BP.out.below (below_drewN (Below.refl _ _) q))
  replace HB := Lib.hid (below_drewN HB.out q)
  generalize w13.drewN q = w14 at *
  clear k10
  cases g : dnB p.mx
  · have HF := Lib.hid (HV.out.trans (firstE_f g))
    clear g
    go_wp2_with fail
    go_ret
    exact ⟨ret_int HF.out.symm, HB.out⟩
  have Gdmx := Lib.hid g
  replace HV := Lib.hid (HV.out.trans (firstE_t g))
  clear g
  have k11 : w14.cell? ⟨w.heap.size, 11, none⟩ = some (.slice p.smn.A p.smn.n p.smn.c) := BP.out.cell 11 _ (HPC.out.2.2.2.2.2.2.2.2.2.2.2.1)
  go_wp2_with fail
  refine (xUp31 p.smn.A p.smn.n p.smn.c p.mn _ (HLI.out _ HB.out).mn HOK.out.mn (bd_up (by decide) (by decide) (rngL_bd Grmn.out))).mono ?_; rintro e wx ⟨rfl, q, rfl⟩
  replace BP := Lib.hid (BP.out.below (below_drewN (Below.refl _ _) q))
  replace HB := Lib.hid (below_drewN HB.out q)
  generalize w14.drewN q = w15 at *
  clear k11
  cases g : upB p.mn
  · have HF := Lib.hid (HV.out.trans (firstE_f g))
    clear g
    go_wp2_with fail
    go_ret
    exact ⟨ret_int HF.out.symm, HB.out⟩
  have Gumn := Lib.hid g
  replace HV := Lib.hid (HV.out.trans (firstE_t g))
  clear g
  go_wp2_with fail
  go_ret
  exact ⟨ret_int HV.out.symm, HB.out⟩
end Go.Proofs.Ytcmdpfdhmbpahaa
