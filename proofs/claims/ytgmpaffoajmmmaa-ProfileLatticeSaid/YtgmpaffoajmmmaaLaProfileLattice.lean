/- The statement ProfileLattice: for every input the law returns true, and every argument reads afterwards as before. No condition. -/
import Derived.Test.YtgmpaffoajmmmaaRows
import Derived.Test.YtgmpaffoajmmmaaLaLevel
import Derived.RegionTactic
import Derived.BigRegion
import Derived.Deep.DeepCutAuto
import Derived.Deep.RegionHeld3
import Derived.SizedLaws
import Derived.WalkKit
import Derived.ProofKit
import Derived.OpenShut
import Derived.ShutString
import Derived.ChangeOld
import Derived.Below
namespace Go.Proofs.Ytgmpaffoajmmmaa
set_option linter.unusedSimpArgs false
set_option linter.unusedVariables false
open Go.RowKit
theorem RowI.set_other {w0 w : World} {g h n k : Nat} {G : Nat → Int} (hr : RowI w0 h n G w) (hne : g ≠ h) (hge : w0.heap.size ≤ g) (v : Value) : RowI w0 h n G (w.setCell ⟨g, k, none⟩ v) :=
  ⟨fun j hj => by rw [World.cell?_setCell_other w ⟨g, k, none⟩ ⟨h, j, none⟩ _ (by intro e; injection e with e; exact hne e)]; exact hr.cell j hj, fun o => by rw [World.frozen?_setCell]; exact hr.fr o, by simpa [World.setCell] using hr.lt, hr.ge, hr.bel.setCell (p := ⟨g, k, none⟩) hge _⟩
def laMin (p q : List Int) (n : Nat) : List Int := (List.range n).map fun i => min (p.getD i 0) (q.getD i 0)
def laMax (p q : List Int) (n : Nat) : List Int := (List.range n).map fun i => max (p.getD i 0) (q.getD i 0)
theorem laMin_get {p q : List Int} {n i : Nat} (h : i < n) : (laMin p q n)[i]? = some (min (p.getD i 0) (q.getD i 0)) := by unfold laMin; rw [List.getElem?_map, List.getElem?_range h]; rfl
theorem laMax_get {p q : List Int} {n i : Nat} (h : i < n) : (laMax p q n)[i]? = some (max (p.getD i 0) (q.getD i 0)) := by unfold laMax; rw [List.getElem?_map, List.getElem?_range h]; rfl
theorem laMin_len (p q : List Int) (n : Nat) : (laMin p q n).length = n := by simp [laMin]
theorem laMax_len (p q : List Int) (n : Nat) : (laMax p q n).length = n := by simp [laMax]
theorem lat_min {ws st : Cs.Wins} {p q : List Int} (hp : Meet ws st p) (hq : Meet ws st q) : Meet ws st (laMin p q ws.length) := by
  refine ⟨hp.1, laMin_len _ _ _, ⟨fun i hi => ?_, fun i hi => ?_⟩⟩
  · have a := hp.2.2.win i hi
    have b := hq.2.2.win i hi
    rw [getD_of (laMin_get hi)]
    omega
  · have a := hp.2.2.stp i hi
    have b := hq.2.2.stp i hi
    rw [getD_of (laMin_get (show i < ws.length by omega)), getD_of (laMin_get hi)]
    omega
theorem lat_max {ws st : Cs.Wins} {p q : List Int} (hp : Meet ws st p) (hq : Meet ws st q) : Meet ws st (laMax p q ws.length) := by
  refine ⟨hp.1, laMax_len _ _ _, ⟨fun i hi => ?_, fun i hi => ?_⟩⟩
  · have a := hp.2.2.win i hi
    have b := hq.2.2.win i hi
    rw [getD_of (laMax_get hi)]
    omega
  · have a := hp.2.2.stp i hi
    have b := hq.2.2.stp i hi
    rw [getD_of (laMax_get (show i < ws.length by omega)), getD_of (laMax_get hi)]
    omega
theorem meet_tg {ws st : Cs.Wins} {p : List Int} (hp : Meet ws st p) : Cs.tgE ws st = 0 := Cs.tgE_ok hp.1 (Cs.confL_nil.2 hp.2.2.noConf)
theorem meet_btw {ws st : Cs.Wins} {p : List Int} (hp : Meet ws st p) {i : Nat} (hi : i < ws.length) : ((Cs.tight ws st).map fun p => p.1).getD i 0 ≤ p.getD i 0 ∧ p.getD i 0 ≤ ((Cs.tight ws st).map fun p => p.2).getD i 0 := by
  rw [getD_map_tight _ hi, getD_map_tight _ hi]
  exact hp.2.2.between hi
/-- two rows in blocks g and h -/
structure Two (w0 : World) (g h n : Nat) (F G : Nat → Int) (w : World) : Prop where
  ne : g ≠ h
  a : RowI w0 g n F w
  b : RowI w0 h n G w
def TwoMk (w0 : World) (n : Nat) (x y : Value) (w : World) : Prop := ∃ g h : Nat, x = .slice (some ⟨g, 0, none⟩) n n ∧ y = .slice (some ⟨h, 0, none⟩) n n ∧ Two w0 g h n (fun _ => 0) (fun _ => 0) w
theorem Two.drew {w0 w : World} {g h n : Nat} {F G : Nat → Int} (x : Two w0 g h n F G w) : Two w0 g h n F G w.drew := ⟨x.ne, x.a.drew, x.b.drew⟩
theorem Two.swap {w0 w : World} {g h n : Nat} {F G : Nat → Int} (x : Two w0 g h n F G w) : Two w0 h g n G F w := ⟨fun e => x.ne e.symm, x.b, x.a⟩
theorem Two.step {w0 w : World} {g h n k : Nat} {l m : List Int} {x y : Int} (t : Two w0 g h n (fillF l k) (fillF m k) w) (hk : k < n) (hx : l[k]? = some x) (hy : m[k]? = some y) : Two w0 g h n (fillF l (k + 1)) (fillF m (k + 1)) ((w.setCell ⟨g, k, none⟩ (.int .i64 x)).setCell ⟨h, k, none⟩ (.int .i64 y)) :=
  ⟨t.ne, ((t.a.set hk x).set_other (fun e => t.ne e.symm) t.b.ge _).congr fun j _ => fillF_step hx j, ((t.b.set_other t.ne t.a.ge _).set hk y).congr fun j _ => fillF_step hy j⟩
theorem mt_isnt {F : FuncId} {args : Array Value} {ws st : Cs.Wins} {vs : List Int} {w : World} (hm : ¬ Meet ws st vs) (h : Calls Try.prog F args w (MtPost ws st vs w)) : Calls Try.prog F args w (MbPost false w) :=
  h.mono fun e w' ⟨h1, h2, h3⟩ => ⟨h2 hm, h3⟩
def CwRel (n : Nat) (w : World) (t : Value) (wr : World) : Prop := ∃ k : Nat, k ≤ n ∧ t = .int .i64 k ∧ Below w.heap.size w wr
theorem two_made (w : World) (n : Nat) (t u : TypeId) : Two w w.heap.size (w.heap.size + 1) n (fun _ => 0) (fun _ => 0) ((w.alloc (.cells (madeCells #[.int .i64 0] n) t)).alloc (.cells (madeCells #[.int .i64 0] n) u)) := by
  have h1 := RowI.made n (Below.refl w.heap.size w) t
  have h2 := RowI.made (w0 := w) (w := w.alloc (.cells (madeCells #[.int .i64 0] n) t)) n ((Below.refl _ w).alloc (Nat.le_refl _) _) u
  rw [show (w.alloc (.cells (madeCells #[.int .i64 0] n) t)).heap.size = w.heap.size + 1 by simp] at h2
  exact ⟨by omega, h1.alloc _, h2⟩
def LtRel (w0 : World) (g h n : Nat) (p q : List Int) (t : Value) (wr : World) : Prop := ∃ k : Nat, k ≤ n ∧ t = .int .i64 k ∧ Two w0 g h n (fillF (laMin p q n) k) (fillF (laMax p q n) k) wr
theorem ret_tt_ProfileLattice {b : Bool} (h : b = true) : Ending.returned (.bool b) = .returned (.bool true) := by rw [h]
set_option maxRecDepth 100000 in
set_option maxHeartbeats 4000000 in
theorem walk_ProfileLattice (A : Option Addr) (n cn : Nat) (zs : Cs.Wins) (S : Option Addr) (m cm : Nat) (ys : Cs.Wins) (V : Option Addr) (nv cv : Nat) (p : List Int) (U : Option Addr) (nu cu : Nat) (q : List Int) (w : World) (hw : Pairs w A n zs) (hzf : ∀ x ∈ zs, WinWf x) (hn : n ≤ maxLen) (hn8 : n * 16 ≤ reachBytes) (hcA : CapOk A n cn) (hs : Pairs w S m ys) (hyf : ∀ x ∈ ys, WinWf x) (hm : m ≤ maxLen) (hm8 : m * 16 ≤ reachBytes) (hcS : CapOk S m cm) (hv1 : nv ≤ maxLen) (hv : Ints w V nv p) (hvf : ∀ x ∈ p, (Lit.int .i64 x).wf = true) (hu1 : nu ≤ maxLen) (hu : Ints w U nu q) (huf : ∀ x ∈ q, (Lit.int .i64 x).wf = true) :
    Calls Try.prog 9 #[.slice A n cn, .slice S m cm, .agg #[.slice V nv cv, .slice U nu cu]] w fun e w' => e = .returned (.bool true) ∧ Below w.heap.size w w' := by
  have HW := Lib.hid hw
  have HS := Lib.hid hs
  have HV := Lib.hid hv
  have HU := Lib.hid hu
  have HNM := Lib.hid (And.intro hn (And.intro hm (And.intro hv1 hu1)))
  have HCS := Lib.hid hcS
  have HLV := Lib.hid hv.len
  have HLU := Lib.hid hu.len
  have HLW := Lib.hid hw.len
  clear hw hs hv hu hcA hcS hzf hyf hvf huf hn8 hm8 hn hm hv1 hu1
  by_cases hp : Meet zs ys p
  · by_cases hq : Meet zs ys q
    · have HP := Lib.hid hp
      have HQ := Lib.hid hq
      have hn64 : n ≤ 64 := by have := (Cs.csOk_of hp.1).len; have := HLW.out; omega
      have HNV := Lib.hid (show nv = n ∧ nu = n by have := HLV.out; have := HLU.out; have := HLW.out; have := hp.2.1; have := hq.2.1; omega)
      have hnv : n ≤ nv ∧ n ≤ nu := by have := HNV.out; omega
      obtain ⟨hnv1, hnv2⟩ := hnv
      clear hp hq
      have hmk := run_make_row' (P := Try.prog) 25 2 (.int .i64 0) 8 Try.underlying25 infoI64 rfl .i64 .i64 n (by omega) (by omega)
      go_enter Try.func9, Try.ntmps9
      go_wp2_with fail
      refine (awake_any _).mono ?_; rintro e w1 ⟨rfl, hB⟩
      have k0 : w1.cell? ⟨w.heap.size, 0, none⟩ = some (.slice V nv cv) := (hB.cell (p := ⟨w.heap.size, 0, none⟩) (by simp)).trans (one_box w _ _ 0)
      have k1 : w1.cell? ⟨w.heap.size, 1, none⟩ = some (.slice U nu cu) := (hB.cell (p := ⟨w.heap.size, 1, none⟩) (by simp)).trans (one_box w _ _ 1)
      have hlt0 : w.heap.size < w1.heap.size := by have := hB.size; simp at this; omega
      have HB1 := Lib.hid (bel_alloc hB)
      clear hB
      go_wp2_with fail
      refine (mt_is HP.out (xMeets A S V n cn m cm nv cv zs ys p w1 (HW.out.below HB1.out) (HS.out.below HB1.out) (HV.out.below HB1.out) HNM.out.1 HNM.out.2.1 HNM.out.2.2.1)).mono ?_; rintro e w2 ⟨rfl, hB⟩
      have HB2 := Lib.hid (bel_trans HB1.out hB)
      replace k0 : w2.cell? ⟨w.heap.size, 0, none⟩ = some (.slice V nv cv) := (hB.cell (p := ⟨w.heap.size, 0, none⟩) hlt0).trans k0
      replace k1 : w2.cell? ⟨w.heap.size, 1, none⟩ = some (.slice U nu cu) := (hB.cell (p := ⟨w.heap.size, 1, none⟩) hlt0).trans k1
      replace hlt0 : w.heap.size < w2.heap.size := Nat.lt_of_lt_of_le hlt0 hB.size
      clear hB
      go_wp2_with fail
      refine (mt_is HQ.out (xMeets A S U n cn m cm nu cu zs ys q w2 (HW.out.below HB2.out) (HS.out.below HB2.out) (HU.out.below HB2.out) HNM.out.1 HNM.out.2.1 HNM.out.2.2.2)).mono ?_; rintro e w3 ⟨rfl, hB⟩
      have HB3 := Lib.hid (bel_trans HB2.out hB)
      replace k0 : w3.cell? ⟨w.heap.size, 0, none⟩ = some (.slice V nv cv) := (hB.cell (p := ⟨w.heap.size, 0, none⟩) hlt0).trans k0
      replace k1 : w3.cell? ⟨w.heap.size, 1, none⟩ = some (.slice U nu cu) := (hB.cell (p := ⟨w.heap.size, 1, none⟩) hlt0).trans k1
      replace hlt0 : w.heap.size < w3.heap.size := Nat.lt_of_lt_of_le hlt0 hB.size
      clear hB
      go_upto_region 5 with fail
      go_cut [7, 8] (fun s7 s8 wx => TwoMk w3 n s7 s8 wx)
      case first =>
        go_region
        all_goals (go_wp2_with fail; go_meet; first | exact ⟨_, _, rfl, rfl, (two_made w3 n _ _).drew⟩ | exact ⟨_, _, rfl, rfl, (two_made w3 n _ _).swap.drew⟩)
      case rest =>
        obtain ⟨g, h, rfl, rfl, hT⟩ := hcut
        have HT := Lib.hid (Two.mk hT.ne (hT.a.congr fun j _ => fillF_zero (laMin p q n) j) (hT.b.congr fun j _ => fillF_zero (laMax p q n) j))
        clear hT
        go_wp2_with fail
        go_loopw [39] (fun t wr => LtRel w3 g h n p q t wr) (fun t _ => n - (intOf t).toNat)
        case atStart => exact ⟨0, by omega, rfl, HT.out⟩
        case round =>
          obtain ⟨k, hk, rfl, hT⟩ := hrel
          replace HT := Lib.hid hT
          clear hT
          by_cases hlt : k < n
          · obtain ⟨x, hx⟩ := get_ex (k := k) HLV.out (by omega)
            obtain ⟨y, hy⟩ := get_ex (k := k) HLU.out (by omega)
            obtain ⟨bv, ov, rfl, hbv, cx0⟩ := HV.out.cell hx
            obtain ⟨bu, ou, rfl, hbu, cy0⟩ := HU.out.cell hy
            have sx := Lib.hid (show (laMin p q n)[k]? = some (min x y) by rw [laMin_get hlt, getD_of hx, getD_of hy])
            have sy := Lib.hid (show (laMax p q n)[k]? = some (max x y) by rw [laMax_get hlt, getD_of hx, getD_of hy])
            have cx := (HT.out.a.bel.cell (p := ⟨bv, ov + k, none⟩) (Nat.lt_of_lt_of_le hbv HB3.out.size)).trans ((HB3.out.cell (p := ⟨bv, ov + k, none⟩) hbv).trans cx0)
            have cy := (HT.out.a.bel.cell (p := ⟨bu, ou + k, none⟩) (Nat.lt_of_lt_of_le hbu HB3.out.size)).trans ((HB3.out.cell (p := ⟨bu, ou + k, none⟩) hbu).trans cy0)
            have l0 := (HT.out.a.bel.cell (p := ⟨w.heap.size, 0, none⟩) hlt0).trans k0
            have l1 := (HT.out.a.bel.cell (p := ⟨w.heap.size, 1, none⟩) hlt0).trans k1
            clear hx hy cx0 cy0
            have i0 : (0 : Int) ≤ (k : Int) := by omega
            have i1 : (k : Int) < (n : Int) := by omega
            have i2 : (k : Int) < (nv : Int) := by omega
            have i3 : (k : Int) < (nu : Int) := by omega
            have d0 := HT.out.a.cell k hlt
            have d1 := HT.out.a.fr k
            have d2 := HT.out.b.cell k hlt
            have d3 := HT.out.b.fr k
            have dne := HT.out.ne
            generalize fillF (laMin p q n) k k = Z0 at *
            generalize fillF (laMax p q n) k k = Z1 at *
            have n0 : bv ≠ g := by have := HT.out.a.ge; have := Nat.lt_of_lt_of_le hbv HB3.out.size; omega
            have n1 : bu ≠ g := by have := HT.out.a.ge; have := Nat.lt_of_lt_of_le hbu HB3.out.size; omega
            have n2 : w.heap.size ≠ g := by have := HT.out.a.ge; omega
            have n3 : bv ≠ h := by have := HT.out.b.ge; have := Nat.lt_of_lt_of_le hbv HB3.out.size; omega
            have n4 : bu ≠ h := by have := HT.out.b.ge; have := Nat.lt_of_lt_of_le hbu HB3.out.size; omega
            have n5 : w.heap.size ≠ h := by have := HT.out.b.ge; omega
            go_wp2_with fail
            go_region_held3 (fun w' => w'.cell? ⟨w.heap.size, 0, none⟩ = some (.slice (some ⟨bv, ov, none⟩) nv cv) ∧ w'.cell? ⟨w.heap.size, 1, none⟩ = some (.slice (some ⟨bu, ou, none⟩) nu cu) ∧ w'.cell? ⟨bv, ov + k, none⟩ = some (.int .i64 x) ∧ w'.cell? ⟨bu, ou + k, none⟩ = some (.int .i64 y)) ((refine ⟨?_, ?_, ?_, ?_⟩ <;> (simp only [World.cell?_drew]; (repeat rw [World.cell?_setCell_other _ _ _ _ (by intro e; injection e with e; first | exact n0 e.symm | exact n1 e.symm | exact n2 e.symm | exact n3 e.symm | exact n4 e.symm | exact n5 e.symm)]); assumption))) (fail)
            all_goals
              go_wp2_with fail
              go_roundw
              case rel => exact ⟨k + 1, by omega, by go_num, (HT.out.step hlt sx.out sy.out).drew⟩
              case measure => simp only [intOf]; omega
          · have hkn := Lib.hid (show k = n by omega)
            have hT := HT.out
            rw [hkn.out] at hT
            have IL := Lib.hid (hT.a.ints (laMin_len p q n))
            have IH := Lib.hid (hT.b.ints (laMax_len p q n))
            have HB4 := Lib.hid (bel_trans HB3.out hT.a.bel)
            have HTG := Lib.hid (meet_tg HP.out)
            have HML := Lib.hid (lat_min HP.out HQ.out)
            have HMH := Lib.hid (lat_max HP.out HQ.out)
            rw [HLW.out] at HML HMH
            clear hT
            go_wp2_with fail
            refine ((xGreatest A S n cn m cm zs ys wr (HW.out.below HB4.out) (HS.out.below HB4.out) HNM.out.1 HNM.out.2.1 HCS.out.le HCS.out.mx).mono (fun e w' h => gr_ex h HTG.out rfl)).mono ?_; rintro e w5 ⟨A1, c1, rfl, hI, hB⟩
            have I1 := Lib.hid hI
            replace IL := Lib.hid (IL.out.below hB)
            replace IH := Lib.hid (IH.out.below hB)
            have HB5 := Lib.hid (bel_trans HB4.out hB)
            clear hI hB
            go_wp2_with fail
            refine ((xLeast A S n cn m cm zs ys w5 (HW.out.below HB5.out) (HS.out.below HB5.out) HNM.out.1 HNM.out.2.1 HCS.out.le HCS.out.mx).mono (fun e w' h => gr_ex h HTG.out rfl)).mono ?_; rintro e w6 ⟨A2, c2, rfl, hI, hB⟩
            have I2 := Lib.hid hI
            replace I1 := Lib.hid (I1.out.below hB)
            replace IL := Lib.hid (IL.out.below hB)
            replace IH := Lib.hid (IH.out.below hB)
            have HB6 := Lib.hid (bel_trans HB5.out hB)
            clear hI hB
            go_wp2_with fail
            refine (mt_is HML.out (xMeets A S _ n cn m cm n n zs ys _ w6 (HW.out.below HB6.out) (HS.out.below HB6.out) IL.out HNM.out.1 HNM.out.2.1 HNM.out.1)).mono ?_; rintro e w7 ⟨rfl, hB⟩
            replace I1 := Lib.hid (I1.out.below hB)
            replace I2 := Lib.hid (I2.out.below hB)
            replace IL := Lib.hid (IL.out.below hB)
            replace IH := Lib.hid (IH.out.below hB)
            have HB7 := Lib.hid (bel_trans HB6.out hB)
            clear hB
            go_wp2_with fail
            refine (mt_is HMH.out (xMeets A S _ n cn m cm n n zs ys _ w7 (HW.out.below HB7.out) (HS.out.below HB7.out) IH.out HNM.out.1 HNM.out.2.1 HNM.out.1)).mono ?_; rintro e w8 ⟨rfl, hB⟩
            replace I1 := Lib.hid (I1.out.below hB)
            replace I2 := Lib.hid (I2.out.below hB)
            replace IL := Lib.hid (IL.out.below hB)
            replace IH := Lib.hid (IH.out.below hB)
            have HB8 := Lib.hid (bel_trans HB7.out hB)
            clear hB
            go_wp2_with fail
            go_loopw [119] (fun t wr => CwRel n w8 t wr) (fun t _ => n - (intOf t).toNat)
            case atStart => exact ⟨0, by omega, rfl, Below.refl _ _⟩
            case round =>
              obtain ⟨r, hr, rfl, hB⟩ := hrel
              have HBr := Lib.hid hB
              clear hB
              by_cases hlt2 : r < n
              · have hrz : r < zs.length := by have := HLW.out; omega
                obtain ⟨a, ha⟩ := get_ex (k := r) I1.out.len hlt2
                obtain ⟨b, hb⟩ := get_ex (k := r) I2.out.len hlt2
                have q1 := meet_btw HP.out hrz
                have q2 := meet_btw HQ.out hrz
                rw [getD_of ha, getD_of hb] at q1 q2
                obtain ⟨b1, o1, hA1, hb1, c1'⟩ := I1.out.cell ha
                obtain ⟨b2, o2, hA2, hb2, c2'⟩ := I2.out.cell hb
                obtain ⟨b3, o3, hA3, hb3, c3'⟩ := IL.out.cell (laMin_get (p := p) (q := q) hlt2)
                obtain ⟨b4, o4, hA4, hb4, c4'⟩ := IH.out.cell (laMax_get (p := p) (q := q) hlt2)
                injection hA3 with hA3
                injection hA3 with hA3 hO3
                injection hA4 with hA4
                injection hA4 with hA4 hO4
                subst hA3 hO3 hA4 hO4 hA1 hA2
                have d1 := (HBr.out.cell (p := ⟨b1, o1 + r, none⟩) hb1).trans c1'
                have d2 := (HBr.out.cell (p := ⟨b2, o2 + r, none⟩) hb2).trans c2'
                have d3 := (HBr.out.cell (p := ⟨g, 0 + r, none⟩) hb3).trans c3'
                have d4 := (HBr.out.cell (p := ⟨h, 0 + r, none⟩) hb4).trans c4'
                rw [Nat.zero_add] at d3 d4
                obtain ⟨X, hX⟩ : ∃ X, min (p.getD r 0) (q.getD r 0) = X := ⟨_, rfl⟩
                obtain ⟨Y, hY⟩ : ∃ Y, max (p.getD r 0) (q.getD r 0) = Y := ⟨_, rfl⟩
                have t1 : decide (X < b) = false := decide_eq_false (by omega)
                have t2 : decide (a < Y) = false := decide_eq_false (by omega)
                rw [hX] at d3
                rw [hY] at d4
                have i0 : (0 : Int) ≤ (r : Int) := by omega
                have i1 : (r : Int) < (n : Int) := by omega
                clear ha hb q1 q2 c1' c2' c3' c4' hX hY
                go_wp2_with fail
                go_quiet (fail)
                go_wp2_with fail
                go_roundw
                case rel => exact ⟨r + 1, by omega, by go_num, below_drewN HBr.out _⟩
                case measure => simp only [intOf]; omega
              · go_wp2_with fail
                go_ret
                exact ⟨ret_tt_ProfileLattice (by simp), bel_trans HB8.out HBr.out⟩
    · have HP := Lib.hid hp
      have HQ := Lib.hid hq
      clear hp hq
      go_enter Try.func9, Try.ntmps9
      go_wp2_with fail
      refine (awake_any _).mono ?_; rintro e w1 ⟨rfl, hB⟩
      have k0 : w1.cell? ⟨w.heap.size, 0, none⟩ = some (.slice V nv cv) := (hB.cell (p := ⟨w.heap.size, 0, none⟩) (by simp)).trans (one_box w _ _ 0)
      have k1 : w1.cell? ⟨w.heap.size, 1, none⟩ = some (.slice U nu cu) := (hB.cell (p := ⟨w.heap.size, 1, none⟩) (by simp)).trans (one_box w _ _ 1)
      have hlt0 : w.heap.size < w1.heap.size := by have := hB.size; simp at this; omega
      have HB1 := Lib.hid (bel_alloc hB)
      clear hB
      go_wp2_with fail
      refine (mt_is HP.out (xMeets A S V n cn m cm nv cv zs ys p w1 (HW.out.below HB1.out) (HS.out.below HB1.out) (HV.out.below HB1.out) HNM.out.1 HNM.out.2.1 HNM.out.2.2.1)).mono ?_; rintro e w2 ⟨rfl, hB⟩
      have HB2 := Lib.hid (bel_trans HB1.out hB)
      replace k0 : w2.cell? ⟨w.heap.size, 0, none⟩ = some (.slice V nv cv) := (hB.cell (p := ⟨w.heap.size, 0, none⟩) hlt0).trans k0
      replace k1 : w2.cell? ⟨w.heap.size, 1, none⟩ = some (.slice U nu cu) := (hB.cell (p := ⟨w.heap.size, 1, none⟩) hlt0).trans k1
      replace hlt0 : w.heap.size < w2.heap.size := Nat.lt_of_lt_of_le hlt0 hB.size
      clear hB
      go_wp2_with fail
      refine (mt_isnt HQ.out (xMeets A S U n cn m cm nu cu zs ys q w2 (HW.out.below HB2.out) (HS.out.below HB2.out) (HU.out.below HB2.out) HNM.out.1 HNM.out.2.1 HNM.out.2.2.2)).mono ?_; rintro e w3 ⟨rfl, hB⟩
      have HB3 := Lib.hid (bel_trans HB2.out hB)
      replace k0 : w3.cell? ⟨w.heap.size, 0, none⟩ = some (.slice V nv cv) := (hB.cell (p := ⟨w.heap.size, 0, none⟩) hlt0).trans k0
      replace k1 : w3.cell? ⟨w.heap.size, 1, none⟩ = some (.slice U nu cu) := (hB.cell (p := ⟨w.heap.size, 1, none⟩) hlt0).trans k1
      replace hlt0 : w.heap.size < w3.heap.size := Nat.lt_of_lt_of_le hlt0 hB.size
      clear hB
      go_wp2_with fail
      go_ret
      exact ⟨ret_tt_ProfileLattice (by simp), HB3.out⟩
  · have HP := Lib.hid hp
    clear hp
    go_enter Try.func9, Try.ntmps9
    go_wp2_with fail
    refine (awake_any _).mono ?_; rintro e w1 ⟨rfl, hB⟩
    have k0 : w1.cell? ⟨w.heap.size, 0, none⟩ = some (.slice V nv cv) := (hB.cell (p := ⟨w.heap.size, 0, none⟩) (by simp)).trans (one_box w _ _ 0)
    have k1 : w1.cell? ⟨w.heap.size, 1, none⟩ = some (.slice U nu cu) := (hB.cell (p := ⟨w.heap.size, 1, none⟩) (by simp)).trans (one_box w _ _ 1)
    have hlt0 : w.heap.size < w1.heap.size := by have := hB.size; simp at this; omega
    have HB1 := Lib.hid (bel_alloc hB)
    clear hB
    go_wp2_with fail
    refine (mt_isnt HP.out (xMeets A S V n cn m cm nv cv zs ys p w1 (HW.out.below HB1.out) (HS.out.below HB1.out) (HV.out.below HB1.out) HNM.out.1 HNM.out.2.1 HNM.out.2.2.1)).mono ?_; rintro e w2 ⟨rfl, hB⟩
    have HB2 := Lib.hid (bel_trans HB1.out hB)
    replace k0 : w2.cell? ⟨w.heap.size, 0, none⟩ = some (.slice V nv cv) := (hB.cell (p := ⟨w.heap.size, 0, none⟩) hlt0).trans k0
    replace k1 : w2.cell? ⟨w.heap.size, 1, none⟩ = some (.slice U nu cu) := (hB.cell (p := ⟨w.heap.size, 1, none⟩) hlt0).trans k1
    replace hlt0 : w.heap.size < w2.heap.size := Nat.lt_of_lt_of_le hlt0 hB.size
    clear hB
    go_wp2_with fail
    go_ret
    exact ⟨ret_tt_ProfileLattice (by simp), HB2.out⟩
end Go.Proofs.Ytgmpaffoajmmmaa
namespace Go.Proofs.Ytgmpaffoajmmmaa.profileLattice
open Go.ChangeShapes Go.WideShapes Go.ChangeAt Go.RowKit
open Go.ChangeMaps (open_string shut_string)
set_option linter.unusedVariables false
set_option linter.unusedSimpArgs false

theorem own : ownKnob Try.prog.godebug = none := by kernel_rfl
theorem laidOut : laidOutB Try.prog = true := by kernel_rfl

set_option maxRecDepth 100000 in
theorem lifted (os : Os) (started : os.Started) (H : Type) (enc : TypeId × Value → H) :
    ReturnsInHanded {} Try.checked os 9 .any (Rows.profileLatticeSpec.pre6 enc Try.prog Try.f9 Rows.profileLatticeRow.domain false) (Rows.profileLatticeSpec.post enc Try.prog Try.f9 false true false false) := by
  refine returnsInHanded_of_change_sized (C := Try.checked) own started (by kernel_rfl) Try.func9
    (ChangeSpec.witness6 (enc := enc) (C := Try.checked) false ⟨#[], #[.slice none 0 0, .slice none 0 0, .agg #[.slice none 0 0, .slice none 0 0]], []⟩ 8 (by kernel_rfl) (by kernel_rfl) (by kernel_rfl) (by kernel_rfl)) ?_
  intro W base args ds gs before hval0 hW hcnd hsz0 _
  have hval : ∀ (j : Nat) t v, Try.f9.params[j]? = some t → args[j]? = some v → Value.okWide Try.prog W .any base t v := hval0
  have hW' := hW
  obtain ⟨p, q, hA0, hV, rfl, hfz, hnd⟩ := hW
  have hA : DataW.TrodAll enc Try.prog W 0 (fun _ => true) true Try.f9.params.toList args.toList ds p := hA0
  have hsz : (DataW.weightsEach Try.prog (Try.f9.params.toList ++ Rows.profileLatticeSpec.plain.varTypes Try.prog) (ds ++ gs)).all (· ≤ reachBytes) = true := hsz0
  rw [Try.params9] at hA hval hsz
  obtain ⟨v0, vs0, d0, ds0, p0, q0, hargs, rfl, rfl, h0, r0⟩ := trodAll_cons hA
  obtain ⟨v1, vs1, d1, ds1, p1, q1, rfl, rfl, rfl, h1, r1⟩ := trodAll_cons r0
  obtain ⟨v2, vs2, d2, ds2, p2, q2, rfl, rfl, rfl, h2, r2⟩ := trodAll_cons r1
  obtain ⟨rfl, rfl, rfl⟩ := trodAll_nil r2
  obtain rfl : args = #[v0, v1, v2] := by cases args; simp_all
  obtain ⟨rfl, rfl⟩ := trodVars_none hV
  have k0 := h0
  have lt0 : ∀ x ∈ p0, x.block < W.heap.size := by obtain ⟨m, hm⟩ := k0; exact DataW.trod_lt m _ _ _ hm
  have k1 := h1
  have lt1 : ∀ x ∈ p1, x.block < W.heap.size := by obtain ⟨m, hm⟩ := k1; exact DataW.trod_lt m _ _ _ hm
  have k2 := h2
  have lt2 : ∀ x ∈ p2, x.block < W.heap.size := by obtain ⟨m, hm⟩ := k2; exact DataW.trod_lt m _ _ _ hm
  obtain ⟨A0, n0, c0, z0, rfl, m0, qc0, w0, u0, o0⟩ := open_recs_Trod win 2 (by decide) (fun _ => rfl) WinWf Try.underlying22 (by kernel_rfl) el_win (hval 0 22 v0 rfl rfl) h0
  have o0' := o0 (weights_arg hsz (j := 0) rfl rfl)
  rw [show Try.prog.bytesOf 42 = 16 by kernel_rfl] at o0'
  obtain ⟨A1, n1, c1, z1, rfl, m1, qc1, w1, u1, o1⟩ := open_recs_Trod win 2 (by decide) (fun _ => rfl) WinWf Try.underlying23 (by kernel_rfl) el_step (hval 1 23 v1 rfl rfl) h1
  have o1' := o1 (weights_arg hsz (j := 1) rfl rfl)
  rw [show Try.prog.bytesOf 50 = 16 by kernel_rfl] at o1'
  obtain ⟨A2, n2, c2, z2, B2, j2, k2', y2, rfl, m2, w2, u2, x2, e2, f2⟩ := open_two (hval 2 44 v2 rfl rfl) h2
  clear hA0 hval0
  refine (Ytgmpaffoajmmmaa.walk_ProfileLattice A0 n0 c0 z0 A1 n1 c1 z1 A2 n2 c2 z2 B2 j2 k2' y2 W w0 u0 m0 o0' qc0 w1 u1 m1 o1' qc1 m2 w2 u2 x2 e2 f2).mono fun e W' ⟨he, bel⟩ => ?_
  subst he
  exact ⟨_, rfl, _, _, _, [], _, [], hW', trodAll_mk1 (shut_bool Try.underlying4 _), (trodAll_cons_mk (Below.trod laidOut (by kernel_rfl) (of_decide_eq_true (by kernel_rfl)) k0 bel lt0) (trodAll_cons_mk (Below.trod laidOut (by kernel_rfl) (of_decide_eq_true (by kernel_rfl)) k1 bel lt1) (trodAll_cons_mk (Below.trod laidOut (by kernel_rfl) (of_decide_eq_true (by kernel_rfl)) k2 bel lt2) trodAll_mk0))), rfl, bel.frame _, fun h => by cases h⟩

theorem over : Rows.profileLatticeRow.holds Try.pinned (OpenSpec.ofChange Rows.profileLatticeSpec) :=
  OpenClaim.holds_of_wide 9 Try.f9 rfl rfl rfl rfl rfl rfl rfl ⟨rfl, rfl, rfl, rfl, rfl⟩ rfl rfl rfl rfl rfl (by kernel_rfl) Try.func9 (by kernel_rfl)
    (of_decide_eq_true (by kernel_rfl)) (by unfold Func.isWrapper; first | (rw [if_pos (by decide +kernel)]; kernel_rfl) | (rw [if_neg (by decide +kernel)]; exact ⟨rfl, rfl⟩))
    (fun os started H enc _ => lifted os started H enc)

/-- the statement -/
theorem proved : Rows.ProfileLatticeSaid := over
end Go.Proofs.Ytgmpaffoajmmmaa.profileLattice
