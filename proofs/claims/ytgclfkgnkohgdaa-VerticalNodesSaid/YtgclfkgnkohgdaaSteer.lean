/- Layer 51: the contracts of Steer, of the program and of the reference (printed by gen_steer.py). -/
import Derived.Test.YtgclfkgnkohgdaaPath
namespace Go.Proofs.Ytgclfkgnkohgdaa
set_option linter.unusedSimpArgs false
set_option linter.unusedVariables false
open Go.RowKit

def StPost (T V S E : Int) (w : World) (e : Ending) (w' : World) : Prop := e = .returned (.tuple #[.int .i64 T, .int .i64 V, .int .i64 S, .int .i64 E]) ∧ Below w.heap.size w w'

set_option maxRecDepth 100000 in
set_option maxHeartbeats 2000000 in
theorem xSteer (A D : Option Addr) (n c m cm : Nat) (ps : List Pass) (d : List Int) (s g alt last : Int) (x y z : Value) (w : World) (hp : Passes w A n ps) (hd : Ints w D m d) (hn : n * 8 ≤ 140737488355328) (hm : m ≤ maxLen) (hs : I64 s) (hg : I64 g) (ha : I64 alt) (hl : I64 last) :
    Calls Try.prog 26 #[.agg #[.slice A n c, x, y, z], .slice D m cm, .int .i64 s, .int .i64 g, .int .i64 alt, .int .i64 last] w (StPost (Vt.stT (ps.map Pass.alt) (ps.map Pass.cas) d s g alt last) (Vt.stW (ps.map Pass.alt) (ps.map Pass.cas) d s g alt last) (Vt.stS (ps.map Pass.alt) (ps.map Pass.cas) d s g alt last) (Vt.stE (ps.map Pass.alt) (ps.map Pass.cas) d s g alt last) w) := by
  have HP := Lib.hid hp
  have HD := Lib.hid hd
  have HS := Lib.hid hs
  have HG := Lib.hid hg
  have HA := Lib.hid ha
  have HL := Lib.hid hl
  have hpv := Vt.ptV_bd (ps.map Pass.alt) d s g
  have hcv := Vt.cmV_bd alt (Pf.bwV (ps.map Pass.alt) d s) 10000 (by omega) (by omega)
  obtain ⟨pv0, pv1⟩ := hpv
  obtain ⟨cv0, cv1⟩ := hcv
  obtain ⟨sa0, sa1⟩ := hs
  obtain ⟨ga0, ga1⟩ := hg
  obtain ⟨aa0, aa1⟩ := ha
  obtain ⟨la0, la1⟩ := hl
  clear hp hd
  by_cases hpe : Vt.ptE (ps.map Pass.alt) d s g = 0
  · have hbw := Vt.ptE_0 hpe
    have HPE := Lib.hid hpe
    have HBW := Lib.hid hbw
    clear hpe hbw
    by_cases hok : Vt.stOk (ps.map Pass.alt) d s alt last
    · have hse : Vt.stE (ps.map Pass.alt) (ps.map Pass.cas) d s g alt last = Pf.bwE (ps.map Pass.cas) d s := by unfold Vt.stE; rw [if_neg (by have := HPE.out; omega), if_pos hok]
      have HSE := Lib.hid hse
      have HOK := Lib.hid hok
      have hlo := hok.2.2
      obtain ⟨lo0, lo1⟩ := hlo
      clear hse hok
      by_cases hsp : Pf.bwE (ps.map Pass.cas) d s = 0
      · have hz : Vt.stE (ps.map Pass.alt) (ps.map Pass.cas) d s g alt last = 0 := by rw [HSE.out]; exact hsp
        obtain ⟨e1, e2, e3⟩ := Vt.st_good hz
        rw [e1, e2, e3, hz]
        have HSP := Lib.hid hsp
        clear hsp hz e1 e2 e3
        go_enter Try.func26, Try.ntmps26
        go_wp2_with fail
        refine (xPath A D n c m cm ps d s g x y z _ (HP.out.below ((Below.refl _ _).alloc (Nat.le_refl _) _)) (HD.out.below ((Below.refl _ _).alloc (Nat.le_refl _) _)) hn hm HS.out HG.out).mono ?_; rintro e w1 ⟨rfl, hbx⟩
        have b0 : w1.cell? ⟨w.heap.size, 0, none⟩ = some (.slice A n c) := (hbx.cell (p := ⟨w.heap.size, 0, none⟩) (by simp)).trans (by simp [World.cell?_alloc_new])
        have b1 : w1.cell? ⟨w.heap.size, 1, none⟩ = some (x) := (hbx.cell (p := ⟨w.heap.size, 1, none⟩) (by simp)).trans (by simp [World.cell?_alloc_new])
        have b2 : w1.cell? ⟨w.heap.size, 2, none⟩ = some (y) := (hbx.cell (p := ⟨w.heap.size, 2, none⟩) (by simp)).trans (by simp [World.cell?_alloc_new])
        have b3 : w1.cell? ⟨w.heap.size, 3, none⟩ = some (z) := (hbx.cell (p := ⟨w.heap.size, 3, none⟩) (by simp)).trans (by simp [World.cell?_alloc_new])
        have hlt : w.heap.size < w1.heap.size := by have := hbx.size; simp at this; omega
        have HW := Lib.hid (bel_alloc hbx)
        clear hbx
        rw [HPE.out]
        go_wp2_with fail
        refine (xTarget A D n c m cm ps d s x y z w1 (HP.out.below HW.out) (HD.out.below HW.out) hn hm HS.out).mono ?_; rintro e w2 ⟨rfl, hbx⟩
        replace b0 : w2.cell? ⟨w.heap.size, 0, none⟩ = some (.slice A n c) := (hbx.cell (p := ⟨w.heap.size, 0, none⟩) hlt).trans b0
        replace b1 : w2.cell? ⟨w.heap.size, 1, none⟩ = some (x) := (hbx.cell (p := ⟨w.heap.size, 1, none⟩) hlt).trans b1
        replace b2 : w2.cell? ⟨w.heap.size, 2, none⟩ = some (y) := (hbx.cell (p := ⟨w.heap.size, 2, none⟩) hlt).trans b2
        replace b3 : w2.cell? ⟨w.heap.size, 3, none⟩ = some (z) := (hbx.cell (p := ⟨w.heap.size, 3, none⟩) hlt).trans b3
        replace hlt : w.heap.size < w2.heap.size := Nat.lt_of_lt_of_le hlt hbx.size
        replace HW := Lib.hid (bel_trans HW.out hbx)
        clear hbx
        rw [HBW.out]
        go_wp2_with fail
        refine (xCommand alt (Pf.bwV (ps.map Pass.alt) d s) 10000 _).mono ?_; rintro e w3 ⟨rfl, q, rfl⟩
        replace b0 : (w2.drewN q).cell? ⟨w.heap.size, 0, none⟩ = some (.slice A n c) := b0
        replace b1 : (w2.drewN q).cell? ⟨w.heap.size, 1, none⟩ = some (x) := b1
        replace b2 : (w2.drewN q).cell? ⟨w.heap.size, 2, none⟩ = some (y) := b2
        replace b3 : (w2.drewN q).cell? ⟨w.heap.size, 3, none⟩ = some (z) := b3
        replace hlt : w.heap.size < (w2.drewN q).heap.size := hlt
        replace HW := Lib.hid (below_drewN HW.out q)
        generalize w2.drewN q = w3 at *
        rw [Vt.cmE_ok HOK.out.1 HOK.out.2.1]
        have HE := Lib.hid HOK.out
        generalize Pf.bwV (ps.map Pass.alt) d s = TT at *
        generalize Vt.cmV alt TT 10000 = CV at *
        generalize Vt.ptV (ps.map Pass.alt) d s g = PV at *
        go_wp2_with fail
        refine (xClamp (PV + CV) (-10000) 10000 _).mono ?_; rintro e w4 ⟨rfl, rfl⟩
        go_wp2_with fail
        refine (xLimit last (clampV (PV + CV) (-10000) 10000) _).mono ?_; rintro e w5 ⟨rfl, rfl⟩
        have hcb := Vt.clmp_bd (PV + CV) (-10000) 10000 (by omega)
        have hlm := Vt.lm_ok (l := last) (x := clampV (PV + CV) (-10000) 10000) ⟨lo0, lo1⟩ hcb
        rw [hlm.1, hlm.2]
        have hcl : clampV (PV + CV) (-10000) 10000 = Vt.clmp (PV + CV) (-10000) 10000 := rfl
        rw [hcl]
        clear hcb hlm hcl
        generalize Vt.clmp (Vt.clmp (PV + CV) (-10000) 10000) (last - 40) (last + 40) = VS at *
        go_wp2_with fail
        refine (xSpeed A D n c m cm ps d s x y z w3 (HP.out.below HW.out) (HD.out.below HW.out) hn hm HS.out).mono ?_; rintro e w6 ⟨rfl, hbx⟩
        replace b0 : w6.cell? ⟨w.heap.size, 0, none⟩ = some (.slice A n c) := (hbx.cell (p := ⟨w.heap.size, 0, none⟩) hlt).trans b0
        replace b1 : w6.cell? ⟨w.heap.size, 1, none⟩ = some (x) := (hbx.cell (p := ⟨w.heap.size, 1, none⟩) hlt).trans b1
        replace b2 : w6.cell? ⟨w.heap.size, 2, none⟩ = some (y) := (hbx.cell (p := ⟨w.heap.size, 2, none⟩) hlt).trans b2
        replace b3 : w6.cell? ⟨w.heap.size, 3, none⟩ = some (z) := (hbx.cell (p := ⟨w.heap.size, 3, none⟩) hlt).trans b3
        replace hlt : w.heap.size < w6.heap.size := Nat.lt_of_lt_of_le hlt hbx.size
        replace HW := Lib.hid (bel_trans HW.out hbx)
        clear hbx
        rw [HSP.out]
        go_wp2_with fail
        refine bodyPost_ret (results_tmp4 rfl _ _ _) rfl ?_
        exact ⟨rfl, HW.out⟩
      · obtain ⟨e1, e2, e3⟩ := Vt.st_bad HSE.out hsp
        rw [e1, e2, e3, HSE.out]
        have hne : (Pf.bwE (ps.map Pass.cas) d s != 0) = true := by rw [bne_iff_ne]; exact hsp
        have HSPV := Lib.hid (show Pf.bwV (ps.map Pass.cas) d s = 0 by unfold Pf.bwV; rw [if_neg hsp])
        clear hsp e1 e2 e3
        go_enter Try.func26, Try.ntmps26
        go_wp2_with fail
        refine (xPath A D n c m cm ps d s g x y z _ (HP.out.below ((Below.refl _ _).alloc (Nat.le_refl _) _)) (HD.out.below ((Below.refl _ _).alloc (Nat.le_refl _) _)) hn hm HS.out HG.out).mono ?_; rintro e w1 ⟨rfl, hbx⟩
        have b0 : w1.cell? ⟨w.heap.size, 0, none⟩ = some (.slice A n c) := (hbx.cell (p := ⟨w.heap.size, 0, none⟩) (by simp)).trans (by simp [World.cell?_alloc_new])
        have b1 : w1.cell? ⟨w.heap.size, 1, none⟩ = some (x) := (hbx.cell (p := ⟨w.heap.size, 1, none⟩) (by simp)).trans (by simp [World.cell?_alloc_new])
        have b2 : w1.cell? ⟨w.heap.size, 2, none⟩ = some (y) := (hbx.cell (p := ⟨w.heap.size, 2, none⟩) (by simp)).trans (by simp [World.cell?_alloc_new])
        have b3 : w1.cell? ⟨w.heap.size, 3, none⟩ = some (z) := (hbx.cell (p := ⟨w.heap.size, 3, none⟩) (by simp)).trans (by simp [World.cell?_alloc_new])
        have hlt : w.heap.size < w1.heap.size := by have := hbx.size; simp at this; omega
        have HW := Lib.hid (bel_alloc hbx)
        clear hbx
        rw [HPE.out]
        go_wp2_with fail
        refine (xTarget A D n c m cm ps d s x y z w1 (HP.out.below HW.out) (HD.out.below HW.out) hn hm HS.out).mono ?_; rintro e w2 ⟨rfl, hbx⟩
        replace b0 : w2.cell? ⟨w.heap.size, 0, none⟩ = some (.slice A n c) := (hbx.cell (p := ⟨w.heap.size, 0, none⟩) hlt).trans b0
        replace b1 : w2.cell? ⟨w.heap.size, 1, none⟩ = some (x) := (hbx.cell (p := ⟨w.heap.size, 1, none⟩) hlt).trans b1
        replace b2 : w2.cell? ⟨w.heap.size, 2, none⟩ = some (y) := (hbx.cell (p := ⟨w.heap.size, 2, none⟩) hlt).trans b2
        replace b3 : w2.cell? ⟨w.heap.size, 3, none⟩ = some (z) := (hbx.cell (p := ⟨w.heap.size, 3, none⟩) hlt).trans b3
        replace hlt : w.heap.size < w2.heap.size := Nat.lt_of_lt_of_le hlt hbx.size
        replace HW := Lib.hid (bel_trans HW.out hbx)
        clear hbx
        rw [HBW.out]
        go_wp2_with fail
        refine (xCommand alt (Pf.bwV (ps.map Pass.alt) d s) 10000 _).mono ?_; rintro e w3 ⟨rfl, q, rfl⟩
        replace b0 : (w2.drewN q).cell? ⟨w.heap.size, 0, none⟩ = some (.slice A n c) := b0
        replace b1 : (w2.drewN q).cell? ⟨w.heap.size, 1, none⟩ = some (x) := b1
        replace b2 : (w2.drewN q).cell? ⟨w.heap.size, 2, none⟩ = some (y) := b2
        replace b3 : (w2.drewN q).cell? ⟨w.heap.size, 3, none⟩ = some (z) := b3
        replace hlt : w.heap.size < (w2.drewN q).heap.size := hlt
        replace HW := Lib.hid (below_drewN HW.out q)
        generalize w2.drewN q = w3 at *
        rw [Vt.cmE_ok HOK.out.1 HOK.out.2.1]
        have HE := Lib.hid HOK.out
        generalize Pf.bwV (ps.map Pass.alt) d s = TT at *
        generalize Vt.cmV alt TT 10000 = CV at *
        generalize Vt.ptV (ps.map Pass.alt) d s g = PV at *
        go_wp2_with fail
        refine (xClamp (PV + CV) (-10000) 10000 _).mono ?_; rintro e w4 ⟨rfl, rfl⟩
        go_wp2_with fail
        refine (xLimit last (clampV (PV + CV) (-10000) 10000) _).mono ?_; rintro e w5 ⟨rfl, rfl⟩
        have hcb := Vt.clmp_bd (PV + CV) (-10000) 10000 (by omega)
        have hlm := Vt.lm_ok (l := last) (x := clampV (PV + CV) (-10000) 10000) ⟨lo0, lo1⟩ hcb
        rw [hlm.1, hlm.2]
        have hcl : clampV (PV + CV) (-10000) 10000 = Vt.clmp (PV + CV) (-10000) 10000 := rfl
        rw [hcl]
        clear hcb hlm hcl
        generalize Vt.clmp (Vt.clmp (PV + CV) (-10000) 10000) (last - 40) (last + 40) = VS at *
        go_wp2_with fail
        refine (xSpeed A D n c m cm ps d s x y z w3 (HP.out.below HW.out) (HD.out.below HW.out) hn hm HS.out).mono ?_; rintro e w6 ⟨rfl, hbx⟩
        replace b0 : w6.cell? ⟨w.heap.size, 0, none⟩ = some (.slice A n c) := (hbx.cell (p := ⟨w.heap.size, 0, none⟩) hlt).trans b0
        replace b1 : w6.cell? ⟨w.heap.size, 1, none⟩ = some (x) := (hbx.cell (p := ⟨w.heap.size, 1, none⟩) hlt).trans b1
        replace b2 : w6.cell? ⟨w.heap.size, 2, none⟩ = some (y) := (hbx.cell (p := ⟨w.heap.size, 2, none⟩) hlt).trans b2
        replace b3 : w6.cell? ⟨w.heap.size, 3, none⟩ = some (z) := (hbx.cell (p := ⟨w.heap.size, 3, none⟩) hlt).trans b3
        replace hlt : w.heap.size < w6.heap.size := Nat.lt_of_lt_of_le hlt hbx.size
        replace HW := Lib.hid (bel_trans HW.out hbx)
        clear hbx
        rw [HSPV.out]
        generalize Pf.bwE (ps.map Pass.cas) d s = EE at *
        go_wp2_with fail
        refine bodyPost_ret (results_tmp4 rfl _ _ _) rfl ?_
        exact ⟨rfl, HW.out⟩
    · have hse : Vt.stE (ps.map Pass.alt) (ps.map Pass.cas) d s g alt last = 2 := by unfold Vt.stE; rw [if_neg (by have := HPE.out; omega), if_neg hok]
      obtain ⟨e1, e2, e3⟩ := Vt.st_bad hse (by decide)
      rw [e1, e2, e3, hse]
      clear e1 e2 e3 hse
      by_cases hat : Vt.okAlt alt ∧ Vt.okAlt (Pf.bwV (ps.map Pass.alt) d s)
      · have hlo : ¬ Vt.okRate last := fun h => hok ⟨hat.1, hat.2, h⟩
        have HAT := Lib.hid hat
        have HLO := Lib.hid hlo
        clear hok hat hlo
        go_enter Try.func26, Try.ntmps26
        go_wp2_with fail
        refine (xPath A D n c m cm ps d s g x y z _ (HP.out.below ((Below.refl _ _).alloc (Nat.le_refl _) _)) (HD.out.below ((Below.refl _ _).alloc (Nat.le_refl _) _)) hn hm HS.out HG.out).mono ?_; rintro e w1 ⟨rfl, hbx⟩
        have b0 : w1.cell? ⟨w.heap.size, 0, none⟩ = some (.slice A n c) := (hbx.cell (p := ⟨w.heap.size, 0, none⟩) (by simp)).trans (by simp [World.cell?_alloc_new])
        have b1 : w1.cell? ⟨w.heap.size, 1, none⟩ = some (x) := (hbx.cell (p := ⟨w.heap.size, 1, none⟩) (by simp)).trans (by simp [World.cell?_alloc_new])
        have b2 : w1.cell? ⟨w.heap.size, 2, none⟩ = some (y) := (hbx.cell (p := ⟨w.heap.size, 2, none⟩) (by simp)).trans (by simp [World.cell?_alloc_new])
        have b3 : w1.cell? ⟨w.heap.size, 3, none⟩ = some (z) := (hbx.cell (p := ⟨w.heap.size, 3, none⟩) (by simp)).trans (by simp [World.cell?_alloc_new])
        have hlt : w.heap.size < w1.heap.size := by have := hbx.size; simp at this; omega
        have HW := Lib.hid (bel_alloc hbx)
        clear hbx
        rw [HPE.out]
        go_wp2_with fail
        refine (xTarget A D n c m cm ps d s x y z w1 (HP.out.below HW.out) (HD.out.below HW.out) hn hm HS.out).mono ?_; rintro e w2 ⟨rfl, hbx⟩
        replace b0 : w2.cell? ⟨w.heap.size, 0, none⟩ = some (.slice A n c) := (hbx.cell (p := ⟨w.heap.size, 0, none⟩) hlt).trans b0
        replace b1 : w2.cell? ⟨w.heap.size, 1, none⟩ = some (x) := (hbx.cell (p := ⟨w.heap.size, 1, none⟩) hlt).trans b1
        replace b2 : w2.cell? ⟨w.heap.size, 2, none⟩ = some (y) := (hbx.cell (p := ⟨w.heap.size, 2, none⟩) hlt).trans b2
        replace b3 : w2.cell? ⟨w.heap.size, 3, none⟩ = some (z) := (hbx.cell (p := ⟨w.heap.size, 3, none⟩) hlt).trans b3
        replace hlt : w.heap.size < w2.heap.size := Nat.lt_of_lt_of_le hlt hbx.size
        replace HW := Lib.hid (bel_trans HW.out hbx)
        clear hbx
        rw [HBW.out]
        go_wp2_with fail
        refine (xCommand alt (Pf.bwV (ps.map Pass.alt) d s) 10000 _).mono ?_; rintro e w3 ⟨rfl, q, rfl⟩
        replace b0 : (w2.drewN q).cell? ⟨w.heap.size, 0, none⟩ = some (.slice A n c) := b0
        replace b1 : (w2.drewN q).cell? ⟨w.heap.size, 1, none⟩ = some (x) := b1
        replace b2 : (w2.drewN q).cell? ⟨w.heap.size, 2, none⟩ = some (y) := b2
        replace b3 : (w2.drewN q).cell? ⟨w.heap.size, 3, none⟩ = some (z) := b3
        replace hlt : w.heap.size < (w2.drewN q).heap.size := hlt
        replace HW := Lib.hid (below_drewN HW.out q)
        generalize w2.drewN q = w3 at *
        rw [Vt.cmE_ok HAT.out.1 HAT.out.2]
        generalize Pf.bwV (ps.map Pass.alt) d s = TT at *
        generalize Vt.cmV alt TT 10000 = CV at *
        generalize Vt.ptV (ps.map Pass.alt) d s g = PV at *
        go_wp2_with fail
        refine (xClamp (PV + CV) (-10000) 10000 _).mono ?_; rintro e w4 ⟨rfl, rfl⟩
        go_wp2_with fail
        refine (xLimit last (clampV (PV + CV) (-10000) 10000) _).mono ?_; rintro e w5 ⟨rfl, rfl⟩
        obtain ⟨l1, l2⟩ := Vt.lm_no (l := last) (x := clampV (PV + CV) (-10000) 10000) HLO.out
        rw [l1, l2]
        clear l1 l2
        go_wp2_with fail
        refine bodyPost_ret (results_tmp4 rfl _ _ _) rfl ?_
        exact ⟨rfl, HW.out⟩
      · have HAT := Lib.hid hat
        clear hok hat
        go_enter Try.func26, Try.ntmps26
        go_wp2_with fail
        refine (xPath A D n c m cm ps d s g x y z _ (HP.out.below ((Below.refl _ _).alloc (Nat.le_refl _) _)) (HD.out.below ((Below.refl _ _).alloc (Nat.le_refl _) _)) hn hm HS.out HG.out).mono ?_; rintro e w1 ⟨rfl, hbx⟩
        have b0 : w1.cell? ⟨w.heap.size, 0, none⟩ = some (.slice A n c) := (hbx.cell (p := ⟨w.heap.size, 0, none⟩) (by simp)).trans (by simp [World.cell?_alloc_new])
        have b1 : w1.cell? ⟨w.heap.size, 1, none⟩ = some (x) := (hbx.cell (p := ⟨w.heap.size, 1, none⟩) (by simp)).trans (by simp [World.cell?_alloc_new])
        have b2 : w1.cell? ⟨w.heap.size, 2, none⟩ = some (y) := (hbx.cell (p := ⟨w.heap.size, 2, none⟩) (by simp)).trans (by simp [World.cell?_alloc_new])
        have b3 : w1.cell? ⟨w.heap.size, 3, none⟩ = some (z) := (hbx.cell (p := ⟨w.heap.size, 3, none⟩) (by simp)).trans (by simp [World.cell?_alloc_new])
        have hlt : w.heap.size < w1.heap.size := by have := hbx.size; simp at this; omega
        have HW := Lib.hid (bel_alloc hbx)
        clear hbx
        rw [HPE.out]
        go_wp2_with fail
        refine (xTarget A D n c m cm ps d s x y z w1 (HP.out.below HW.out) (HD.out.below HW.out) hn hm HS.out).mono ?_; rintro e w2 ⟨rfl, hbx⟩
        replace b0 : w2.cell? ⟨w.heap.size, 0, none⟩ = some (.slice A n c) := (hbx.cell (p := ⟨w.heap.size, 0, none⟩) hlt).trans b0
        replace b1 : w2.cell? ⟨w.heap.size, 1, none⟩ = some (x) := (hbx.cell (p := ⟨w.heap.size, 1, none⟩) hlt).trans b1
        replace b2 : w2.cell? ⟨w.heap.size, 2, none⟩ = some (y) := (hbx.cell (p := ⟨w.heap.size, 2, none⟩) hlt).trans b2
        replace b3 : w2.cell? ⟨w.heap.size, 3, none⟩ = some (z) := (hbx.cell (p := ⟨w.heap.size, 3, none⟩) hlt).trans b3
        replace hlt : w.heap.size < w2.heap.size := Nat.lt_of_lt_of_le hlt hbx.size
        replace HW := Lib.hid (bel_trans HW.out hbx)
        clear hbx
        rw [HBW.out]
        go_wp2_with fail
        refine (xCommand alt (Pf.bwV (ps.map Pass.alt) d s) 10000 _).mono ?_; rintro e w3 ⟨rfl, q, rfl⟩
        replace b0 : (w2.drewN q).cell? ⟨w.heap.size, 0, none⟩ = some (.slice A n c) := b0
        replace b1 : (w2.drewN q).cell? ⟨w.heap.size, 1, none⟩ = some (x) := b1
        replace b2 : (w2.drewN q).cell? ⟨w.heap.size, 2, none⟩ = some (y) := b2
        replace b3 : (w2.drewN q).cell? ⟨w.heap.size, 3, none⟩ = some (z) := b3
        replace hlt : w.heap.size < (w2.drewN q).heap.size := hlt
        replace HW := Lib.hid (below_drewN HW.out q)
        generalize w2.drewN q = w3 at *
        obtain ⟨l1, l2⟩ := Vt.cmE_no HAT.out
        rw [l1, l2]
        clear l1 l2
        generalize Pf.bwV (ps.map Pass.alt) d s = TT at *
        go_wp2_with fail
        refine bodyPost_ret (results_tmp4 rfl _ _ _) rfl ?_
        exact ⟨rfl, HW.out⟩
  · have hse : Vt.stE (ps.map Pass.alt) (ps.map Pass.cas) d s g alt last = Vt.ptE (ps.map Pass.alt) d s g := by unfold Vt.stE; rw [if_pos hpe]
    obtain ⟨e1, e2, e3⟩ := Vt.st_bad hse hpe
    rw [e1, e2, e3, hse]
    have hne : (Vt.ptE (ps.map Pass.alt) d s g != 0) = true := by rw [bne_iff_ne]; exact hpe
    have HPV := Lib.hid (show Vt.ptV (ps.map Pass.alt) d s g = 0 by unfold Vt.ptV; rw [if_neg hpe])
    clear hpe e1 e2 e3 hse
    go_enter Try.func26, Try.ntmps26
    go_wp2_with fail
    refine (xPath A D n c m cm ps d s g x y z _ (HP.out.below ((Below.refl _ _).alloc (Nat.le_refl _) _)) (HD.out.below ((Below.refl _ _).alloc (Nat.le_refl _) _)) hn hm HS.out HG.out).mono ?_; rintro e w1 ⟨rfl, hbx⟩
    have b0 : w1.cell? ⟨w.heap.size, 0, none⟩ = some (.slice A n c) := (hbx.cell (p := ⟨w.heap.size, 0, none⟩) (by simp)).trans (by simp [World.cell?_alloc_new])
    have b1 : w1.cell? ⟨w.heap.size, 1, none⟩ = some (x) := (hbx.cell (p := ⟨w.heap.size, 1, none⟩) (by simp)).trans (by simp [World.cell?_alloc_new])
    have b2 : w1.cell? ⟨w.heap.size, 2, none⟩ = some (y) := (hbx.cell (p := ⟨w.heap.size, 2, none⟩) (by simp)).trans (by simp [World.cell?_alloc_new])
    have b3 : w1.cell? ⟨w.heap.size, 3, none⟩ = some (z) := (hbx.cell (p := ⟨w.heap.size, 3, none⟩) (by simp)).trans (by simp [World.cell?_alloc_new])
    have hlt : w.heap.size < w1.heap.size := by have := hbx.size; simp at this; omega
    have HW := Lib.hid (bel_alloc hbx)
    clear hbx
    rw [HPV.out]
    generalize Vt.ptE (ps.map Pass.alt) d s g = EE at *
    go_wp2_with fail
    refine bodyPost_ret (results_tmp4 rfl _ _ _) rfl ?_
    exact ⟨rfl, HW.out⟩

set_option maxRecDepth 100000 in
set_option maxHeartbeats 2000000 in
theorem rSteer (A D : Option Addr) (n c m cm : Nat) (ps : List Pass) (d : List Int) (s g alt last : Int) (x y z : Value) (w : World) (hp : Passes w A n ps) (hd : Ints w D m d) (hn : n * 8 ≤ 140737488355328) (hm : m ≤ maxLen) (hs : I64 s) (hg : I64 g) (ha : I64 alt) (hl : I64 last) :
    Calls Try.prog 27 #[.agg #[.slice A n c, x, y, z], .slice D m cm, .int .i64 s, .int .i64 g, .int .i64 alt, .int .i64 last] w (StPost (Vt.stT (ps.map Pass.alt) (ps.map Pass.cas) d s g alt last) (Vt.stW (ps.map Pass.alt) (ps.map Pass.cas) d s g alt last) (Vt.stS (ps.map Pass.alt) (ps.map Pass.cas) d s g alt last) (Vt.stE (ps.map Pass.alt) (ps.map Pass.cas) d s g alt last) w) := by
  have HP := Lib.hid hp
  have HD := Lib.hid hd
  have HS := Lib.hid hs
  have HG := Lib.hid hg
  have HA := Lib.hid ha
  have HL := Lib.hid hl
  have hpv := Vt.ptV_bd (ps.map Pass.alt) d s g
  have hcv := Vt.cmV_bd alt (Pf.bwV (ps.map Pass.alt) d s) 10000 (by omega) (by omega)
  obtain ⟨pv0, pv1⟩ := hpv
  obtain ⟨cv0, cv1⟩ := hcv
  obtain ⟨sa0, sa1⟩ := hs
  obtain ⟨ga0, ga1⟩ := hg
  obtain ⟨aa0, aa1⟩ := ha
  obtain ⟨la0, la1⟩ := hl
  clear hp hd
  by_cases hpe : Vt.ptE (ps.map Pass.alt) d s g = 0
  · have hbw := Vt.ptE_0 hpe
    have HPE := Lib.hid hpe
    have HBW := Lib.hid hbw
    clear hpe hbw
    by_cases hok : Vt.stOk (ps.map Pass.alt) d s alt last
    · have hse : Vt.stE (ps.map Pass.alt) (ps.map Pass.cas) d s g alt last = Pf.bwE (ps.map Pass.cas) d s := by unfold Vt.stE; rw [if_neg (by have := HPE.out; omega), if_pos hok]
      have HSE := Lib.hid hse
      have HOK := Lib.hid hok
      have hlo := hok.2.2
      obtain ⟨lo0, lo1⟩ := hlo
      clear hse hok
      by_cases hsp : Pf.bwE (ps.map Pass.cas) d s = 0
      · have hz : Vt.stE (ps.map Pass.alt) (ps.map Pass.cas) d s g alt last = 0 := by rw [HSE.out]; exact hsp
        obtain ⟨e1, e2, e3⟩ := Vt.st_good hz
        rw [e1, e2, e3, hz]
        have HSP := Lib.hid hsp
        clear hsp hz e1 e2 e3
        go_enter Try.func27, Try.ntmps27
        go_wp2_with fail
        refine (rPath A D n c m cm ps d s g x y z _ (HP.out.below ((Below.refl _ _).alloc (Nat.le_refl _) _)) (HD.out.below ((Below.refl _ _).alloc (Nat.le_refl _) _)) hn hm HS.out HG.out).mono ?_; rintro e w1 ⟨rfl, hbx⟩
        have b0 : w1.cell? ⟨w.heap.size, 0, none⟩ = some (.slice A n c) := (hbx.cell (p := ⟨w.heap.size, 0, none⟩) (by simp)).trans (by simp [World.cell?_alloc_new])
        have b1 : w1.cell? ⟨w.heap.size, 1, none⟩ = some (x) := (hbx.cell (p := ⟨w.heap.size, 1, none⟩) (by simp)).trans (by simp [World.cell?_alloc_new])
        have b2 : w1.cell? ⟨w.heap.size, 2, none⟩ = some (y) := (hbx.cell (p := ⟨w.heap.size, 2, none⟩) (by simp)).trans (by simp [World.cell?_alloc_new])
        have b3 : w1.cell? ⟨w.heap.size, 3, none⟩ = some (z) := (hbx.cell (p := ⟨w.heap.size, 3, none⟩) (by simp)).trans (by simp [World.cell?_alloc_new])
        have hlt : w.heap.size < w1.heap.size := by have := hbx.size; simp at this; omega
        have HW := Lib.hid (bel_alloc hbx)
        clear hbx
        rw [HPE.out]
        go_wp2_with fail
        refine (rTarget A D n c m cm ps d s x y z w1 (HP.out.below HW.out) (HD.out.below HW.out) hn hm HS.out).mono ?_; rintro e w2 ⟨rfl, hbx⟩
        replace b0 : w2.cell? ⟨w.heap.size, 0, none⟩ = some (.slice A n c) := (hbx.cell (p := ⟨w.heap.size, 0, none⟩) hlt).trans b0
        replace b1 : w2.cell? ⟨w.heap.size, 1, none⟩ = some (x) := (hbx.cell (p := ⟨w.heap.size, 1, none⟩) hlt).trans b1
        replace b2 : w2.cell? ⟨w.heap.size, 2, none⟩ = some (y) := (hbx.cell (p := ⟨w.heap.size, 2, none⟩) hlt).trans b2
        replace b3 : w2.cell? ⟨w.heap.size, 3, none⟩ = some (z) := (hbx.cell (p := ⟨w.heap.size, 3, none⟩) hlt).trans b3
        replace hlt : w.heap.size < w2.heap.size := Nat.lt_of_lt_of_le hlt hbx.size
        replace HW := Lib.hid (bel_trans HW.out hbx)
        clear hbx
        rw [HBW.out]
        go_wp2_with fail
        refine (rAlt_yes alt HOK.out.1 _).mono ?_; rintro e w3 ⟨rfl, rfl⟩
        go_wp2_with fail
        refine (rRate_yes last HOK.out.2.2 _).mono ?_; rintro e w3 ⟨rfl, rfl⟩
        go_wp2_with fail
        refine (rAlt_yes (Pf.bwV (ps.map Pass.alt) d s) HOK.out.2.1 _).mono ?_; rintro e w3 ⟨rfl, rfl⟩
        go_wp2_with fail
        refine (rSpeed A D n c m cm ps d s x y z w2 (HP.out.below HW.out) (HD.out.below HW.out) hn hm HS.out).mono ?_; rintro e w6 ⟨rfl, hbx⟩
        replace b0 : w6.cell? ⟨w.heap.size, 0, none⟩ = some (.slice A n c) := (hbx.cell (p := ⟨w.heap.size, 0, none⟩) hlt).trans b0
        replace b1 : w6.cell? ⟨w.heap.size, 1, none⟩ = some (x) := (hbx.cell (p := ⟨w.heap.size, 1, none⟩) hlt).trans b1
        replace b2 : w6.cell? ⟨w.heap.size, 2, none⟩ = some (y) := (hbx.cell (p := ⟨w.heap.size, 2, none⟩) hlt).trans b2
        replace b3 : w6.cell? ⟨w.heap.size, 3, none⟩ = some (z) := (hbx.cell (p := ⟨w.heap.size, 3, none⟩) hlt).trans b3
        replace hlt : w.heap.size < w6.heap.size := Nat.lt_of_lt_of_le hlt hbx.size
        replace HW := Lib.hid (bel_trans HW.out hbx)
        clear hbx
        rw [HSP.out]
        go_wp2_with fail
        refine (rCommand alt (Pf.bwV (ps.map Pass.alt) d s) 10000 _).mono ?_; rintro e w3 ⟨rfl, q, rfl⟩
        rw [Vt.cmE_ok HOK.out.1 HOK.out.2.1]
        generalize Pf.bwV (ps.map Pass.alt) d s = TT at *
        generalize Vt.cmV alt TT 10000 = CV at *
        generalize Vt.ptV (ps.map Pass.alt) d s g = PV at *
        go_wp2_with fail
        refine (rLimit last (min (max (PV + CV) (-10000)) 10000) _).mono ?_; rintro e w5 ⟨rfl, rfl⟩
        rw [← Vt.clmp_eq (PV + CV) (-10000) 10000 (by omega)]
        have hcb := Vt.clmp_bd (PV + CV) (-10000) 10000 (by omega)
        have hlm := Vt.lm_ok (l := last) (x := Vt.clmp (PV + CV) (-10000) 10000) ⟨lo0, lo1⟩ hcb
        rw [hlm.1, hlm.2]
        clear hcb hlm
        generalize Vt.clmp (Vt.clmp (PV + CV) (-10000) 10000) (last - 40) (last + 40) = VS at *
        go_wp2_with fail
        refine bodyPost_ret (results_tmp4 rfl _ _ _) rfl ?_
        exact ⟨rfl, below_drewN HW.out q⟩
      · obtain ⟨e1, e2, e3⟩ := Vt.st_bad HSE.out hsp
        rw [e1, e2, e3, HSE.out]
        have hne : (Pf.bwE (ps.map Pass.cas) d s != 0) = true := by rw [bne_iff_ne]; exact hsp
        have HSPV := Lib.hid (show Pf.bwV (ps.map Pass.cas) d s = 0 by unfold Pf.bwV; rw [if_neg hsp])
        clear hsp e1 e2 e3
        go_enter Try.func27, Try.ntmps27
        go_wp2_with fail
        refine (rPath A D n c m cm ps d s g x y z _ (HP.out.below ((Below.refl _ _).alloc (Nat.le_refl _) _)) (HD.out.below ((Below.refl _ _).alloc (Nat.le_refl _) _)) hn hm HS.out HG.out).mono ?_; rintro e w1 ⟨rfl, hbx⟩
        have b0 : w1.cell? ⟨w.heap.size, 0, none⟩ = some (.slice A n c) := (hbx.cell (p := ⟨w.heap.size, 0, none⟩) (by simp)).trans (by simp [World.cell?_alloc_new])
        have b1 : w1.cell? ⟨w.heap.size, 1, none⟩ = some (x) := (hbx.cell (p := ⟨w.heap.size, 1, none⟩) (by simp)).trans (by simp [World.cell?_alloc_new])
        have b2 : w1.cell? ⟨w.heap.size, 2, none⟩ = some (y) := (hbx.cell (p := ⟨w.heap.size, 2, none⟩) (by simp)).trans (by simp [World.cell?_alloc_new])
        have b3 : w1.cell? ⟨w.heap.size, 3, none⟩ = some (z) := (hbx.cell (p := ⟨w.heap.size, 3, none⟩) (by simp)).trans (by simp [World.cell?_alloc_new])
        have hlt : w.heap.size < w1.heap.size := by have := hbx.size; simp at this; omega
        have HW := Lib.hid (bel_alloc hbx)
        clear hbx
        rw [HPE.out]
        go_wp2_with fail
        refine (rTarget A D n c m cm ps d s x y z w1 (HP.out.below HW.out) (HD.out.below HW.out) hn hm HS.out).mono ?_; rintro e w2 ⟨rfl, hbx⟩
        replace b0 : w2.cell? ⟨w.heap.size, 0, none⟩ = some (.slice A n c) := (hbx.cell (p := ⟨w.heap.size, 0, none⟩) hlt).trans b0
        replace b1 : w2.cell? ⟨w.heap.size, 1, none⟩ = some (x) := (hbx.cell (p := ⟨w.heap.size, 1, none⟩) hlt).trans b1
        replace b2 : w2.cell? ⟨w.heap.size, 2, none⟩ = some (y) := (hbx.cell (p := ⟨w.heap.size, 2, none⟩) hlt).trans b2
        replace b3 : w2.cell? ⟨w.heap.size, 3, none⟩ = some (z) := (hbx.cell (p := ⟨w.heap.size, 3, none⟩) hlt).trans b3
        replace hlt : w.heap.size < w2.heap.size := Nat.lt_of_lt_of_le hlt hbx.size
        replace HW := Lib.hid (bel_trans HW.out hbx)
        clear hbx
        rw [HBW.out]
        go_wp2_with fail
        refine (rAlt_yes alt HOK.out.1 _).mono ?_; rintro e w3 ⟨rfl, rfl⟩
        go_wp2_with fail
        refine (rRate_yes last HOK.out.2.2 _).mono ?_; rintro e w3 ⟨rfl, rfl⟩
        go_wp2_with fail
        refine (rAlt_yes (Pf.bwV (ps.map Pass.alt) d s) HOK.out.2.1 _).mono ?_; rintro e w3 ⟨rfl, rfl⟩
        go_wp2_with fail
        refine (rSpeed A D n c m cm ps d s x y z w2 (HP.out.below HW.out) (HD.out.below HW.out) hn hm HS.out).mono ?_; rintro e w6 ⟨rfl, hbx⟩
        replace b0 : w6.cell? ⟨w.heap.size, 0, none⟩ = some (.slice A n c) := (hbx.cell (p := ⟨w.heap.size, 0, none⟩) hlt).trans b0
        replace b1 : w6.cell? ⟨w.heap.size, 1, none⟩ = some (x) := (hbx.cell (p := ⟨w.heap.size, 1, none⟩) hlt).trans b1
        replace b2 : w6.cell? ⟨w.heap.size, 2, none⟩ = some (y) := (hbx.cell (p := ⟨w.heap.size, 2, none⟩) hlt).trans b2
        replace b3 : w6.cell? ⟨w.heap.size, 3, none⟩ = some (z) := (hbx.cell (p := ⟨w.heap.size, 3, none⟩) hlt).trans b3
        replace hlt : w.heap.size < w6.heap.size := Nat.lt_of_lt_of_le hlt hbx.size
        replace HW := Lib.hid (bel_trans HW.out hbx)
        clear hbx
        rw [HSPV.out]
        generalize Pf.bwE (ps.map Pass.cas) d s = EE at *
        go_wp2_with fail
        refine bodyPost_ret (results_tmp4 rfl _ _ _) rfl ?_
        exact ⟨rfl, HW.out⟩
    · have hse : Vt.stE (ps.map Pass.alt) (ps.map Pass.cas) d s g alt last = 2 := by unfold Vt.stE; rw [if_neg (by have := HPE.out; omega), if_neg hok]
      obtain ⟨e1, e2, e3⟩ := Vt.st_bad hse (by decide)
      rw [e1, e2, e3, hse]
      clear e1 e2 e3 hse
      by_cases hna : Vt.okAlt alt
      · have HYA := Lib.hid hna
        by_cases hnl : Vt.okRate last
        · have HYL := Lib.hid hnl
          have HNT := Lib.hid (fun h => hok ⟨hna, h, hnl⟩ : ¬ Vt.okAlt (Pf.bwV (ps.map Pass.alt) d s))
          clear hok hna hnl
          go_enter Try.func27, Try.ntmps27
          go_wp2_with fail
          refine (rPath A D n c m cm ps d s g x y z _ (HP.out.below ((Below.refl _ _).alloc (Nat.le_refl _) _)) (HD.out.below ((Below.refl _ _).alloc (Nat.le_refl _) _)) hn hm HS.out HG.out).mono ?_; rintro e w1 ⟨rfl, hbx⟩
          have b0 : w1.cell? ⟨w.heap.size, 0, none⟩ = some (.slice A n c) := (hbx.cell (p := ⟨w.heap.size, 0, none⟩) (by simp)).trans (by simp [World.cell?_alloc_new])
          have b1 : w1.cell? ⟨w.heap.size, 1, none⟩ = some (x) := (hbx.cell (p := ⟨w.heap.size, 1, none⟩) (by simp)).trans (by simp [World.cell?_alloc_new])
          have b2 : w1.cell? ⟨w.heap.size, 2, none⟩ = some (y) := (hbx.cell (p := ⟨w.heap.size, 2, none⟩) (by simp)).trans (by simp [World.cell?_alloc_new])
          have b3 : w1.cell? ⟨w.heap.size, 3, none⟩ = some (z) := (hbx.cell (p := ⟨w.heap.size, 3, none⟩) (by simp)).trans (by simp [World.cell?_alloc_new])
          have hlt : w.heap.size < w1.heap.size := by have := hbx.size; simp at this; omega
          have HW := Lib.hid (bel_alloc hbx)
          clear hbx
          rw [HPE.out]
          go_wp2_with fail
          refine (rTarget A D n c m cm ps d s x y z w1 (HP.out.below HW.out) (HD.out.below HW.out) hn hm HS.out).mono ?_; rintro e w2 ⟨rfl, hbx⟩
          replace b0 : w2.cell? ⟨w.heap.size, 0, none⟩ = some (.slice A n c) := (hbx.cell (p := ⟨w.heap.size, 0, none⟩) hlt).trans b0
          replace b1 : w2.cell? ⟨w.heap.size, 1, none⟩ = some (x) := (hbx.cell (p := ⟨w.heap.size, 1, none⟩) hlt).trans b1
          replace b2 : w2.cell? ⟨w.heap.size, 2, none⟩ = some (y) := (hbx.cell (p := ⟨w.heap.size, 2, none⟩) hlt).trans b2
          replace b3 : w2.cell? ⟨w.heap.size, 3, none⟩ = some (z) := (hbx.cell (p := ⟨w.heap.size, 3, none⟩) hlt).trans b3
          replace hlt : w.heap.size < w2.heap.size := Nat.lt_of_lt_of_le hlt hbx.size
          replace HW := Lib.hid (bel_trans HW.out hbx)
          clear hbx
          rw [HBW.out]
          go_wp2_with fail
          refine (rAlt_yes alt HYA.out _).mono ?_; rintro e w3 ⟨rfl, rfl⟩
          go_wp2_with fail
          refine (rRate_yes last HYL.out _).mono ?_; rintro e w3 ⟨rfl, rfl⟩
          go_wp2_with fail
          refine (rAlt_no (Pf.bwV (ps.map Pass.alt) d s) HNT.out _).mono ?_; rintro e w3 ⟨rfl, rfl⟩
          go_wp2_with fail
          refine bodyPost_ret (results_tmp4 rfl _ _ _) rfl ?_
          exact ⟨rfl, HW.out⟩
        · have HNL := Lib.hid hnl
          clear hok hna hnl
          go_enter Try.func27, Try.ntmps27
          go_wp2_with fail
          refine (rPath A D n c m cm ps d s g x y z _ (HP.out.below ((Below.refl _ _).alloc (Nat.le_refl _) _)) (HD.out.below ((Below.refl _ _).alloc (Nat.le_refl _) _)) hn hm HS.out HG.out).mono ?_; rintro e w1 ⟨rfl, hbx⟩
          have b0 : w1.cell? ⟨w.heap.size, 0, none⟩ = some (.slice A n c) := (hbx.cell (p := ⟨w.heap.size, 0, none⟩) (by simp)).trans (by simp [World.cell?_alloc_new])
          have b1 : w1.cell? ⟨w.heap.size, 1, none⟩ = some (x) := (hbx.cell (p := ⟨w.heap.size, 1, none⟩) (by simp)).trans (by simp [World.cell?_alloc_new])
          have b2 : w1.cell? ⟨w.heap.size, 2, none⟩ = some (y) := (hbx.cell (p := ⟨w.heap.size, 2, none⟩) (by simp)).trans (by simp [World.cell?_alloc_new])
          have b3 : w1.cell? ⟨w.heap.size, 3, none⟩ = some (z) := (hbx.cell (p := ⟨w.heap.size, 3, none⟩) (by simp)).trans (by simp [World.cell?_alloc_new])
          have hlt : w.heap.size < w1.heap.size := by have := hbx.size; simp at this; omega
          have HW := Lib.hid (bel_alloc hbx)
          clear hbx
          rw [HPE.out]
          go_wp2_with fail
          refine (rTarget A D n c m cm ps d s x y z w1 (HP.out.below HW.out) (HD.out.below HW.out) hn hm HS.out).mono ?_; rintro e w2 ⟨rfl, hbx⟩
          replace b0 : w2.cell? ⟨w.heap.size, 0, none⟩ = some (.slice A n c) := (hbx.cell (p := ⟨w.heap.size, 0, none⟩) hlt).trans b0
          replace b1 : w2.cell? ⟨w.heap.size, 1, none⟩ = some (x) := (hbx.cell (p := ⟨w.heap.size, 1, none⟩) hlt).trans b1
          replace b2 : w2.cell? ⟨w.heap.size, 2, none⟩ = some (y) := (hbx.cell (p := ⟨w.heap.size, 2, none⟩) hlt).trans b2
          replace b3 : w2.cell? ⟨w.heap.size, 3, none⟩ = some (z) := (hbx.cell (p := ⟨w.heap.size, 3, none⟩) hlt).trans b3
          replace hlt : w.heap.size < w2.heap.size := Nat.lt_of_lt_of_le hlt hbx.size
          replace HW := Lib.hid (bel_trans HW.out hbx)
          clear hbx
          rw [HBW.out]
          go_wp2_with fail
          refine (rAlt_yes alt HYA.out _).mono ?_; rintro e w3 ⟨rfl, rfl⟩
          go_wp2_with fail
          refine (rRate_no last HNL.out _).mono ?_; rintro e w3 ⟨rfl, rfl⟩
          go_wp2_with fail
          refine bodyPost_ret (results_tmp4 rfl _ _ _) rfl ?_
          exact ⟨rfl, HW.out⟩
      · have HNA := Lib.hid hna
        clear hok hna
        go_enter Try.func27, Try.ntmps27
        go_wp2_with fail
        refine (rPath A D n c m cm ps d s g x y z _ (HP.out.below ((Below.refl _ _).alloc (Nat.le_refl _) _)) (HD.out.below ((Below.refl _ _).alloc (Nat.le_refl _) _)) hn hm HS.out HG.out).mono ?_; rintro e w1 ⟨rfl, hbx⟩
        have b0 : w1.cell? ⟨w.heap.size, 0, none⟩ = some (.slice A n c) := (hbx.cell (p := ⟨w.heap.size, 0, none⟩) (by simp)).trans (by simp [World.cell?_alloc_new])
        have b1 : w1.cell? ⟨w.heap.size, 1, none⟩ = some (x) := (hbx.cell (p := ⟨w.heap.size, 1, none⟩) (by simp)).trans (by simp [World.cell?_alloc_new])
        have b2 : w1.cell? ⟨w.heap.size, 2, none⟩ = some (y) := (hbx.cell (p := ⟨w.heap.size, 2, none⟩) (by simp)).trans (by simp [World.cell?_alloc_new])
        have b3 : w1.cell? ⟨w.heap.size, 3, none⟩ = some (z) := (hbx.cell (p := ⟨w.heap.size, 3, none⟩) (by simp)).trans (by simp [World.cell?_alloc_new])
        have hlt : w.heap.size < w1.heap.size := by have := hbx.size; simp at this; omega
        have HW := Lib.hid (bel_alloc hbx)
        clear hbx
        rw [HPE.out]
        go_wp2_with fail
        refine (rTarget A D n c m cm ps d s x y z w1 (HP.out.below HW.out) (HD.out.below HW.out) hn hm HS.out).mono ?_; rintro e w2 ⟨rfl, hbx⟩
        replace b0 : w2.cell? ⟨w.heap.size, 0, none⟩ = some (.slice A n c) := (hbx.cell (p := ⟨w.heap.size, 0, none⟩) hlt).trans b0
        replace b1 : w2.cell? ⟨w.heap.size, 1, none⟩ = some (x) := (hbx.cell (p := ⟨w.heap.size, 1, none⟩) hlt).trans b1
        replace b2 : w2.cell? ⟨w.heap.size, 2, none⟩ = some (y) := (hbx.cell (p := ⟨w.heap.size, 2, none⟩) hlt).trans b2
        replace b3 : w2.cell? ⟨w.heap.size, 3, none⟩ = some (z) := (hbx.cell (p := ⟨w.heap.size, 3, none⟩) hlt).trans b3
        replace hlt : w.heap.size < w2.heap.size := Nat.lt_of_lt_of_le hlt hbx.size
        replace HW := Lib.hid (bel_trans HW.out hbx)
        clear hbx
        rw [HBW.out]
        go_wp2_with fail
        refine (rAlt_no alt HNA.out _).mono ?_; rintro e w3 ⟨rfl, rfl⟩
        go_wp2_with fail
        refine bodyPost_ret (results_tmp4 rfl _ _ _) rfl ?_
        exact ⟨rfl, HW.out⟩
  · have hse : Vt.stE (ps.map Pass.alt) (ps.map Pass.cas) d s g alt last = Vt.ptE (ps.map Pass.alt) d s g := by unfold Vt.stE; rw [if_pos hpe]
    obtain ⟨e1, e2, e3⟩ := Vt.st_bad hse hpe
    rw [e1, e2, e3, hse]
    have hne : (Vt.ptE (ps.map Pass.alt) d s g != 0) = true := by rw [bne_iff_ne]; exact hpe
    have HPV := Lib.hid (show Vt.ptV (ps.map Pass.alt) d s g = 0 by unfold Vt.ptV; rw [if_neg hpe])
    clear hpe e1 e2 e3 hse
    go_enter Try.func27, Try.ntmps27
    go_wp2_with fail
    refine (rPath A D n c m cm ps d s g x y z _ (HP.out.below ((Below.refl _ _).alloc (Nat.le_refl _) _)) (HD.out.below ((Below.refl _ _).alloc (Nat.le_refl _) _)) hn hm HS.out HG.out).mono ?_; rintro e w1 ⟨rfl, hbx⟩
    have b0 : w1.cell? ⟨w.heap.size, 0, none⟩ = some (.slice A n c) := (hbx.cell (p := ⟨w.heap.size, 0, none⟩) (by simp)).trans (by simp [World.cell?_alloc_new])
    have b1 : w1.cell? ⟨w.heap.size, 1, none⟩ = some (x) := (hbx.cell (p := ⟨w.heap.size, 1, none⟩) (by simp)).trans (by simp [World.cell?_alloc_new])
    have b2 : w1.cell? ⟨w.heap.size, 2, none⟩ = some (y) := (hbx.cell (p := ⟨w.heap.size, 2, none⟩) (by simp)).trans (by simp [World.cell?_alloc_new])
    have b3 : w1.cell? ⟨w.heap.size, 3, none⟩ = some (z) := (hbx.cell (p := ⟨w.heap.size, 3, none⟩) (by simp)).trans (by simp [World.cell?_alloc_new])
    have hlt : w.heap.size < w1.heap.size := by have := hbx.size; simp at this; omega
    have HW := Lib.hid (bel_alloc hbx)
    clear hbx
    rw [HPV.out]
    generalize Vt.ptE (ps.map Pass.alt) d s g = EE at *
    go_wp2_with fail
    refine bodyPost_ret (results_tmp4 rfl _ _ _) rfl ?_
    exact ⟨rfl, HW.out⟩
end Go.Proofs.Ytgclfkgnkohgdaa
