/- The statement SimulatorSenses: for every input the law returns true, and every argument reads afterwards as before. No condition. -/
import Derived.Test.YtcmdpfdhmbpahaaGreatRows
import Derived.Test.YtcmdpfdhmbpahaaGreatLaBase59
import Derived.Test.YtcmdpfdhmbpahaaGreatOpen59
import Derived.Test.YtcmdpfdhmbpahaaGreatSeS
import Derived.SizedLaws
import Derived.WalkKit
import Derived.ProofKit
import Derived.OpenShut
import Derived.ShutString
import Derived.ChangeOld
import Derived.Below
namespace Go.Proofs.YtcmdpfdhmbpahaaGreat
set_option linter.unusedSimpArgs false
set_option linter.unusedVariables false
open Go.RowKit
theorem u16_bd {n : Int} (h : (Lit.int .u16 n).wf = true) : 0 ≤ n ∧ n < 65536 := by
  have := bounds_u16 h
  omega
def SnLRel (c : Cra) (m : Mom) (w : World) (t : Value) (wr : World) : Prop := ∃ k : Nat, k ≤ 4 ∧ t = .int .i64 k ∧ Has wr w.heap.size c.cells ∧ Has wr (w.heap.size + 1) m.cells ∧ Below w.heap.size w wr
def SnIRel (w0 : World) (q : Nat) (t : Value) (wr : World) : Prop := ∃ i : Nat, i ≤ q ∧ t = .int .i64 i ∧ Below w0.heap.size w0 wr
set_option maxRecDepth 100000 in
set_option maxHeartbeats 8000000 in
theorem walk_SimulatorSenses (c : Cra) (A : Option Addr) (n cp : Nat) (l : List Sns) (m : Mom) (er : List (Int × Int)) (w : World) (hl : Recs Sns.cells 7 w A n l) (hw : ∀ s ∈ l, s.wf) (hn : n ≤ maxLen) (_ : n * 56 ≤ reachBytes) (he : Recs er2 2 w m.E m.ne er) (hne : m.ne ≤ maxLen) (hsi : 0 ≤ m.si ∧ m.si < 65536) :
    Calls Tryz.prog 4 #[.agg #[.int .i64 c.tk, .int .i64 c.px, .int .i64 c.py, .int .i64 c.ve, .int .i64 c.vn, .int .i64 c.al, .int .i64 c.vs, .int .i64 c.hd, .int .i64 c.ca, .int .i64 c.fu, .int .i64 c.bk, .bool c.gr], .slice A n cp, .agg #[.int .i64 m.we, .int .i64 m.wn, .slice m.E m.ne m.ce, .int .i64 m.se, .int .i64 m.sn, .int .u16 m.si, .bool m.th, .bool m.st, .string m.s0, .string m.s1]] w fun e w' => e = .returned (.bool true) ∧ Below w.heap.size w w' := by
  have HX := Lib.hid (fun comp w' hB => (xSense c A n cp l comp m er w' (hl.below (w' := w') hB) hn hw (he.below (w' := w') hB) hne hsi).mono fun e w1 h => se_u h)
  have HR := Lib.hid (fun comp w' hB => (rSense c A n cp l comp m er w' (hl.below (w' := w') hB) hn hw (he.below (w' := w') hB) hne hsi).mono fun e w1 h => se_u h)
  clear hl hw he hn hne hsi
  go_enter Tryz.func4, Tryz.ntmps4
  go_wp2_with fail
  refine (awake_any _).mono ?_; rintro e w1 ⟨rfl, hB⟩
  have KC : Hid (Has w1 w.heap.size c.cells) := Lib.hid (((Has.new w _ _).alloc _).below hB)
  have KM : Hid (Has w1 (w.heap.size + 1) m.cells) := Lib.hid ((Has.newAt (w.alloc _) _ _ (w.heap.size + 1) (by simp)).below hB)
  have HB := Lib.hid (bel_alloc2 hB)
  clear hB
  go_wp2_with fail
  go_loopw [7] (fun t wr => SnLRel c m w t wr) (fun t _ => 4 - (intOf t).toNat)
  case atStart => exact ⟨0, by omega, rfl, KC.out, KM.out, HB.out⟩
  case round =>
    obtain ⟨k, hk, rfl, hx, hy, hz⟩ := hrel
    replace KC := Lib.hid hx
    replace KM := Lib.hid hy
    replace HB := Lib.hid hz
    clear hx hy hz
    by_cases hlt : k < 4
    rotate_left
    · go_wp2_with fail
      go_ret
      exact ⟨ret_bool rfl, HB.out⟩
    have hlt2 : (k : Int) < 4 := by omega
    have k0 : wr.cell? ⟨w.heap.size, 0, none⟩ = some (.int .i64 c.tk) := KC.out.cell 0 _ rfl
    have k1 : wr.cell? ⟨w.heap.size, 1, none⟩ = some (.int .i64 c.px) := KC.out.cell 1 _ rfl
    have k2 : wr.cell? ⟨w.heap.size, 2, none⟩ = some (.int .i64 c.py) := KC.out.cell 2 _ rfl
    have k3 : wr.cell? ⟨w.heap.size, 3, none⟩ = some (.int .i64 c.ve) := KC.out.cell 3 _ rfl
    have k4 : wr.cell? ⟨w.heap.size, 4, none⟩ = some (.int .i64 c.vn) := KC.out.cell 4 _ rfl
    have k5 : wr.cell? ⟨w.heap.size, 5, none⟩ = some (.int .i64 c.al) := KC.out.cell 5 _ rfl
    have k6 : wr.cell? ⟨w.heap.size, 6, none⟩ = some (.int .i64 c.vs) := KC.out.cell 6 _ rfl
    have k7 : wr.cell? ⟨w.heap.size, 7, none⟩ = some (.int .i64 c.hd) := KC.out.cell 7 _ rfl
    have k8 : wr.cell? ⟨w.heap.size, 8, none⟩ = some (.int .i64 c.ca) := KC.out.cell 8 _ rfl
    have k9 : wr.cell? ⟨w.heap.size, 9, none⟩ = some (.int .i64 c.fu) := KC.out.cell 9 _ rfl
    have k10 : wr.cell? ⟨w.heap.size, 10, none⟩ = some (.int .i64 c.bk) := KC.out.cell 10 _ rfl
    have k11 : wr.cell? ⟨w.heap.size, 11, none⟩ = some (.bool c.gr) := KC.out.cell 11 _ rfl
    have m0 : wr.cell? ⟨w.heap.size + 1, 0, none⟩ = some (.int .i64 m.we) := KM.out.cell 0 _ rfl
    have m1 : wr.cell? ⟨w.heap.size + 1, 1, none⟩ = some (.int .i64 m.wn) := KM.out.cell 1 _ rfl
    have m2 : wr.cell? ⟨w.heap.size + 1, 2, none⟩ = some (.slice m.E m.ne m.ce) := KM.out.cell 2 _ rfl
    have m3 : wr.cell? ⟨w.heap.size + 1, 3, none⟩ = some (.int .i64 m.se) := KM.out.cell 3 _ rfl
    have m4 : wr.cell? ⟨w.heap.size + 1, 4, none⟩ = some (.int .i64 m.sn) := KM.out.cell 4 _ rfl
    have m5 : wr.cell? ⟨w.heap.size + 1, 5, none⟩ = some (.int .u16 m.si) := KM.out.cell 5 _ rfl
    have m6 : wr.cell? ⟨w.heap.size + 1, 6, none⟩ = some (.bool m.th) := KM.out.cell 6 _ rfl
    have m7 : wr.cell? ⟨w.heap.size + 1, 7, none⟩ = some (.bool m.st) := KM.out.cell 7 _ rfl
    have m8 : wr.cell? ⟨w.heap.size + 1, 8, none⟩ = some (.string m.s0) := KM.out.cell 8 _ rfl
    have m9 : wr.cell? ⟨w.heap.size + 1, 9, none⟩ = some (.string m.s1) := KM.out.cell 9 _ rfl
    go_wp2_with fail
    refine (HX.out _ _ HB.out).mono ?_; rintro e w2 ⟨A1, A2, c1, c2, q1, rfl, r1, r2, hB, hq⟩
    clear k0 k1 k2 k3 k4 k5 k6 k7 k8 k9 k10 k11 m0 m1 m2 m3 m4 m5 m6 m7 m8 m9
    have HA1 := Lib.hid r1
    have HA2 := Lib.hid r2
    have HQ := Lib.hid hq
    replace KC := Lib.hid (KC.out.below hB)
    replace KM := Lib.hid (KM.out.below hB)
    replace HB := Lib.hid (bel_trans HB.out hB)
    clear r1 r2 hB hq
    have HRK := Lib.hid (fun w' hB => HR.out (k : Int) w' hB)
    unfold SeU at HRK
    generalize seRL c l (k : Int) m er = RL at *
    generalize seQ c l (k : Int) m er = Z at *
    generalize seE c l (k : Int) m.we m.wn m.se m.sn er m.s0 m.s1 = EE at *
    obtain ⟨z0, z1, z2, z3, z4, z5, z6, z7, z8, z9, z10, z11⟩ := Z
    simp only [SeZ.cells] at HRK ⊢
    have KC2 := Lib.hid (KC.out.alloc (.cells #[.int .i64 z0, .slice A1 q1 c1, .int .i64 z1, .int .i64 z2, .int .i64 z3, .int .i64 z4, .int .i64 z5, .int .i64 z6, .int .i64 z7, .bool z8, .bool z9, .bool z10, .string z11] 50))
    have KM2 := Lib.hid (KM.out.alloc (.cells #[.int .i64 z0, .slice A1 q1 c1, .int .i64 z1, .int .i64 z2, .int .i64 z3, .int .i64 z4, .int .i64 z5, .int .i64 z6, .int .i64 z7, .bool z8, .bool z9, .bool z10, .string z11] 50))
    have KX : Hid (Has (w2.alloc (.cells #[.int .i64 z0, .slice A1 q1 c1, .int .i64 z1, .int .i64 z2, .int .i64 z3, .int .i64 z4, .int .i64 z5, .int .i64 z6, .int .i64 z7, .bool z8, .bool z9, .bool z10, .string z11] 50)) w2.heap.size [.int .i64 z0, .slice A1 q1 c1, .int .i64 z1, .int .i64 z2, .int .i64 z3, .int .i64 z4, .int .i64 z5, .int .i64 z6, .int .i64 z7, .bool z8, .bool z9, .bool z10, .string z11]) := Lib.hid (Has.new _ _ _)
    have HB2 := Lib.hid (bel_alloc1 HB.out (.cells #[.int .i64 z0, .slice A1 q1 c1, .int .i64 z1, .int .i64 z2, .int .i64 z3, .int .i64 z4, .int .i64 z5, .int .i64 z6, .int .i64 z7, .bool z8, .bool z9, .bool z10, .string z11] 50))
    have HA12 := Lib.hid (HA1.out.below (below_alloc1 w2 (.cells #[.int .i64 z0, .slice A1 q1 c1, .int .i64 z1, .int .i64 z2, .int .i64 z3, .int .i64 z4, .int .i64 z5, .int .i64 z6, .int .i64 z7, .bool z8, .bool z9, .bool z10, .string z11] 50)))
    have HA22 := Lib.hid (HA2.out.below (below_alloc1 w2 (.cells #[.int .i64 z0, .slice A1 q1 c1, .int .i64 z1, .int .i64 z2, .int .i64 z3, .int .i64 z4, .int .i64 z5, .int .i64 z6, .int .i64 z7, .bool z8, .bool z9, .bool z10, .string z11] 50)))
    clear KC KM HB HA1 HA2
    have k0 : (w2.alloc (.cells #[.int .i64 z0, .slice A1 q1 c1, .int .i64 z1, .int .i64 z2, .int .i64 z3, .int .i64 z4, .int .i64 z5, .int .i64 z6, .int .i64 z7, .bool z8, .bool z9, .bool z10, .string z11] 50)).cell? ⟨w.heap.size, 0, none⟩ = some (.int .i64 c.tk) := KC2.out.cell 0 _ rfl
    have k1 : (w2.alloc (.cells #[.int .i64 z0, .slice A1 q1 c1, .int .i64 z1, .int .i64 z2, .int .i64 z3, .int .i64 z4, .int .i64 z5, .int .i64 z6, .int .i64 z7, .bool z8, .bool z9, .bool z10, .string z11] 50)).cell? ⟨w.heap.size, 1, none⟩ = some (.int .i64 c.px) := KC2.out.cell 1 _ rfl
    have k2 : (w2.alloc (.cells #[.int .i64 z0, .slice A1 q1 c1, .int .i64 z1, .int .i64 z2, .int .i64 z3, .int .i64 z4, .int .i64 z5, .int .i64 z6, .int .i64 z7, .bool z8, .bool z9, .bool z10, .string z11] 50)).cell? ⟨w.heap.size, 2, none⟩ = some (.int .i64 c.py) := KC2.out.cell 2 _ rfl
    have k3 : (w2.alloc (.cells #[.int .i64 z0, .slice A1 q1 c1, .int .i64 z1, .int .i64 z2, .int .i64 z3, .int .i64 z4, .int .i64 z5, .int .i64 z6, .int .i64 z7, .bool z8, .bool z9, .bool z10, .string z11] 50)).cell? ⟨w.heap.size, 3, none⟩ = some (.int .i64 c.ve) := KC2.out.cell 3 _ rfl
    have k4 : (w2.alloc (.cells #[.int .i64 z0, .slice A1 q1 c1, .int .i64 z1, .int .i64 z2, .int .i64 z3, .int .i64 z4, .int .i64 z5, .int .i64 z6, .int .i64 z7, .bool z8, .bool z9, .bool z10, .string z11] 50)).cell? ⟨w.heap.size, 4, none⟩ = some (.int .i64 c.vn) := KC2.out.cell 4 _ rfl
    have k5 : (w2.alloc (.cells #[.int .i64 z0, .slice A1 q1 c1, .int .i64 z1, .int .i64 z2, .int .i64 z3, .int .i64 z4, .int .i64 z5, .int .i64 z6, .int .i64 z7, .bool z8, .bool z9, .bool z10, .string z11] 50)).cell? ⟨w.heap.size, 5, none⟩ = some (.int .i64 c.al) := KC2.out.cell 5 _ rfl
    have k6 : (w2.alloc (.cells #[.int .i64 z0, .slice A1 q1 c1, .int .i64 z1, .int .i64 z2, .int .i64 z3, .int .i64 z4, .int .i64 z5, .int .i64 z6, .int .i64 z7, .bool z8, .bool z9, .bool z10, .string z11] 50)).cell? ⟨w.heap.size, 6, none⟩ = some (.int .i64 c.vs) := KC2.out.cell 6 _ rfl
    have k7 : (w2.alloc (.cells #[.int .i64 z0, .slice A1 q1 c1, .int .i64 z1, .int .i64 z2, .int .i64 z3, .int .i64 z4, .int .i64 z5, .int .i64 z6, .int .i64 z7, .bool z8, .bool z9, .bool z10, .string z11] 50)).cell? ⟨w.heap.size, 7, none⟩ = some (.int .i64 c.hd) := KC2.out.cell 7 _ rfl
    have k8 : (w2.alloc (.cells #[.int .i64 z0, .slice A1 q1 c1, .int .i64 z1, .int .i64 z2, .int .i64 z3, .int .i64 z4, .int .i64 z5, .int .i64 z6, .int .i64 z7, .bool z8, .bool z9, .bool z10, .string z11] 50)).cell? ⟨w.heap.size, 8, none⟩ = some (.int .i64 c.ca) := KC2.out.cell 8 _ rfl
    have k9 : (w2.alloc (.cells #[.int .i64 z0, .slice A1 q1 c1, .int .i64 z1, .int .i64 z2, .int .i64 z3, .int .i64 z4, .int .i64 z5, .int .i64 z6, .int .i64 z7, .bool z8, .bool z9, .bool z10, .string z11] 50)).cell? ⟨w.heap.size, 9, none⟩ = some (.int .i64 c.fu) := KC2.out.cell 9 _ rfl
    have k10 : (w2.alloc (.cells #[.int .i64 z0, .slice A1 q1 c1, .int .i64 z1, .int .i64 z2, .int .i64 z3, .int .i64 z4, .int .i64 z5, .int .i64 z6, .int .i64 z7, .bool z8, .bool z9, .bool z10, .string z11] 50)).cell? ⟨w.heap.size, 10, none⟩ = some (.int .i64 c.bk) := KC2.out.cell 10 _ rfl
    have k11 : (w2.alloc (.cells #[.int .i64 z0, .slice A1 q1 c1, .int .i64 z1, .int .i64 z2, .int .i64 z3, .int .i64 z4, .int .i64 z5, .int .i64 z6, .int .i64 z7, .bool z8, .bool z9, .bool z10, .string z11] 50)).cell? ⟨w.heap.size, 11, none⟩ = some (.bool c.gr) := KC2.out.cell 11 _ rfl
    have m0 : (w2.alloc (.cells #[.int .i64 z0, .slice A1 q1 c1, .int .i64 z1, .int .i64 z2, .int .i64 z3, .int .i64 z4, .int .i64 z5, .int .i64 z6, .int .i64 z7, .bool z8, .bool z9, .bool z10, .string z11] 50)).cell? ⟨w.heap.size + 1, 0, none⟩ = some (.int .i64 m.we) := KM2.out.cell 0 _ rfl
    have m1 : (w2.alloc (.cells #[.int .i64 z0, .slice A1 q1 c1, .int .i64 z1, .int .i64 z2, .int .i64 z3, .int .i64 z4, .int .i64 z5, .int .i64 z6, .int .i64 z7, .bool z8, .bool z9, .bool z10, .string z11] 50)).cell? ⟨w.heap.size + 1, 1, none⟩ = some (.int .i64 m.wn) := KM2.out.cell 1 _ rfl
    have m2 : (w2.alloc (.cells #[.int .i64 z0, .slice A1 q1 c1, .int .i64 z1, .int .i64 z2, .int .i64 z3, .int .i64 z4, .int .i64 z5, .int .i64 z6, .int .i64 z7, .bool z8, .bool z9, .bool z10, .string z11] 50)).cell? ⟨w.heap.size + 1, 2, none⟩ = some (.slice m.E m.ne m.ce) := KM2.out.cell 2 _ rfl
    have m3 : (w2.alloc (.cells #[.int .i64 z0, .slice A1 q1 c1, .int .i64 z1, .int .i64 z2, .int .i64 z3, .int .i64 z4, .int .i64 z5, .int .i64 z6, .int .i64 z7, .bool z8, .bool z9, .bool z10, .string z11] 50)).cell? ⟨w.heap.size + 1, 3, none⟩ = some (.int .i64 m.se) := KM2.out.cell 3 _ rfl
    have m4 : (w2.alloc (.cells #[.int .i64 z0, .slice A1 q1 c1, .int .i64 z1, .int .i64 z2, .int .i64 z3, .int .i64 z4, .int .i64 z5, .int .i64 z6, .int .i64 z7, .bool z8, .bool z9, .bool z10, .string z11] 50)).cell? ⟨w.heap.size + 1, 4, none⟩ = some (.int .i64 m.sn) := KM2.out.cell 4 _ rfl
    have m5 : (w2.alloc (.cells #[.int .i64 z0, .slice A1 q1 c1, .int .i64 z1, .int .i64 z2, .int .i64 z3, .int .i64 z4, .int .i64 z5, .int .i64 z6, .int .i64 z7, .bool z8, .bool z9, .bool z10, .string z11] 50)).cell? ⟨w.heap.size + 1, 5, none⟩ = some (.int .u16 m.si) := KM2.out.cell 5 _ rfl
    have m6 : (w2.alloc (.cells #[.int .i64 z0, .slice A1 q1 c1, .int .i64 z1, .int .i64 z2, .int .i64 z3, .int .i64 z4, .int .i64 z5, .int .i64 z6, .int .i64 z7, .bool z8, .bool z9, .bool z10, .string z11] 50)).cell? ⟨w.heap.size + 1, 6, none⟩ = some (.bool m.th) := KM2.out.cell 6 _ rfl
    have m7 : (w2.alloc (.cells #[.int .i64 z0, .slice A1 q1 c1, .int .i64 z1, .int .i64 z2, .int .i64 z3, .int .i64 z4, .int .i64 z5, .int .i64 z6, .int .i64 z7, .bool z8, .bool z9, .bool z10, .string z11] 50)).cell? ⟨w.heap.size + 1, 7, none⟩ = some (.bool m.st) := KM2.out.cell 7 _ rfl
    have m8 : (w2.alloc (.cells #[.int .i64 z0, .slice A1 q1 c1, .int .i64 z1, .int .i64 z2, .int .i64 z3, .int .i64 z4, .int .i64 z5, .int .i64 z6, .int .i64 z7, .bool z8, .bool z9, .bool z10, .string z11] 50)).cell? ⟨w.heap.size + 1, 8, none⟩ = some (.string m.s0) := KM2.out.cell 8 _ rfl
    have m9 : (w2.alloc (.cells #[.int .i64 z0, .slice A1 q1 c1, .int .i64 z1, .int .i64 z2, .int .i64 z3, .int .i64 z4, .int .i64 z5, .int .i64 z6, .int .i64 z7, .bool z8, .bool z9, .bool z10, .string z11] 50)).cell? ⟨w.heap.size + 1, 9, none⟩ = some (.string m.s1) := KM2.out.cell 9 _ rfl
    go_wp2_with fail
    refine (HRK.out _ HB2.out).mono ?_; rintro e w3 ⟨B1, B2, d1, d2, q2, rfl, r1, r2, hB, hq⟩
    clear k0 k1 k2 k3 k4 k5 k6 k7 k8 k9 k10 k11 m0 m1 m2 m3 m4 m5 m6 m7 m8 m9
    obtain rfl : q1 = q2 := HA12.out.len.symm.trans r1.len
    have HC1 := Lib.hid r1
    have HC2 := Lib.hid r2
    replace KC2 := Lib.hid (KC2.out.below hB)
    replace KM2 := Lib.hid (KM2.out.below hB)
    replace KX := Lib.hid (KX.out.below hB)
    replace HB2 := Lib.hid (bel_trans HB2.out hB)
    replace HA12 := Lib.hid (HA12.out.below hB)
    replace HA22 := Lib.hid (HA22.out.below hB)
    clear r1 r2 hB hq HRK
    have KC := Lib.hid (KC2.out.alloc (.cells #[.int .i64 z0, .slice B1 q1 d1, .int .i64 z1, .int .i64 z2, .int .i64 z3, .int .i64 z4, .int .i64 z5, .int .i64 z6, .int .i64 z7, .bool z8, .bool z9, .bool z10, .string z11] 50))
    have KM := Lib.hid (KM2.out.alloc (.cells #[.int .i64 z0, .slice B1 q1 d1, .int .i64 z1, .int .i64 z2, .int .i64 z3, .int .i64 z4, .int .i64 z5, .int .i64 z6, .int .i64 z7, .bool z8, .bool z9, .bool z10, .string z11] 50))
    have KX2 := Lib.hid (KX.out.alloc (.cells #[.int .i64 z0, .slice B1 q1 d1, .int .i64 z1, .int .i64 z2, .int .i64 z3, .int .i64 z4, .int .i64 z5, .int .i64 z6, .int .i64 z7, .bool z8, .bool z9, .bool z10, .string z11] 50))
    have KY : Hid (Has (w3.alloc (.cells #[.int .i64 z0, .slice B1 q1 d1, .int .i64 z1, .int .i64 z2, .int .i64 z3, .int .i64 z4, .int .i64 z5, .int .i64 z6, .int .i64 z7, .bool z8, .bool z9, .bool z10, .string z11] 50)) w3.heap.size [.int .i64 z0, .slice B1 q1 d1, .int .i64 z1, .int .i64 z2, .int .i64 z3, .int .i64 z4, .int .i64 z5, .int .i64 z6, .int .i64 z7, .bool z8, .bool z9, .bool z10, .string z11]) := Lib.hid (Has.new _ _ _)
    have HB := Lib.hid (bel_alloc1 HB2.out (.cells #[.int .i64 z0, .slice B1 q1 d1, .int .i64 z1, .int .i64 z2, .int .i64 z3, .int .i64 z4, .int .i64 z5, .int .i64 z6, .int .i64 z7, .bool z8, .bool z9, .bool z10, .string z11] 50))
    have HA1 := Lib.hid (HA12.out.below (below_alloc1 w3 (.cells #[.int .i64 z0, .slice B1 q1 d1, .int .i64 z1, .int .i64 z2, .int .i64 z3, .int .i64 z4, .int .i64 z5, .int .i64 z6, .int .i64 z7, .bool z8, .bool z9, .bool z10, .string z11] 50)))
    have HA2 := Lib.hid (HA22.out.below (below_alloc1 w3 (.cells #[.int .i64 z0, .slice B1 q1 d1, .int .i64 z1, .int .i64 z2, .int .i64 z3, .int .i64 z4, .int .i64 z5, .int .i64 z6, .int .i64 z7, .bool z8, .bool z9, .bool z10, .string z11] 50)))
    have HD1 := Lib.hid (HC1.out.below (below_alloc1 w3 (.cells #[.int .i64 z0, .slice B1 q1 d1, .int .i64 z1, .int .i64 z2, .int .i64 z3, .int .i64 z4, .int .i64 z5, .int .i64 z6, .int .i64 z7, .bool z8, .bool z9, .bool z10, .string z11] 50)))
    have HD2 := Lib.hid (HC2.out.below (below_alloc1 w3 (.cells #[.int .i64 z0, .slice B1 q1 d1, .int .i64 z1, .int .i64 z2, .int .i64 z3, .int .i64 z4, .int .i64 z5, .int .i64 z6, .int .i64 z7, .bool z8, .bool z9, .bool z10, .string z11] 50)))
    clear KC2 KM2 KX HB2 HA12 HA22 HC1 HC2
    have e1 : (EE == EE) = true := beq_self_eq_true EE
    have e2 : (EE != EE) = false := by rw [bne, e1]; rfl
    have e3 : ((q1 : Int) == (q1 : Int)) = true := beq_self_eq_true _
    have e4 : ((q1 : Int) != (q1 : Int)) = false := by rw [bne, e3]; rfl
    have x0 : (w3.alloc (.cells #[.int .i64 z0, .slice B1 q1 d1, .int .i64 z1, .int .i64 z2, .int .i64 z3, .int .i64 z4, .int .i64 z5, .int .i64 z6, .int .i64 z7, .bool z8, .bool z9, .bool z10, .string z11] 50)).cell? ⟨w2.heap.size, 0, none⟩ = some (.int .i64 z0) := KX2.out.cell 0 _ rfl
    have x1 : (w3.alloc (.cells #[.int .i64 z0, .slice B1 q1 d1, .int .i64 z1, .int .i64 z2, .int .i64 z3, .int .i64 z4, .int .i64 z5, .int .i64 z6, .int .i64 z7, .bool z8, .bool z9, .bool z10, .string z11] 50)).cell? ⟨w2.heap.size, 1, none⟩ = some (.slice A1 q1 c1) := KX2.out.cell 1 _ rfl
    have x2 : (w3.alloc (.cells #[.int .i64 z0, .slice B1 q1 d1, .int .i64 z1, .int .i64 z2, .int .i64 z3, .int .i64 z4, .int .i64 z5, .int .i64 z6, .int .i64 z7, .bool z8, .bool z9, .bool z10, .string z11] 50)).cell? ⟨w2.heap.size, 2, none⟩ = some (.int .i64 z1) := KX2.out.cell 2 _ rfl
    have x3 : (w3.alloc (.cells #[.int .i64 z0, .slice B1 q1 d1, .int .i64 z1, .int .i64 z2, .int .i64 z3, .int .i64 z4, .int .i64 z5, .int .i64 z6, .int .i64 z7, .bool z8, .bool z9, .bool z10, .string z11] 50)).cell? ⟨w2.heap.size, 3, none⟩ = some (.int .i64 z2) := KX2.out.cell 3 _ rfl
    have x4 : (w3.alloc (.cells #[.int .i64 z0, .slice B1 q1 d1, .int .i64 z1, .int .i64 z2, .int .i64 z3, .int .i64 z4, .int .i64 z5, .int .i64 z6, .int .i64 z7, .bool z8, .bool z9, .bool z10, .string z11] 50)).cell? ⟨w2.heap.size, 4, none⟩ = some (.int .i64 z3) := KX2.out.cell 4 _ rfl
    have x5 : (w3.alloc (.cells #[.int .i64 z0, .slice B1 q1 d1, .int .i64 z1, .int .i64 z2, .int .i64 z3, .int .i64 z4, .int .i64 z5, .int .i64 z6, .int .i64 z7, .bool z8, .bool z9, .bool z10, .string z11] 50)).cell? ⟨w2.heap.size, 5, none⟩ = some (.int .i64 z4) := KX2.out.cell 5 _ rfl
    have x6 : (w3.alloc (.cells #[.int .i64 z0, .slice B1 q1 d1, .int .i64 z1, .int .i64 z2, .int .i64 z3, .int .i64 z4, .int .i64 z5, .int .i64 z6, .int .i64 z7, .bool z8, .bool z9, .bool z10, .string z11] 50)).cell? ⟨w2.heap.size, 6, none⟩ = some (.int .i64 z5) := KX2.out.cell 6 _ rfl
    have x7 : (w3.alloc (.cells #[.int .i64 z0, .slice B1 q1 d1, .int .i64 z1, .int .i64 z2, .int .i64 z3, .int .i64 z4, .int .i64 z5, .int .i64 z6, .int .i64 z7, .bool z8, .bool z9, .bool z10, .string z11] 50)).cell? ⟨w2.heap.size, 7, none⟩ = some (.int .i64 z6) := KX2.out.cell 7 _ rfl
    have x8 : (w3.alloc (.cells #[.int .i64 z0, .slice B1 q1 d1, .int .i64 z1, .int .i64 z2, .int .i64 z3, .int .i64 z4, .int .i64 z5, .int .i64 z6, .int .i64 z7, .bool z8, .bool z9, .bool z10, .string z11] 50)).cell? ⟨w2.heap.size, 8, none⟩ = some (.int .i64 z7) := KX2.out.cell 8 _ rfl
    have x9 : (w3.alloc (.cells #[.int .i64 z0, .slice B1 q1 d1, .int .i64 z1, .int .i64 z2, .int .i64 z3, .int .i64 z4, .int .i64 z5, .int .i64 z6, .int .i64 z7, .bool z8, .bool z9, .bool z10, .string z11] 50)).cell? ⟨w2.heap.size, 9, none⟩ = some (.bool z8) := KX2.out.cell 9 _ rfl
    have x10 : (w3.alloc (.cells #[.int .i64 z0, .slice B1 q1 d1, .int .i64 z1, .int .i64 z2, .int .i64 z3, .int .i64 z4, .int .i64 z5, .int .i64 z6, .int .i64 z7, .bool z8, .bool z9, .bool z10, .string z11] 50)).cell? ⟨w2.heap.size, 10, none⟩ = some (.bool z9) := KX2.out.cell 10 _ rfl
    have x11 : (w3.alloc (.cells #[.int .i64 z0, .slice B1 q1 d1, .int .i64 z1, .int .i64 z2, .int .i64 z3, .int .i64 z4, .int .i64 z5, .int .i64 z6, .int .i64 z7, .bool z8, .bool z9, .bool z10, .string z11] 50)).cell? ⟨w2.heap.size, 11, none⟩ = some (.bool z10) := KX2.out.cell 11 _ rfl
    have x12 : (w3.alloc (.cells #[.int .i64 z0, .slice B1 q1 d1, .int .i64 z1, .int .i64 z2, .int .i64 z3, .int .i64 z4, .int .i64 z5, .int .i64 z6, .int .i64 z7, .bool z8, .bool z9, .bool z10, .string z11] 50)).cell? ⟨w2.heap.size, 12, none⟩ = some (.string z11) := KX2.out.cell 12 _ rfl
    have y0 : (w3.alloc (.cells #[.int .i64 z0, .slice B1 q1 d1, .int .i64 z1, .int .i64 z2, .int .i64 z3, .int .i64 z4, .int .i64 z5, .int .i64 z6, .int .i64 z7, .bool z8, .bool z9, .bool z10, .string z11] 50)).cell? ⟨w3.heap.size, 0, none⟩ = some (.int .i64 z0) := KY.out.cell 0 _ rfl
    have y1 : (w3.alloc (.cells #[.int .i64 z0, .slice B1 q1 d1, .int .i64 z1, .int .i64 z2, .int .i64 z3, .int .i64 z4, .int .i64 z5, .int .i64 z6, .int .i64 z7, .bool z8, .bool z9, .bool z10, .string z11] 50)).cell? ⟨w3.heap.size, 1, none⟩ = some (.slice B1 q1 d1) := KY.out.cell 1 _ rfl
    have y2 : (w3.alloc (.cells #[.int .i64 z0, .slice B1 q1 d1, .int .i64 z1, .int .i64 z2, .int .i64 z3, .int .i64 z4, .int .i64 z5, .int .i64 z6, .int .i64 z7, .bool z8, .bool z9, .bool z10, .string z11] 50)).cell? ⟨w3.heap.size, 2, none⟩ = some (.int .i64 z1) := KY.out.cell 2 _ rfl
    have y3 : (w3.alloc (.cells #[.int .i64 z0, .slice B1 q1 d1, .int .i64 z1, .int .i64 z2, .int .i64 z3, .int .i64 z4, .int .i64 z5, .int .i64 z6, .int .i64 z7, .bool z8, .bool z9, .bool z10, .string z11] 50)).cell? ⟨w3.heap.size, 3, none⟩ = some (.int .i64 z2) := KY.out.cell 3 _ rfl
    have y4 : (w3.alloc (.cells #[.int .i64 z0, .slice B1 q1 d1, .int .i64 z1, .int .i64 z2, .int .i64 z3, .int .i64 z4, .int .i64 z5, .int .i64 z6, .int .i64 z7, .bool z8, .bool z9, .bool z10, .string z11] 50)).cell? ⟨w3.heap.size, 4, none⟩ = some (.int .i64 z3) := KY.out.cell 4 _ rfl
    have y5 : (w3.alloc (.cells #[.int .i64 z0, .slice B1 q1 d1, .int .i64 z1, .int .i64 z2, .int .i64 z3, .int .i64 z4, .int .i64 z5, .int .i64 z6, .int .i64 z7, .bool z8, .bool z9, .bool z10, .string z11] 50)).cell? ⟨w3.heap.size, 5, none⟩ = some (.int .i64 z4) := KY.out.cell 5 _ rfl
    have y6 : (w3.alloc (.cells #[.int .i64 z0, .slice B1 q1 d1, .int .i64 z1, .int .i64 z2, .int .i64 z3, .int .i64 z4, .int .i64 z5, .int .i64 z6, .int .i64 z7, .bool z8, .bool z9, .bool z10, .string z11] 50)).cell? ⟨w3.heap.size, 6, none⟩ = some (.int .i64 z5) := KY.out.cell 6 _ rfl
    have y7 : (w3.alloc (.cells #[.int .i64 z0, .slice B1 q1 d1, .int .i64 z1, .int .i64 z2, .int .i64 z3, .int .i64 z4, .int .i64 z5, .int .i64 z6, .int .i64 z7, .bool z8, .bool z9, .bool z10, .string z11] 50)).cell? ⟨w3.heap.size, 7, none⟩ = some (.int .i64 z6) := KY.out.cell 7 _ rfl
    have y8 : (w3.alloc (.cells #[.int .i64 z0, .slice B1 q1 d1, .int .i64 z1, .int .i64 z2, .int .i64 z3, .int .i64 z4, .int .i64 z5, .int .i64 z6, .int .i64 z7, .bool z8, .bool z9, .bool z10, .string z11] 50)).cell? ⟨w3.heap.size, 8, none⟩ = some (.int .i64 z7) := KY.out.cell 8 _ rfl
    have y9 : (w3.alloc (.cells #[.int .i64 z0, .slice B1 q1 d1, .int .i64 z1, .int .i64 z2, .int .i64 z3, .int .i64 z4, .int .i64 z5, .int .i64 z6, .int .i64 z7, .bool z8, .bool z9, .bool z10, .string z11] 50)).cell? ⟨w3.heap.size, 9, none⟩ = some (.bool z8) := KY.out.cell 9 _ rfl
    have y10 : (w3.alloc (.cells #[.int .i64 z0, .slice B1 q1 d1, .int .i64 z1, .int .i64 z2, .int .i64 z3, .int .i64 z4, .int .i64 z5, .int .i64 z6, .int .i64 z7, .bool z8, .bool z9, .bool z10, .string z11] 50)).cell? ⟨w3.heap.size, 10, none⟩ = some (.bool z9) := KY.out.cell 10 _ rfl
    have y11 : (w3.alloc (.cells #[.int .i64 z0, .slice B1 q1 d1, .int .i64 z1, .int .i64 z2, .int .i64 z3, .int .i64 z4, .int .i64 z5, .int .i64 z6, .int .i64 z7, .bool z8, .bool z9, .bool z10, .string z11] 50)).cell? ⟨w3.heap.size, 11, none⟩ = some (.bool z10) := KY.out.cell 11 _ rfl
    have y12 : (w3.alloc (.cells #[.int .i64 z0, .slice B1 q1 d1, .int .i64 z1, .int .i64 z2, .int .i64 z3, .int .i64 z4, .int .i64 z5, .int .i64 z6, .int .i64 z7, .bool z8, .bool z9, .bool z10, .string z11] 50)).cell? ⟨w3.heap.size, 12, none⟩ = some (.string z11) := KY.out.cell 12 _ rfl
    go_wp2_with fail
    refine (same_t ⟨z0, z1, z2, z3, z4, z5, z6, z7, z8, z9, z10, z11⟩ A1 B1 q1 c1 d1 RL _ HA1.out HD1.out HQ.out).mono ?_; rintro e w4 ⟨rfl, hB⟩
    clear x0 x1 x2 x3 x4 x5 x6 x7 x8 x9 x10 x11 x12 y0 y1 y2 y3 y4 y5 y6 y7 y8 y9 y10 y11 y12
    replace KC := Lib.hid (KC.out.below hB)
    replace KM := Lib.hid (KM.out.below hB)
    replace HB := Lib.hid (bel_trans HB.out hB)
    replace HA2 := Lib.hid (HA2.out.below hB)
    replace HD2 := Lib.hid (HD2.out.below hB)
    clear hB HA1 HD1 KX2 KY
    have HLN := Lib.hid HA2.out.len
    go_wp2_with fail
    go_loopw [57] (fun t wr => SnIRel w4 q1 t wr) (fun t _ => q1 - (intOf t).toNat)
    case atStart => exact ⟨0, by omega, rfl, Below.refl _ _⟩
    case round =>
      obtain ⟨i, hi, rfl, hz⟩ := hrel
      have HBI := Lib.hid hz
      have hq8 : q1 ≤ 8 := HQ.out
      clear hz
      by_cases hil : i < q1
      rotate_left
      · go_wp2_with fail
        go_roundw
        case rel => exact ⟨k + 1, by omega, by go_num, KC.out.below HBI.out, KM.out.below HBI.out, bel_trans HB.out HBI.out⟩
        case measure => simp only [intOf]; omega
      obtain ⟨bb, hbb⟩ := get_ex HLN.out hil
      obtain ⟨b, off, rfl, hb, hc⟩ := HA2.out.cells (by omega)
      obtain ⟨b', off', rfl, hb', hc'⟩ := HD2.out.cells (by omega)
      have y0 : wr.cell? ⟨b, off + i * 1, none⟩ = some (.bool bb) := (HBI.out.cell (p := ⟨b, off + i * 1, none⟩) hb).trans (hc i bb hbb 0 _ rfl)
      have v0 : wr.cell? ⟨b', off' + i * 1, none⟩ = some (.bool bb) := (HBI.out.cell (p := ⟨b', off' + i * 1, none⟩) hb').trans (hc' i bb hbb 0 _ rfl)
      rw [Nat.mul_one] at y0 v0
      have e5 : (bb != bb) = false := by cases bb <;> rfl
      clear hc hc' hbb
      go_wp2_with fail
      go_quiet (fail)
      go_wp2_with fail
      go_roundw
      case rel => exact ⟨i + 1, by omega, by go_num, below_drewN HBI.out _⟩
      case measure => simp only [intOf]; omega
end Go.Proofs.YtcmdpfdhmbpahaaGreat
namespace Go.Proofs.YtcmdpfdhmbpahaaGreat.simulatorSenses
open Go.ChangeShapes Go.WideShapes Go.ChangeAt Go.RowKit
open Go.ChangeMaps (open_string shut_string)
set_option linter.unusedVariables false
set_option linter.unusedSimpArgs false

theorem own : ownKnob Tryz.prog.godebug = none := by kernel_rfl
theorem laidOut : laidOutB Tryz.prog = true := by kernel_rfl

set_option maxRecDepth 100000 in
theorem lifted (os : Os) (started : os.Started) (H : Type) (enc : TypeId × Value → H) :
    ReturnsInHanded {} Tryz.checked os 4 .any (Rows.simulatorSensesSpec.pre6 enc Tryz.prog Tryz.f4 Rows.simulatorSensesRow.domain false) (Rows.simulatorSensesSpec.post enc Tryz.prog Tryz.f4 false true false false) := by
  refine returnsInHanded_of_change_sized (C := Tryz.checked) own started (by kernel_rfl) Tryz.func4
    (ChangeSpec.witness6 (enc := enc) (C := Tryz.checked) false ⟨#[], #[.agg #[.int .i64 0, .int .i64 0, .int .i64 0, .int .i64 0, .int .i64 0, .int .i64 0, .int .i64 0, .int .i64 0, .int .i64 0, .int .i64 0, .int .i64 0, .bool false], .slice none 0 0, .agg #[.int .i64 0, .int .i64 0, .slice none 0 0, .int .i64 0, .int .i64 0, .int .u16 0, .bool false, .bool false, .string ⟨#[]⟩, .string ⟨#[]⟩]], []⟩ 8 (by kernel_rfl) (by kernel_rfl) (by kernel_rfl) (by kernel_rfl)) ?_
  intro W base args ds gs before hval0 hW hcnd hsz0 _
  have hval : ∀ (j : Nat) t v, Tryz.f4.params[j]? = some t → args[j]? = some v → Value.okWide Tryz.prog W .any base t v := hval0
  have hW' := hW
  obtain ⟨p, q, hA0, hV, rfl, hfz, hnd⟩ := hW
  have hA : DataW.TrodAll enc Tryz.prog W 0 (fun _ => true) true Tryz.f4.params.toList args.toList ds p := hA0
  have hsz : (DataW.weightsEach Tryz.prog (Tryz.f4.params.toList ++ Rows.simulatorSensesSpec.plain.varTypes Tryz.prog) (ds ++ gs)).all (· ≤ reachBytes) = true := hsz0
  rw [Tryz.params4] at hA hval hsz
  obtain ⟨v0, vs0, d0, ds0, p0, q0, hargs, rfl, rfl, h0, r0⟩ := trodAll_cons hA
  obtain ⟨v1, vs1, d1, ds1, p1, q1, rfl, rfl, rfl, h1, r1⟩ := trodAll_cons r0
  obtain ⟨v2, vs2, d2, ds2, p2, q2, rfl, rfl, rfl, h2, r2⟩ := trodAll_cons r1
  obtain ⟨rfl, rfl, rfl⟩ := trodAll_nil r2
  obtain rfl : args = #[v0, v1, v2] := by cases args; simp_all
  obtain ⟨rfl, rfl⟩ := trodVars_none hV
  have k0 := h0
  have lt0 : ∀ x ∈ p0, x.block < W.heap.size := by obtain ⟨m, hm⟩ := k0; exact DataW.trod_lt m _ _ _ hm
  have k1 := h1
  have lt1 : ∀ x ∈ p1, x.block < W.heap.size := by obtain ⟨m, hm⟩ := k1; exact DataW.trod_lt m _ _ _ hm
  have k2 := h2
  have lt2 : ∀ x ∈ p2, x.block < W.heap.size := by obtain ⟨m, hm⟩ := k2; exact DataW.trod_lt m _ _ _ hm
  obtain ⟨cs0, fu0, rfl, hh0⟩ := open_agg_list Tryz.underlying27 (hval 0 27 v0 rfl rfl) h0
  obtain ⟨tk_0, px_0, py_0, ve_0, vn_0, al_0, vs_0, hd_0, ca_0, fu_0, bk_0, gr_0, rfl, cf0_0, cf1_0, cf2_0, cf3_0, cf4_0, cf5_0, cf6_0, cf7_0, cf8_0, cf9_0, cf10_0⟩ := op_craft _ _ _ hh0
  obtain ⟨A1, n1, c1, z1, rfl, m1, qc1, w1, u1, o1⟩ := open_recs_Trod Sns.cells 7 (by decide) (fun _ => rfl) Sns.wf Tryz.underlying47 (by kernel_rfl) el_sns (hval 1 47 v1 rfl rfl) h1
  have o1' := o1 (weights_arg hsz (j := 1) rfl rfl)
  rw [show Tryz.prog.bytesOf 62 = 56 by kernel_rfl] at o1'
  obtain ⟨cs2, fu2, rfl, hh2⟩ := open_agg_list Tryz.underlying35 (hval 2 35 v2 rfl rfl) h2
  obtain ⟨we_2, wn_2, E_2, ne_2, ce_2, er_2, sve_2, svn_2, si_2, th_2, st_2, s0_2, s1_2, rfl, mf0_2, mf1_2, mf2_2, mf3_2, mf4_2, mf5_2, mf6_2, mf7_2, mf8_2, mf9_2, mf10_2⟩ := op_moment _ _ _ hh2
  clear hA0 hval0
  refine (YtcmdpfdhmbpahaaGreat.walk_SimulatorSenses ⟨tk_0, px_0, py_0, ve_0, vn_0, al_0, vs_0, hd_0, ca_0, fu_0, bk_0, gr_0⟩ A1 n1 c1 z1 ⟨we_2, wn_2, E_2, ne_2, ce_2, sve_2, svn_2, si_2, th_2, st_2, s0_2, s1_2⟩ er_2 W w1 u1 m1 o1' mf4_2 mf2_2 (u16_bd mf8_2)).mono fun e W' ⟨he, bel⟩ => ?_
  subst he
  exact ⟨_, rfl, _, _, _, [], _, [], hW', trodAll_mk1 (shut_bool Tryz.underlying4 _), (trodAll_cons_mk (Below.trod laidOut (by kernel_rfl) (of_decide_eq_true (by kernel_rfl)) k0 bel lt0) (trodAll_cons_mk (Below.trod laidOut (by kernel_rfl) (of_decide_eq_true (by kernel_rfl)) k1 bel lt1) (trodAll_cons_mk (Below.trod laidOut (by kernel_rfl) (of_decide_eq_true (by kernel_rfl)) k2 bel lt2) trodAll_mk0))), rfl, bel.frame _, fun h => by cases h⟩

theorem over : Rows.simulatorSensesRow.holds Tryz.pinned (OpenSpec.ofChange Rows.simulatorSensesSpec) :=
  OpenClaim.holds_of_wide 4 Tryz.f4 rfl rfl rfl rfl rfl rfl rfl ⟨rfl, rfl, rfl, rfl, rfl⟩ rfl rfl rfl rfl rfl (by kernel_rfl) Tryz.func4 (by kernel_rfl)
    (of_decide_eq_true (by kernel_rfl)) (by unfold Func.isWrapper; first | (rw [if_pos (by decide +kernel)]; kernel_rfl) | (rw [if_neg (by decide +kernel)]; exact ⟨rfl, rfl⟩))
    (fun os started H enc _ => lifted os started H enc)

/-- the statement -/
theorem proved : Rows.SimulatorSensesSaid := over
end Go.Proofs.YtcmdpfdhmbpahaaGreat.simulatorSenses
