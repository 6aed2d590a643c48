/- Layer 51: the chapter's examples hold (awake returns true). -/
import Derived.Test.YtgclfkgnkohgdaaSteer
namespace Go.Proofs.Ytgclfkgnkohgdaa
set_option linter.unusedSimpArgs false
set_option linter.unusedVariables false
open Go.RowKit

theorem cval {F : FuncId} {args : Array Value} {w : World} {k l : IntKind} {X Y V E : Int} {R : World → Prop} (h : Calls Try.prog F args w fun e w' => e = .returned (.tuple #[.int k X, .int l Y]) ∧ R w') (hx : X = V) (hy : Y = E) :
    Calls Try.prog F args w fun e w' => e = .returned (.tuple #[.int k V, .int l E]) ∧ R w' := by subst hx hy; exact h
theorem bvalue {F : FuncId} {args : Array Value} {w : World} {k : IntKind} {X V : Int} {R : World → Prop} (h : Calls Try.prog F args w fun e w' => e = .returned (.int k X) ∧ R w') (hx : X = V) :
    Calls Try.prog F args w fun e w' => e = .returned (.int k V) ∧ R w' := by subst hx; exact h
theorem cpval {F : FuncId} {args : Array Value} {w : World} {k : IntKind} {X V : Bool} {Y E : Int} {R : World → Prop} (h : Calls Try.prog F args w fun e w' => e = .returned (.tuple #[.bool X, .int k Y]) ∧ R w') (hx : X = V) (hy : Y = E) :
    Calls Try.prog F args w fun e w' => e = .returned (.tuple #[.bool V, .int k E]) ∧ R w' := by subst hx hy; exact h
theorem xDeviation (a t : Int) (ha : I64 a) (ht : I64 t) (w : World) : Calls Try.prog 12 #[.int .i64 a, .int .i64 t] w fun e w' => e = .returned (.int .i64 (satV (t - a))) ∧ w = w' := by
  have H := Lib.hid (fun w => xSub t a ht ha w)
  clear ha ht
  go_enter Try.func12, Try.ntmps12
  go_wp2_with fail
  refine (H.out _).mono ?_; rintro e w' ⟨rfl, rfl⟩
  go_wp2_with fail
  go_ret
  exact ⟨rfl, rfl⟩
theorem rDeviation (a t : Int) (ha : I64 a) (ht : I64 t) (w : World) : Calls Try.prog 13 #[.int .i64 a, .int .i64 t] w fun e w' => e = .returned (.int .i64 (satV (t - a))) ∧ w = w' := by
  have H := Lib.hid (fun w => rSub t a ht ha w)
  clear ha ht
  go_enter Try.func13, Try.ntmps13
  go_wp2_with fail
  refine (H.out _).mono ?_; rintro e w' ⟨rfl, rfl⟩
  go_wp2_with fail
  go_ret
  exact ⟨rfl, rfl⟩
def p0 (a : Int) : Pass := ⟨a, 0, 0, 0, 0, 0, 0, 0, 0, 0, 0, 0, 0⟩
def exP : List Pass := [p0 0, p0 1000, p0 1000]

theorem bwv {F : FuncId} {args : Array Value} {w : World} {X Y V E : Int} (h : Calls Try.prog F args w (BwB X Y w)) (hx : X = V) (hy : Y = E) :
    Calls Try.prog F args w fun e w' => e = .returned (.tuple #[.int .i64 V, .int .i64 E]) ∧ Below w.heap.size w w' := by subst hx hy; exact h
/-- the example's prediction in memory: its passages in block g, itself in block g + 1 -/
structure AwS (w W : World) (g : Nat) : Prop where
  pas : Passes W (some ⟨g, 0, none⟩) 3 exP
  b0 : W.cell? ⟨g + 1, 0, none⟩ = some (.slice (some ⟨g, 0, none⟩) 3 3)
  b1 : W.cell? ⟨g + 1, 1, none⟩ = some (.int .i64 0)
  b2 : W.cell? ⟨g + 1, 2, none⟩ = some (.int .i64 0)
  b3 : W.cell? ⟨g + 1, 3, none⟩ = some (.bool false)
  lt : g + 1 < W.heap.size
  bel : Below w.heap.size w W
theorem AwS.below {w W W' : World} {g : Nat} (h : AwS w W g) (hb : Below W.heap.size W W') : AwS w W' g :=
  ⟨h.pas.below hb, (hb.cell (p := ⟨g + 1, 0, none⟩) h.lt).trans h.b0, (hb.cell (p := ⟨g + 1, 1, none⟩) h.lt).trans h.b1, (hb.cell (p := ⟨g + 1, 2, none⟩) h.lt).trans h.b2, (hb.cell (p := ⟨g + 1, 3, none⟩) h.lt).trans h.b3, Nat.lt_of_lt_of_le h.lt hb.size, h.bel.trans (hb.mono h.bel.size)⟩
theorem AwS.alloc {w W : World} {g : Nat} (h : AwS w W g) (o : Obj) : AwS w (W.alloc o) g := h.below ((Below.refl _ _).alloc (Nat.le_refl _) _)
theorem AwS.start (w : World) (n : Nat) (cs : Array Value) (t u : TypeId) (h : cs.toList = exP.flatMap Pass.cells) :
    AwS w (((w.drewN n).alloc (.cells cs t)).alloc (.cells #[.slice (some ⟨w.heap.size, 0, none⟩) 3 3, .int .i64 0, .int .i64 0, .bool false] u)) w.heap.size := by
  have e : w.heap.size + 1 = ((w.drewN n).alloc (.cells cs t)).heap.size := by simp
  refine ⟨(Recs.of_alloc (f := Pass.cells) (sz := 13) (fun _ => rfl) (w.drewN n) cs t exP 3 rfl h _ rfl).below ((Below.refl _ _).alloc (Nat.le_refl _) _), ?_, ?_, ?_, ?_, by simp, ?_⟩
  · rw [e, World.cell?_alloc_new]; rfl
  · rw [e, World.cell?_alloc_new]; rfl
  · rw [e, World.cell?_alloc_new]; rfl
  · rw [e, World.cell?_alloc_new]; rfl
  · exact ((below_drewN (Below.refl _ w) n).alloc (by simp) _).alloc (by simp) _

set_option maxRecDepth 100000 in
set_option maxHeartbeats 2000000 in
theorem awake_any (w : World) : Calls Try.prog 11 #[] w fun e w' => e = .returned (.bool true) ∧ Below w.heap.size w w' := by
  have H0 := Lib.hid (fun w => cval (xCommand 0 1000 2000 w) (show Vt.cmV 0 1000 2000 = 63 by decide) (show Vt.cmE 0 1000 2000 = 0 by decide))
  have H1 := Lib.hid (fun w => cval (xCommand 0 (-5) 2000 w) (show Vt.cmV 0 (-5) 2000 = -1 by decide) (show Vt.cmE 0 (-5) 2000 = 0 by decide))
  have H2 := Lib.hid (fun w => cval (xLimit 100 (-500) w) (show Vt.lmV 100 (-500) = 60 by decide) (show Vt.lmE 100 (-500) = 0 by decide))
  have H3 := Lib.hid (fun w => cpval (xCapture 0 100 1600 w) (show Vt.cpB 0 100 1600 = true by decide) (show Vt.cpE 0 100 1600 = 0 by decide))
  have H4 := Lib.hid (fun w => cpval (xCapture 0 100 1601 w) (show Vt.cpB 0 100 1601 = false by decide) (show Vt.cpE 0 100 1601 = 0 by decide))
  go_enter Try.func11, Try.ntmps11
  go_wp2_with fail
  refine (H0.out _).mono ?_; rintro e w1 ⟨rfl, q, rfl⟩
  go_wp2_with fail
  refine (H1.out _).mono ?_; rintro e w1 ⟨rfl, q1, rfl⟩
  go_wp2_with fail
  refine (H2.out _).mono ?_; rintro e w1 ⟨rfl, rfl⟩
  go_wp2_with fail
  refine (H3.out _).mono ?_; rintro e w1 ⟨rfl, rfl⟩
  go_wp2_with fail
  refine (H4.out _).mono ?_; rintro e w1 ⟨rfl, rfl⟩
  have hS := Lib.hid (AwS.start w (q + q1) #[.int .i64 0, .int .i64 0, .int .i64 0, .int .i64 0, .int .i64 0, .int .i64 0, .int .i64 0, .int .i64 0, .int .i64 0, .int .i64 0, .int .i64 0, .int .i64 0, .int .u8 0, .int .i64 1000, .int .i64 0, .int .i64 0, .int .i64 0, .int .i64 0, .int .i64 0, .int .i64 0, .int .i64 0, .int .i64 0, .int .i64 0, .int .i64 0, .int .i64 0, .int .u8 0, .int .i64 1000, .int .i64 0, .int .i64 0, .int .i64 0, .int .i64 0, .int .i64 0, .int .i64 0, .int .i64 0, .int .i64 0, .int .i64 0, .int .i64 0, .int .i64 0, .int .u8 0] 42 36 rfl)
  go_wp2_with fail
  refine (bwv (xTarget _ _ 3 3 2 2 exP [6000, 6000] 3000 _ _ _ _ (hS.out.alloc _).pas (Ints.of_alloc _ _ _ [6000, 6000] 2 rfl rfl _ (by simp)) (by decide) (by decide) ⟨by decide, by decide⟩) (show Pf.bwV (exP.map Pass.alt) [6000, 6000] 3000 = 500 by decide) (show Pf.bwE (exP.map Pass.alt) [6000, 6000] 3000 = 0 by decide)).mono ?_; rintro e w2 ⟨rfl, hB⟩
  have hS2 := Lib.hid ((hS.out.alloc _).below hB)
  obtain ⟨_, b0, b1, b2, b3, lt, _⟩ := hS2.out
  clear hB hS
  go_wp2_with fail
  refine (bwv (xPath _ _ 3 3 2 2 exP [6000, 6000] 3000 300 _ _ _ _ (hS2.out.alloc _).pas (Ints.of_alloc _ _ _ [6000, 6000] 2 rfl rfl _ (by simp)) (by decide) (by decide) ⟨by decide, by decide⟩ ⟨by decide, by decide⟩) (show Vt.ptV (exP.map Pass.alt) [6000, 6000] 3000 300 = 50 by decide) (show Vt.ptE (exP.map Pass.alt) [6000, 6000] 3000 300 = 0 by decide)).mono ?_; rintro e w3 ⟨rfl, hB⟩
  have hS3 := Lib.hid ((hS2.out.alloc _).below hB)
  clear hB hS2 b0 b1 b2 b3 lt
  obtain ⟨_, b0, b1, b2, b3, lt, _⟩ := hS3.out
  go_wp2_with fail
  refine (bwv (xPath _ _ 3 3 2 2 exP [6000, 6000] 6000 300 _ _ _ _ (hS3.out.alloc _).pas (Ints.of_alloc _ _ _ [6000, 6000] 2 rfl rfl _ (by simp)) (by decide) (by decide) ⟨by decide, by decide⟩ ⟨by decide, by decide⟩) (show Vt.ptV (exP.map Pass.alt) [6000, 6000] 6000 300 = 0 by decide) (show Vt.ptE (exP.map Pass.alt) [6000, 6000] 6000 300 = 0 by decide)).mono ?_; rintro e w4 ⟨rfl, hB⟩
  have hS4 := Lib.hid ((hS3.out.alloc _).below hB)
  clear hB hS3 b0 b1 b2 b3 lt
  go_wp2_with fail
  refine (bvalue (xDeviation 5 3 ⟨by decide, by decide⟩ ⟨by decide, by decide⟩ _) (show satV (3 - 5) = -2 by decide)).mono ?_; rintro e w5 ⟨rfl, rfl⟩
  go_wp2_with fail
  go_ret
  exact ⟨rfl, hS4.out.bel⟩
end Go.Proofs.Ytgclfkgnkohgdaa
