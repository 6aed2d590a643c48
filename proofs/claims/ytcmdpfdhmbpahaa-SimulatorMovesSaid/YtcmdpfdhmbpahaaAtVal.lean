/- Layer 29: the value of a table, as package atmosphere reads it. -/
import Derived.Test.YtcmdpfdhmbpahaaFxOps
import Derived.Test.YtcmdpfdhmbpahaaFrame
import Derived.Test.YtcmdpfdhmbpahaaFxMath
import Derived.Test.YtcmdpfdhmbpahaaAtPlain
import Derived.RegionTactic
import Derived.ChangeAlike
import Derived.BigRegion
import Derived.Deep.RegionHeld3
import Derived.Laws.NewBlocks
import Derived.Laws.Rows
namespace Go.Proofs.Ytcmdpfdhmbpahaa
set_option linter.unusedSimpArgs false
set_option linter.unusedVariables false
open Go.RowKit

theorem cval {F : FuncId} {args : Array Value} {w : World} {k l : IntKind} {X Y V E : Int} {R : World → Prop} (h : Calls Try.prog F args w fun e w' => e = .returned (.tuple #[.int k X, .int l Y]) ∧ R w') (hx : X = V) (hy : Y = E) :
    Calls Try.prog F args w fun e w' => e = .returned (.tuple #[.int k V, .int l E]) ∧ R w' := by subst hx hy; exact h
theorem floor_v (X Y : Int) (h1 : -4611686018427387904 ≤ X) (h2 : X ≤ 4611686018427387904) (hY : 0 < Y) : Fx.scV 0 X 1 Y = X / Y ∧ Fx.scE 0 X 1 Y = 0 ∧ -4611686018427387904 ≤ X / Y ∧ X / Y ≤ 4611686018427387904 := by
  have e : Fx.rqz 0 (X * 1) Y = X / Y := by unfold Fx.rqz Fx.rq; rw [if_neg (by omega), if_pos rfl, Int.mul_one]
  have b1 : -4611686018427387904 ≤ X / Y := by
    rw [Int.le_ediv_iff_mul_le hY]
    have : (-4611686018427387904) * Y ≤ (-4611686018427387904) * 1 := Int.mul_le_mul_of_nonpos_left (by omega) (by omega)
    omega
  have b2 : X / Y ≤ 4611686018427387904 := by
    have : X / Y < 4611686018427387904 + 1 := by
      rw [Int.ediv_lt_iff_lt_mul hY]
      have : (4611686018427387904 + 1) * 1 ≤ (4611686018427387904 + 1) * Y := Int.mul_le_mul_of_nonneg_left (by omega) (by omega)
      omega
    omega
  have hr : Fx.inR (X / Y) := by unfold Fx.inR; omega
  rw [Fx.scV_eq 0 X 1 Y (by omega), Fx.scE_eq 0 X 1 Y (by omega), e, if_pos hr, if_pos hr]
  exact ⟨rfl, rfl, b1, b2⟩

/-- a table in memory -/
structure TabAt (w : World) (b off : Nat) (L : List (Int × Int)) : Prop where
  lt : b < w.heap.size
  cells : ∀ k r, L[k]? = some r → w.cell? ⟨b, off + k * 2, none⟩ = some (.int .i64 r.1) ∧ w.cell? ⟨b, off + k * 2 + 1, none⟩ = some (.int .i64 r.2)
theorem TabAt.below {w w' : World} {b off : Nat} {L : List (Int × Int)} (h : TabAt w b off L) (hb : Below w.heap.size w w') : TabAt w' b off L :=
  ⟨Nat.lt_of_lt_of_le h.lt hb.size, fun k r hr => ⟨(hb.cell (p := ⟨b, _, none⟩) h.lt).trans (h.cells k r hr).1, (hb.cell (p := ⟨b, _, none⟩) h.lt).trans (h.cells k r hr).2⟩⟩
/-- a table whose numbers are small, and whose altitudes rise -/
def TabOk (L : List (Int × Int)) : Prop := 2 ≤ L.length ∧ L.length ≤ 100 ∧ (∀ r ∈ L, -100000 ≤ r.1 ∧ r.1 ≤ 100000 ∧ -4000000 ≤ r.2 ∧ r.2 ≤ 4000000) ∧ ∀ k r s, L[k]? = some r → L[k + 1]? = some s → r.1 < s.1
theorem prod_bd {x y : Int} (hx : -8000000 ≤ x ∧ x ≤ 8000000) (hy : -100000000 ≤ y ∧ y ≤ 100000000) : -800000000000000 ≤ x * y ∧ x * y ≤ 800000000000000 := by
  have h1 : x * y ≤ (x.natAbs * y.natAbs : Nat) := by rw [← Int.natAbs_mul]; omega
  have h2 : -(x * y) ≤ (x.natAbs * y.natAbs : Nat) := by rw [← Int.natAbs_mul]; omega
  have h3 : x.natAbs * y.natAbs ≤ 8000000 * 100000000 := Nat.mul_le_mul (by omega) (by omega)
  omega

def VRel (L : List (Int × Int)) (alt : Int) (v : Value) : Prop := ∃ m : Nat, v = .int .i64 ((m : Int) + 1) ∧ m + 2 ≤ L.length ∧ ∀ j, 1 ≤ j → j ≤ m → ∀ r, L[j]? = some r → r.1 * 100 < alt

set_option maxRecDepth 100000 in
set_option maxHeartbeats 2000000 in
theorem value_any (b off n cp : Nat) (L : List (Int × Int)) (alt : Int) (w : World) (hn : n = L.length) (hok : TabOk L) (hT : TabAt w b off L) (ha0 : -200000 ≤ alt) (ha1 : alt ≤ 6000000) :
    Calls Try.prog 97 #[.slice (some ⟨b, off, none⟩) n cp, .int .i64 alt] w fun e w' => e = .returned (.int .i64 (At.tv L alt)) ∧ Below w.heap.size w w' := by
  obtain ⟨o1, o2, o3, o4⟩ := hok
  have hb := hT.lt
  have HT := Lib.hid hT
  have O3 := Lib.hid o3
  have O4 := Lib.hid o4
  rw [← hn] at o1 o2
  have HN := Lib.hid hn
  clear hT o3 o4 hn
  go_enter Try.func97, Try.ntmps97
  go_wp2_with fail
  go_loop [5] (fun v => VRel L alt v) (fun v => n - (intOf v).toNat)
  case atStart => exact ⟨0, rfl, by rw [← HN.out]; omega, fun j j1 j2 => by omega⟩
  case round =>
    obtain ⟨m, rfl, hm, hlow⟩ := hrel
    rw [← HN.out] at hm
    have HL := Lib.hid hlow
    clear hlow
    obtain ⟨⟨f0, v0⟩, e0⟩ : ∃ r, L[m]? = some r := ⟨_, List.getElem?_eq_getElem (by have := HN.out; omega)⟩
    obtain ⟨⟨f1, v1⟩, e1⟩ : ∃ r, L[m + 1]? = some r := ⟨_, List.getElem?_eq_getElem (by have := HN.out; omega)⟩
    have B0 := O3.out _ (List.mem_of_getElem? e0)
    have B1 := O3.out _ (List.mem_of_getElem? e1)
    have hlt : f0 < f1 := O4.out m _ _ e0 e1
    obtain ⟨hc0, hc1⟩ := HT.out.cells m _ e0
    obtain ⟨hd0, hd1⟩ := HT.out.cells (m + 1) _ e1
    simp only at hc0 hc1 hd0 hd1 B0 B1
    obtain ⟨a1, a2, a3, a4⟩ := B0
    obtain ⟨b1, b2, b3, b4⟩ := B1
    have E0 := Lib.hid e0
    have E1 := Lib.hid e1
    clear e0 e1
    by_cases hgo : (m : Int) + 1 < n - 1 ∧ f1 * 100 < alt
    · obtain ⟨g1, g2⟩ := hgo
      go_wp2_with fail
      go_round
      case rel =>
        refine ⟨m + 1, by congr 1, by have := HN.out; omega, fun j j1 j2 r hr => ?_⟩
        rcases Nat.lt_or_ge m j with h | h
        · have hj : j = m + 1 := by omega
          subst hj
          rw [E1.out] at hr
          obtain rfl := Option.some.inj hr
          exact g2
        · exact HL.out j j1 h r hr
      case measure => simp only [intOf]; omega
    · have hv := Lib.hid (At.tv_at L m _ _ alt E0.out E1.out HL.out (by
        by_cases g : (m : Int) + 1 < n - 1
        · exact .inr (by show alt ≤ f1 * 100; have : ¬ f1 * 100 < alt := fun h => hgo ⟨g, h⟩; omega)
        · exact .inl (by have := HN.out; omega)))
      have hp := prod_bd (x := v1 - v0) (y := alt - f0 * 100) (by omega) (by omega)
      obtain ⟨X, hX⟩ : ∃ X, (v1 - v0) * (alt - f0 * 100) = X := ⟨_, rfl⟩
      rw [hX] at hp
      obtain ⟨p1, p2⟩ := hp
      obtain ⟨c1, c2, c3, c4⟩ := floor_v X ((f1 - f0) * 100) (by omega) (by omega) (by omega)
      have H := Lib.hid (fun w => cval (xFloor X ((f1 - f0) * 100) ⟨by omega, by omega⟩ ⟨by omega, by omega⟩ w) c1 c2)
      have hend := Lib.hid (show At.interp (f0, v0) (f1, v1) alt = v0 + X / ((f1 - f0) * 100) by unfold At.interp; rw [hX])
      have n0 := World.new_ne w _ hc0
      have n1 := World.new_ne w _ hc1
      have n2 := World.new_ne w _ hd0
      have n3 := World.new_ne w _ hd1
      have xb : -4611686018427387904 ≤ X / ((f1 - f0) * 100) ∧ X / ((f1 - f0) * 100) ≤ 4611686018427387904 := ⟨c3, c4⟩
      have hwX : IntKind.i64.wrap X = X := IntWalk.i64_in _ (by omega)
      clear c1 c2 c3 c4
      generalize X / ((f1 - f0) * 100) = Z at *
      obtain ⟨z1, z2⟩ := xb
      by_cases g1 : (m : Int) + 1 < n - 1
      · have g2 : ¬ f1 * 100 < alt := fun h => hgo ⟨g1, h⟩
        clear hgo
        go_wp2_with fail
        go_region
        all_goals (go_wp2_with fail)
        all_goals (refine (H.out _).mono ?_; rintro e w' ⟨rfl, q, rfl⟩)
        all_goals (go_wp2_with fail)
        all_goals go_ret
        all_goals (exact ⟨ret_int (by rw [hv.out, hend.out]), below_drewN (((Below.refl _ _).alloc (Nat.le_refl _) _).alloc (by simp) _) _⟩)
      · clear hgo
        go_wp2_with fail
        go_region
        all_goals (go_wp2_with fail)
        all_goals (refine (H.out _).mono ?_; rintro e w' ⟨rfl, q, rfl⟩)
        all_goals (go_wp2_with fail)
        all_goals go_ret
        all_goals (exact ⟨ret_int (by rw [hv.out, hend.out]), below_drewN (((Below.refl _ _).alloc (Nat.le_refl _) _).alloc (by simp) _) _⟩)
end Go.Proofs.Ytcmdpfdhmbpahaa
