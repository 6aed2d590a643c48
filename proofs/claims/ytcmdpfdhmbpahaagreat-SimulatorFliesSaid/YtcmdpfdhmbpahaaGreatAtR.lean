/- Layer 29: the reference's tables. -/
import Derived.Test.YtcmdpfdhmbpahaaGreatAtFns
import Derived.Test.YtcmdpfdhmbpahaaGreatFxRootR
import Derived.Test.YtcmdpfdhmbpahaaGreatMem
namespace Go.Proofs.YtcmdpfdhmbpahaaGreat
set_option linter.unusedSimpArgs false
set_option linter.unusedVariables false
open Go.RowKit

/-- two rows in memory -/
structure ColsAt (w : World) (b c : Nat) (L : List (Int × Int)) : Prop where
  lb : b < w.heap.size
  lc : c < w.heap.size
  cells : ∀ k r, L[k]? = some r → w.cell? ⟨b, k, none⟩ = some (.int .i64 r.1) ∧ w.cell? ⟨c, k, none⟩ = some (.int .i64 r.2)
theorem colsAt_new (w : World) (L : List (Int × Int)) (x y : Array Value) (t u : TypeId) (hx : x.toList = L.map fun r => .int .i64 r.1) (hy : y.toList = L.map fun r => .int .i64 r.2) :
    ColsAt ((w.alloc (.cells x t)).alloc (.cells y u)) w.heap.size (w.heap.size + 1) L := by
  refine ⟨by simp; omega, by simp, fun k r hr => ⟨?_, ?_⟩⟩
  · rw [World.cell?_alloc_lt (w.alloc (.cells x t)) _ ⟨w.heap.size, k, none⟩ (by simp), World.cell?_alloc_new, ← Array.getElem?_toList, hx, List.getElem?_map, hr]; rfl
  · have e : w.heap.size + 1 = (w.alloc (.cells x t)).heap.size := by simp
    rw [e, World.cell?_alloc_new, ← Array.getElem?_toList, hy, List.getElem?_map, hr]; rfl
def rowsPost (L : List (Int × Int)) (n : Nat) (w : World) (e : Ending) (w' : World) : Prop :=
  ∃ b c, e = .returned (.tuple #[.slice (some ⟨b, 0, none⟩) n n, .slice (some ⟨c, 0, none⟩) n n]) ∧ ColsAt w' b c L ∧ Below w.heap.size w w'
set_option maxRecDepth 100000 in
set_option maxHeartbeats 1000000 in
theorem rowsP_any (w : World) : Calls Tryz.prog 129 #[.int .i64 1] w (rowsPost At.tabP 14 w) := by
  go_enter Tryz.func129, Tryz.ntmps129
  go_wp2
  go_ret2
  exact ⟨w.heap.size, w.heap.size + 1, rfl, colsAt_new w At.tabP _ _ _ _ (by rfl) (by rfl), ((Below.refl _ _).alloc (Nat.le_refl _) _).alloc (by simp) _⟩
set_option maxRecDepth 100000 in
set_option maxHeartbeats 1000000 in
theorem rowsR_any (w : World) : Calls Tryz.prog 129 #[.int .i64 2] w (rowsPost At.tabR 14 w) := by
  go_enter Tryz.func129, Tryz.ntmps129
  go_wp2
  go_ret2
  exact ⟨w.heap.size, w.heap.size + 1, rfl, colsAt_new w At.tabR _ _ _ _ (by rfl) (by rfl), ((Below.refl _ _).alloc (Nat.le_refl _) _).alloc (by simp) _⟩
set_option maxRecDepth 100000 in
set_option maxHeartbeats 1000000 in
theorem rowsT_any (w : World) : Calls Tryz.prog 129 #[.int .i64 3] w (rowsPost At.tabT 4 w) := by
  go_enter Tryz.func129, Tryz.ntmps129
  go_wp2
  go_ret2
  exact ⟨w.heap.size, w.heap.size + 1, rfl, colsAt_new w At.tabT _ _ _ _ (by rfl) (by rfl), ((Below.refl _ _).alloc (Nat.le_refl _) _).alloc (by simp) _⟩

def RRel (L : List (Int × Int)) (alt : Int) (v : Value) : Prop := ∃ m : Nat, v = .int .i64 (m : Int) ∧ m + 2 ≤ L.length ∧ ∀ j, 1 ≤ j → j ≤ m → ∀ r, L[j]? = some r → r.1 * 100 < alt

set_option maxRecDepth 100000 in
set_option maxHeartbeats 2000000 in
theorem rvalue_any (t : Int) (n : Nat) (L : List (Int × Int)) (alt : Int) (w : World) (hn : n = L.length) (hok : TabOk L) (ha0 : -200000 ≤ alt) (ha1 : alt ≤ 6000000)
    (hlast : ∀ r, L[n - 1]? = some r → alt ≤ r.1 * 100) (hR : ∀ w, Calls Tryz.prog 129 #[.int .i64 t] w (rowsPost L n w)) :
    Calls Tryz.prog 109 #[.int .i64 t, .int .i64 alt] w fun e w' => e = .returned (.int .i64 (At.tv L alt)) ∧ Below w.heap.size w w' := by
  obtain ⟨o1, o2, o3, o4⟩ := hok
  have HR := Lib.hid hR
  have O3 := Lib.hid o3
  have O4 := Lib.hid o4
  rw [← hn] at o1 o2
  have HN := Lib.hid hn
  have HLAST := Lib.hid hlast
  clear hR o3 o4 hn hlast
  go_enter Tryz.func109, Tryz.ntmps109
  go_wp2_with fail
  refine (HR.out _).mono ?_; rintro e w1 ⟨b, c, rfl, hC, hB⟩
  have HC := Lib.hid hC
  have HB := Lib.hid hB
  clear hC hB
  go_wp2_with fail
  go_loop [7] (fun v => RRel L alt v) (fun v => n - (intOf v).toNat)
  case atStart => exact ⟨0, rfl, by rw [← HN.out]; omega, fun j j1 j2 => by omega⟩
  case round =>
    obtain ⟨m, rfl, hm, hlow⟩ := hrel
    rw [← HN.out] at hm
    have HL := Lib.hid hlow
    clear hlow
    obtain ⟨⟨f0, v0⟩, e0⟩ : ∃ r, L[m]? = some r := ⟨_, List.getElem?_eq_getElem (by have := HN.out; omega)⟩
    obtain ⟨⟨f1, v1⟩, e1⟩ : ∃ r, L[m + 1]? = some r := ⟨_, List.getElem?_eq_getElem (by have := HN.out; omega)⟩
    have B0 := O3.out _ (List.mem_of_getElem? e0)
    have B1 := O3.out _ (List.mem_of_getElem? e1)
    have hlt : f0 < f1 := O4.out m _ _ e0 e1
    obtain ⟨hc0, hc1⟩ := HC.out.cells m _ e0
    obtain ⟨hd0, hd1⟩ := HC.out.cells (m + 1) _ e1
    simp only at hc0 hc1 hd0 hd1 B0 B1
    obtain ⟨a1, a2, a3, a4⟩ := B0
    obtain ⟨b1, b2, b3, b4⟩ := B1
    have E0 := Lib.hid e0
    have E1 := Lib.hid e1
    clear e0 e1
    by_cases g2 : f1 * 100 < alt
    · have hnl : m + 2 ≠ n := fun h => by
        have h1 : L[n - 1]? = some (f1, v1) := by rw [show n - 1 = m + 1 from by omega]; exact E1.out
        have := HLAST.out _ h1
        simp only at this
        omega
      go_wp2_with fail
      go_round
      case rel =>
        refine ⟨m + 1, by congr 1, by have := HN.out; omega, fun j j1 j2 r hr => ?_⟩
        rcases Nat.lt_or_ge m j with h | h
        · have hj : j = m + 1 := by omega
          subst hj
          rw [E1.out] at hr
          obtain rfl := Option.some.inj hr
          exact g2
        · exact HL.out j j1 h r hr
      case measure => simp only [intOf]; omega
    · have hv := Lib.hid (At.tv_at L m _ _ alt E0.out E1.out HL.out (.inr (by show alt ≤ f1 * 100; omega)))
      have hp := prod_bd (x := v1 - v0) (y := alt - f0 * 100) (by omega) (by omega)
      obtain ⟨X, hX⟩ : ∃ X, (v1 - v0) * (alt - f0 * 100) = X := ⟨_, rfl⟩
      rw [hX] at hp
      obtain ⟨p1, p2⟩ := hp
      have hY : (f1 - f0) * 100 = f1 * 100 - f0 * 100 := by omega
      obtain ⟨c1, c2, c3, c4⟩ := floor_v X (f1 * 100 - f0 * 100) (by omega) (by omega) (by omega)
      have H := Lib.hid (fun w => flip (cval (rFloor X (f1 * 100 - f0 * 100) ⟨by omega, by omega⟩ ⟨by omega, by omega⟩ w) c1 c2))
      have hend := Lib.hid (show At.interp (f0, v0) (f1, v1) alt = v0 + X / (f1 * 100 - f0 * 100) by unfold At.interp; rw [← hX]; simp only; rw [hY])
      have xb : -4611686018427387904 ≤ X / (f1 * 100 - f0 * 100) ∧ X / (f1 * 100 - f0 * 100) ≤ 4611686018427387904 := ⟨c3, c4⟩
      have hwX : IntKind.i64.wrap X = X := IntWalk.i64_in _ (by omega)
      have w1h : IntKind.i64.wrap (v1 - v0) = v1 - v0 := IntWalk.i64_in _ (by omega)
      have w2h : IntKind.i64.wrap (alt - f0 * 100) = alt - f0 * 100 := IntWalk.i64_in _ (by omega)
      have w3h : IntKind.i64.wrap (f1 * 100 - f0 * 100) = f1 * 100 - f0 * 100 := IntWalk.i64_in _ (by omega)
      have w4h : IntKind.i64.wrap (f0 * 100) = f0 * 100 := IntWalk.i64_in _ (by omega)
      have w5h : IntKind.i64.wrap (f1 * 100) = f1 * 100 := IntWalk.i64_in _ (by omega)
      have w6h : IntKind.i64.wrap ((m : Int) + 1) = (m : Int) + 1 := IntWalk.i64_in _ (by omega)
      have w7h : ((m : Int) + 1).toNat = m + 1 := by omega
      have w8h : 0 ≤ (m : Int) + 1 := by omega
      have w9h : (m : Int) + 1 < n := by omega
      have w10h : (m : Int) < n := by omega
      clear c1 c2 c3 c4 hY
      generalize X / (f1 * 100 - f0 * 100) = Z at *
      obtain ⟨z1, z2⟩ := xb
      go_wp2_with fail
      go_quiet (fail)
      go_wp2_with fail
      go_quiet ((go_at_call 130; first | exact quiet_more (H.out _) | exact Calls.quiet_of_same (H.out _)))
      go_wp2_with fail
      go_ret
      exact ⟨ret_int (by rw [hv.out, hend.out]), below_drewN HB.out _⟩

theorem rvP_any (alt : Int) (h : inAlt alt) (w : World) : Calls Tryz.prog 109 #[.int .i64 1, .int .i64 alt] w fun e w' => e = .returned (.int .i64 (At.vP alt)) ∧ Below w.heap.size w w' := by
  have := rvalue_any 1 14 At.tabP alt w rfl okP h.1 h.2 (fun r hr => by obtain rfl := Option.some.inj hr; exact h.2) rowsP_any
  rw [At.tv_P] at this; exact this
theorem rvR_any (alt : Int) (h : inAlt alt) (w : World) : Calls Tryz.prog 109 #[.int .i64 2, .int .i64 alt] w fun e w' => e = .returned (.int .i64 (At.vR alt)) ∧ Below w.heap.size w w' := by
  have := rvalue_any 2 14 At.tabR alt w rfl okR h.1 h.2 (fun r hr => by obtain rfl := Option.some.inj hr; exact h.2) rowsR_any
  rw [At.tv_R] at this; exact this
theorem rvT_any (alt : Int) (h : inAlt alt) (w : World) : Calls Tryz.prog 109 #[.int .i64 3, .int .i64 alt] w fun e w' => e = .returned (.int .i64 (At.vT alt)) ∧ Below w.heap.size w w' := by
  have := rvalue_any 3 4 At.tabT alt w rfl okT h.1 h.2 (fun r hr => by obtain rfl := Option.some.inj hr; exact h.2) rowsT_any
  rw [At.tv_T] at this; exact this

def levRPost (p : Int) (w : World) (e : Ending) (w' : World) : Prop :=
  (p < 70800 → e = .returned (.tuple #[.int .i64 0, .int .i64 2])) ∧ (¬ p < 70800 → ∃ L, e = .returned (.tuple #[.int .i64 L, .int .i64 0]) ∧ At.LevP p L) ∧ Below w.heap.size w w'
def LRel (p : Int) (w : World) (vi vj : Value) (w' : World) : Prop :=
  ∃ i j : Int, vi = .int .i64 i ∧ vj = .int .i64 j ∧ -200000 ≤ i ∧ i ≤ j ∧ j ≤ 6000000 ∧ At.vP j ≤ p ∧ (i = -200000 ∨ p < At.vP (i - 1)) ∧ Below w.heap.size w w'
end Go.Proofs.YtcmdpfdhmbpahaaGreat
