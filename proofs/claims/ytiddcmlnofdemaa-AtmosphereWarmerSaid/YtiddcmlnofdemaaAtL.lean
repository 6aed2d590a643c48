/- Layer 29: Level, and the search that it uses. -/
import Derived.Test.YtiddcmlnofdemaaAtFns
import Derived.Deep.RegionHeld3
namespace Go.Proofs.Ytiddcmlnofdemaa
set_option linter.unusedSimpArgs false
set_option linter.unusedVariables false
open Go.RowKit

theorem tabAt_of {w w' : World} {b off : Nat} {L : List (Int × Int)} (h : TabAt w b off L) (hh : w'.heap = w.heap) : TabAt w' b off L := by
  refine ⟨by rw [hh]; exact h.lt, fun k r hr => ?_⟩
  have := h.cells k r hr
  unfold World.cell? at this ⊢
  rw [hh]; exact this
structure LevS (w : World) (b bt bp : Nat) (p : Int) (w' : World) : Prop where
  tab : TabAt w' b 0 At.tabP
  ct : w'.cell? ⟨bt, 0, none⟩ = some (.slice (some ⟨b, 0, none⟩) 14 14)
  cp : w'.cell? ⟨bp, 0, none⟩ = some (.int .i64 p)
  lt : bt < w'.heap.size
  lp : bp < w'.heap.size
  bel : Below w.heap.size w w'
theorem LevS.drew {w : World} {b bt bp : Nat} {p : Int} {w' : World} (h : LevS w b bt bp p w') : LevS w b bt bp p w'.drew := ⟨tabAt_of h.tab rfl, h.ct, h.cp, h.lt, h.lp, h.bel.drew⟩
theorem LevS.drewN {w : World} {b bt bp : Nat} {p : Int} {w' : World} (h : LevS w b bt bp p w') (n : Nat) : LevS w b bt bp p (w'.drewN n) := ⟨tabAt_of h.tab rfl, h.ct, h.cp, h.lt, h.lp, below_drewN h.bel n⟩
theorem LevS.below {w : World} {b bt bp : Nat} {p : Int} {w' w2 : World} (h : LevS w b bt bp p w') (hb : Below w'.heap.size w' w2) : LevS w b bt bp p w2 :=
  ⟨h.tab.below hb, (hb.cell (p := ⟨bt, 0, none⟩) h.lt).trans h.ct, (hb.cell (p := ⟨bp, 0, none⟩) h.lp).trans h.cp, Nat.lt_of_lt_of_le h.lt hb.size, Nat.lt_of_lt_of_le h.lp hb.size, h.bel.trans (hb.mono h.bel.size)⟩

set_option maxRecDepth 100000 in
set_option maxHeartbeats 2000000 in
theorem lev1_any (i p : Int) (b bt bp : Nat) (w : World) (h0 : 0 ≤ i) (h1 : i ≤ 6200000) (hS : LevS w b bt bp p w) :
    Calls Try.prog 25 #[.int .i64 i, .pointer (some ⟨bt, 0, none⟩), .pointer (some ⟨bp, 0, none⟩)] w fun e w' => e = .returned (.bool (decide (At.vP (-200000 + i) ≤ p))) ∧ Below w.heap.size w w' := by
  have HV := Lib.hid (fun (W : World) (hT : TabAt W b 0 At.tabP) => value_any b 0 14 14 At.tabP (-200000 + i) W rfl okP hT (by omega) (by omega))
  have ct := hS.ct
  have cp := hS.cp
  go_enter Try.func25, Try.ntmps25
  go_wp2_with fail
  have hT := Lib.hid hS.tab
  have lt := hS.lt
  have lp := hS.lp
  have hw : IntKind.i64.wrap (-200000 + i) = -200000 + i := IntWalk.i64_in _ (by omega)
  go_region_held3 (fun w' => w'.cell? ⟨bt, 0, none⟩ = some (.slice (some ⟨b, 0, none⟩) 14 14) ∧ w'.cell? ⟨bp, 0, none⟩ = some (.int .i64 p)) (go_keep)
    ((go_at_call 21; refine (HV.out _ ?_).mono ?_; exact tabAt_of hT.out rfl; rintro e w2 ⟨rfl, hB2⟩; have ct2 : w2.cell? ⟨bt, 0, none⟩ = some (.slice (some ⟨b, 0, none⟩) 14 14) := (hB2.cell (p := ⟨bt, 0, none⟩) lt).trans ct; have cp2 : w2.cell? ⟨bp, 0, none⟩ = some (.int .i64 p) := (hB2.cell (p := ⟨bp, 0, none⟩) lp).trans cp))
  go_wp2_with fail
  go_ret
  exact ⟨by rw [← At.tv_P]; rfl, ((Below.refl _ w).drew).trans hB2⟩

/-- what the search hands back -/
def SPost (pr : Int → Prop) (N : Nat) (w : World) (e : Ending) (w' : World) : Prop := ∃ k : Nat, e = .returned (.int .i64 k) ∧ k ≤ N ∧ (k = N ∨ pr k) ∧ (k = 0 ∨ ¬ pr ((k : Int) - 1)) ∧ Below w.heap.size w w'
def SRelL (pr : Int → Prop) (N : Nat) (w : World) (vi vj : Value) (w' : World) : Prop :=
  ∃ i j : Nat, vi = .int .i64 i ∧ vj = .int .i64 j ∧ i ≤ j ∧ j ≤ N ∧ (j = N ∨ pr j) ∧ (i = 0 ∨ ¬ pr ((i : Int) - 1)) ∧ Below w.heap.size w w'

set_option maxRecDepth 100000 in
set_option maxHeartbeats 2000000 in
theorem search_any (pr : Int → Prop) [DecidablePred pr] (N : Nat) (hN : N ≤ 1000000000) (g : FuncId) (lb : Array Value) (w : World)
    (eg : ∀ args w, (callFunc g args).run Try.prog w = .ok (.enter g args) w)
    (hf : ∀ (W : World) (i : Nat), i < N → Below w.heap.size w W → Calls Try.prog g (#[.int .i64 i] ++ lb) W fun e w' => e = .returned (.bool (decide (pr i))) ∧ Below W.heap.size W w') :
    Calls Try.prog 24 #[.int .i64 N, .func (.func g) #[] lb] w (SPost pr N w) := by
  have HF := Lib.hid hf
  clear hf
  go_enter Try.func24, Try.ntmps24
  go_wp2_with fail
  go_loopw [5, 6] (fun vi vj wr => SRelL pr N w vi vj wr) (fun vi vj _ => (intOf vj).toNat - (intOf vi).toNat)
  case atStart => exact ⟨0, N, rfl, rfl, Nat.zero_le _, Nat.le_refl _, .inl rfl, .inl rfl, Below.refl _ _⟩
  case round =>
    obtain ⟨i, j, rfl, rfl, hij, hjN, h1, h2, hB⟩ := hrel
    have H1 := Lib.hid h1
    have H2 := Lib.hid h2
    have HB := Lib.hid hB
    clear h1 h2 hB
    by_cases hlt : (i : Int) < j
    · have hm : ((i : Int) + j) / 2 = (((i + j) / 2 : Nat) : Int) := by omega
      have m1 : i ≤ (i + j) / 2 := by omega
      have m2 : (i + j) / 2 < j := by omega
      generalize (i + j) / 2 = m at *
      by_cases hp : pr (m : Int)
      · have hd : decide (pr (m : Int)) = true := decide_eq_true hp
        have HP := Lib.hid hp
        have HM := Lib.hid hm
        clear hp hm
        go_wp2_with fail
        rw [HM.out]
        refine (HF.out wr m (by omega) HB.out).mono ?_; rintro e w2 ⟨rfl, hB2⟩
        go_wp2_with fail
        go_roundw
        case rel => exact ⟨i, m, rfl, rfl, m1, by omega, .inr HP.out, H2.out, HB.out.trans (hB2.mono HB.out.size)⟩
        case measure => simp only [intOf, HM.out]; omega
      · have hd : decide (pr (m : Int)) = false := decide_eq_false hp
        have HP := Lib.hid hp
        have HM := Lib.hid hm
        clear hp hm
        go_wp2_with fail
        rw [HM.out]
        refine (HF.out wr m (by omega) HB.out).mono ?_; rintro e w2 ⟨rfl, hB2⟩
        go_wp2_with fail
        go_roundw
        case rel => exact ⟨m + 1, j, by (try rw [HM.out]); rfl, rfl, by omega, hjN, H1.out, .inr (by rw [show ((m + 1 : Nat) : Int) - 1 = m from by omega]; exact HP.out), HB.out.trans (hB2.mono HB.out.size)⟩
        case measure => simp only [intOf, HM.out]; omega
    · have hij' : i = j := by omega
      have HIJ := Lib.hid hij'
      clear hij'
      go_wp2_with fail
      go_ret
      exact ⟨i, rfl, by omega, by rw [HIJ.out]; exact H1.out, H2.out, HB.out⟩
theorem search_lev (p : Int) (b bt bp : Nat) (W : World) (nq : Nat) (hp : 70800 ≤ p) (hS : LevS W b bt bp p W) :
    Calls Try.prog 24 #[.int .i64 6200000, .func (.func 25) #[] #[.pointer (some ⟨bt, 0, none⟩), .pointer (some ⟨bp, 0, none⟩)]] (W.drewN nq) (SPost (fun i => At.vP (-200000 + i) ≤ p) 6200000 (W.drewN nq)) :=
  search_any (fun i => At.vP (-200000 + i) ≤ p) 6200000 (by decide) 25 #[.pointer (some ⟨bt, 0, none⟩), .pointer (some ⟨bp, 0, none⟩)] (W.drewN nq) (enters_of Try.func25 (by kernel_rfl) rfl)
    (fun W' i hi hB => by
      have s := (hS.drewN nq).below hB
      exact lev1_any i p b bt bp W' (by omega) (by omega) ⟨s.tab, s.ct, s.cp, s.lt, s.lp, Below.refl _ _⟩)
theorem levP_of (p : Int) (k : Nat) (hp : 70800 ≤ p) (hk : k ≤ 6200000) (h1 : k = 6200000 ∨ At.vP (-200000 + (k : Int)) ≤ p) (h2 : k = 0 ∨ ¬ At.vP (-200000 + ((k : Int) - 1)) ≤ p) : At.LevP p (-200000 + k) := by
  refine ⟨by omega, by omega, ?_, ?_⟩
  · rcases h1 with h | h
    · subst h
      have e : At.vP (-200000 + ((6200000 : Nat) : Int)) = 70800 := by decide
      rw [e]; exact hp
    · exact h
  · rcases h2 with h | h
    · subst h; exact .inl rfl
    · right
      rw [show -200000 + (k : Int) - 1 = -200000 + ((k : Int) - 1) from by omega]
      omega
def levPost (p : Int) (w : World) (e : Ending) (w' : World) : Prop :=
  (p < 70800 → e = .returned (.tuple #[.int .i64 0, .int .i64 2])) ∧ (¬ p < 70800 → ∃ L, e = .returned (.tuple #[.int .i64 L, .int .i64 0]) ∧ At.LevP p L) ∧ Below w.heap.size w w'

set_option maxRecDepth 100000 in
set_option maxHeartbeats 2000000 in
theorem level_any (p : Int) (hp : I64 p) (w : World) : Calls Try.prog 12 #[.int .i64 p] w (levPost p w) := by
  obtain ⟨p0, p1⟩ := hp
  go_enter Try.func12, Try.ntmps12
  go_wp2_with fail
  refine (tabP_any _).mono ?_; rintro e w1 ⟨b, rfl, hT, hB⟩
  have cp1 : w1.cell? ⟨w.heap.size, 0, none⟩ = some (.int .i64 p) := (hB.cell (p := ⟨w.heap.size, 0, none⟩) (by simp)).trans (by simp [World.cell?_alloc_new])
  have hsz : w.heap.size < w1.heap.size := by have := hB.size; simp at this; omega
  have hb := hT.lt
  have cl : w1.cell? ⟨b, 0 + 13 * 2 + 1, none⟩ = some (.int .i64 70800) := (hT.cells 13 (60000, 70800) rfl).2
  go_wp2_with fail
  have hl : w1.heap.size < (w1.alloc (.cells #[.slice (some ⟨b, 0, none⟩) 14 14] 33)).heap.size := by simp
  have c1 : (w1.alloc (.cells #[.slice (some ⟨b, 0, none⟩) 14 14] 33)).cell? ⟨w1.heap.size, 0, none⟩ = some (.slice (some ⟨b, 0, none⟩) 14 14) := by simp [World.cell?_alloc_new]
  have c2 : (w1.alloc (.cells #[.slice (some ⟨b, 0, none⟩) 14 14] 33)).cell? ⟨w.heap.size, 0, none⟩ = some (.int .i64 p) := (World.cell?_alloc_lt w1 _ ⟨w.heap.size, 0, none⟩ hsz).trans cp1
  have c3 : (w1.alloc (.cells #[.slice (some ⟨b, 0, none⟩) 14 14] 33)).cell? ⟨b, 27, none⟩ = some (.int .i64 70800) := (World.cell?_alloc_lt w1 _ ⟨b, 27, none⟩ hb).trans cl
  have hTW : TabAt (w1.alloc (.cells #[.slice (some ⟨b, 0, none⟩) 14 14] 33)) b 0 At.tabP := hT.below ((Below.refl _ _).alloc (Nat.le_refl _) _)
  have hBW : Below w.heap.size w (w1.alloc (.cells #[.slice (some ⟨b, 0, none⟩) 14 14] 33)) := by
    have h1 : Below w.heap.size w w1 := ((Below.refl _ w).alloc (Nat.le_refl _) _).trans (hB.mono (by simp))
    exact h1.alloc h1.size _
  have hl2 : w.heap.size < (w1.alloc (.cells #[.slice (some ⟨b, 0, none⟩) 14 14] 33)).heap.size := Nat.lt_trans hsz hl
  generalize w1.alloc (.cells #[.slice (some ⟨b, 0, none⟩) 14 14] 33) = W at *
  generalize w1.heap.size = bt at *
  have HB := Lib.hid hBW
  have HT := Lib.hid hTW
  have hS : Hid (LevS W b bt w.heap.size p W) := Lib.hid ⟨hTW, c1, c2, hl, hl2, Below.refl _ _⟩
  clear hB hT cl cp1 hsz hb hBW hTW
  by_cases hlow : p < 70800
  · go_wp2_with fail
    go_quiet (fail)
    go_wp2_with fail
    go_ret2
    exact ⟨fun _ => rfl, fun h => absurd hlow h, below_drewN HB.out _⟩
  · go_wp2_with fail
    go_quiet (fail)
    go_wp2_with fail
    refine (search_lev p b bt w.heap.size W nq (by omega) hS.out).mono ?_; rintro e w3 ⟨k, rfl, hk, h1, h2, hB3⟩
    have hL := Lib.hid (levP_of p k (by omega) hk h1 h2)
    have hk2 : (k : Int) ≤ 6200000 := by omega
    clear h1 h2
    go_wp2_with fail
    go_ret2
    exact ⟨fun h => (by exfalso; omega), fun _ => ⟨_, rfl, hL.out⟩, (below_drewN HB.out nq).trans (hB3.mono (below_drewN HB.out nq).size)⟩
end Go.Proofs.Ytiddcmlnofdemaa
