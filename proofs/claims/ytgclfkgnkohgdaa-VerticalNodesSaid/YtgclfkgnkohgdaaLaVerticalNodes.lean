/- The statement VerticalNodes: for every input the law returns true, and every argument reads afterwards as before. No condition. -/
import Derived.Test.YtgclfkgnkohgdaaRows
import Derived.Test.YtgclfkgnkohgdaaLaBase51
import Derived.Test.YtgclfkgnkohgdaaOpenP
import Derived.SizedLaws
import Derived.WalkKit
import Derived.ProofKit
import Derived.OpenShut
import Derived.ShutString
import Derived.ChangeOld
import Derived.Below
namespace Go.Proofs.Ytgclfkgnkohgdaa
set_option linter.unusedSimpArgs false
set_option linter.unusedVariables false
open Go.RowKit
theorem ret_tt {b : Bool} (h : b = true) : Ending.returned (.bool b) = .returned (.bool true) := by rw [h]
def NdRel (d : List Int) (i0 : Nat) (s t : Value) : Prop := ∃ k : Nat, k ≤ i0 ∧ t = .int .i64 k ∧ s = .int .i64 (d.take k).sum
def NdRel2 (d : List Int) (i0 m : Nat) (S : Int) (t : Value) : Prop := ∃ k : Nat, i0 ≤ k ∧ k ≤ m ∧ t = .int .i64 k ∧ (d.take k).sum = S
/-- at a node's distance the value is the last such node's -/
theorem bw_node {v d : List Int} {k : Nat} {a s : Int} (h : Pf.chE v d = 0) (hk : k ≤ d.length) (ha : v[k]? = some a) (hs : (d.take k).sum = s) (hn : ∀ x, d[k]? = some x → x ≠ 0) : Pf.bwE v d s = 0 ∧ Pf.bwV v d s = a := by
  have hok := Pf.chOk_of h
  have h1 := Pf.sum_take_le hok.ds k
  have h2 := Pf.bwE_in (s := s) h (by omega) (by omega)
  refine ⟨h2.1, h2.2.trans (Pf.btw_at hok hk ha hs fun x hx => ?_)⟩
  have h3 := hok.ds x (List.mem_of_getElem? hx)
  have h4 := hn x hx
  unfold Pf.okD at h3
  omega
set_option maxRecDepth 100000 in
set_option maxHeartbeats 4000000 in
theorem walk_VerticalNodes (A : Option Addr) (n c : Nat) (ps : List Pass) (x y z : Value) (D : Option Addr) (m cm : Nat) (d : List Int) (nd : Int) (w : World) (hp : Passes w A n ps) (hpw : ∀ q ∈ ps, Pass.wf q) (hps : n * 104 ≤ reachBytes)
    (hd : Ints w D m d) (hdw : ∀ x ∈ d, (Lit.int .i64 x).wf = true) (hm : m ≤ maxLen) (hm8 : m * 8 ≤ reachBytes) (wn : (Lit.int .i64 nd).wf = true) :
    Calls Try.prog 9 #[.agg #[.slice A n c, x, y, z], .slice D m cm, .int .i64 nd] w fun e w' => e = .returned (.bool true) ∧ Below w.heap.size w w' := by
  have hn : n * 8 ≤ 140737488355328 := by unfold reachBytes at hps; omega
  have hnd := wf_i64_bd wn
  obtain ⟨nd0, nd1⟩ := hnd
  have I0 := Lib.hid (show I64 0 from ⟨by decide, by decide⟩)
  have HP := Lib.hid hp
  have HD := Lib.hid hd
  have HLP := Lib.hid hp.len
  have HLD := Lib.hid hd.len
  have hmm : m ≤ 9223372036854775807 := by unfold maxLen at hm; omega
  clear hp hpw hps hd hdw hm8 wn
  by_cases he : Pf.bwE (ps.map Pass.alt) d 0 = 0
  · have hch : Pf.chE (ps.map Pass.alt) d = 0 := by
      rcases Pf.chE_cases (ps.map Pass.alt) d with h | h | h | h
      · exact h
      all_goals (exfalso; have := (Pf.bwE_ch (s := 0) (show Pf.chE (ps.map Pass.alt) d ≠ 0 by omega)).1; omega)
    have hok := Pf.chOk_of hch
    have l1 := hok.len
    have l2 := hok.two
    rw [List.length_map] at l1 l2
    have hn0 : 0 < n := by have := HLP.out; omega
    have hn64 : n ≤ 64 := by have := HLP.out; omega
    have hnm := Lib.hid (show n = m + 1 by have := HLP.out; have := HLD.out; omega)
    have tb := tmod_bounds nd n (by omega)
    obtain ⟨tb0, tb1⟩ := tb
    have hne : ((n : Int) == 0) = false := beq_eq_false_iff_ne.2 (by omega)
    have hi := Int.emod_nonneg (nd.tmod n) (show (n : Int) ≠ 0 by omega)
    have hi2 := Int.emod_lt_of_pos (nd.tmod n) (show (0 : Int) < n by omega)
    obtain ⟨i0, hi0⟩ : ∃ i0 : Nat, (nd.tmod n) % n = (i0 : Int) := ⟨((nd.tmod n) % n).toNat, by omega⟩
    have hi0n : i0 < n := by omega
    have HI0 := Lib.hid (show (nd.tmod n + n) % n = (i0 : Int) by rw [Int.add_emod_right]; exact hi0)
    clear hi hi2 hi0
    have HCH := Lib.hid hch
    have HOK := Lib.hid hok
    have HE := Lib.hid he
    obtain ⟨bp, op, rfl, hbp, hcp⟩ := HP.out.cells hn0
    have HCP0 := Lib.hid hcp
    clear hch hok he l1 l2 hcp
    go_enter Try.func9, Try.ntmps9
    go_wp2_with fail
    refine (awake_any _).mono ?_; rintro e w1 ⟨rfl, hbx⟩
    have k0 : w1.cell? ⟨w.heap.size, 0, none⟩ = some (.slice (some ⟨bp, op, none⟩) n c) := (hbx.cell (p := ⟨w.heap.size, 0, none⟩) (by simp)).trans (one_box w _ _ 0)
    have k1 : w1.cell? ⟨w.heap.size, 1, none⟩ = some (x) := (hbx.cell (p := ⟨w.heap.size, 1, none⟩) (by simp)).trans (one_box w _ _ 1)
    have k2 : w1.cell? ⟨w.heap.size, 2, none⟩ = some (y) := (hbx.cell (p := ⟨w.heap.size, 2, none⟩) (by simp)).trans (one_box w _ _ 2)
    have k3 : w1.cell? ⟨w.heap.size, 3, none⟩ = some (z) := (hbx.cell (p := ⟨w.heap.size, 3, none⟩) (by simp)).trans (one_box w _ _ 3)
    have hlt : w.heap.size < w1.heap.size := by have := hbx.size; simp at this; omega
    have HW := Lib.hid (bel_alloc hbx)
    clear hbx
    go_wp2_with fail
    refine (xTarget _ _ n c m cm ps d 0 x y z w1 (HP.out.below HW.out) (HD.out.below HW.out) hn hm I0.out).mono ?_; rintro e w2 ⟨rfl, hbx⟩
    replace k0 : w2.cell? ⟨w.heap.size, 0, none⟩ = some (.slice (some ⟨bp, op, none⟩) n c) := (hbx.cell (p := ⟨w.heap.size, 0, none⟩) hlt).trans k0
    replace k1 : w2.cell? ⟨w.heap.size, 1, none⟩ = some (x) := (hbx.cell (p := ⟨w.heap.size, 1, none⟩) hlt).trans k1
    replace k2 : w2.cell? ⟨w.heap.size, 2, none⟩ = some (y) := (hbx.cell (p := ⟨w.heap.size, 2, none⟩) hlt).trans k2
    replace k3 : w2.cell? ⟨w.heap.size, 3, none⟩ = some (z) := (hbx.cell (p := ⟨w.heap.size, 3, none⟩) hlt).trans k3
    replace hlt : w.heap.size < w2.heap.size := Nat.lt_of_lt_of_le hlt hbx.size
    replace HW := Lib.hid (bel_trans HW.out hbx)
    clear hbx
    rw [HE.out]
    go_wp2_with fail
    rw [HI0.out]
    clear tb0 tb1 nd0 nd1
    obtain ⟨S, hS⟩ : ∃ S, (d.take i0).sum = S := ⟨_, rfl⟩
    have HS := Lib.hid hS
    have hSb := Pf.sum_take_le HOK.out.ds i0
    rw [hS] at hSb
    obtain ⟨hS0, hS1, _⟩ := hSb
    clear hS
    go_loop [11, 44] (fun s t => NdRel d i0 s t) (fun _ t => i0 - (intOf t).toNat)
    case atStart => exact ⟨0, by omega, rfl, by simp⟩
    case round =>
      obtain ⟨k, hk, rfl, rfl⟩ := hrel
      have hsb := Pf.sum_take_le HOK.out.ds k
      by_cases hlt2 : k < i0
      · have hkm : k < m := by have := hnm.out; omega
        obtain ⟨X, hx⟩ := get_ex HLD.out hkm
        obtain ⟨bd, od, hDD, hbd, hcd⟩ := (HD.out.below HW.out).cells (by omega)
        have hcell := hcd k X hx
        have hss := Lib.hid (Pf.take_sum_succ hx)
        have hxo := HOK.out.ds X (List.mem_of_getElem? hx)
        obtain ⟨x0, x1⟩ := hxo
        obtain ⟨sb0, sb1, _⟩ := hsb
        subst hDD
        generalize (d.take k).sum = T at *
        clear hx hcd
        go_wp2_with fail
        go_round
        case rel => exact ⟨k + 1, by omega, by go_num, by rw [hss.out]⟩
        case measure => simp only [intOf]; omega
      · have hki : k = i0 := by omega
        subst hki
        rw [HS.out]
        clear hsb
        go_wp2_with fail
        go_loop [10] (fun t => NdRel2 d k m S t) (fun t => m - (intOf t).toNat)
        case atStart => exact ⟨k, Nat.le_refl _, by have := hnm.out; omega, rfl, HS.out⟩
        case round =>
          obtain ⟨i, hi1, hi2, rfl, hi3⟩ := hrel
          have HI3 := Lib.hid hi3
          clear hi3
          have hw1 : IntKind.i64.wrap ((n : Int) - 1) = (m : Int) := by rw [show (n : Int) - 1 = m from by have := hnm.out; omega]; exact IntWalk.i64_in _ (by omega)
          have hin : i < n := by have := hnm.out; omega
          by_cases hgo : i < m ∧ d[i]? = some 0
          · obtain ⟨g1, g2⟩ := hgo
            obtain ⟨bd, od, hDD, hbd, hcd⟩ := (HD.out.below HW.out).cells (by omega)
            have hcell := hcd i 0 g2
            have hss := Lib.hid (Pf.take_sum_succ g2)
            subst hDD
            clear g2 hcd
            have hm1 : (m : Int) = (n : Int) - 1 := by have := hnm.out; omega
            have HM1 := Lib.hid hm1
            clear hm1
            go_wp2_with fail
            go_round
            case rel => exact ⟨i + 1, by omega, by omega, by go_num, by rw [hss.out, HI3.out]; omega⟩
            case measure => simp only [intOf]; omega
          · obtain ⟨q, hq⟩ := get_ex HLP.out hin
            have hnz : ∀ X, d[i]? = some X → X ≠ 0 := fun X hX h0 => hgo ⟨by rw [← HLD.out]; exact (List.getElem?_eq_some_iff.1 hX).1, by rw [hX, h0]⟩
            have hqa : (ps.map Pass.alt)[i]? = some q.alt := by rw [List.getElem?_map, hq]; rfl
            have hqc : (ps.map Pass.cas)[i]? = some q.cas := by rw [List.getElem?_map, hq]; rfl
            have hT := bw_node HCH.out (by have := HLD.out; omega) hqa HI3.out hnz
            have HT := Lib.hid hT
            have IS := Lib.hid (show I64 S from ⟨by omega, by omega⟩)
            have HC := Lib.hid (fun hc => (bw_node hc (by have := HLD.out; omega) hqc HI3.out hnz).2)
            have HCP := Lib.hid (HCP0.out i q hq)
            have hbw : ∀ W, Below w.heap.size w W → W.cell? ⟨bp, op + i * 13, none⟩ = some (.int .i64 q.alt) ∧ W.cell? ⟨bp, op + i * 13 + 1, none⟩ = some (.int .i64 q.cas) := fun W hB =>
              ⟨(hB.cell (p := ⟨bp, op + i * 13, none⟩) hbp).trans (HCP.out 0 _ rfl), (hB.cell (p := ⟨bp, op + i * 13 + 1, none⟩) hbp).trans (HCP.out 1 _ rfl)⟩
            have HBW := Lib.hid hbw
            clear hq hqa hqc hT hbw
            have stop : i = m ∨ (i < m ∧ ∃ X, d[i]? = some X ∧ (X == 0) = false) := by
              rcases Nat.lt_or_ge i m with h | h
              · right
                obtain ⟨X, hX⟩ := get_ex HLD.out h
                exact ⟨h, X, hX, beq_eq_false_iff_ne.2 (hnz X hX)⟩
              · left; omega
            clear hgo hnz
            have fin : ∀ W : World, True := fun _ => trivial
            rcases stop with hst | ⟨hst, X, hX, hX0⟩
            · have hst2 : ¬ (i : Int) < m := by omega
              have HST := Lib.hid hst
              clear hst fin
              go_wp2_with fail
              refine (xTarget _ _ n c m cm ps d S x y z w2 (HP.out.below HW.out) (HD.out.below HW.out) hn hm IS.out).mono ?_; rintro e w3 ⟨rfl, hbx⟩
              replace k0 : w3.cell? ⟨w.heap.size, 0, none⟩ = some (.slice (some ⟨bp, op, none⟩) n c) := (hbx.cell (p := ⟨w.heap.size, 0, none⟩) hlt).trans k0
              replace k1 : w3.cell? ⟨w.heap.size, 1, none⟩ = some (x) := (hbx.cell (p := ⟨w.heap.size, 1, none⟩) hlt).trans k1
              replace k2 : w3.cell? ⟨w.heap.size, 2, none⟩ = some (y) := (hbx.cell (p := ⟨w.heap.size, 2, none⟩) hlt).trans k2
              replace k3 : w3.cell? ⟨w.heap.size, 3, none⟩ = some (z) := (hbx.cell (p := ⟨w.heap.size, 3, none⟩) hlt).trans k3
              replace hlt : w.heap.size < w3.heap.size := Nat.lt_of_lt_of_le hlt hbx.size
              replace HW := Lib.hid (bel_trans HW.out hbx)
              clear hbx
              rw [HT.out.1, HT.out.2]
              go_wp2_with fail
              refine (xSpeed _ _ n c m cm ps d S x y z w3 (HP.out.below HW.out) (HD.out.below HW.out) hn hm IS.out).mono ?_; rintro e w4 ⟨rfl, hbx⟩
              replace k0 : w4.cell? ⟨w.heap.size, 0, none⟩ = some (.slice (some ⟨bp, op, none⟩) n c) := (hbx.cell (p := ⟨w.heap.size, 0, none⟩) hlt).trans k0
              replace k1 : w4.cell? ⟨w.heap.size, 1, none⟩ = some (x) := (hbx.cell (p := ⟨w.heap.size, 1, none⟩) hlt).trans k1
              replace k2 : w4.cell? ⟨w.heap.size, 2, none⟩ = some (y) := (hbx.cell (p := ⟨w.heap.size, 2, none⟩) hlt).trans k2
              replace k3 : w4.cell? ⟨w.heap.size, 3, none⟩ = some (z) := (hbx.cell (p := ⟨w.heap.size, 3, none⟩) hlt).trans k3
              replace hlt : w.heap.size < w4.heap.size := Nat.lt_of_lt_of_le hlt hbx.size
              replace HW := Lib.hid (bel_trans HW.out hbx)
              clear hbx
              obtain ⟨ca, cc⟩ := HBW.out w4 HW.out
              have HW4 := Lib.hid HW.out
              by_cases hc : Pf.chE (ps.map Pass.cas) d = 0
              · have hcv := HC.out hc
                have hce : Pf.bwE (ps.map Pass.cas) d S = 0 ∨ (Pf.bwE (ps.map Pass.cas) d S != 0) = true := by
                  by_cases h : Pf.bwE (ps.map Pass.cas) d S = 0
                  · exact .inl h
                  · right; rw [bne_iff_ne]; exact h
                rw [hcv]
                clear hcv hc
                generalize Pf.bwE (ps.map Pass.cas) d S = E at *
                rcases hce with h0 | h0
                · subst h0
                  go_wp2_with fail
                  go_ret
                  exact ⟨ret_tt (by simp), HW4.out⟩
                · go_wp2_with fail
                  go_ret
                  exact ⟨ret_tt (by simp [h0]), HW4.out⟩
              · have hce : (Pf.bwE (ps.map Pass.cas) d S != 0) = true := by rw [bne_iff_ne, (Pf.bwE_ch hc).1]; exact hc
                clear hc
                generalize Pf.bwE (ps.map Pass.cas) d S = E at *
                generalize Pf.bwV (ps.map Pass.cas) d S = V at *
                go_wp2_with fail
                go_ret
                exact ⟨ret_tt (by simp [hce]), HW4.out⟩
            · obtain ⟨bd, od, hDD, hbd, hcd⟩ := (HD.out.below HW.out).cells (by omega)
              have hcell := hcd i X hX
              have HDE := Lib.hid hDD
              clear hX hcd hDD fin
              obtain rfl := HDE.out
              go_wp2_with fail
              refine (xTarget _ _ n c m cm ps d S x y z w2 (HP.out.below HW.out) (HD.out.below HW.out) hn hm IS.out).mono ?_; rintro e w3 ⟨rfl, hbx⟩
              replace k0 : w3.cell? ⟨w.heap.size, 0, none⟩ = some (.slice (some ⟨bp, op, none⟩) n c) := (hbx.cell (p := ⟨w.heap.size, 0, none⟩) hlt).trans k0
              replace k1 : w3.cell? ⟨w.heap.size, 1, none⟩ = some (x) := (hbx.cell (p := ⟨w.heap.size, 1, none⟩) hlt).trans k1
              replace k2 : w3.cell? ⟨w.heap.size, 2, none⟩ = some (y) := (hbx.cell (p := ⟨w.heap.size, 2, none⟩) hlt).trans k2
              replace k3 : w3.cell? ⟨w.heap.size, 3, none⟩ = some (z) := (hbx.cell (p := ⟨w.heap.size, 3, none⟩) hlt).trans k3
              replace hlt : w.heap.size < w3.heap.size := Nat.lt_of_lt_of_le hlt hbx.size
              replace HW := Lib.hid (bel_trans HW.out hbx)
              clear hbx
              rw [HT.out.1, HT.out.2]
              go_wp2_with fail
              refine (xSpeed _ _ n c m cm ps d S x y z w3 (HP.out.below HW.out) (HD.out.below HW.out) hn hm IS.out).mono ?_; rintro e w4 ⟨rfl, hbx⟩
              replace k0 : w4.cell? ⟨w.heap.size, 0, none⟩ = some (.slice (some ⟨bp, op, none⟩) n c) := (hbx.cell (p := ⟨w.heap.size, 0, none⟩) hlt).trans k0
              replace k1 : w4.cell? ⟨w.heap.size, 1, none⟩ = some (x) := (hbx.cell (p := ⟨w.heap.size, 1, none⟩) hlt).trans k1
              replace k2 : w4.cell? ⟨w.heap.size, 2, none⟩ = some (y) := (hbx.cell (p := ⟨w.heap.size, 2, none⟩) hlt).trans k2
              replace k3 : w4.cell? ⟨w.heap.size, 3, none⟩ = some (z) := (hbx.cell (p := ⟨w.heap.size, 3, none⟩) hlt).trans k3
              replace hlt : w.heap.size < w4.heap.size := Nat.lt_of_lt_of_le hlt hbx.size
              replace HW := Lib.hid (bel_trans HW.out hbx)
              clear hbx
              obtain ⟨ca, cc⟩ := HBW.out w4 HW.out
              have HW4 := Lib.hid HW.out
              by_cases hc : Pf.chE (ps.map Pass.cas) d = 0
              · have hcv := HC.out hc
                have hce : Pf.bwE (ps.map Pass.cas) d S = 0 ∨ (Pf.bwE (ps.map Pass.cas) d S != 0) = true := by
                  by_cases h : Pf.bwE (ps.map Pass.cas) d S = 0
                  · exact .inl h
                  · right; rw [bne_iff_ne]; exact h
                rw [hcv]
                clear hcv hc
                generalize Pf.bwE (ps.map Pass.cas) d S = E at *
                rcases hce with h0 | h0
                · subst h0
                  go_wp2_with fail
                  go_ret
                  exact ⟨ret_tt (by simp), HW4.out⟩
                · go_wp2_with fail
                  go_ret
                  exact ⟨ret_tt (by simp [h0]), HW4.out⟩
              · have hce : (Pf.bwE (ps.map Pass.cas) d S != 0) = true := by rw [bne_iff_ne, (Pf.bwE_ch hc).1]; exact hc
                clear hc
                generalize Pf.bwE (ps.map Pass.cas) d S = E at *
                generalize Pf.bwV (ps.map Pass.cas) d S = V at *
                go_wp2_with fail
                go_ret
                exact ⟨ret_tt (by simp [hce]), HW4.out⟩
  · have hne : (Pf.bwE (ps.map Pass.alt) d 0 != 0) = true := by rw [bne_iff_ne]; exact he
    clear he
    go_enter Try.func9, Try.ntmps9
    go_wp2_with fail
    refine (awake_any _).mono ?_; rintro e w1 ⟨rfl, hbx⟩
    have k0 : w1.cell? ⟨w.heap.size, 0, none⟩ = some (.slice A n c) := (hbx.cell (p := ⟨w.heap.size, 0, none⟩) (by simp)).trans (one_box w _ _ 0)
    have k1 : w1.cell? ⟨w.heap.size, 1, none⟩ = some (x) := (hbx.cell (p := ⟨w.heap.size, 1, none⟩) (by simp)).trans (one_box w _ _ 1)
    have k2 : w1.cell? ⟨w.heap.size, 2, none⟩ = some (y) := (hbx.cell (p := ⟨w.heap.size, 2, none⟩) (by simp)).trans (one_box w _ _ 2)
    have k3 : w1.cell? ⟨w.heap.size, 3, none⟩ = some (z) := (hbx.cell (p := ⟨w.heap.size, 3, none⟩) (by simp)).trans (one_box w _ _ 3)
    have hlt : w.heap.size < w1.heap.size := by have := hbx.size; simp at this; omega
    have HW := Lib.hid (bel_alloc hbx)
    clear hbx
    go_wp2_with fail
    refine (xTarget _ _ n c m cm ps d 0 x y z w1 (HP.out.below HW.out) (HD.out.below HW.out) hn hm I0.out).mono ?_; rintro e w2 ⟨rfl, hbx⟩
    replace k0 : w2.cell? ⟨w.heap.size, 0, none⟩ = some (.slice A n c) := (hbx.cell (p := ⟨w.heap.size, 0, none⟩) hlt).trans k0
    replace k1 : w2.cell? ⟨w.heap.size, 1, none⟩ = some (x) := (hbx.cell (p := ⟨w.heap.size, 1, none⟩) hlt).trans k1
    replace k2 : w2.cell? ⟨w.heap.size, 2, none⟩ = some (y) := (hbx.cell (p := ⟨w.heap.size, 2, none⟩) hlt).trans k2
    replace k3 : w2.cell? ⟨w.heap.size, 3, none⟩ = some (z) := (hbx.cell (p := ⟨w.heap.size, 3, none⟩) hlt).trans k3
    replace hlt : w.heap.size < w2.heap.size := Nat.lt_of_lt_of_le hlt hbx.size
    replace HW := Lib.hid (bel_trans HW.out hbx)
    clear hbx
    generalize Pf.bwV (ps.map Pass.alt) d 0 = V at *
    generalize Pf.bwE (ps.map Pass.alt) d 0 = E at *
    go_wp2_with fail
    go_ret
    exact ⟨ret_tt (by simp [hne]), HW.out⟩
end Go.Proofs.Ytgclfkgnkohgdaa
namespace Go.Proofs.Ytgclfkgnkohgdaa.verticalNodes
open Go.ChangeShapes Go.WideShapes Go.ChangeAt Go.RowKit
open Go.ChangeMaps (open_string shut_string)
set_option linter.unusedVariables false
set_option linter.unusedSimpArgs false

theorem own : ownKnob Try.prog.godebug = none := by kernel_rfl
theorem laidOut : laidOutB Try.prog = true := by kernel_rfl

set_option maxRecDepth 100000 in
theorem lifted (os : Os) (started : os.Started) (H : Type) (enc : TypeId × Value → H) :
    ReturnsInHanded {} Try.checked os 9 .any (Rows.verticalNodesSpec.pre6 enc Try.prog Try.f9 Rows.verticalNodesRow.domain false) (Rows.verticalNodesSpec.post enc Try.prog Try.f9 false true false false) := by
  refine returnsInHanded_of_change_sized (C := Try.checked) own started (by kernel_rfl) Try.func9
    (ChangeSpec.witness6 (enc := enc) (C := Try.checked) false ⟨#[], #[.agg #[.slice none 0 0, .int .i64 0, .int .i64 0, .bool false], .slice none 0 0, .int .i64 0], []⟩ 8 (by kernel_rfl) (by kernel_rfl) (by kernel_rfl) (by kernel_rfl)) ?_
  intro W base args ds gs before hval0 hW hcnd hsz0 _
  have hval : ∀ (j : Nat) t v, Try.f9.params[j]? = some t → args[j]? = some v → Value.okWide Try.prog W .any base t v := hval0
  have hW' := hW
  obtain ⟨p, q, hA0, hV, rfl, hfz, hnd⟩ := hW
  have hA : DataW.TrodAll enc Try.prog W 0 (fun _ => true) true Try.f9.params.toList args.toList ds p := hA0
  have hsz : (DataW.weightsEach Try.prog (Try.f9.params.toList ++ Rows.verticalNodesSpec.plain.varTypes Try.prog) (ds ++ gs)).all (· ≤ reachBytes) = true := hsz0
  rw [Try.params9] at hA hval hsz
  obtain ⟨v0, vs0, d0, ds0, p0, q0, hargs, rfl, rfl, h0, r0⟩ := trodAll_cons hA
  obtain ⟨v1, vs1, d1, ds1, p1, q1, rfl, rfl, rfl, h1, r1⟩ := trodAll_cons r0
  obtain ⟨v2, vs2, d2, ds2, p2, q2, rfl, rfl, rfl, h2, r2⟩ := trodAll_cons r1
  obtain ⟨rfl, rfl, rfl⟩ := trodAll_nil r2
  obtain rfl : args = #[v0, v1, v2] := by cases args; simp_all
  obtain ⟨rfl, rfl⟩ := trodVars_none hV
  have k0 := h0
  have lt0 : ∀ x ∈ p0, x.block < W.heap.size := by obtain ⟨m, hm⟩ := k0; exact DataW.trod_lt m _ _ _ hm
  have k1 := h1
  have lt1 : ∀ x ∈ p1, x.block < W.heap.size := by obtain ⟨m, hm⟩ := k1; exact DataW.trod_lt m _ _ _ hm
  have k2 := h2
  have lt2 : ∀ x ∈ p2, x.block < W.heap.size := by obtain ⟨m, hm⟩ := k2; exact DataW.trod_lt m _ _ _ hm
  obtain ⟨A0, n0, c0, z0, x0, y0, t0, rfl, w0, o0, u0⟩ := open_pred (hval 0 36 v0 rfl rfl) h0 (weights_arg hsz (j := 0) rfl rfl)
  obtain ⟨A1, n1, c1, z1, rfl, m1, _, w1, u1, o1⟩ := open_ints_Trod Try.underlying37 Try.underlying2 (by kernel_rfl) (hval 1 37 v1 rfl rfl) h1
  have o1' := o1 (weights_arg hsz (j := 1) rfl rfl)
  rw [show Try.prog.bytesOf 2 = 8 by kernel_rfl] at o1'
  obtain ⟨a2, rfl, rfl, rfl, w2⟩ := open_int Try.underlying3 (hval 2 3 v2 rfl rfl) h2
  clear hA0 hval0
  refine (Ytgclfkgnkohgdaa.walk_VerticalNodes A0 n0 c0 z0 x0 y0 t0 A1 n1 c1 z1 a2 W w0 u0 o0 w1 u1 m1 o1' w2).mono fun e W' ⟨he, bel⟩ => ?_
  subst he
  exact ⟨_, rfl, _, _, _, [], _, [], hW', trodAll_mk1 (shut_bool Try.underlying4 _), (trodAll_cons_mk (Below.trod laidOut (by kernel_rfl) (of_decide_eq_true (by kernel_rfl)) k0 bel lt0) (trodAll_cons_mk (Below.trod laidOut (by kernel_rfl) (of_decide_eq_true (by kernel_rfl)) k1 bel lt1) (trodAll_cons_mk (Below.trod laidOut (by kernel_rfl) (of_decide_eq_true (by kernel_rfl)) k2 bel lt2) trodAll_mk0))), rfl, bel.frame _, fun h => by cases h⟩

theorem over : Rows.verticalNodesRow.holds Try.pinned (OpenSpec.ofChange Rows.verticalNodesSpec) :=
  OpenClaim.holds_of_wide 9 Try.f9 rfl rfl rfl rfl rfl rfl rfl ⟨rfl, rfl, rfl, rfl, rfl⟩ rfl rfl rfl rfl rfl (by kernel_rfl) Try.func9 (by kernel_rfl)
    (of_decide_eq_true (by kernel_rfl)) (by unfold Func.isWrapper; first | (rw [if_pos (by decide +kernel)]; kernel_rfl) | (rw [if_neg (by decide +kernel)]; exact ⟨rfl, rfl⟩))
    (fun os started H enc _ => lifted os started H enc)

/-- the statement -/
theorem proved : Rows.VerticalNodesSaid := over
end Go.Proofs.Ytgclfkgnkohgdaa.verticalNodes
