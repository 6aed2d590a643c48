/- Layer 51: the contracts of Path and Steer, of the program and of the reference (printed by gen_path.py). -/
import Derived.Test.YtgclfkgnkohgdaaPas
namespace Go.Proofs.Ytgclfkgnkohgdaa
set_option linter.unusedSimpArgs false
set_option linter.unusedVariables false
open Go.RowKit

def PtRel (v d : List Int) (s0 g : Int) (m : Nat) (s t : Value) : Prop := ∃ (k : Nat) (S : Int), k ≤ m ∧ t = .int .i64 k ∧ s = .int .i64 S ∧ 0 ≤ S ∧ S ≤ (d.drop k).sum ∧ Vt.ptw (v.drop k) (d.drop k) S g = Vt.ptw v d s0 g
theorem quiet_addn {P : Program} {f : FuncId} {args : Array Value} {w : World} {a n : Nat} {v : Value}
    (h : Calls P f args (w.drewN (a + n)) fun e w' => e = .returned v ∧ ∃ m, w' = (w.drewN (a + n)).drewN m) :
    Calls P f args (w.drewN (a + n)) fun e w'' => e = .returned v ∧ ∃ m, w'' = w.drewN (a + m) :=
  h.mono fun _ _ ⟨he, m, hm⟩ => ⟨he, n + m, by rw [hm, World.drewN_drewN, Nat.add_assoc]⟩

set_option maxRecDepth 100000 in
set_option maxHeartbeats 2000000 in
theorem xPath (A D : Option Addr) (n c m cm : Nat) (ps : List Pass) (d : List Int) (s g : Int) (x y z : Value) (w : World) (hp : Passes w A n ps) (hd : Ints w D m d) (hn : n * 8 ≤ 140737488355328) (hm : m ≤ maxLen) (hs : I64 s) (hg : I64 g) :
    Calls Try.prog 24 #[.agg #[.slice A n c, x, y, z], .slice D m cm, .int .i64 s, .int .i64 g] w (BwB (Vt.ptV (ps.map Pass.alt) d s g) (Vt.ptE (ps.map Pass.alt) d s g) w) := by
  have HP := Lib.hid hp
  have HD := Lib.hid hd
  have HS := Lib.hid hs
  obtain ⟨s0, s1⟩ := hs
  obtain ⟨g0, g1⟩ := hg
  have hs : I64 s := HS.out
  have hl : (ps.map Pass.alt).length = n := by rw [List.length_map]; exact hp.len
  have hld := hd.len
  have HL := Lib.hid hl
  have HLD := Lib.hid hld
  clear hl hld hp hd
  by_cases hb : Pf.bwE (ps.map Pass.alt) d s = 0
  · by_cases hg : g < 1 ∨ 5000 < g
    · obtain ⟨e1, e2⟩ := Vt.ptE_g hb hg
      rw [e1, e2]
      have HB := Lib.hid hb
      clear e1 e2 hb
      rcases hg with hg | hg
      · skip
        go_enter Try.func24, Try.ntmps24
        go_wp2_with fail
        refine (xalts A n c ps x y z _ (HP.out.below ((Below.refl _ _).alloc (Nat.le_refl _) _)) hn).mono ?_; rintro e w1 ⟨A', c', rfl, hI, hB⟩
        have hB0 : Hid (Below w.heap.size w w1) := Lib.hid (((Below.refl _ w).alloc (Nat.le_refl _) _).trans (hB.mono (by simp)))
        have HI := Lib.hid hI
        clear hB hI
        go_wp2_with fail
        refine (between_any A' D n c' m cm (ps.map Pass.alt) d s w1 HI.out (HD.out.below hB0.out) (by unfold maxLen; omega) hm hs).mono ?_; rintro e w2 ⟨rfl, q, rfl⟩
        rw [HB.out]
        go_wp2_with fail
        go_ret2
        exact ⟨rfl, below_drewN hB0.out q⟩
      · skip
        have hg2 : ¬ g < 1 := by omega
        go_enter Try.func24, Try.ntmps24
        go_wp2_with fail
        refine (xalts A n c ps x y z _ (HP.out.below ((Below.refl _ _).alloc (Nat.le_refl _) _)) hn).mono ?_; rintro e w1 ⟨A', c', rfl, hI, hB⟩
        have hB0 : Hid (Below w.heap.size w w1) := Lib.hid (((Below.refl _ w).alloc (Nat.le_refl _) _).trans (hB.mono (by simp)))
        have HI := Lib.hid hI
        clear hB hI
        go_wp2_with fail
        refine (between_any A' D n c' m cm (ps.map Pass.alt) d s w1 HI.out (HD.out.below hB0.out) (by unfold maxLen; omega) hm hs).mono ?_; rintro e w2 ⟨rfl, q, rfl⟩
        rw [HB.out]
        go_wp2_with fail
        go_ret2
        exact ⟨rfl, below_drewN hB0.out q⟩
    · obtain ⟨e1, e2⟩ := Vt.ptE_ok hb hg
      rw [e1, e2]
      have he : Pf.chE (ps.map Pass.alt) d = 0 := by
        rcases Pf.chE_cases (ps.map Pass.alt) d with h | h | h | h
        · exact h
        all_goals (exfalso; have := (Pf.bwE_ch (s := s) (show Pf.chE (ps.map Pass.alt) d ≠ 0 by omega)).1; omega)
      have hok := Pf.chOk_of he
      have hin : 0 ≤ s ∧ s ≤ d.sum := by
        rcases Int.lt_or_le s 0 with h | h
        · have := (Pf.bwE_out (s := s) he (.inl h)).1; omega
        · rcases Int.lt_or_le d.sum s with h2 | h2
          · have := (Pf.bwE_out (s := s) he (.inr h2)).1; omega
          · exact ⟨h, h2⟩
      obtain ⟨in0, in1⟩ := hin
      have l1 := hok.len
      have l2 := hok.two
      have hn64 : n ≤ 64 := by have := HL.out; omega
      have hm64 : m ≤ 64 := by have := HLD.out; omega
      have hnm := Lib.hid (show n = m + 1 by have := HL.out; have := HLD.out; omega)
      have gg0 : ¬ g < 1 := by omega
      have gg1 : ¬ 5000 < g := by omega
      have HOK := Lib.hid hok
      have HB := Lib.hid hb
      have IN1 := Lib.hid in1
      have hsum := (Pf.sum_nn hok.ds).2
      have hsb : s ≤ 8000000 * 64 := by have := HLD.out; omega
      clear e1 e2 hb hg he hok l1 l2 hsum in1
      go_enter Try.func24, Try.ntmps24
      go_wp2_with fail
      refine (xalts A n c ps x y z _ (HP.out.below ((Below.refl _ _).alloc (Nat.le_refl _) _)) hn).mono ?_; rintro e w1 ⟨A', c', rfl, hI, hB⟩
      have hB0 : Hid (Below w.heap.size w w1) := Lib.hid (((Below.refl _ w).alloc (Nat.le_refl _) _).trans (hB.mono (by simp)))
      have HI := Lib.hid hI
      clear hB hI
      go_wp2_with fail
      refine (between_any A' D n c' m cm (ps.map Pass.alt) d s w1 HI.out (HD.out.below hB0.out) (by unfold maxLen; omega) hm hs).mono ?_; rintro e w2 ⟨rfl, q, rfl⟩
      rw [HB.out]
      obtain ⟨V, hV⟩ : ∃ V, V = ps.map Pass.alt := ⟨_, rfl⟩
      rw [← hV] at HI HL HOK HB
      have HVV := Lib.hid hV
      clear hV
      go_wp2_with fail
      go_loop [2, 13] (fun s' t => PtRel V d s g m s' t) (fun _ t => m - (intOf t).toNat)
      case atStart => exact ⟨0, s, by omega, rfl, rfl, in0, by simpa using IN1.out, by simp⟩
      case round =>
        obtain ⟨k, S, hk, rfl, rfl, hS0, hS1, heq⟩ := hrel
        have HEQ := Lib.hid heq
        have HS1 := Lib.hid hS1
        have hSb : S ≤ 8000000 * 64 := by
          have h3 := (Pf.sum_nn (d := d.drop k) (fun x hx => HOK.out.ds x (List.mem_of_mem_drop hx))).2
          have h4 := HLD.out
          rw [List.length_drop] at h3
          omega
        clear heq hS1
        by_cases hlt : k < m
        · obtain ⟨X, hx⟩ := get_ex HLD.out hlt
          obtain ⟨a, ha⟩ := get_ex (k := k) HL.out (by have := hnm.out; omega)
          obtain ⟨b, hb⟩ := get_ex (k := k + 1) HL.out (by have := hnm.out; omega)
          have HA := Lib.hid ha
          have HBB := Lib.hid hb
          have hxo := HOK.out.ds X (List.mem_of_getElem? hx)
          have HX := Lib.hid hx
          obtain ⟨x0, x1⟩ := hxo
          obtain ⟨bd, od, hDD, hbd, hcd⟩ := (HD.out.below hB0.out).cells (by omega)
          obtain ⟨bv, ov, hAA, hbv, hcv⟩ := HI.out.cells (by have := hnm.out; omega)
          have hcell := hcd k X hx
          have cv0 := hcv k a ha
          have cv1 := hcv (k + 1) b hb
          have HDE := Lib.hid hDD
          have HAE := Lib.hid hAA
          clear hx hcd hDD ha hb hcv hAA
          by_cases hle : X ≤ S
          · have hnext := Lib.hid (Vt.ptw_step (g := g) HA.out HBB.out HX.out hle)
            have hds := Lib.hid (drop_sum HX.out)
            obtain rfl := HDE.out
            go_wp2_with fail
            go_round
            case rel => exact ⟨k + 1, S - X, by omega, by go_num, rfl, by omega, by have := HS1.out; have := hds.out; omega, by rw [← hnext.out]; exact HEQ.out⟩
            case measure => simp only [intOf]; omega
          · have hstop := Lib.hid (Vt.ptw_stop (g := g) HA.out HBB.out HX.out (show S < X by omega))
            have hab := HOK.out.vs _ (List.mem_of_getElem? HA.out)
            have hbb := HOK.out.vs _ (List.mem_of_getElem? HBB.out)
            have hsc := Vt.rate_sc (g := g) (x := X) hab hbb (by omega) (by omega) (by omega)
            obtain ⟨r0, r1, r2, r3, r4, r5⟩ := hsc
            obtain ⟨a1, a2⟩ := hab
            obtain ⟨b1, b2⟩ := hbb
            have H := Lib.hid (fun w => xMulDiv (b - a) g X ⟨by omega, by omega⟩ ⟨by omega, by omega⟩ ⟨by omega, by omega⟩ w)
            rw [r4] at H
            have hke : ((k : Int) == (m : Int)) = false := beq_eq_false_iff_ne.2 (by omega)
            have w1h : IntKind.i64.wrap ((k : Int) + 1) = (k : Int) + 1 := IntWalk.i64_in _ (by omega)
            have w2h : ((k : Int) + 1).toNat = k + 1 := by omega
            have w3h : 0 ≤ (k : Int) + 1 := by omega
            have w4h : (k : Int) + 1 < n := by have := hnm.out; omega
            have w5h : (k : Int) < n := by omega
            have w6h : (k : Int) < m := by omega
            have w7h : IntKind.i64.wrap (b - a) = b - a := IntWalk.i64_in _ (by omega)
            clear r4 r5 r0 r1
            generalize Fx.scE 0 (b - a) g X = EE at *
            generalize (b - a) * g / X = Z at *
            obtain rfl := HDE.out
            obtain rfl := HAE.out
            go_wp2_with fail
            go_quiet ((go_at_call 41; first | exact Calls.quiet_of (H.out _) | exact quiet_addn (H.out _)))
            go_wp2_with fail
            refine (xClamp Z (-10000) 10000 _).mono ?_; rintro e w4 ⟨rfl, rfl⟩
            go_wp2_with fail
            go_ret2
            exact ⟨ret_tup2 (by rw [← HVV.out, ← HEQ.out, hstop.out]; rfl) rfl, below_drewN hB0.out _⟩
        · have hend := Lib.hid (Vt.ptw_end (v := V) (d := d) (k := k) (s := S) (g := g) (by have := HLD.out; omega))
          have hkm : ((k : Int) == (m : Int)) = true := beq_iff_eq.2 (by omega)
          go_wp2_with fail
          go_ret2
          exact ⟨ret_tup2 (by rw [← HVV.out, ← HEQ.out, hend.out]) rfl, below_drewN hB0.out _⟩
  · obtain ⟨e1, e2⟩ := Vt.ptE_bw (g := g) hb
    rw [e1, e2]
    have hv0 : Pf.bwV (ps.map Pass.alt) d s = 0 := by unfold Pf.bwV; rw [if_neg hb]
    have hne : (Pf.bwE (ps.map Pass.alt) d s != 0) = true := by rw [bne_iff_ne]; exact hb
    clear e1 e2 hb
    have HV0 := Lib.hid hv0
    clear hv0
    go_enter Try.func24, Try.ntmps24
    go_wp2_with fail
    refine (xalts A n c ps x y z _ (HP.out.below ((Below.refl _ _).alloc (Nat.le_refl _) _)) hn).mono ?_; rintro e w1 ⟨A', c', rfl, hI, hB⟩
    have hB0 : Hid (Below w.heap.size w w1) := Lib.hid (((Below.refl _ w).alloc (Nat.le_refl _) _).trans (hB.mono (by simp)))
    have HI := Lib.hid hI
    clear hB hI
    go_wp2_with fail
    refine (between_any A' D n c' m cm (ps.map Pass.alt) d s w1 HI.out (HD.out.below hB0.out) (by unfold maxLen; omega) hm hs).mono ?_; rintro e w2 ⟨rfl, q, rfl⟩
    rw [HV0.out]
    generalize Pf.bwE (ps.map Pass.alt) d s = EE at *
    go_wp2_with fail
    go_ret2
    exact ⟨rfl, below_drewN hB0.out q⟩

set_option maxRecDepth 100000 in
set_option maxHeartbeats 2000000 in
theorem rPath (A D : Option Addr) (n c m cm : Nat) (ps : List Pass) (d : List Int) (s g : Int) (x y z : Value) (w : World) (hp : Passes w A n ps) (hd : Ints w D m d) (hn : n * 8 ≤ 140737488355328) (hm : m ≤ maxLen) (hs : I64 s) (hg : I64 g) :
    Calls Try.prog 25 #[.agg #[.slice A n c, x, y, z], .slice D m cm, .int .i64 s, .int .i64 g] w (BwB (Vt.ptV (ps.map Pass.alt) d s g) (Vt.ptE (ps.map Pass.alt) d s g) w) := by
  have HP := Lib.hid hp
  have HD := Lib.hid hd
  have HS := Lib.hid hs
  obtain ⟨s0, s1⟩ := hs
  obtain ⟨g0, g1⟩ := hg
  have hs : I64 s := HS.out
  have hl : (ps.map Pass.alt).length = n := by rw [List.length_map]; exact hp.len
  have hld := hd.len
  have HL := Lib.hid hl
  have HLD := Lib.hid hld
  clear hl hld hp hd
  by_cases hb : Pf.bwE (ps.map Pass.alt) d s = 0
  · by_cases hg : g < 1 ∨ 5000 < g
    · obtain ⟨e1, e2⟩ := Vt.ptE_g hb hg
      rw [e1, e2]
      have HB := Lib.hid hb
      clear e1 e2 hb
      rcases hg with hg | hg
      · skip
        go_enter Try.func25, Try.ntmps25
        go_wp2_with fail
        refine (ralts A n c ps x y z _ (HP.out.below ((Below.refl _ _).alloc (Nat.le_refl _) _)) hn).mono ?_; rintro e w1 ⟨A', c', rfl, hI, hB⟩
        have hB0 : Hid (Below w.heap.size w w1) := Lib.hid (((Below.refl _ w).alloc (Nat.le_refl _) _).trans (hB.mono (by simp)))
        have HI := Lib.hid hI
        clear hB hI
        go_wp2_with fail
        refine (rbetween_any A' D n c' m cm (ps.map Pass.alt) d s w1 HI.out (HD.out.below hB0.out) (by unfold maxLen; omega) hm hs).mono ?_; rintro e w2 ⟨rfl, hB2⟩
        rw [HB.out]
        go_wp2_with fail
        go_ret2
        exact ⟨rfl, bel_trans hB0.out hB2⟩
      · skip
        have hg2 : ¬ g < 1 := by omega
        go_enter Try.func25, Try.ntmps25
        go_wp2_with fail
        refine (ralts A n c ps x y z _ (HP.out.below ((Below.refl _ _).alloc (Nat.le_refl _) _)) hn).mono ?_; rintro e w1 ⟨A', c', rfl, hI, hB⟩
        have hB0 : Hid (Below w.heap.size w w1) := Lib.hid (((Below.refl _ w).alloc (Nat.le_refl _) _).trans (hB.mono (by simp)))
        have HI := Lib.hid hI
        clear hB hI
        go_wp2_with fail
        refine (rbetween_any A' D n c' m cm (ps.map Pass.alt) d s w1 HI.out (HD.out.below hB0.out) (by unfold maxLen; omega) hm hs).mono ?_; rintro e w2 ⟨rfl, hB2⟩
        rw [HB.out]
        go_wp2_with fail
        go_ret2
        exact ⟨rfl, bel_trans hB0.out hB2⟩
    · obtain ⟨e1, e2⟩ := Vt.ptE_ok hb hg
      rw [e1, e2]
      have he : Pf.chE (ps.map Pass.alt) d = 0 := by
        rcases Pf.chE_cases (ps.map Pass.alt) d with h | h | h | h
        · exact h
        all_goals (exfalso; have := (Pf.bwE_ch (s := s) (show Pf.chE (ps.map Pass.alt) d ≠ 0 by omega)).1; omega)
      have hok := Pf.chOk_of he
      have hin : 0 ≤ s ∧ s ≤ d.sum := by
        rcases Int.lt_or_le s 0 with h | h
        · have := (Pf.bwE_out (s := s) he (.inl h)).1; omega
        · rcases Int.lt_or_le d.sum s with h2 | h2
          · have := (Pf.bwE_out (s := s) he (.inr h2)).1; omega
          · exact ⟨h, h2⟩
      obtain ⟨in0, in1⟩ := hin
      have l1 := hok.len
      have l2 := hok.two
      have hn64 : n ≤ 64 := by have := HL.out; omega
      have hm64 : m ≤ 64 := by have := HLD.out; omega
      have hnm := Lib.hid (show n = m + 1 by have := HL.out; have := HLD.out; omega)
      have gg0 : ¬ g < 1 := by omega
      have gg1 : ¬ 5000 < g := by omega
      have HOK := Lib.hid hok
      have HB := Lib.hid hb
      have IN1 := Lib.hid in1
      have hsum := (Pf.sum_nn hok.ds).2
      have hsb : s ≤ 8000000 * 64 := by have := HLD.out; omega
      clear e1 e2 hb hg he hok l1 l2 hsum in1
      go_enter Try.func25, Try.ntmps25
      go_wp2_with fail
      refine (ralts A n c ps x y z _ (HP.out.below ((Below.refl _ _).alloc (Nat.le_refl _) _)) hn).mono ?_; rintro e w1 ⟨A', c', rfl, hI, hB⟩
      have hB0 : Hid (Below w.heap.size w w1) := Lib.hid (((Below.refl _ w).alloc (Nat.le_refl _) _).trans (hB.mono (by simp)))
      have HI := Lib.hid hI
      clear hB hI
      go_wp2_with fail
      refine (rbetween_any A' D n c' m cm (ps.map Pass.alt) d s w1 HI.out (HD.out.below hB0.out) (by unfold maxLen; omega) hm hs).mono ?_; rintro e w2 ⟨rfl, hB2⟩
      rw [HB.out]
      obtain ⟨V, hV⟩ : ∃ V, V = ps.map Pass.alt := ⟨_, rfl⟩
      rw [← hV] at HI HL HOK HB
      have HVV := Lib.hid hV
      clear hV
      have HB2 := Lib.hid hB2
      have hI2 := HI.out.below hB2
      have hD2 := (HD.out.below hB0.out).below hB2
      have HI2 := Lib.hid hI2
      have HD2 := Lib.hid hD2
      have HEC := Lib.hid HOK.out.err
      clear hB2 hI2 hD2
      go_wp2_with fail
      refine (places_any A' D n c' m cm V d w2 HI2.out HD2.out (by unfold maxLen; omega) hm).mono ?_; rintro e w3 ⟨h3, _, hB3⟩
      obtain ⟨T, ct, rfl, hT⟩ := h3 HEC.out
      clear h3
      have HT := Lib.hid hT
      have HB3 := Lib.hid hB3
      have HI3 := Lib.hid (HI2.out.below hB3)
      have HD3 := Lib.hid (HD2.out.below hB3)
      clear hT hB3
      go_wp2_with fail
      refine (last_any T (m + 1) ct (Pf.plc d m) s w3 HT.out (by omega) (by unfold maxLen; omega) hs).mono ?_; rintro e w4 ⟨k, rfl, hP, rfl⟩
      obtain ⟨p0, p1, p2⟩ := hP
      rw [Pf.plc_len] at p0
      have hkm : k ≤ m := by omega
      have hle : (d.take k).sum ≤ s := by
        rcases p1 with h | ⟨x, h, h2⟩
        · subst h; simpa using in0
        · rw [Pf.plc_get d m k hkm] at h
          obtain rfl := Option.some.inj h
          exact h2
      have hskip := Lib.hid (Vt.ptw_skip HOK.out (g := g) k (by have := HLD.out; omega) hle)
      have P2 := Lib.hid p2
      have HLE := Lib.hid hle
      clear p1 p2 hle
      by_cases hlt : k < m
      · obtain ⟨X, hx⟩ := get_ex HLD.out hlt
        obtain ⟨a, ha⟩ := get_ex (k := k) HL.out (by have := hnm.out; omega)
        obtain ⟨b, hb⟩ := get_ex (k := k + 1) HL.out (by have := hnm.out; omega)
        have h3 := P2.out (k + 1) _ (by omega) (Pf.plc_get d m (k + 1) (by omega))
        have h4 := Pf.take_sum_succ hx
        have hle := HLE.out
        have hstop := Lib.hid (Vt.ptw_stop (g := g) (s := s - (d.take k).sum) ha hb hx (by omega))
        have x0 : 0 < X := by omega
        have hxo := (HOK.out.ds X (List.mem_of_getElem? hx)).2
        have hab := HOK.out.vs _ (List.mem_of_getElem? ha)
        have hbb := HOK.out.vs _ (List.mem_of_getElem? hb)
        obtain ⟨bd, od, hDD, hbd, hcd⟩ := HD3.out.cells (by omega)
        obtain ⟨bv, ov, hAA, hbv, hcv⟩ := HI3.out.cells (by have := hnm.out; omega)
        have hcell := hcd k X hx
        have cv0 := hcv k a ha
        have cv1 := hcv (k + 1) b hb
        have hsc := Vt.rate_sc (g := g) (x := X) hab hbb (by omega) (by omega) (by omega)
        obtain ⟨r0, r1, r2, r3, r4, r5⟩ := hsc
        obtain ⟨a1, a2⟩ := hab
        obtain ⟨b1, b2⟩ := hbb
        have HDE := Lib.hid hDD
        have HAE := Lib.hid hAA
        have hXX : ∃ XX, XX = (b - a) * g := ⟨_, rfl⟩
        obtain ⟨XX, hXX⟩ := hXX
        rw [← hXX] at r0 r1 r5 r2 r3 hstop
        have H := Lib.hid (fun w => flip (rFloor XX X ⟨by omega, by omega⟩ ⟨by omega, by omega⟩ w))
        rw [r5] at H
        have hke : ((k : Int) == (n : Int) - 1) = false := beq_eq_false_iff_ne.2 (by have := hnm.out; omega)
        have w1h : IntKind.i64.wrap ((k : Int) + 1) = (k : Int) + 1 := IntWalk.i64_in _ (by omega)
        have w2h : ((k : Int) + 1).toNat = k + 1 := by omega
        have w3h : 0 ≤ (k : Int) + 1 := by omega
        have w4h : (k : Int) + 1 < n := by have := hnm.out; omega
        have w5h : (k : Int) < n := by omega
        have w6h : (k : Int) < m := by omega
        have w7h : IntKind.i64.wrap (b - a) = b - a := IntWalk.i64_in _ (by omega)
        have w8h : IntKind.i64.wrap ((b - a) * g) = XX := by rw [← hXX]; exact IntWalk.i64_in _ (by omega)
        have w9h : IntKind.i64.wrap ((n : Int) - 1) = (n : Int) - 1 := IntWalk.i64_in _ (by omega)
        clear r4 r5 h3 h4 hx ha hb hcd hcv hDD hAA hle hXX
        generalize Fx.scE 0 XX 1 X = EE at *
        generalize XX / X = Z at *
        obtain rfl := HDE.out
        obtain rfl := HAE.out
        go_wp2_with fail
        go_quiet ((go_at_call 44; first | exact Calls.quiet_of_same (H.out _)))
        go_wp2_with fail
        go_ret2
        exact ⟨ret_tup2 (by rw [← HVV.out, hskip.out, hstop.out, Vt.clmp_eq _ _ _ (by omega)]) rfl, below_drewN (bel_trans (bel_trans hB0.out HB2.out) HB3.out) _⟩
      · have hend := Lib.hid (Vt.ptw_end (v := V) (d := d) (k := k) (s := s - (d.take k).sum) (g := g) (by have := HLD.out; omega))
        have hke : ((k : Int) == (n : Int) - 1) = true := beq_iff_eq.2 (by have := hnm.out; omega)
        go_wp2_with fail
        go_ret2
        exact ⟨ret_tup2 (by rw [← HVV.out, hskip.out, hend.out]) rfl, bel_trans (bel_trans hB0.out HB2.out) HB3.out⟩
  · obtain ⟨e1, e2⟩ := Vt.ptE_bw (g := g) hb
    rw [e1, e2]
    have hv0 : Pf.bwV (ps.map Pass.alt) d s = 0 := by unfold Pf.bwV; rw [if_neg hb]
    have hne : (Pf.bwE (ps.map Pass.alt) d s != 0) = true := by rw [bne_iff_ne]; exact hb
    clear e1 e2 hb
    have HV0 := Lib.hid hv0
    clear hv0
    go_enter Try.func25, Try.ntmps25
    go_wp2_with fail
    refine (ralts A n c ps x y z _ (HP.out.below ((Below.refl _ _).alloc (Nat.le_refl _) _)) hn).mono ?_; rintro e w1 ⟨A', c', rfl, hI, hB⟩
    have hB0 : Hid (Below w.heap.size w w1) := Lib.hid (((Below.refl _ w).alloc (Nat.le_refl _) _).trans (hB.mono (by simp)))
    have HI := Lib.hid hI
    clear hB hI
    go_wp2_with fail
    refine (rbetween_any A' D n c' m cm (ps.map Pass.alt) d s w1 HI.out (HD.out.below hB0.out) (by unfold maxLen; omega) hm hs).mono ?_; rintro e w2 ⟨rfl, hB2⟩
    rw [HV0.out]
    generalize Pf.bwE (ps.map Pass.alt) d s = EE at *
    go_wp2_with fail
    go_ret2
    exact ⟨rfl, bel_trans hB0.out hB2⟩
end Go.Proofs.Ytgclfkgnkohgdaa
