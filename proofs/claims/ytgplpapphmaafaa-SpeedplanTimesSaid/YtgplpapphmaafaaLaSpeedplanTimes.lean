/- The statement SpeedplanTimes: for every input the law returns true, and every argument reads afterwards as before. No condition. -/
import Derived.Test.YtgplpapphmaafaaRows
import Derived.Test.YtgplpapphmaafaaLaBase35
import Derived.Test.YtgplpapphmaafaaSpPlain2
import Derived.Test.YtgplpapphmaafaaPl
import Derived.SizedLaws
import Derived.WalkKit
import Derived.ProofKit
import Derived.OpenShut
import Derived.ShutString
import Derived.ChangeOld
import Derived.Below
namespace Go.Proofs.Ytgplpapphmaafaa
set_option linter.unusedSimpArgs false
set_option linter.unusedVariables false
open Go.RowKit
open Sp
theorem gr_sl {F : FuncId} {args : Array Value} {f : Int × Int → Int} {ws st : Cs.Wins} {n : Nat} {w : World} (h : Calls Try.prog F args w (GrPost f ws st n w)) (ht : Cs.tgE ws st = 0) : Calls Try.prog F args w (SlRes ((Cs.tight ws st).map f) n 0 w) := by
  refine h.mono fun e w' ⟨h1, h2, h3⟩ => ?_
  obtain ⟨A, c, he, hI⟩ := h1 ht
  exact ⟨A, c, he, hI, h3⟩
theorem mt_b {F : FuncId} {args : Array Value} {ws st : Cs.Wins} {vs : List Int} {w : World} (hm : Meet ws st vs) (h : Calls Try.prog F args w (MtPost ws st vs w)) : Calls Try.prog F args w fun e w' => e = .returned (.bool true) ∧ Below w.heap.size w w' :=
  h.mono fun e w' ⟨h1, h2, h3⟩ => ⟨h1 hm, h3⟩
theorem mt_n {F : FuncId} {args : Array Value} {ws st : Cs.Wins} {vs : List Int} {w : World} (hm : ¬ Meet ws st vs) (h : Calls Try.prog F args w (MtPost ws st vs w)) : Calls Try.prog F args w fun e w' => e = .returned (.bool false) ∧ Below w.heap.size w w' :=
  h.mono fun e w' ⟨h1, h2, h3⟩ => ⟨h2 hm, h3⟩
def TmRel (w0 : World) (b n : Nat) (L : List Int) (t : Value) (wr : World) : Prop := ∃ k : Nat, k ≤ n ∧ t = .int .i64 k ∧ RowI w0 b n (fillF L k) wr
def TnRel (n : Nat) (w : World) (t : Value) (wr : World) : Prop := ∃ k : Nat, k ≤ n ∧ t = .int .i64 k ∧ Below w.heap.size w wr
theorem fast_ok {g : List Int} {K : Int} (h : ∀ y ∈ g, okG y) (hK : 0 ≤ K) : ∀ y ∈ g.map (fun y => min (y + K) 5000), okG y := by
  intro y hy
  simp only [List.mem_map] at hy
  obtain ⟨z, hz, rfl⟩ := hy
  have := h z hz
  unfold okG at this ⊢
  omega
theorem ret_tt_SpeedplanTimes {b : Bool} (h : b = true) : Ending.returned (.bool b) = .returned (.bool true) := by rw [h]
set_option maxRecDepth 100000 in
set_option maxHeartbeats 4000000 in
theorem walk_SpeedplanTimes (A : Option Addr) (n cn : Nat) (d : List Int) (B : Option Addr) (m cm : Nat) (g : List Int) (mo : Int) (w : World) (hd : Ints w A n d) (hfd : ∀ x ∈ d, (Lit.int .i64 x).wf = true) (hn : n ≤ maxLen) (h8n : n * 8 ≤ reachBytes) (hg : Ints w B m g) (hfg : ∀ x ∈ g, (Lit.int .i64 x).wf = true) (hm : m ≤ maxLen) (h8m : m * 8 ≤ reachBytes) (hmf : (Lit.int .i64 mo).wf = true) :
    Calls Try.prog 7 #[.slice A n cn, .slice B m cm, .int .i64 mo] w fun e w' => e = .returned (.bool true) ∧ Below w.heap.size w w' := by
  have HD := Lib.hid hd
  have HG := Lib.hid hg
  have HLD := Lib.hid hd.len
  have HLG := Lib.hid hg.len
  have HNM := Lib.hid (And.intro hn hm)
  have im := wf_i64_bd hmf
  obtain ⟨im0, im1⟩ := im
  clear hd hg hfd hfg h8n h8m hn hm hmf
  by_cases ht : tkE d g = 0
  · obtain ⟨hle, h64, hds, hgs⟩ := tkE_ok ht
    obtain rfl : m = n := by have := HLD.out; have := HLG.out; omega
    have hn64 : m ≤ 64 := by have := HLD.out; omega
    have HT := Lib.hid ht
    have HDS := Lib.hid hds
    have HGS := Lib.hid hgs
    have HLE := Lib.hid hle
    have HTL := Lib.hid (show (tkL d g).length = m by rw [tkL_len hle]; exact HLD.out)
    obtain ⟨K, hK⟩ : ∃ K, min (max mo 0) 5000 = K := ⟨_, rfl⟩
    have hk0 : 0 ≤ K := by omega
    have hk1 : K ≤ 5000 := by omega
    have HK := Lib.hid hK
    obtain ⟨FL, hFL⟩ : ∃ FL, g.map (fun y => min (y + K) 5000) = FL := ⟨_, rfl⟩
    have HFL := Lib.hid hFL
    have HFLl := Lib.hid (show FL.length = m by rw [← hFL, List.length_map]; exact HLG.out)
    have HFG := Lib.hid (show ∀ y ∈ FL, okG y by rw [← hFL]; exact fast_ok hgs hk0)
    have HT2 := Lib.hid (tkE_0 (d := d) (g := FL) (by rw [HFLl.out, HLD.out]) (by omega) hds HFG.out)
    have HTL2 := Lib.hid (show (tkL d FL).length = m by rw [tkL_len (by rw [HFLl.out, HLD.out])]; exact HLD.out)
    have hmk := run_make_row' (P := Try.prog) 22 2 (.int .i64 0) 8 Try.underlying22 infoI64 rfl .i64 .i64 m (by omega) (by omega)
    have hnn : ((m : Int) != (m : Int)) = false := by simp
    clear ht hle h64 hds hgs hK hFL
    go_enter Try.func7, Try.ntmps7
    go_wp2_with fail
    refine (awake_any _).mono ?_; rintro e w1 ⟨rfl, hB⟩
    have HB1 := Lib.hid hB
    clear hB
    go_wp2_with fail
    refine (sl_ex (xSpTicks A B m cn m cm d g w1 (HD.out.below HB1.out) (HG.out.below HB1.out) HNM.out.1 HNM.out.2) HT.out rfl).mono ?_; rintro e w2 ⟨A1, c1, rfl, hI, hB⟩
    have I1 := Lib.hid hI
    have HB2 := Lib.hid (bel_trans HB1.out hB)
    clear hI hB
    go_wp2_with fail
    rw [HK.out]
    have HR0 := Lib.hid (RowI.made (w0 := w2) m (Below.refl w2.heap.size w2) 2)
    generalize w2.alloc (.cells (madeCells #[.int .i64 0] m) 2) = w3 at *
    generalize hgg : w2.heap.size = gg at *
    go_loopw [42] (fun t wr => TmRel w2 gg m FL t wr) (fun t _ => m - (intOf t).toNat)
    case atStart => exact ⟨0, by omega, rfl, HR0.out.congr fun j _ => fillF_zero _ j⟩
    case round =>
      obtain ⟨k, hk, rfl, hR⟩ := hrel
      have HR := Lib.hid hR
      clear hR
      by_cases hlt : k < m
      · obtain ⟨x, hx⟩ := get_ex HLD.out hlt
        obtain ⟨y, hy⟩ := get_ex HLG.out hlt
        have hxo := HDS.out x (List.mem_of_getElem? hx)
        have hyo := HGS.out y (List.mem_of_getElem? hy)
        have hb := tk_bd hxo hyo
        have hz := tkL_get hx hy
        have hpm := Lib.hid (show FL[k]? = some (min (y + K) 5000) by rw [← HFL.out, List.getElem?_map, hy]; rfl)
        generalize tkF x y = T at *
        obtain ⟨t0, t1, t2, t3⟩ := hb
        obtain ⟨x0, x1⟩ := hxo
        obtain ⟨y0, y1⟩ := hyo
        obtain ⟨bd, od, rfl, hbd, cx0⟩ := ints_cell HD.out hx
        obtain ⟨bg, og, rfl, hbg, cy0⟩ := ints_cell HG.out hy
        obtain ⟨bt, ot, rfl, hbt, ct0⟩ := ints_cell I1.out hz
        have cx := (HR.out.bel.cell (p := ⟨bd, od + k, none⟩) (Nat.lt_of_lt_of_le hbd HB2.out.size)).trans ((HB2.out.cell (p := ⟨bd, od + k, none⟩) hbd).trans cx0)
        have cy := (HR.out.bel.cell (p := ⟨bg, og + k, none⟩) (Nat.lt_of_lt_of_le hbg HB2.out.size)).trans ((HB2.out.cell (p := ⟨bg, og + k, none⟩) hbg).trans cy0)
        have ct := (HR.out.bel.cell (p := ⟨bt, ot + k, none⟩) hbt).trans ct0
        have d0 := HR.out.cell k hlt
        have d1 := HR.out.fr k
        have hgl := HR.out.lt
        have p0 : 0 ≤ T * y := Int.mul_nonneg t0 (by omega)
        have p1 : T * y ≤ 8000000 * 5000 := Int.mul_le_mul (by omega) y1 (by omega) (by omega)
        have e1 : IntKind.i64.wrap (T * y) = T * y := IntWalk.i64_in _ (by omega)
        have e2 : ¬ T * y < x := by omega
        have e3 : ¬ T < 0 := by omega
        have e4 : ¬ x < T := by omega
        clear hx hy hz cx0 cy0 ct0
        by_cases hT : 0 < T
        · have t4 := t3 hT
          have p2 : (T - 1) * y = T * y - y := by rw [Int.sub_mul, Int.one_mul]
          have e5 : IntKind.i64.wrap ((T - 1) * y) = (T - 1) * y := IntWalk.i64_in _ (by omega)
          have e6 : ¬ x ≤ (T - 1) * y := by omega
          clear t3 p2
          go_wp2_with fail
          go_roundw
          case rel => exact ⟨k + 1, by omega, by go_num, (HR.out.set hlt _).congr fun j _ => fillF_step hpm.out j⟩
          case measure => simp only [intOf]; omega
        · clear t3
          go_wp2_with fail
          go_roundw
          case rel => exact ⟨k + 1, by omega, by go_num, (HR.out.set hlt _).congr fun j _ => fillF_step hpm.out j⟩
          case measure => simp only [intOf]; omega
      · have hkn := Lib.hid (show k = m by omega)
        have hfin := HR.out
        rw [hkn.out] at hfin
        have IF := Lib.hid (hfin.ints HFLl.out)
        have hbR := hfin.bel
        have HB3 := Lib.hid (bel_trans HB2.out hbR)
        replace I1 := Lib.hid (I1.out.below hbR)
        clear hfin hbR
        go_wp2_with fail
        refine (sl_ex (xSpTicks A _ m cn m m d FL wr (HD.out.below HB3.out) IF.out HNM.out.1 HNM.out.2) HT2.out rfl).mono ?_; rintro e w4 ⟨A2, c2, rfl, hI, hB⟩
        have I2 := Lib.hid hI
        replace I1 := Lib.hid (I1.out.below hB)
        have HB4 := Lib.hid (bel_trans HB3.out hB)
        clear hI hB
        go_wp2_with fail
        go_loopw [117] (fun t wr => TnRel m w4 t wr) (fun t _ => m - (intOf t).toNat)
        case atStart => exact ⟨0, by omega, rfl, Below.refl _ _⟩
        case round =>
          obtain ⟨j, hj, rfl, hB⟩ := hrel
          have HBr := Lib.hid hB
          clear hB
          by_cases hlt2 : j < m
          · obtain ⟨x, hx⟩ := get_ex HLD.out hlt2
            obtain ⟨y, hy⟩ := get_ex HLG.out hlt2
            have hxo := HDS.out x (List.mem_of_getElem? hx)
            have hyo := HGS.out y (List.mem_of_getElem? hy)
            have hf : FL[j]? = some (min (y + K) 5000) := by rw [← HFL.out, List.getElem?_map, hy]; rfl
            have hmo := tk_mono (z := min (y + K) 5000) hxo hyo (by unfold okG at hyo; omega)
            have hz := tkL_get hx hy
            have hu := tkL_get hx hf
            generalize tkF x y = T at *
            generalize tkF x (min (y + K) 5000) = U at *
            obtain ⟨bt, ot, rfl, hbt, ct0⟩ := ints_cell I1.out hz
            obtain ⟨bu, ou, rfl, hbu, cu0⟩ := ints_cell I2.out hu
            have ct := (HBr.out.cell (p := ⟨bt, ot + j, none⟩) hbt).trans ct0
            have cu := (HBr.out.cell (p := ⟨bu, ou + j, none⟩) hbu).trans cu0
            have i0 : (0 : Int) ≤ (j : Int) := by omega
            have i1 : (j : Int) < (m : Int) := by omega
            have i2 : ¬ T < U := by omega
            clear hx hy hxo hyo hf hz hu ct0 cu0
            go_wp2_with fail
            go_quiet (fail)
            go_wp2_with fail
            go_roundw
            case rel => exact ⟨j + 1, by omega, by go_num, below_drewN HBr.out _⟩
            case measure => simp only [intOf]; omega
          · go_wp2_with fail
            go_ret
            exact ⟨ret_tt_SpeedplanTimes (by simp), bel_trans HB4.out HBr.out⟩
  · have hne : (tkE d g != 0) = true := by rw [bne_iff_ne]; exact ht
    have HON := Lib.hid (show okN (tkE d g) n = 0 by unfold okN; rw [if_neg ht])
    clear ht
    go_enter Try.func7, Try.ntmps7
    go_wp2_with fail
    refine (awake_any _).mono ?_; rintro e w1 ⟨rfl, hB⟩
    have HB1 := Lib.hid hB
    clear hB
    go_wp2_with fail
    refine (xSpTicks A B n cn m cm d g w1 (HD.out.below HB1.out) (HG.out.below HB1.out) HNM.out.1 HNM.out.2).mono ?_; rintro e w2 ⟨A1, c1, rfl, hI, hB⟩
    have HB2 := Lib.hid (bel_trans HB1.out hB)
    rw [HON.out]
    clear hI hB
    generalize tkE d g = E at *
    go_wp2_with fail
    go_ret
    exact ⟨ret_tt_SpeedplanTimes (by simp), HB2.out⟩
end Go.Proofs.Ytgplpapphmaafaa
namespace Go.Proofs.Ytgplpapphmaafaa.speedplanTimes
open Go.ChangeShapes Go.WideShapes Go.ChangeAt Go.RowKit
open Go.ChangeMaps (open_string shut_string)
set_option linter.unusedVariables false
set_option linter.unusedSimpArgs false

theorem own : ownKnob Try.prog.godebug = none := by kernel_rfl
theorem laidOut : laidOutB Try.prog = true := by kernel_rfl

set_option maxRecDepth 100000 in
theorem lifted (os : Os) (started : os.Started) (H : Type) (enc : TypeId × Value → H) :
    ReturnsInHanded {} Try.checked os 7 .any (Rows.speedplanTimesSpec.pre6 enc Try.prog Try.f7 Rows.speedplanTimesRow.domain false) (Rows.speedplanTimesSpec.post enc Try.prog Try.f7 false true false false) := by
  refine returnsInHanded_of_change_sized (C := Try.checked) own started (by kernel_rfl) Try.func7
    (ChangeSpec.witness6 (enc := enc) (C := Try.checked) false ⟨#[], #[.slice none 0 0, .slice none 0 0, .int .i64 0], []⟩ 8 (by kernel_rfl) (by kernel_rfl) (by kernel_rfl) (by kernel_rfl)) ?_
  intro W base args ds gs before hval0 hW hcnd hsz0 _
  have hval : ∀ (j : Nat) t v, Try.f7.params[j]? = some t → args[j]? = some v → Value.okWide Try.prog W .any base t v := hval0
  have hW' := hW
  obtain ⟨p, q, hA0, hV, rfl, hfz, hnd⟩ := hW
  have hA : DataW.TrodAll enc Try.prog W 0 (fun _ => true) true Try.f7.params.toList args.toList ds p := hA0
  have hsz : (DataW.weightsEach Try.prog (Try.f7.params.toList ++ Rows.speedplanTimesSpec.plain.varTypes Try.prog) (ds ++ gs)).all (· ≤ reachBytes) = true := hsz0
  rw [Try.params7] at hA hval hsz
  obtain ⟨v0, vs0, d0, ds0, p0, q0, hargs, rfl, rfl, h0, r0⟩ := trodAll_cons hA
  obtain ⟨v1, vs1, d1, ds1, p1, q1, rfl, rfl, rfl, h1, r1⟩ := trodAll_cons r0
  obtain ⟨v2, vs2, d2, ds2, p2, q2, rfl, rfl, rfl, h2, r2⟩ := trodAll_cons r1
  obtain ⟨rfl, rfl, rfl⟩ := trodAll_nil r2
  obtain rfl : args = #[v0, v1, v2] := by cases args; simp_all
  obtain ⟨rfl, rfl⟩ := trodVars_none hV
  have k0 := h0
  have lt0 : ∀ x ∈ p0, x.block < W.heap.size := by obtain ⟨m, hm⟩ := k0; exact DataW.trod_lt m _ _ _ hm
  have k1 := h1
  have lt1 : ∀ x ∈ p1, x.block < W.heap.size := by obtain ⟨m, hm⟩ := k1; exact DataW.trod_lt m _ _ _ hm
  have k2 := h2
  have lt2 : ∀ x ∈ p2, x.block < W.heap.size := by obtain ⟨m, hm⟩ := k2; exact DataW.trod_lt m _ _ _ hm
  obtain ⟨A0, n0, c0, z0, rfl, m0, qc0, w0, u0, o0⟩ := open_ints_Trod Try.underlying22 Try.underlying2 (by kernel_rfl) (hval 0 22 v0 rfl rfl) h0
  have o0' := o0 (weights_arg hsz (j := 0) rfl rfl)
  rw [show Try.prog.bytesOf 2 = 8 by kernel_rfl] at o0'
  obtain ⟨A1, n1, c1, z1, rfl, m1, qc1, w1, u1, o1⟩ := open_ints_Trod Try.underlying22 Try.underlying2 (by kernel_rfl) (hval 1 22 v1 rfl rfl) h1
  have o1' := o1 (weights_arg hsz (j := 1) rfl rfl)
  rw [show Try.prog.bytesOf 2 = 8 by kernel_rfl] at o1'
  obtain ⟨a2, rfl, rfl, rfl, w2⟩ := open_int Try.underlying2 (hval 2 2 v2 rfl rfl) h2
  clear hA0 hval0
  refine (Ytgplpapphmaafaa.walk_SpeedplanTimes A0 n0 c0 z0 A1 n1 c1 z1 a2 W w0 u0 m0 o0' w1 u1 m1 o1' w2).mono fun e W' ⟨he, bel⟩ => ?_
  subst he
  exact ⟨_, rfl, _, _, _, [], _, [], hW', trodAll_mk1 (shut_bool Try.underlying4 _), (trodAll_cons_mk (Below.trod laidOut (by kernel_rfl) (of_decide_eq_true (by kernel_rfl)) k0 bel lt0) (trodAll_cons_mk (Below.trod laidOut (by kernel_rfl) (of_decide_eq_true (by kernel_rfl)) k1 bel lt1) (trodAll_cons_mk (Below.trod laidOut (by kernel_rfl) (of_decide_eq_true (by kernel_rfl)) k2 bel lt2) trodAll_mk0))), rfl, bel.frame _, fun h => by cases h⟩

theorem over : Rows.speedplanTimesRow.holds Try.pinned (OpenSpec.ofChange Rows.speedplanTimesSpec) :=
  OpenClaim.holds_of_wide 7 Try.f7 rfl rfl rfl rfl rfl rfl rfl ⟨rfl, rfl, rfl, rfl, rfl⟩ rfl rfl rfl rfl rfl (by kernel_rfl) Try.func7 (by kernel_rfl)
    (of_decide_eq_true (by kernel_rfl)) (by unfold Func.isWrapper; first | (rw [if_pos (by decide +kernel)]; kernel_rfl) | (rw [if_neg (by decide +kernel)]; exact ⟨rfl, rfl⟩))
    (fun os started H enc _ => lifted os started H enc)

/-- the statement -/
theorem proved : Rows.SpeedplanTimesSaid := over
end Go.Proofs.Ytgplpapphmaafaa.speedplanTimes
