/- Layer 59: what the law Senses compares. -/
import Derived.Test.YtcmdpfdhmbpahaaGreatSeR
import Derived.Deep.QuietTactic
import Derived.BigQuiet
namespace Go.Proofs.YtcmdpfdhmbpahaaGreat
set_option linter.unusedSimpArgs false
set_option linter.unusedVariables false
open Go.RowKit
structure SeZ where
  tk : Int
  ve : Int
  vn : Int
  dr : Int
  al : Int
  vs : Int
  ca : Int
  fu : Int
  gr : Bool
  th : Bool
  st : Bool
  cm : ByteArray
def SeZ.cells (z : SeZ) (v : Value) : List Value := [.int .i64 z.tk, v, .int .i64 z.ve, .int .i64 z.vn, .int .i64 z.dr, .int .i64 z.al, .int .i64 z.vs, .int .i64 z.ca, .int .i64 z.fu, .bool z.gr, .bool z.th, .bool z.st, .string z.cm]
def seQ (c : Cra) (l : List Sns) (comp : Int) (m : Mom) (er : List (Int × Int)) : SeZ :=
  if seE c l comp m.we m.wn m.se m.sn er m.s0 m.s1 = 0 then ⟨c.tk, vlV (c.ve + m.se), vlV (c.vn + m.sn), 20, c.al, c.vs, c.ca, c.fu, c.gr, m.th, m.st, seCmd comp m.s0 m.s1⟩ else ⟨0, 0, 0, 0, 0, 0, 0, 0, false, false, false, ⟨#[]⟩⟩
noncomputable def seRL (c : Cra) (l : List Sns) (comp : Int) (m : Mom) (er : List (Int × Int)) : List Rep := if seE c l comp m.we m.wn m.se m.sn er m.s0 m.s1 = 0 then seR c comp m.si er l l.length else []
/-- what Sense hands back, in one form -/
def SeU (c : Cra) (l : List Sns) (comp : Int) (m : Mom) (er : List (Int × Int)) (w : World) (e : Ending) (w' : World) : Prop :=
  ∃ (A1 A2 : Option Addr) (c1 c2 q : Nat), e = .returned (.tuple #[.agg ((seQ c l comp m er).cells (.slice A1 q c1)).toArray, .slice A2 q c2, .int .i64 (seE c l comp m.we m.wn m.se m.sn er m.s0 m.s1)]) ∧
    Recs Rep.cells 8 w' A1 q (seRL c l comp m er) ∧ Recs oneB 1 w' A2 q ((seRL c l comp m er).map (agR c)) ∧ Below w.heap.size w w' ∧ q ≤ 8
theorem se_u {c : Cra} {l : List Sns} {comp : Int} {m : Mom} {er : List (Int × Int)} {w w' : World} {e : Ending} (h : SePost c l comp m er w e w') : SeU c l comp m er w e w' := by
  unfold SePost at h
  unfold SeU seQ seRL
  by_cases h0 : seE c l comp m.we m.wn m.se m.sn er m.s0 m.s1 = 0
  · obtain ⟨A1, A2, c1, c2, q, he, h1, h2, h3⟩ := h.2 h0
    rw [if_pos h0, if_pos h0, h0]
    have hq : q ≤ 8 := by
      have h4 := h1.len
      have h5 := seR_len c comp m.si er l l.length
      have h6 : csE l = 0 := by
        unfold seE at h0
        by_cases g1 : c.E = 0
        · rw [if_neg (by simpa using g1)] at h0
          by_cases g2 : csE l = 0
          · exact g2
          · rw [if_pos g2] at h0; exact absurd h0 g2
        · rw [if_pos g1] at h0; exact absurd h0 g1
      have := cs_n8 h6 rfl
      omega
    exact ⟨A1, A2, c1, c2, q, he, h1, h2, h3, hq⟩
  · obtain ⟨he, hb⟩ := h.1 h0
    rw [if_neg h0, if_neg h0]
    exact ⟨none, none, 0, 0, 0, he, Recs.nil _ _ _, Recs.nil _ _ _, hb, by decide⟩
def SmRel (z : SeZ) (A1 A2 : Option Addr) (q c1 c2 : Nat) (w : World) (t : Value) (wr : World) : Prop :=
  ∃ k : Nat, k ≤ q ∧ t = .int .i64 k ∧ Has wr w.heap.size (z.cells (.slice A1 q c1)) ∧ Has wr (w.heap.size + 1) (z.cells (.slice A2 q c2)) ∧ Below w.heap.size w wr
set_option maxRecDepth 100000 in
set_option maxHeartbeats 2000000 in
theorem same_t (z : SeZ) (A1 A2 : Option Addr) (q c1 c2 : Nat) (RL : List Rep) (w : World) (h1 : Recs Rep.cells 8 w A1 q RL) (h2 : Recs Rep.cells 8 w A2 q RL) (hq : q ≤ 8) :
    Calls Tryz.prog 10 #[.agg #[.int .i64 z.tk, .slice A1 q c1, .int .i64 z.ve, .int .i64 z.vn, .int .i64 z.dr, .int .i64 z.al, .int .i64 z.vs, .int .i64 z.ca, .int .i64 z.fu, .bool z.gr, .bool z.th, .bool z.st, .string z.cm], .agg #[.int .i64 z.tk, .slice A2 q c2, .int .i64 z.ve, .int .i64 z.vn, .int .i64 z.dr, .int .i64 z.al, .int .i64 z.vs, .int .i64 z.ca, .int .i64 z.fu, .bool z.gr, .bool z.th, .bool z.st, .string z.cm]] w fun e w' => e = .returned (.bool true) ∧ Below w.heap.size w w' := by
  have H1 := Lib.hid h1
  have H2 := Lib.hid h2
  have HLN := Lib.hid h1.len
  clear h1 h2
  go_enter Tryz.func10, Tryz.ntmps10
  have B1 : Hid (Has ((w.alloc (.cells #[.int .i64 z.tk, .slice A1 q c1, .int .i64 z.ve, .int .i64 z.vn, .int .i64 z.dr, .int .i64 z.al, .int .i64 z.vs, .int .i64 z.ca, .int .i64 z.fu, .bool z.gr, .bool z.th, .bool z.st, .string z.cm] 50)).alloc (.cells #[.int .i64 z.tk, .slice A2 q c2, .int .i64 z.ve, .int .i64 z.vn, .int .i64 z.dr, .int .i64 z.al, .int .i64 z.vs, .int .i64 z.ca, .int .i64 z.fu, .bool z.gr, .bool z.th, .bool z.st, .string z.cm] 50)) w.heap.size (z.cells (.slice A1 q c1))) := Lib.hid ((Has.new w _ _).alloc _)
  have B2 : Hid (Has ((w.alloc (.cells #[.int .i64 z.tk, .slice A1 q c1, .int .i64 z.ve, .int .i64 z.vn, .int .i64 z.dr, .int .i64 z.al, .int .i64 z.vs, .int .i64 z.ca, .int .i64 z.fu, .bool z.gr, .bool z.th, .bool z.st, .string z.cm] 50)).alloc (.cells #[.int .i64 z.tk, .slice A2 q c2, .int .i64 z.ve, .int .i64 z.vn, .int .i64 z.dr, .int .i64 z.al, .int .i64 z.vs, .int .i64 z.ca, .int .i64 z.fu, .bool z.gr, .bool z.th, .bool z.st, .string z.cm] 50)) (w.heap.size + 1) (z.cells (.slice A2 q c2))) := Lib.hid (Has.newAt (w.alloc _) _ _ (w.heap.size + 1) (by simp))
  have HB : Hid (Below w.heap.size w ((w.alloc (.cells #[.int .i64 z.tk, .slice A1 q c1, .int .i64 z.ve, .int .i64 z.vn, .int .i64 z.dr, .int .i64 z.al, .int .i64 z.vs, .int .i64 z.ca, .int .i64 z.fu, .bool z.gr, .bool z.th, .bool z.st, .string z.cm] 50)).alloc (.cells #[.int .i64 z.tk, .slice A2 q c2, .int .i64 z.ve, .int .i64 z.vn, .int .i64 z.dr, .int .i64 z.al, .int .i64 z.vs, .int .i64 z.ca, .int .i64 z.fu, .bool z.gr, .bool z.th, .bool z.st, .string z.cm] 50))) := Lib.hid (below_alloc2 _ _ _)
  have x1 := B1.out.cell 1 (.slice A1 q c1) rfl
  have x2 := B2.out.cell 1 (.slice A2 q c2) rfl
  go_wp2_with fail
  clear x1 x2
  go_loopw [16] (fun t wr => SmRel z A1 A2 q c1 c2 w t wr) (fun t _ => q - (intOf t).toNat)
  case atStart => exact ⟨0, by omega, rfl, B1.out, B2.out, HB.out⟩
  case round =>
    obtain ⟨k, hk, rfl, hx, hy, hz⟩ := hrel
    replace B1 := Lib.hid hx
    replace B2 := Lib.hid hy
    replace HB := Lib.hid hz
    clear hx hy hz
    by_cases hlt : k < q
    rotate_left
    · have a0 := B1.out.cell 0 (.int .i64 z.tk) rfl
      have a1 := B1.out.cell 1 (.slice A1 q c1) rfl
      have a2 := B1.out.cell 2 (.int .i64 z.ve) rfl
      have a3 := B1.out.cell 3 (.int .i64 z.vn) rfl
      have a4 := B1.out.cell 4 (.int .i64 z.dr) rfl
      have a5 := B1.out.cell 5 (.int .i64 z.al) rfl
      have a6 := B1.out.cell 6 (.int .i64 z.vs) rfl
      have a7 := B1.out.cell 7 (.int .i64 z.ca) rfl
      have a8 := B1.out.cell 8 (.int .i64 z.fu) rfl
      have a9 := B1.out.cell 9 (.bool z.gr) rfl
      have a10 := B1.out.cell 10 (.bool z.th) rfl
      have a11 := B1.out.cell 11 (.bool z.st) rfl
      have a12 := B1.out.cell 12 (.string z.cm) rfl
      have b0 := B2.out.cell 0 (.int .i64 z.tk) rfl
      have b1 := B2.out.cell 1 (.slice A2 q c2) rfl
      have b2 := B2.out.cell 2 (.int .i64 z.ve) rfl
      have b3 := B2.out.cell 3 (.int .i64 z.vn) rfl
      have b4 := B2.out.cell 4 (.int .i64 z.dr) rfl
      have b5 := B2.out.cell 5 (.int .i64 z.al) rfl
      have b6 := B2.out.cell 6 (.int .i64 z.vs) rfl
      have b7 := B2.out.cell 7 (.int .i64 z.ca) rfl
      have b8 := B2.out.cell 8 (.int .i64 z.fu) rfl
      have b9 := B2.out.cell 9 (.bool z.gr) rfl
      have b10 := B2.out.cell 10 (.bool z.th) rfl
      have b11 := B2.out.cell 11 (.bool z.st) rfl
      have b12 := B2.out.cell 12 (.string z.cm) rfl
      go_wp2_with fail
      go_ret
      exact ⟨ret_bool (by simp), HB.out⟩
    obtain ⟨r, hr⟩ := get_ex HLN.out hlt
    obtain ⟨b, off, rfl, hb, hc⟩ := H1.out.cells (by omega)
    obtain ⟨b', off', rfl, hb', hc'⟩ := H2.out.cells (by omega)
    have x1 := B1.out.cell 1 (.slice (some ⟨b, off, none⟩) q c1) rfl
    have x2 := B2.out.cell 1 (.slice (some ⟨b', off', none⟩) q c2) rfl
    have hcw := fun j v hv => (HB.out.cell (p := ⟨b, _, none⟩) hb).trans (hc k r hr j v hv)
    have hcv := fun j v hv => (HB.out.cell (p := ⟨b', _, none⟩) hb').trans (hc' k r hr j v hv)
    have y0 : wr.cell? ⟨b, off + k * 8, none⟩ = some (.int .i64 r.so) := hcw 0 _ rfl
    have y1 : wr.cell? ⟨b, off + k * 8 + 1, none⟩ = some (.int .u8 r.ki) := hcw 1 _ rfl
    have y2 : wr.cell? ⟨b, off + k * 8 + 2, none⟩ = some (.int .i64 r.x) := hcw 2 _ rfl
    have y3 : wr.cell? ⟨b, off + k * 8 + 3, none⟩ = some (.int .i64 r.y) := hcw 3 _ rfl
    have y4 : wr.cell? ⟨b, off + k * 8 + 4, none⟩ = some (.int .i64 r.va) := hcw 4 _ rfl
    have y5 : wr.cell? ⟨b, off + k * 8 + 5, none⟩ = some (.int .i64 r.bo) := hcw 5 _ rfl
    have y6 : wr.cell? ⟨b, off + k * 8 + 6, none⟩ = some (.int .i64 r.we) := hcw 6 _ rfl
    have y7 : wr.cell? ⟨b, off + k * 8 + 7, none⟩ = some (.int .i64 r.tk) := hcw 7 _ rfl
    have v0 : wr.cell? ⟨b', off' + k * 8, none⟩ = some (.int .i64 r.so) := hcv 0 _ rfl
    have v1 : wr.cell? ⟨b', off' + k * 8 + 1, none⟩ = some (.int .u8 r.ki) := hcv 1 _ rfl
    have v2 : wr.cell? ⟨b', off' + k * 8 + 2, none⟩ = some (.int .i64 r.x) := hcv 2 _ rfl
    have v3 : wr.cell? ⟨b', off' + k * 8 + 3, none⟩ = some (.int .i64 r.y) := hcv 3 _ rfl
    have v4 : wr.cell? ⟨b', off' + k * 8 + 4, none⟩ = some (.int .i64 r.va) := hcv 4 _ rfl
    have v5 : wr.cell? ⟨b', off' + k * 8 + 5, none⟩ = some (.int .i64 r.bo) := hcv 5 _ rfl
    have v6 : wr.cell? ⟨b', off' + k * 8 + 6, none⟩ = some (.int .i64 r.we) := hcv 6 _ rfl
    have v7 : wr.cell? ⟨b', off' + k * 8 + 7, none⟩ = some (.int .i64 r.tk) := hcv 7 _ rfl
    clear hc hc' hcw hcv hr
    go_wp2_with fail
    go_quiet (fail)
    go_wp2_with fail
    go_roundw
    case rel => exact ⟨k + 1, by omega, by go_num, B1.out.below (below_drewN (Below.refl _ _) _), B2.out.below (below_drewN (Below.refl _ _) _), below_drewN HB.out _⟩
    case measure => simp only [intOf]; omega
end Go.Proofs.YtcmdpfdhmbpahaaGreat
