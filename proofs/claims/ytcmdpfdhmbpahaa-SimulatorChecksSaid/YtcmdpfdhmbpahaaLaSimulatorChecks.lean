/- The statement SimulatorChecks: for every input the law returns true, and every argument reads afterwards as before. No condition. -/
import Derived.Test.YtcmdpfdhmbpahaaRows
import Derived.Test.YtcmdpfdhmbpahaaLaBase59
import Derived.Test.YtcmdpfdhmbpahaaOpen59
import Derived.Deep.RegionHeld3
import Derived.SizedLaws
import Derived.WalkKit
import Derived.ProofKit
import Derived.OpenShut
import Derived.ShutString
import Derived.ChangeOld
import Derived.Below
namespace Go.Proofs.Ytcmdpfdhmbpahaa
set_option linter.unusedSimpArgs false
set_option linter.unusedVariables false
open Go.RowKit
theorem cells22 {tk px py ve vn al vs hd ca fu bk we wn sve svn si : Int} {gr th st : Bool} {E : Option Addr} {ne ce : Nat} {s0 s1 : ByteArray} {w W : World} (h1 : Has W w.heap.size [.int .i64 tk, .int .i64 px, .int .i64 py, .int .i64 ve, .int .i64 vn, .int .i64 al, .int .i64 vs, .int .i64 hd, .int .i64 ca, .int .i64 fu, .int .i64 bk, .bool gr]) (h2 : Has W (w.heap.size + 1) [.int .i64 we, .int .i64 wn, .slice E ne ce, .int .i64 sve, .int .i64 svn, .int .u16 si, .bool th, .bool st, .string s0, .string s1]) : W.cell? ⟨w.heap.size, 0, none⟩ = some (.int .i64 tk) ∧ W.cell? ⟨w.heap.size, 1, none⟩ = some (.int .i64 px) ∧ W.cell? ⟨w.heap.size, 2, none⟩ = some (.int .i64 py) ∧ W.cell? ⟨w.heap.size, 3, none⟩ = some (.int .i64 ve) ∧ W.cell? ⟨w.heap.size, 4, none⟩ = some (.int .i64 vn) ∧ W.cell? ⟨w.heap.size, 5, none⟩ = some (.int .i64 al) ∧ W.cell? ⟨w.heap.size, 6, none⟩ = some (.int .i64 vs) ∧ W.cell? ⟨w.heap.size, 7, none⟩ = some (.int .i64 hd) ∧ W.cell? ⟨w.heap.size, 8, none⟩ = some (.int .i64 ca) ∧ W.cell? ⟨w.heap.size, 9, none⟩ = some (.int .i64 fu) ∧ W.cell? ⟨w.heap.size, 10, none⟩ = some (.int .i64 bk) ∧ W.cell? ⟨w.heap.size, 11, none⟩ = some (.bool gr) ∧ W.cell? ⟨w.heap.size + 1, 0, none⟩ = some (.int .i64 we) ∧ W.cell? ⟨w.heap.size + 1, 1, none⟩ = some (.int .i64 wn) ∧ W.cell? ⟨w.heap.size + 1, 2, none⟩ = some (.slice E ne ce) ∧ W.cell? ⟨w.heap.size + 1, 3, none⟩ = some (.int .i64 sve) ∧ W.cell? ⟨w.heap.size + 1, 4, none⟩ = some (.int .i64 svn) ∧ W.cell? ⟨w.heap.size + 1, 5, none⟩ = some (.int .u16 si) ∧ W.cell? ⟨w.heap.size + 1, 6, none⟩ = some (.bool th) ∧ W.cell? ⟨w.heap.size + 1, 7, none⟩ = some (.bool st) ∧ W.cell? ⟨w.heap.size + 1, 8, none⟩ = some (.string s0) ∧ W.cell? ⟨w.heap.size + 1, 9, none⟩ = some (.string s1) :=
  ⟨h1.cell 0 _ rfl, h1.cell 1 _ rfl, h1.cell 2 _ rfl, h1.cell 3 _ rfl, h1.cell 4 _ rfl, h1.cell 5 _ rfl, h1.cell 6 _ rfl, h1.cell 7 _ rfl, h1.cell 8 _ rfl, h1.cell 9 _ rfl, h1.cell 10 _ rfl, h1.cell 11 _ rfl, h2.cell 0 _ rfl, h2.cell 1 _ rfl, h2.cell 2 _ rfl, h2.cell 3 _ rfl, h2.cell 4 _ rfl, h2.cell 5 _ rfl, h2.cell 6 _ rfl, h2.cell 7 _ rfl, h2.cell 8 _ rfl, h2.cell 9 _ rfl⟩
set_option maxRecDepth 100000 in
set_option maxHeartbeats 4000000 in
theorem walk_SimulatorChecks (tk : Int) (px : Int) (py : Int) (ve : Int) (vn : Int) (al : Int) (vs : Int) (hd : Int) (ca : Int) (fu : Int) (bk : Int) (gr : Bool) (A : Option Addr) (n c : Nat) (l : List Sns) (we : Int) (wn : Int) (E : Option Addr) (ne : Nat) (ce : Nat) (er : List (Int × Int)) (sve : Int) (svn : Int) (si : Int) (th : Bool) (st : Bool) (s0 : ByteArray) (s1 : ByteArray) (w : World) (_ : (Lit.int .i64 tk).wf = true) (_ : (Lit.int .i64 px).wf = true) (_ : (Lit.int .i64 py).wf = true) (_ : (Lit.int .i64 ve).wf = true) (_ : (Lit.int .i64 vn).wf = true) (_ : (Lit.int .i64 al).wf = true) (_ : (Lit.int .i64 vs).wf = true) (_ : (Lit.int .i64 hd).wf = true) (_ : (Lit.int .i64 ca).wf = true) (_ : (Lit.int .i64 fu).wf = true) (_ : (Lit.int .i64 bk).wf = true) (hl : Recs Sns.cells 7 w A n l) (hw : ∀ s ∈ l, Sns.wf s) (hn : n ≤ maxLen) (_ : n * 56 ≤ reachBytes) (_ : (Lit.int .i64 we).wf = true) (_ : (Lit.int .i64 wn).wf = true) (hne : ne ≤ maxLen) (_ : CapOk E ne ce) (he : Recs er2 2 w E ne er) (_ : (∀ x ∈ er, (fun p : Int × Int => I64 p.1 ∧ I64 p.2) x)) (_ : (Lit.int .i64 sve).wf = true) (_ : (Lit.int .i64 svn).wf = true) (_ : (Lit.int .u16 si).wf = true) (_ : s0.size ≤ maxLen) (_ : s1.size ≤ maxLen) :
    Calls Try.prog 5 #[.agg #[.int .i64 tk, .int .i64 px, .int .i64 py, .int .i64 ve, .int .i64 vn, .int .i64 al, .int .i64 vs, .int .i64 hd, .int .i64 ca, .int .i64 fu, .int .i64 bk, .bool gr], .slice A n c, .agg #[.int .i64 we, .int .i64 wn, .slice E ne ce, .int .i64 sve, .int .i64 svn, .int .u16 si, .bool th, .bool st, .string s0, .string s1]] w fun e w' => e = .returned (.bool true) ∧ Below w.heap.size w w' := by
  have HC1 := Lib.hid (xCraft tk px py ve vn al vs hd ca fu bk gr)
  have HC2 := Lib.hid (rCraft tk px py ve vn al vs hd ca fu bk gr)
  have HS1 := Lib.hid (fun w' hB => xSensors A n c l w' (hl.below (w' := w') hB) hn hw)
  have HS2 := Lib.hid (fun w' hB => rSensors A n c l w' (hl.below (w' := w') hB) hn hw)
  have HM1 := Lib.hid (fun w' hB => xMoment we wn sve svn si th st E ne ce er s0 s1 w' (he.below (w' := w') hB) hne)
  have HM2 := Lib.hid (fun w' hB => rMoment we wn sve svn si th st E ne ce er s0 s1 w' (he.below (w' := w') hB) hne)
  generalize crE tk px py ve vn al vs hd ca fu bk = E1 at *
  generalize csE l = E2 at *
  generalize moE we wn sve svn er s0 s1 = E3 at *
  have e1 : (E1 == E1) = true := beq_self_eq_true E1
  have e2 : (E2 == E2) = true := beq_self_eq_true E2
  have e3 : (E3 == E3) = true := beq_self_eq_true E3
  clear hl hw he
  go_enter Try.func5, Try.ntmps5
  go_wp2_with fail
  have KC : Hid (Has _ w.heap.size [.int .i64 tk, .int .i64 px, .int .i64 py, .int .i64 ve, .int .i64 vn, .int .i64 al, .int .i64 vs, .int .i64 hd, .int .i64 ca, .int .i64 fu, .int .i64 bk, .bool gr]) := Lib.hid ((Has.new w _ 27).alloc (.cells #[.int .i64 we, .int .i64 wn, .slice E ne ce, .int .i64 sve, .int .i64 svn, .int .u16 si, .bool th, .bool st, .string s0, .string s1] 35))
  have KM : Hid (Has _ (w.heap.size + 1) [.int .i64 we, .int .i64 wn, .slice E ne ce, .int .i64 sve, .int .i64 svn, .int .u16 si, .bool th, .bool st, .string s0, .string s1]) := Lib.hid (Has.newAt (w.alloc (.cells #[.int .i64 tk, .int .i64 px, .int .i64 py, .int .i64 ve, .int .i64 vn, .int .i64 al, .int .i64 vs, .int .i64 hd, .int .i64 ca, .int .i64 fu, .int .i64 bk, .bool gr] 27)) _ 35 (w.heap.size + 1) (by simp))
  have BB := Lib.hid (below_alloc2 w (.cells #[.int .i64 tk, .int .i64 px, .int .i64 py, .int .i64 ve, .int .i64 vn, .int .i64 al, .int .i64 vs, .int .i64 hd, .int .i64 ca, .int .i64 fu, .int .i64 bk, .bool gr] 27) (.cells #[.int .i64 we, .int .i64 wn, .slice E ne ce, .int .i64 sve, .int .i64 svn, .int .u16 si, .bool th, .bool st, .string s0, .string s1] 35))
  generalize ((w.alloc (.cells #[.int .i64 tk, .int .i64 px, .int .i64 py, .int .i64 ve, .int .i64 vn, .int .i64 al, .int .i64 vs, .int .i64 hd, .int .i64 ca, .int .i64 fu, .int .i64 bk, .bool gr] 27)).alloc (.cells #[.int .i64 we, .int .i64 wn, .slice E ne ce, .int .i64 sve, .int .i64 svn, .int .u16 si, .bool th, .bool st, .string s0, .string s1] 35)) = w0 at *
  have kc0 := KC.out.cell 0 _ rfl
  have kc1 := KC.out.cell 1 _ rfl
  have kc2 := KC.out.cell 2 _ rfl
  have kc3 := KC.out.cell 3 _ rfl
  have kc4 := KC.out.cell 4 _ rfl
  have kc5 := KC.out.cell 5 _ rfl
  have kc6 := KC.out.cell 6 _ rfl
  have kc7 := KC.out.cell 7 _ rfl
  have kc8 := KC.out.cell 8 _ rfl
  have kc9 := KC.out.cell 9 _ rfl
  have kc10 := KC.out.cell 10 _ rfl
  have kc11 := KC.out.cell 11 _ rfl
  have km0 := KM.out.cell 0 _ rfl
  have km1 := KM.out.cell 1 _ rfl
  have km2 := KM.out.cell 2 _ rfl
  have km3 := KM.out.cell 3 _ rfl
  have km4 := KM.out.cell 4 _ rfl
  have km5 := KM.out.cell 5 _ rfl
  have km6 := KM.out.cell 6 _ rfl
  have km7 := KM.out.cell 7 _ rfl
  have km8 := KM.out.cell 8 _ rfl
  have km9 := KM.out.cell 9 _ rfl
  go_region_held3 (fun W => W.cell? ⟨w.heap.size, 0, none⟩ = some (.int .i64 tk) ∧ W.cell? ⟨w.heap.size, 1, none⟩ = some (.int .i64 px) ∧ W.cell? ⟨w.heap.size, 2, none⟩ = some (.int .i64 py) ∧ W.cell? ⟨w.heap.size, 3, none⟩ = some (.int .i64 ve) ∧ W.cell? ⟨w.heap.size, 4, none⟩ = some (.int .i64 vn) ∧ W.cell? ⟨w.heap.size, 5, none⟩ = some (.int .i64 al) ∧ W.cell? ⟨w.heap.size, 6, none⟩ = some (.int .i64 vs) ∧ W.cell? ⟨w.heap.size, 7, none⟩ = some (.int .i64 hd) ∧ W.cell? ⟨w.heap.size, 8, none⟩ = some (.int .i64 ca) ∧ W.cell? ⟨w.heap.size, 9, none⟩ = some (.int .i64 fu) ∧ W.cell? ⟨w.heap.size, 10, none⟩ = some (.int .i64 bk) ∧ W.cell? ⟨w.heap.size, 11, none⟩ = some (.bool gr) ∧ W.cell? ⟨w.heap.size + 1, 0, none⟩ = some (.int .i64 we) ∧ W.cell? ⟨w.heap.size + 1, 1, none⟩ = some (.int .i64 wn) ∧ W.cell? ⟨w.heap.size + 1, 2, none⟩ = some (.slice E ne ce) ∧ W.cell? ⟨w.heap.size + 1, 3, none⟩ = some (.int .i64 sve) ∧ W.cell? ⟨w.heap.size + 1, 4, none⟩ = some (.int .i64 svn) ∧ W.cell? ⟨w.heap.size + 1, 5, none⟩ = some (.int .u16 si) ∧ W.cell? ⟨w.heap.size + 1, 6, none⟩ = some (.bool th) ∧ W.cell? ⟨w.heap.size + 1, 7, none⟩ = some (.bool st) ∧ W.cell? ⟨w.heap.size + 1, 8, none⟩ = some (.string s0) ∧ W.cell? ⟨w.heap.size + 1, 9, none⟩ = some (.string s1)) ((first | exact cells22 (Hid.out (by assumption)) (Hid.out (by assumption)) | exact cells22 (Has.drew (Hid.out (by assumption))) (Has.drew (Hid.out (by assumption))))) ((first | (go_at_call 9; refine (awake_any _).mono ?_; rintro e wx ⟨rfl, hB⟩; have KC : Hid (Has wx w.heap.size [.int .i64 tk, .int .i64 px, .int .i64 py, .int .i64 ve, .int .i64 vn, .int .i64 al, .int .i64 vs, .int .i64 hd, .int .i64 ca, .int .i64 fu, .int .i64 bk, .bool gr]) := Lib.hid (Has.below (by first | exact Hid.out (by assumption) | exact Has.drew (Hid.out (by assumption))) hB); have KM : Hid (Has wx (w.heap.size + 1) [.int .i64 we, .int .i64 wn, .slice E ne ce, .int .i64 sve, .int .i64 svn, .int .u16 si, .bool th, .bool st, .string s0, .string s1]) := Lib.hid (Has.below (by first | exact Hid.out (by assumption) | exact Has.drew (Hid.out (by assumption))) hB); have BB : Hid (Below w.heap.size w wx) := Lib.hid (bel_trans (by first | exact Hid.out (by assumption) | exact Below.drew (Hid.out (by assumption))) hB); clear hB) | (go_at_call 12; refine (HC1.out _).mono ?_; rintro e wx ⟨rfl, hB⟩; have KC : Hid (Has wx w.heap.size [.int .i64 tk, .int .i64 px, .int .i64 py, .int .i64 ve, .int .i64 vn, .int .i64 al, .int .i64 vs, .int .i64 hd, .int .i64 ca, .int .i64 fu, .int .i64 bk, .bool gr]) := Lib.hid (Has.below (by first | exact Hid.out (by assumption) | exact Has.drew (Hid.out (by assumption))) hB); have KM : Hid (Has wx (w.heap.size + 1) [.int .i64 we, .int .i64 wn, .slice E ne ce, .int .i64 sve, .int .i64 svn, .int .u16 si, .bool th, .bool st, .string s0, .string s1]) := Lib.hid (Has.below (by first | exact Hid.out (by assumption) | exact Has.drew (Hid.out (by assumption))) hB); have BB : Hid (Below w.heap.size w wx) := Lib.hid (bel_trans (by first | exact Hid.out (by assumption) | exact Below.drew (Hid.out (by assumption))) hB); clear hB) | (go_at_call 15; refine (HC2.out _).mono ?_; rintro e wx ⟨rfl, hB⟩; have KC : Hid (Has wx w.heap.size [.int .i64 tk, .int .i64 px, .int .i64 py, .int .i64 ve, .int .i64 vn, .int .i64 al, .int .i64 vs, .int .i64 hd, .int .i64 ca, .int .i64 fu, .int .i64 bk, .bool gr]) := Lib.hid (Has.below (by first | exact Hid.out (by assumption) | exact Has.drew (Hid.out (by assumption))) hB); have KM : Hid (Has wx (w.heap.size + 1) [.int .i64 we, .int .i64 wn, .slice E ne ce, .int .i64 sve, .int .i64 svn, .int .u16 si, .bool th, .bool st, .string s0, .string s1]) := Lib.hid (Has.below (by first | exact Hid.out (by assumption) | exact Has.drew (Hid.out (by assumption))) hB); have BB : Hid (Below w.heap.size w wx) := Lib.hid (bel_trans (by first | exact Hid.out (by assumption) | exact Below.drew (Hid.out (by assumption))) hB); clear hB) | (go_at_call 16; refine (HS1.out _ (by first | exact Hid.out (by assumption) | exact Below.drew (Hid.out (by assumption)))).mono ?_; rintro e wx ⟨rfl, hB⟩; have KC : Hid (Has wx w.heap.size [.int .i64 tk, .int .i64 px, .int .i64 py, .int .i64 ve, .int .i64 vn, .int .i64 al, .int .i64 vs, .int .i64 hd, .int .i64 ca, .int .i64 fu, .int .i64 bk, .bool gr]) := Lib.hid (Has.below (by first | exact Hid.out (by assumption) | exact Has.drew (Hid.out (by assumption))) hB); have KM : Hid (Has wx (w.heap.size + 1) [.int .i64 we, .int .i64 wn, .slice E ne ce, .int .i64 sve, .int .i64 svn, .int .u16 si, .bool th, .bool st, .string s0, .string s1]) := Lib.hid (Has.below (by first | exact Hid.out (by assumption) | exact Has.drew (Hid.out (by assumption))) hB); have BB : Hid (Below w.heap.size w wx) := Lib.hid (bel_trans (by first | exact Hid.out (by assumption) | exact Below.drew (Hid.out (by assumption))) hB); clear hB) | (go_at_call 17; refine (HS2.out _ (by first | exact Hid.out (by assumption) | exact Below.drew (Hid.out (by assumption)))).mono ?_; rintro e wx ⟨rfl, hB⟩; have KC : Hid (Has wx w.heap.size [.int .i64 tk, .int .i64 px, .int .i64 py, .int .i64 ve, .int .i64 vn, .int .i64 al, .int .i64 vs, .int .i64 hd, .int .i64 ca, .int .i64 fu, .int .i64 bk, .bool gr]) := Lib.hid (Has.below (by first | exact Hid.out (by assumption) | exact Has.drew (Hid.out (by assumption))) hB); have KM : Hid (Has wx (w.heap.size + 1) [.int .i64 we, .int .i64 wn, .slice E ne ce, .int .i64 sve, .int .i64 svn, .int .u16 si, .bool th, .bool st, .string s0, .string s1]) := Lib.hid (Has.below (by first | exact Hid.out (by assumption) | exact Has.drew (Hid.out (by assumption))) hB); have BB : Hid (Below w.heap.size w wx) := Lib.hid (bel_trans (by first | exact Hid.out (by assumption) | exact Below.drew (Hid.out (by assumption))) hB); clear hB) | (go_at_call 18; refine (HM1.out _ (by first | exact Hid.out (by assumption) | exact Below.drew (Hid.out (by assumption)))).mono ?_; rintro e wx ⟨rfl, hB⟩; have KC : Hid (Has wx w.heap.size [.int .i64 tk, .int .i64 px, .int .i64 py, .int .i64 ve, .int .i64 vn, .int .i64 al, .int .i64 vs, .int .i64 hd, .int .i64 ca, .int .i64 fu, .int .i64 bk, .bool gr]) := Lib.hid (Has.below (by first | exact Hid.out (by assumption) | exact Has.drew (Hid.out (by assumption))) hB); have KM : Hid (Has wx (w.heap.size + 1) [.int .i64 we, .int .i64 wn, .slice E ne ce, .int .i64 sve, .int .i64 svn, .int .u16 si, .bool th, .bool st, .string s0, .string s1]) := Lib.hid (Has.below (by first | exact Hid.out (by assumption) | exact Has.drew (Hid.out (by assumption))) hB); have BB : Hid (Below w.heap.size w wx) := Lib.hid (bel_trans (by first | exact Hid.out (by assumption) | exact Below.drew (Hid.out (by assumption))) hB); clear hB) | (go_at_call 19; refine (HM2.out _ (by first | exact Hid.out (by assumption) | exact Below.drew (Hid.out (by assumption)))).mono ?_; rintro e wx ⟨rfl, hB⟩; have KC : Hid (Has wx w.heap.size [.int .i64 tk, .int .i64 px, .int .i64 py, .int .i64 ve, .int .i64 vn, .int .i64 al, .int .i64 vs, .int .i64 hd, .int .i64 ca, .int .i64 fu, .int .i64 bk, .bool gr]) := Lib.hid (Has.below (by first | exact Hid.out (by assumption) | exact Has.drew (Hid.out (by assumption))) hB); have KM : Hid (Has wx (w.heap.size + 1) [.int .i64 we, .int .i64 wn, .slice E ne ce, .int .i64 sve, .int .i64 svn, .int .u16 si, .bool th, .bool st, .string s0, .string s1]) := Lib.hid (Has.below (by first | exact Hid.out (by assumption) | exact Has.drew (Hid.out (by assumption))) hB); have BB : Hid (Below w.heap.size w wx) := Lib.hid (bel_trans (by first | exact Hid.out (by assumption) | exact Below.drew (Hid.out (by assumption))) hB); clear hB)))
  all_goals (
    go_wp2_with fail
    go_ret
    exact ⟨ret_bool (by simp), by first | exact Hid.out (by assumption) | exact Below.drew (Hid.out (by assumption))⟩)
end Go.Proofs.Ytcmdpfdhmbpahaa
namespace Go.Proofs.Ytcmdpfdhmbpahaa.simulatorChecks
open Go.ChangeShapes Go.WideShapes Go.ChangeAt Go.RowKit
open Go.ChangeMaps (open_string shut_string)
set_option linter.unusedVariables false
set_option linter.unusedSimpArgs false

theorem own : ownKnob Try.prog.godebug = none := by kernel_rfl
theorem laidOut : laidOutB Try.prog = true := by kernel_rfl

set_option maxRecDepth 100000 in
theorem lifted (os : Os) (started : os.Started) (H : Type) (enc : TypeId × Value → H) :
    ReturnsInHanded {} Try.checked os 5 .any (Rows.simulatorChecksSpec.pre6 enc Try.prog Try.f5 Rows.simulatorChecksRow.domain false) (Rows.simulatorChecksSpec.post enc Try.prog Try.f5 false true false false) := by
  refine returnsInHanded_of_change_sized (C := Try.checked) own started (by kernel_rfl) Try.func5
    (ChangeSpec.witness6 (enc := enc) (C := Try.checked) false ⟨#[], #[.agg #[.int .i64 0, .int .i64 0, .int .i64 0, .int .i64 0, .int .i64 0, .int .i64 0, .int .i64 0, .int .i64 0, .int .i64 0, .int .i64 0, .int .i64 0, .bool false], .slice none 0 0, .agg #[.int .i64 0, .int .i64 0, .slice none 0 0, .int .i64 0, .int .i64 0, .int .u16 0, .bool false, .bool false, .string ⟨#[]⟩, .string ⟨#[]⟩]], []⟩ 8 (by kernel_rfl) (by kernel_rfl) (by kernel_rfl) (by kernel_rfl)) ?_
  intro W base args ds gs before hval0 hW hcnd hsz0 _
  have hval : ∀ (j : Nat) t v, Try.f5.params[j]? = some t → args[j]? = some v → Value.okWide Try.prog W .any base t v := hval0
  have hW' := hW
  obtain ⟨p, q, hA0, hV, rfl, hfz, hnd⟩ := hW
  have hA : DataW.TrodAll enc Try.prog W 0 (fun _ => true) true Try.f5.params.toList args.toList ds p := hA0
  have hsz : (DataW.weightsEach Try.prog (Try.f5.params.toList ++ Rows.simulatorChecksSpec.plain.varTypes Try.prog) (ds ++ gs)).all (· ≤ reachBytes) = true := hsz0
  rw [Try.params5] at hA hval hsz
  obtain ⟨v0, vs0, d0, ds0, p0, q0, hargs, rfl, rfl, h0, r0⟩ := trodAll_cons hA
  obtain ⟨v1, vs1, d1, ds1, p1, q1, rfl, rfl, rfl, h1, r1⟩ := trodAll_cons r0
  obtain ⟨v2, vs2, d2, ds2, p2, q2, rfl, rfl, rfl, h2, r2⟩ := trodAll_cons r1
  obtain ⟨rfl, rfl, rfl⟩ := trodAll_nil r2
  obtain rfl : args = #[v0, v1, v2] := by cases args; simp_all
  obtain ⟨rfl, rfl⟩ := trodVars_none hV
  have k0 := h0
  have lt0 : ∀ x ∈ p0, x.block < W.heap.size := by obtain ⟨m, hm⟩ := k0; exact DataW.trod_lt m _ _ _ hm
  have k1 := h1
  have lt1 : ∀ x ∈ p1, x.block < W.heap.size := by obtain ⟨m, hm⟩ := k1; exact DataW.trod_lt m _ _ _ hm
  have k2 := h2
  have lt2 : ∀ x ∈ p2, x.block < W.heap.size := by obtain ⟨m, hm⟩ := k2; exact DataW.trod_lt m _ _ _ hm
  obtain ⟨cs0, fu0, rfl, hh0⟩ := open_agg_list Try.underlying27 (hval 0 27 v0 rfl rfl) h0
  obtain ⟨tk_0, px_0, py_0, ve_0, vn_0, al_0, vs_0, hd_0, ca_0, fu_0, bk_0, gr_0, rfl, cf0_0, cf1_0, cf2_0, cf3_0, cf4_0, cf5_0, cf6_0, cf7_0, cf8_0, cf9_0, cf10_0⟩ := op_craft _ _ _ hh0
  obtain ⟨A1, n1, c1, z1, rfl, m1, qc1, w1, u1, o1⟩ := open_recs_Trod Sns.cells 7 (by decide) (fun _ => rfl) Sns.wf Try.underlying58 (by kernel_rfl) el_sns (hval 1 58 v1 rfl rfl) h1
  have o1' := o1 (weights_arg hsz (j := 1) rfl rfl)
  rw [show Try.prog.bytesOf 51 = 56 by kernel_rfl] at o1'
  obtain ⟨cs2, fu2, rfl, hh2⟩ := open_agg_list Try.underlying35 (hval 2 35 v2 rfl rfl) h2
  obtain ⟨we_2, wn_2, E_2, ne_2, ce_2, er_2, sve_2, svn_2, si_2, th_2, st_2, s0_2, s1_2, rfl, mf0_2, mf1_2, mf2_2, mf3_2, mf4_2, mf5_2, mf6_2, mf7_2, mf8_2, mf9_2, mf10_2⟩ := op_moment _ _ _ hh2
  clear hA0 hval0
  refine (Ytcmdpfdhmbpahaa.walk_SimulatorChecks tk_0 px_0 py_0 ve_0 vn_0 al_0 vs_0 hd_0 ca_0 fu_0 bk_0 gr_0 A1 n1 c1 z1 we_2 wn_2 E_2 ne_2 ce_2 er_2 sve_2 svn_2 si_2 th_2 st_2 s0_2 s1_2 W cf0_0 cf1_0 cf2_0 cf3_0 cf4_0 cf5_0 cf6_0 cf7_0 cf8_0 cf9_0 cf10_0 w1 u1 m1 o1' mf0_2 mf1_2 mf2_2 mf3_2 mf4_2 mf5_2 mf6_2 mf7_2 mf8_2 mf9_2 mf10_2).mono fun e W' ⟨he, bel⟩ => ?_
  subst he
  exact ⟨_, rfl, _, _, _, [], _, [], hW', trodAll_mk1 (shut_bool Try.underlying4 _), (trodAll_cons_mk (Below.trod laidOut (by kernel_rfl) (of_decide_eq_true (by kernel_rfl)) k0 bel lt0) (trodAll_cons_mk (Below.trod laidOut (by kernel_rfl) (of_decide_eq_true (by kernel_rfl)) k1 bel lt1) (trodAll_cons_mk (Below.trod laidOut (by kernel_rfl) (of_decide_eq_true (by kernel_rfl)) k2 bel lt2) trodAll_mk0))), rfl, bel.frame _, fun h => by cases h⟩

theorem over : Rows.simulatorChecksRow.holds Try.pinned (OpenSpec.ofChange Rows.simulatorChecksSpec) :=
  OpenClaim.holds_of_wide 5 Try.f5 rfl rfl rfl rfl rfl rfl rfl ⟨rfl, rfl, rfl, rfl, rfl⟩ rfl rfl rfl rfl rfl (by kernel_rfl) Try.func5 (by kernel_rfl)
    (of_decide_eq_true (by kernel_rfl)) (by unfold Func.isWrapper; first | (rw [if_pos (by decide +kernel)]; kernel_rfl) | (rw [if_neg (by decide +kernel)]; exact ⟨rfl, rfl⟩))
    (fun os started H enc _ => lifted os started H enc)

/-- the statement -/
theorem proved : Rows.SimulatorChecksSaid := over
end Go.Proofs.Ytcmdpfdhmbpahaa.simulatorChecks
