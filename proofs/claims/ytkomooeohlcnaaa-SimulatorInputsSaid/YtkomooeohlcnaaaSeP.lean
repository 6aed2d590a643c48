/- Layer 59 in plain words: what a computer senses. -/
import Derived.Test.YtkomooeohlcnaaaSimMe
import Derived.Test.YtkomooeohlcnaaaSimMo
import Derived.Test.YtkomooeohlcnaaaAgP
namespace Go.Proofs.Ytkomooeohlcnaaa
set_option linter.unusedSimpArgs false
set_option linter.unusedVariables false
open Go.RowKit
/-- an aircraft -/
structure Cra where
  tk : Int
  px : Int
  py : Int
  ve : Int
  vn : Int
  al : Int
  vs : Int
  hd : Int
  ca : Int
  fu : Int
  bk : Int
  gr : Bool
def Cra.E (c : Cra) : Int := cftE c.tk c.px c.py c.ve c.vn c.al c.vs c.hd c.ca c.fu c.bk
/-- a report -/
structure Rep where
  so : Int
  ki : Int
  x : Int
  y : Int
  va : Int
  bo : Int
  we : Int
  tk : Int
def Rep.cells (r : Rep) : List Value := [.int .i64 r.so, .int .u8 r.ki, .int .i64 r.x, .int .i64 r.y, .int .i64 r.va, .int .i64 r.bo, .int .i64 r.we, .int .i64 r.tk]
def oneB (b : Bool) : List Value := [.bool b]
def silB (si : Int) (k : Nat) : Bool := decide (si / 2 ^ k % 2 = 1)
/-- the error of a measurement, and the report -/
noncomputable def seM (c : Cra) (s : Sns) (d : Int × Int) : Int :=
  msE c.tk c.px c.py c.ve c.vn c.al c.vs c.hd c.ca c.fu c.bk s.co s.so s.ki s.x s.y s.bo s.we d.1 d.2 (diV s.x s.y c.px c.py) (coV s.x s.y c.px c.py) (coE s.x s.y c.px c.py)
noncomputable def seRp (c : Cra) (s : Sns) (d : Int × Int) : Rep :=
  ⟨s.so, s.ki, msX s.ki s.x c.px d.1, msX s.ki s.y c.py d.2, msV s.ki (diV s.x s.y c.px c.py) (coV s.x s.y c.px c.py) d.1, s.bo, s.we, c.tk⟩
noncomputable def seOne (c : Cra) (comp si : Int) (er : List (Int × Int)) (k : Nat) (s : Sns) : Option Rep :=
  if s.co ≠ comp then none else if silB si k = true then none else if seM c s (er.getD k (0, 0)) ≠ 0 then none else some (seRp c s (er.getD k (0, 0)))
noncomputable def seR (c : Cra) (comp si : Int) (er : List (Int × Int)) (l : List Sns) (n : Nat) : List Rep :=
  (List.range n).filterMap fun k => (l[k]?).bind (seOne c comp si er k)
noncomputable def agR (c : Cra) (r : Rep) : Bool := agB r.so r.ki r.x r.y r.va r.bo r.we r.tk c.px c.py
theorem seR_0 (c : Cra) (comp si : Int) (er : List (Int × Int)) (l : List Sns) : seR c comp si er l 0 = [] := rfl
theorem seR_some {c : Cra} {comp si : Int} {er : List (Int × Int)} {l : List Sns} {n : Nat} {s : Sns} {r : Rep} (hs : l[n]? = some s) (h : seOne c comp si er n s = some r) : seR c comp si er l (n + 1) = seR c comp si er l n ++ [r] := by
  unfold seR
  rw [List.range_succ, List.filterMap_append]
  simp [hs, h]
theorem seR_none {c : Cra} {comp si : Int} {er : List (Int × Int)} {l : List Sns} {n : Nat} {s : Sns} (hs : l[n]? = some s) (h : seOne c comp si er n s = none) : seR c comp si er l (n + 1) = seR c comp si er l n := by
  unfold seR
  rw [List.range_succ, List.filterMap_append]
  simp [hs, h]
theorem seR_len (c : Cra) (comp si : Int) (er : List (Int × Int)) (l : List Sns) (n : Nat) : (seR c comp si er l n).length ≤ n := by
  have := List.length_filterMap_le (fun k => (l[k]?).bind (seOne c comp si er k)) (List.range n)
  unfold seR
  simpa using this
def seE (c : Cra) (l : List Sns) (comp we wn se sn : Int) (er : List (Int × Int)) (s0 s1 : ByteArray) : Int :=
  if c.E ≠ 0 then c.E else if csE l ≠ 0 then csE l else if moE we wn se sn er s0 s1 ≠ 0 then moE we wn se sn er s0 s1 else if comp = 1 ∨ comp = 2 then 0 else 1
def vlV (n : Int) : Int := clampV n (-2000) 2000
def seCmd (comp : Int) (s0 s1 : ByteArray) : ByteArray := if comp = 1 then s0 else s1
/-- the cells of an input, with its slice of reports -/
def seC (c : Cra) (comp se sn : Int) (th st : Bool) (s0 s1 : ByteArray) (v : Value) : List Value :=
  [.int .i64 c.tk, v, .int .i64 (vlV (c.ve + se)), .int .i64 (vlV (c.vn + sn)), .int .i64 20, .int .i64 c.al, .int .i64 c.vs, .int .i64 c.ca, .int .i64 c.fu, .bool c.gr, .bool th, .bool st, .string (seCmd comp s0 s1)]
def seZ : List Value := [.int .i64 0, .slice none 0 0, .int .i64 0, .int .i64 0, .int .i64 0, .int .i64 0, .int .i64 0, .int .i64 0, .int .i64 0, .bool false, .bool false, .bool false, .string ⟨#[]⟩]
end Go.Proofs.Ytkomooeohlcnaaa
