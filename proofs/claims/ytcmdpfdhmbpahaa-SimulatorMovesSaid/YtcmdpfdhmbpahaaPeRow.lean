/- Layer 31: slices of slices, and the performance tables, as they lie in memory. -/
import Derived.Test.YtcmdpfdhmbpahaaInB
import Derived.Test.YtcmdpfdhmbpahaaBox
import Derived.Test.YtcmdpfdhmbpahaaPePlain
namespace Go.Proofs.Ytcmdpfdhmbpahaa
set_option linter.unusedSimpArgs false
set_option linter.unusedVariables false
open Go.RowKit
/-- a row of a table: a slice, and what it reads as -/
structure Row where
  A : Option Addr
  n : Nat
  c : Nat
  l : List Int
instance : Inhabited Row := ⟨⟨none, 0, 0, []⟩⟩
def Row.cells (r : Row) : List Value := [.slice r.A r.n r.c]
structure Tab (w : World) (A : Option Addr) (n : Nat) (rs : List Row) : Prop where
  top : Recs Row.cells 1 w A n rs
  row : ∀ r ∈ rs, Ints w r.A r.n r.l
theorem Tab.below {w w' : World} {A : Option Addr} {n : Nat} {rs : List Row} (h : Tab w A n rs) (hb : Below w.heap.size w w') : Tab w' A n rs :=
  ⟨h.top.below hb, fun r hr => (h.row r hr).below hb⟩
def rowsL (rs : List Row) : List (List Int) := rs.map Row.l
/-- a slice with its length and capacity -/
structure Sl where
  A : Option Addr
  n : Nat
  c : Nat
def Sl.v (s : Sl) : Value := .slice s.A s.n s.c
/-- performance tables -/
structure Prf where
  nm : ByteArray
  em : Int
  mf : Int
  sal : Sl
  sms : Sl
  scl : Sl
  scf : Sl
  scr : Sl
  sde : Sl
  sid : Sl
  smx : Sl
  smn : Sl
  rf : Int
  ex : Int
  ce : Int
  al : List Int
  ms : List Int
  cl : List Row
  cf : List Row
  cr : List Row
  de : List Int
  id : List Int
  mx : List Int
  mn : List Int
def Prf.cells (p : Prf) : List Value :=
  [.string p.nm, .int .i64 p.em, .int .i64 p.mf, .slice p.sal.A p.sal.n p.sal.c, .slice p.sms.A p.sms.n p.sms.c, .slice p.scl.A p.scl.n p.scl.c, .slice p.scf.A p.scf.n p.scf.c, .slice p.scr.A p.scr.n p.scr.c, .slice p.sde.A p.sde.n p.sde.c, .slice p.sid.A p.sid.n p.sid.c, .slice p.smx.A p.smx.n p.smx.c, .slice p.smn.A p.smn.n p.smn.c, .int .i64 p.rf, .int .i64 p.ex, .int .i64 p.ce]
structure Prf.lies (p : Prf) (w : World) : Prop where
  al : Ints w p.sal.A p.sal.n p.al
  ms : Ints w p.sms.A p.sms.n p.ms
  cl : Tab w p.scl.A p.scl.n p.cl
  cf : Tab w p.scf.A p.scf.n p.cf
  cr : Tab w p.scr.A p.scr.n p.cr
  de : Ints w p.sde.A p.sde.n p.de
  id : Ints w p.sid.A p.sid.n p.id
  mx : Ints w p.smx.A p.smx.n p.mx
  mn : Ints w p.smn.A p.smn.n p.mn
theorem Prf.lies.below {p : Prf} {w w' : World} (h : p.lies w) (hb : Below w.heap.size w w') : p.lies w' :=
  ⟨h.al.below hb, h.ms.below hb, h.cl.below hb, h.cf.below hb, h.cr.below hb, h.de.below hb, h.id.below hb, h.mx.below hb, h.mn.below hb⟩
/-- the sizes of what is there -/
structure Prf.ok (p : Prf) : Prop where
  nm : p.nm.size ≤ maxLen
  al : p.sal.n ≤ maxLen
  ms : p.sms.n ≤ maxLen
  cl : p.scl.n ≤ maxLen
  cf : p.scf.n ≤ maxLen
  cr : p.scr.n ≤ maxLen
  de : p.sde.n ≤ maxLen
  id : p.sid.n ≤ maxLen
  mx : p.smx.n ≤ maxLen
  mn : p.smn.n ≤ maxLen
  rcl : ∀ r ∈ p.cl, r.n ≤ maxLen
  rcf : ∀ r ∈ p.cf, r.n ≤ maxLen
  rcr : ∀ r ∈ p.cr, r.n ≤ maxLen
/-! ### the tests -/
def rngL (l : List Int) (lo hi : Int) : Bool := l.all fun x => inB x lo hi
def rngT (t : List (List Int)) (lo hi : Int) : Bool := t.all fun l => rngL l lo hi
def shpT (t : List (List Int)) (n m : Nat) : Bool := decide (t.length = n) && t.all fun l => decide (l.length = m)
def ascB (l : List Int) : Bool := decide (Pe.Asc l)
def upB (l : List Int) : Bool := decide (Pe.Up l)
def dnB (l : List Int) : Bool := decide (Pe.Down l)
def g2 (t : List (List Int)) (i j : Nat) : Int := (t.getD i []).getD j 0
/-- no value is greater than the one in the row ahead -/
def leanP (t : List (List Int)) (i : Nat) : Prop := 0 < i → ∀ j, j < (t.getD i []).length → g2 t i j ≤ g2 t (i - 1) j
def lnUp (t : List (List Int)) : Bool := decide (∀ i, i < t.length → Pe.Up (t.getD i []) ∧ (0 < i → ∀ j, j < (t.getD i []).length → g2 t i j ≤ g2 t (i - 1) j))
def lnDn (t : List (List Int)) : Bool := decide (∀ i, i < t.length → Pe.Down (t.getD i []) ∧ (0 < i → ∀ j, j < (t.getD i []).length → g2 t i j ≤ g2 t (i - 1) j))
def gnB (al : List Int) (t : List (List Int)) : Bool := decide (∀ i, i < al.length → 0 < i → ∀ j, j < (t.getD i []).length → g2 t (i - 1) j - g2 t i j ≤ al.getD i 0 - al.getD (i - 1) 0)
/-- a name -/
def nmC (c : UInt8) : Bool := (decide (65 ≤ c.toNat) && decide (c.toNat ≤ 90)) || (decide (48 ≤ c.toNat) && decide (c.toNat ≤ 57))
def upHd : List UInt8 → Bool
  | [] => false
  | c :: _ => decide (65 ≤ c.toNat) && decide (c.toNat ≤ 90)
def nmB (s : ByteArray) (most : Nat) : Bool := decide (0 < s.size) && decide (s.size ≤ most) && upHd s.data.toList && s.data.toList.all nmC
theorem all_no {α : Type} {l : List α} {f : α → Bool} {k : Nat} {q : α} (h : l[k]? = some q) (hf : f q = false) : l.all f = false := by
  rw [List.all_eq_false]; exact ⟨q, List.mem_of_getElem? h, by rw [hf]; decide⟩
theorem all_step {α : Type} {l : List α} {f : α → Bool} {k : Nat} {q : α} (ht : l.take (k + 1) = l.take k ++ [q]) (ha : (l.take k).all f = true) (hf : f q = true) : (l.take (k + 1)).all f = true := by
  rw [ht, List.all_append, ha]; simp [hf]
theorem all_end {α : Type} {l : List α} {f : α → Bool} {k : Nat} (hk : l.length ≤ k) (ha : (l.take k).all f = true) : l.all f = true := by
  rwa [List.take_of_length_le hk] at ha
theorem getD_of_get {α : Type} {l : List α} {k : Nat} {x d : α} (h : l[k]? = some x) : l.getD k d = x := by rw [List.getD_eq_getElem?_getD, h]; rfl
end Go.Proofs.Ytcmdpfdhmbpahaa
