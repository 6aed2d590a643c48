/- M37: Rgn, RgF in one text. -/
import Derived.Test.YtheepmnhpclimaaGreatM8
import Derived.Deep.RegionHeld3
namespace Go.Proofs.YtheepmnhpclimaaGreat
set_option linter.unusedSimpArgs false
set_option linter.unusedVariables false
theorem held_start {P:Program} {ops:Array Oper} {Q:Exit→Act→World→Prop} {S:World→Prop} {id:Nat} {a:Act} {w:World} (n:Nat) (L:Array Bool) (hn:ops.size=n) (hL:Array.replicate n false=L) (hm:P.follows .mixedOrders=true) (hS:S w.drew)
    (h:S w.drew→wpAnyH P .any ops Q S n L a w.drew):(Code.region id ops true).wp P Q a w:=by
  subst hn hL
  exact wp_region_held_drew hm hS h
/-- an operation that yields in every world that meets S is taken first -/
theorem held_take {P:Program} {md:Region.Mode} {ops:Array Oper} {Q:Exit→Act→World→Prop} {S:World→Prop} (i:Nat) (d:Tmp) {oi:Oper} {v:Value} {fuel:Nat} {listed:Array Bool} {a:Act} {w:World} (hi:ops[i]? = some oi) (hd:oi.dst=some d)
    (hs:Region.noSelect ops=true) (hf:Region.free md ops listed i=true) (hr:(Region.ready md ops listed).contains i=true)
    (hQ:∀ c a w,Q (.panic c) (a.put oi.dst v) w→Q (.panic c) a w) (hy:YieldsIf P ops S oi v a) (hS:S w)
    (h:wpAnyH P md ops Q S fuel (listed.setIfInBounds i true) (a.put (some d) v) w):wpAnyH P md ops Q S (fuel+1) listed a w :=
  wpAnyH_take hi hs hf hr hQ hy hS (by rw [hd];exact h)
/-- the parts of a goal under names -/
theorem held_name {P:Program} {md:Region.Mode} {ops:Array Oper} {Q:Exit→Act→World→Prop} {S:World→Prop} {n:Nat} {L:Array Bool} {a:Act} {w:World}
    (h:∀ (ops':Array Oper) (Q':Exit→Act→World→Prop) (a':Act),ops=ops'→Q=Q'→a=a'→wpAnyH P md ops' Q' S n L a' w):wpAnyH P md ops Q S n L a w:=h _ _ _ rfl rfl rfl
/-! ### in short -/
theorem pa {α:Type} (l:List α) (i:Nat) (a:α):l.toArray.setIfInBounds i a=(l.set i a).toArray:=List.setIfInBounds_toArray ..
theorem pb {α:Type} (a b:α) (l:List α):(a :: l).set 0 b=b :: l:=rfl
theorem pc {α:Type} (a b:α) (l:List α) (n:Nat):(a :: l).set (n+1) b=a :: l.set n b:=rfl
theorem hT {P:Program} {md:Region.Mode} {ops:Array Oper} {Q:Exit→Act→World→Prop} {S:World→Prop} (i:Nat) (d:Tmp) {oi:Oper} {v:Value} {fuel:Nat} {listed:Array Bool} {a:Act} {w:World} (hi:ops[i]? = some oi) (hd:oi.dst=some d)
    (hy:YieldsIf P ops S oi v a) (h:wpAnyH P md ops Q S fuel (listed.setIfInBounds i true) (a.put (some d) v) w) (hs:Region.noSelect ops=true:=by kernel_rfl) (hf:Region.free md ops listed i=true:=by kernel_rfl) (hr:(Region.ready md ops listed).contains i=true:=by kernel_rfl)
    (hQ:∀ c a w,Q (.panic c) (a.put oi.dst v) w→Q (.panic c) a w:=by exact fun _ _ _ h=>h) (hS:S w:=by assumption):wpAnyH P md ops Q S (fuel+1) listed a w:=held_take i d hi hd hs hf hr hQ hy hS h
theorem hL {P:Program} {md:Region.Mode} {ops:Array Oper} {Q:Exit→Act→World→Prop} {S:World→Prop} (i:Nat) (d:Tmp) {oi:Oper} {v:Value} {fuel:Nat} {listed:Array Bool} {a:Act} {w:World} (hi:ops[i]? = some oi) (hd:oi.dst=some d)
    (hv:∀ w,S w→(execOp a.eval oi).run P w=.ok (.value v) w) (h:wpAnyH P md ops Q S fuel (listed.setIfInBounds i true) (a.put (some d) v) w) (hw:Region.wanted oi (yielded ops a.tmps)=true:=by rfl) (hs:Region.noSelect ops=true:=by kernel_rfl) (hf:Region.free md ops listed i=true:=by kernel_rfl) (hr:(Region.ready md ops listed).contains i=true:=by kernel_rfl)
    (hQ:∀ c a w,Q (.panic c) (a.put oi.dst v) w→Q (.panic c) a w:=by exact fun _ _ _ h=>h) (hS:S w:=by assumption):wpAnyH P md ops Q S (fuel+1) listed a w:=held_take i d hi hd hs hf hr hQ (Or.inl ⟨hw,hv⟩) hS h
theorem held_nameS {P:Program} {md:Region.Mode} {ops:Array Oper} {Q:Exit→Act→World→Prop} {S:World→Prop} {n:Nat} {L:Array Bool} {a:Act} {w:World}
    (h:∀ (ops':Array Oper) (Q':Exit→Act→World→Prop) (a':Act) (S':World→Prop),ops=ops'→Q=Q'→a=a'→S=S'→wpAnyH P md ops' Q' S' n L a' w):wpAnyH P md ops Q S n L a w:=h _ _ _ _ rfl rfl rfl rfl
end Go.Proofs.YtheepmnhpclimaaGreat

namespace Go.Proofs.YtheepmnhpclimaaGreat
def setF:List Bool→List Bool
 | []=>[]
 | true :: l=>true :: setF l
 | false :: l=>true :: l
def idxF:List Bool→Nat
 | []=>0
 | true :: l=>idxF l+1
 | false :: _=>0
def opF:List Oper→List Bool→Option Oper
 | _ :: os,true :: l=>opF os l
 | o :: _,false :: _=>some o
 | _,_=>none
theorem setF_eq:∀ L:List Bool,L.set (idxF L) true=setF L
 | []=>rfl
 | true :: l=>congrArg (true :: ·) (setF_eq l)
 | false :: _=>rfl
theorem opF_eq:∀ (os:List Oper) (L:List Bool) (o:Oper),opF os L=some o→os[idxF L]? = some o
 | [],[],_,h=>by simp [opF] at h
 | [],_ :: _,_,h=>by simp [opF] at h
 | _ :: _,[],_,h=>by simp [opF] at h
 | _ :: os,true :: l,o,h=>by simpa [idxF] using opF_eq os l o h
 | _ :: _,false :: _,_,h=>by simpa [idxF,opF] using h
section
variable {P:Program} {md:Region.Mode} {os:List Oper} {Q:Exit→Act→World→Prop} {S:World→Prop} {d:Tmp} {oi:Oper} {v:Value} {fuel:Nat} {L:List Bool} {a:Act} {w:World}
theorem hF (hi:opF os L=some oi) (hd:oi.dst=some d) (hv:∀ w,S w→(execOp a.eval oi).run P w=.ok (.value v) w) (h:wpAnyH P md os.toArray Q S fuel (setF L).toArray (a.put (some d) v) w)
  (hw:Region.wanted oi (yielded os.toArray a.tmps)=true:=by rfl) (hs:Region.noSelect os.toArray=true:=by kernel_rfl) (hf:Region.free md os.toArray L.toArray (idxF L)=true:=by kernel_rfl) (hr:(Region.ready md os.toArray L.toArray).contains (idxF L)=true:=by kernel_rfl)
  (hQ:∀ c a w,Q (.panic c) (a.put oi.dst v) w→Q (.panic c) a w:=by exact fun _ _ _ h=>h) (hS:S w:=by assumption):wpAnyH P md os.toArray Q S (fuel+1) L.toArray a w :=
 held_take (idxF L) d (by rw [List.getElem?_toArray];exact opF_eq _ _ _ hi) hd hs hf hr hQ (Or.inl ⟨hw,hv⟩) hS (by rw [List.setIfInBounds_toArray,setF_eq];exact h)
theorem hFu (hi:opF os L=some oi) (hd:oi.dst=some d) (h:wpAnyH P md os.toArray Q S fuel (setF L).toArray (a.put (some d) undef) w)
  (hw:Region.wanted oi (yielded os.toArray a.tmps)=false:=by rfl) (hs:Region.noSelect os.toArray=true:=by kernel_rfl) (hf:Region.free md os.toArray L.toArray (idxF L)=true:=by kernel_rfl) (hr:(Region.ready md os.toArray L.toArray).contains (idxF L)=true:=by kernel_rfl)
  (hQ:∀ c a w,Q (.panic c) (a.put oi.dst undef) w→Q (.panic c) a w:=by exact fun _ _ _ h=>h) (hS:S w:=by assumption):wpAnyH P md os.toArray Q S (fuel+1) L.toArray a w :=
 held_take (idxF L) d (by rw [List.getElem?_toArray];exact opF_eq _ _ _ hi) hd hs hf hr hQ (Or.inr ⟨hw,rfl⟩) hS (by rw [List.setIfInBounds_toArray,setF_eq];exact h)
end
end Go.Proofs.YtheepmnhpclimaaGreat

