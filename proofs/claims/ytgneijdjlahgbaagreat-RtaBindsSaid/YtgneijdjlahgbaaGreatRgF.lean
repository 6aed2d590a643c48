
/- Drawn regions: the first operation that is not yet done. -/
import Derived.Test.YtgneijdjlahgbaaGreatRgn
namespace Go.Proofs.YtgneijdjlahgbaaGreat
def setF:List Bool→List Bool
 | []=>[]
 | true :: l=>true :: setF l
 | false :: l=>true :: l
def idxF:List Bool→Nat
 | []=>0
 | true :: l=>idxF l+1
 | false :: _=>0
def opF:List Oper→List Bool→Option Oper
 | _ :: os,true :: l=>opF os l
 | o :: _,false :: _=>some o
 | _,_=>none
theorem setF_eq:∀ L:List Bool,L.set (idxF L) true=setF L
 | []=>rfl
 | true :: l=>congrArg (true :: ·) (setF_eq l)
 | false :: _=>rfl
theorem opF_eq:∀ (os:List Oper) (L:List Bool) (o:Oper),opF os L=some o→os[idxF L]? = some o
 | [],[],_,h=>by simp [opF] at h
 | [],_ :: _,_,h=>by simp [opF] at h
 | _ :: _,[],_,h=>by simp [opF] at h
 | _ :: os,true :: l,o,h=>by simpa [idxF] using opF_eq os l o h
 | _ :: _,false :: _,_,h=>by simpa [idxF,opF] using h
section
variable {P:Program} {md:Region.Mode} {os:List Oper} {Q:Exit→Act→World→Prop} {S:World→Prop} {d:Tmp} {oi:Oper} {v:Value} {fuel:Nat} {L:List Bool} {a:Act} {w:World}
theorem hF (hi:opF os L=some oi) (hd:oi.dst=some d) (hv:∀ w,S w→(execOp a.eval oi).run P w=.ok (.value v) w) (h:wpAnyH P md os.toArray Q S fuel (setF L).toArray (a.put (some d) v) w)
  (hw:Region.wanted oi (yielded os.toArray a.tmps)=true:=by rfl) (hs:Region.noSelect os.toArray=true:=by kernel_rfl) (hf:Region.free md os.toArray L.toArray (idxF L)=true:=by kernel_rfl) (hr:(Region.ready md os.toArray L.toArray).contains (idxF L)=true:=by kernel_rfl)
  (hQ:∀ c a w,Q (.panic c) (a.put oi.dst v) w→Q (.panic c) a w:=by exact fun _ _ _ h=>h) (hS:S w:=by assumption):wpAnyH P md os.toArray Q S (fuel+1) L.toArray a w :=
 held_take (idxF L) d (by rw [List.getElem?_toArray];exact opF_eq _ _ _ hi) hd hs hf hr hQ (Or.inl ⟨hw,hv⟩) hS (by rw [List.setIfInBounds_toArray,setF_eq];exact h)
theorem hFu (hi:opF os L=some oi) (hd:oi.dst=some d) (h:wpAnyH P md os.toArray Q S fuel (setF L).toArray (a.put (some d) undef) w)
  (hw:Region.wanted oi (yielded os.toArray a.tmps)=false:=by rfl) (hs:Region.noSelect os.toArray=true:=by kernel_rfl) (hf:Region.free md os.toArray L.toArray (idxF L)=true:=by kernel_rfl) (hr:(Region.ready md os.toArray L.toArray).contains (idxF L)=true:=by kernel_rfl)
  (hQ:∀ c a w,Q (.panic c) (a.put oi.dst undef) w→Q (.panic c) a w:=by exact fun _ _ _ h=>h) (hS:S w:=by assumption):wpAnyH P md os.toArray Q S (fuel+1) L.toArray a w :=
 held_take (idxF L) d (by rw [List.getElem?_toArray];exact opF_eq _ _ _ hi) hd hs hf hr hQ (Or.inr ⟨hw,rfl⟩) hS (by rw [List.setIfInBounds_toArray,setF_eq];exact h)
end
end Go.Proofs.YtgneijdjlahgbaaGreat
