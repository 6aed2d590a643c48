
/- Drawn regions in short: the next operation that only reads, the next event, found by evaluation. -/
import Derived.Test.YtheepmnhpclimaaGreatM37
namespace Go.Proofs.YtheepmnhpclimaaGreat
abbrev b0:=false
abbrev b1:=true
def evK:Op→Bool
 | .alloc _=>true
 | .box _ _=>true
 | .buildSlice _ _ _=>true
 | .store _ _ _=>true
 | .makeSlice _ _ _=>true
 | .call ⟨.builtin _,_,_⟩=>false
 | .call _=>true
 | _=>false
def getK:List Bool→Nat→Bool
 | [],_=>true
 | b :: _,0=>b
 | _ :: l,n+1=>getK l n
def aftK (L:List Bool):List Edge→Bool
 | []=>true
 | ⟨n,g⟩ :: es=>match g with
  | .textOnly _=>aftK L es
  | .gcOnly _=>aftK L es
  | _=>match getK L n with
   | true=>aftK L es
   | false=>false
def nxK (e:Bool) (A:List Bool):List Oper→List Bool→Nat→Option (Nat × Oper)
 | o :: os,false :: l,i=>match evK o.op == e with
  | true=>match aftK A o.after.toList with
   | true=>some (i,o)
   | false=>nxK e A os l (i+1)
  | false=>nxK e A os l (i+1)
 | _ :: os,true :: l,i=>nxK e A os l (i+1)
 | _,_,_=>none
theorem nxK_eq {e:Bool} {A:List Bool}:∀ (os:List Oper) (L:List Bool) (k i:Nat) (o:Oper),nxK e A os L k=some (i,o)→k≤i∧os[i - k]? = some o
 | [],_,_,_,_,h=>by simp [nxK] at h
 | _ :: _,[],_,_,_,h=>by simp [nxK] at h
 | o' :: os,true :: l,k,i,o,h=>by
  have h1:=nxK_eq os l (k+1) i o (by simpa [nxK] using h)
  refine ⟨by omega,?_⟩
  rw [show i - k=(i - (k+1))+1 by omega]
  simpa using h1.2
 | o' :: os,false :: l,k,i,o,h=>by
  have hr:nxK e A os l (k+1)=some (i,o)→k≤i∧(o' :: os)[i - k]? = some o:=fun h=>by
   have h1:=nxK_eq os l (k+1) i o h
   refine ⟨by omega,?_⟩
   rw [show i - k=(i - (k+1))+1 by omega]
   simpa using h1.2
  unfold nxK at h
  split at h
  ·split at h
   ·injection h with h
    injection h with h1 h2
    subst h1;subst h2
    exact ⟨Nat.le_refl _,by simp⟩
   ·exact hr h
  ·exact hr h
theorem nxK_get {e:Bool} {os:List Oper} {L:List Bool} {i:Nat} {o:Oper} (h:nxK e L os L 0=some (i,o)):os.toArray[i]? = some o:=by
 rw [List.getElem?_toArray]
 exact (nxK_eq os L 0 i o h).2
section
variable {P:Program} {md:Region.Mode} {os:List Oper} {Q:Exit→Act→World→Prop} {S:World→Prop} {i:Nat} {d:Tmp} {oi:Oper} {v:Value} {fuel:Nat} {L:List Bool} {a:Act} {w:World}
theorem rK {H:Prop} (hi:nxK false L os L 0=some (i,oi)) (hd:oi.dst=some d) (hv:∀ w,S w→(execOp a.eval oi).run P w=.ok (.value v) w) (k:H)
  (hw:Region.wanted oi (yielded os.toArray a.tmps)=true:=by rfl) (hs:Region.noSelect os.toArray=true:=by kernel_rfl) (hf:Region.free md os.toArray L.toArray i=true:=by kernel_rfl) (hr:(Region.ready md os.toArray L.toArray).contains i=true:=by kernel_rfl)
  (hQ:∀ c a w,Q (.panic c) (a.put oi.dst v) w→Q (.panic c) a w:=by exact fun _ _ _ h=>h) (hS:S w:=by assumption)
  (h:H→wpAnyH P md os.toArray Q S fuel (L.set i true).toArray (a.put (some d) v) w:=by intro kk;simp only [Act.put,pa,pb,pc];exact kk):wpAnyH P md os.toArray Q S (fuel+1) L.toArray a w :=
 held_take i d (nxK_get hi) hd hs hf hr hQ (Or.inl ⟨hw,hv⟩) hS (by rw [List.setIfInBounds_toArray];exact h k)
theorem rKu {H:Prop} (hi:nxK false L os L 0=some (i,oi)) (hd:oi.dst=some d) (k:H)
  (hw:Region.wanted oi (yielded os.toArray a.tmps)=false:=by rfl) (hs:Region.noSelect os.toArray=true:=by kernel_rfl) (hf:Region.free md os.toArray L.toArray i=true:=by kernel_rfl) (hr:(Region.ready md os.toArray L.toArray).contains i=true:=by kernel_rfl)
  (hQ:∀ c a w,Q (.panic c) (a.put oi.dst undef) w→Q (.panic c) a w:=by exact fun _ _ _ h=>h) (hS:S w:=by assumption)
  (h:H→wpAnyH P md os.toArray Q S fuel (L.set i true).toArray (a.put (some d) undef) w:=by intro kk;simp only [Act.put,pa,pb,pc];exact kk):wpAnyH P md os.toArray Q S (fuel+1) L.toArray a w :=
 held_take i d (nxK_get hi) hd hs hf hr hQ (Or.inr ⟨hw,rfl⟩) hS (by rw [List.setIfInBounds_toArray];exact h k)
theorem rKy {H:Prop} (hi:nxK false L os L 0=some (i,oi)) (hd:oi.dst=some d) (hy:YieldsIf P os.toArray S oi v a) (k:H)
  (hs:Region.noSelect os.toArray=true:=by kernel_rfl) (hf:Region.free md os.toArray L.toArray i=true:=by kernel_rfl) (hr:(Region.ready md os.toArray L.toArray).contains i=true:=by kernel_rfl)
  (hQ:∀ c a w,Q (.panic c) (a.put oi.dst v) w→Q (.panic c) a w:=by exact fun _ _ _ h=>h) (hS:S w:=by assumption)
  (h:H→wpAnyH P md os.toArray Q S fuel (L.set i true).toArray (a.put (some d) v) w:=by intro kk;simp only [Act.put,pa,pb,pc];exact kk):wpAnyH P md os.toArray Q S (fuel+1) L.toArray a w :=
 held_take i d (nxK_get hi) hd hs hf hr hQ hy hS (by rw [List.setIfInBounds_toArray];exact h k)
theorem rE (hi:nxK true L os L 0=some (i,oi))
  (h:∀ K':Act→World→Prop,Shut (∀ a w,S w→(S w→wpAnyH P md os.toArray Q S fuel (L.set i true).toArray a w)→K' a w)→if Region.wanted oi (yielded os.toArray a.tmps)=true then Oper.wp P oi a w K' Q else K' (a.put oi.dst undef) w)
  (hr:Region.ready md os.toArray L.toArray=[i]:=by kernel_rfl):wpAnyH P md os.toArray Q S (fuel+1) L.toArray a w :=
 wpAnyH_ready (rs:=[i]) hr (by simp) (AllReadyH.cons (nxK_get hi) (fun K hK=>h K (by rwa [List.setIfInBounds_toArray] at hK)) AllReadyH.nil)
theorem rQ {H:Prop} (k:H) (hi:nxK false L os L 0=some (i,oi):=by rfl) (hd:oi.dst=some d:=by rfl) (hv:∀ w,S w→(execOp a.eval oi).run P w=.ok (.value v) w:=by intro W hW;go_simp;try with_reducible rfl)
  (hw:Region.wanted oi (yielded os.toArray a.tmps)=true:=by rfl) (hs:Region.noSelect os.toArray=true:=by kernel_rfl) (hf:Region.free md os.toArray L.toArray i=true:=by kernel_rfl) (hr:(Region.ready md os.toArray L.toArray).contains i=true:=by kernel_rfl)
  (hQ:∀ c a w,Q (.panic c) (a.put oi.dst v) w→Q (.panic c) a w:=by exact fun _ _ _ h=>h) (hS:S w:=by assumption)
  (h:H→wpAnyH P md os.toArray Q S fuel (L.set i true).toArray (a.put (some d) v) w:=by intro kk;simp only [Act.put,pa,pb,pc];exact kk):wpAnyH P md os.toArray Q S (fuel+1) L.toArray a w:=rK hi hd hv k hw hs hf hr hQ hS h
theorem rF {H:Prop} (k:H) (hi:nxK false L os L 0=some (i,oi):=by rfl) (hd:oi.dst=some d:=by rfl) (hv:∀ w,S w→(execOp a.eval oi).run P w=.ok (.value v) w:=by intro W hW;have kk:=FA W hW;clear hW;go_simp;try with_reducible rfl)
  (hw:Region.wanted oi (yielded os.toArray a.tmps)=true:=by rfl) (hs:Region.noSelect os.toArray=true:=by kernel_rfl) (hf:Region.free md os.toArray L.toArray i=true:=by kernel_rfl) (hr:(Region.ready md os.toArray L.toArray).contains i=true:=by kernel_rfl)
  (hQ:∀ c a w,Q (.panic c) (a.put oi.dst v) w→Q (.panic c) a w:=by exact fun _ _ _ h=>h) (hS:S w:=by assumption)
  (h:H→wpAnyH P md os.toArray Q S fuel (L.set i true).toArray (a.put (some d) v) w:=by intro kk;simp only [Act.put,pa,pb,pc];exact kk):wpAnyH P md os.toArray Q S (fuel+1) L.toArray a w:=rK hi hd hv k hw hs hf hr hQ hS h
theorem rU {H:Prop} (k:H) (hi:nxK false L os L 0=some (i,oi):=by rfl) (hd:oi.dst=some d:=by rfl) (hw:Region.wanted oi (yielded os.toArray a.tmps)=false:=by rfl) (hs:Region.noSelect os.toArray=true:=by kernel_rfl) (hf:Region.free md os.toArray L.toArray i=true:=by kernel_rfl) (hr:(Region.ready md os.toArray L.toArray).contains i=true:=by kernel_rfl)
  (hQ:∀ c a w,Q (.panic c) (a.put oi.dst undef) w→Q (.panic c) a w:=by exact fun _ _ _ h=>h) (hS:S w:=by assumption)
  (h:H→wpAnyH P md os.toArray Q S fuel (L.set i true).toArray (a.put (some d) undef) w:=by intro kk;simp only [Act.put,pa,pb,pc];exact kk):wpAnyH P md os.toArray Q S (fuel+1) L.toArray a w:=rKu hi hd k hw hs hf hr hQ hS h
theorem rS {id:Nat} {ops:List Oper} {H:Prop} (S:World→Prop) (n:Nat) (hS:S w.drew) (k:S w.drew→H) (hn:ops.length=n:=by rfl) (hk:H→wpAnyH P .any ops.toArray Q S n (List.replicate n false).toArray a w.drew:=by intro kk;simp only [List.replicate];exact kk) (hm:P.follows .mixedOrders=true:=by kernel_rfl):(Code.region id ops.toArray true).wp P Q a w :=
 held_start (S:=S) n (List.replicate n false).toArray (by simpa using hn) (by simp) hm hS (fun h=>hk (k h))
end
end Go.Proofs.YtheepmnhpclimaaGreat
