/- M37: Rgn, RgF, RgK in one text. -/
import Derived.Test.YtedcanagfajcgaaGreatM8
import Derived.Deep.RegionHeld3
set_option linter.unusedSimpArgs false
set_option linter.unusedVariables false
namespace Go.Proofs.YtedcanagfajcgaaGreat
theorem Ir {P:Program} {ops:Array Oper} {Q:Exit→Act→World→Prop} {S:World→Prop} {id:Nat} {a:Act} {w:World} (n:Nat) (L:Array Bool) (hn:ops.size=n) (hL:Array.replicate n false=L) (hm:P.follows .mixedOrders=true) (hS:S w.drew)
    (h:S w.drew→wpAnyH P .any ops Q S n L a w.drew):(Code.region id ops true).wp P Q a w:=by
  subst hn hL
  exact wp_region_held_drew hm hS h
/-- an operation that yields in every world that meets S is taken first -/
theorem Cz {P:Program} {md:Region.Mode} {ops:Array Oper} {Q:Exit→Act→World→Prop} {S:World→Prop} (i:Nat) (d:Tmp) {oi:Oper} {v:Value} {fuel:Nat} {listed:Array Bool} {a:Act} {w:World} (hi:ops[i]? = some oi) (hd:oi.dst=some d)
    (hs:Region.noSelect ops=true) (hf:Region.free md ops listed i=true) (hr:(Region.ready md ops listed).contains i=true)
    (hQ:∀ c a w,Q (.panic c) (a.put oi.dst v) w→Q (.panic c) a w) (hy:YieldsIf P ops S oi v a) (hS:S w)
    (h:wpAnyH P md ops Q S fuel (listed.setIfInBounds i true) (a.put (some d) v) w):wpAnyH P md ops Q S (fuel+1) listed a w :=
  wpAnyH_take hi hs hf hr hQ hy hS (by rw [hd];exact h)
/-- the parts of a goal under names -/
theorem Adh {P:Program} {md:Region.Mode} {ops:Array Oper} {Q:Exit→Act→World→Prop} {S:World→Prop} {n:Nat} {L:Array Bool} {a:Act} {w:World}
    (h:∀ (ops':Array Oper) (Q':Exit→Act→World→Prop) (a':Act),ops=ops'→Q=Q'→a=a'→wpAnyH P md ops' Q' S n L a' w):wpAnyH P md ops Q S n L a w:=h _ _ _ rfl rfl rfl
/-! ### in short -/
theorem pa {α:Type} (l:List α) (i:Nat) (a:α):l.toArray.setIfInBounds i a=(l.set i a).toArray:=List.setIfInBounds_toArray ..
theorem pb {α:Type} (a b:α) (l:List α):(a :: l).set 0 b=b :: l:=rfl
theorem pc {α:Type} (a b:α) (l:List α) (n:Nat):(a :: l).set (n+1) b=a :: l.set n b:=rfl
theorem hT {P:Program} {md:Region.Mode} {ops:Array Oper} {Q:Exit→Act→World→Prop} {S:World→Prop} (i:Nat) (d:Tmp) {oi:Oper} {v:Value} {fuel:Nat} {listed:Array Bool} {a:Act} {w:World} (hi:ops[i]? = some oi) (hd:oi.dst=some d)
    (hy:YieldsIf P ops S oi v a) (h:wpAnyH P md ops Q S fuel (listed.setIfInBounds i true) (a.put (some d) v) w) (hs:Region.noSelect ops=true:=by kernel_rfl) (hf:Region.free md ops listed i=true:=by kernel_rfl) (hr:(Region.ready md ops listed).contains i=true:=by kernel_rfl)
    (hQ:∀ c a w,Q (.panic c) (a.put oi.dst v) w→Q (.panic c) a w:=by exact fun _ _ _ h=>h) (hS:S w:=by assumption):wpAnyH P md ops Q S (fuel+1) listed a w:=Cz i d hi hd hs hf hr hQ hy hS h
theorem hL {P:Program} {md:Region.Mode} {ops:Array Oper} {Q:Exit→Act→World→Prop} {S:World→Prop} (i:Nat) (d:Tmp) {oi:Oper} {v:Value} {fuel:Nat} {listed:Array Bool} {a:Act} {w:World} (hi:ops[i]? = some oi) (hd:oi.dst=some d)
    (hv:∀ w,S w→(execOp a.eval oi).run P w=.ok (.value v) w) (h:wpAnyH P md ops Q S fuel (listed.setIfInBounds i true) (a.put (some d) v) w) (hw:Region.wanted oi (yielded ops a.tmps)=true:=by rfl) (hs:Region.noSelect ops=true:=by kernel_rfl) (hf:Region.free md ops listed i=true:=by kernel_rfl) (hr:(Region.ready md ops listed).contains i=true:=by kernel_rfl)
    (hQ:∀ c a w,Q (.panic c) (a.put oi.dst v) w→Q (.panic c) a w:=by exact fun _ _ _ h=>h) (hS:S w:=by assumption):wpAnyH P md ops Q S (fuel+1) listed a w:=Cz i d hi hd hs hf hr hQ (Or.inl ⟨hw,hv⟩) hS h
theorem Be {P:Program} {md:Region.Mode} {ops:Array Oper} {Q:Exit→Act→World→Prop} {S:World→Prop} {n:Nat} {L:Array Bool} {a:Act} {w:World}
    (h:∀ (ops':Array Oper) (Q':Exit→Act→World→Prop) (a':Act) (S':World→Prop),ops=ops'→Q=Q'→a=a'→S=S'→wpAnyH P md ops' Q' S' n L a' w):wpAnyH P md ops Q S n L a w:=h _ _ _ _ rfl rfl rfl rfl
def Rn:List Bool→List Bool
 | []=>[]
 | true :: l=>true :: Rn l
 | false :: l=>true :: l
def KT:List Bool→Nat
 | []=>0
 | true :: l=>KT l+1
 | false :: _=>0
def opF:List Oper→List Bool→Option Oper
 | _ :: os,true :: l=>opF os l
 | o :: _,false :: _=>some o
 | _,_=>none
theorem Oc:∀ L:List Bool,L.set (KT L) true=Rn L
 | []=>rfl
 | true :: l=>congrArg (true :: ·) (Oc l)
 | false :: _=>rfl
theorem QE:∀ (os:List Oper) (L:List Bool) (o:Oper),opF os L=some o→os[KT L]? = some o
 | [],[],_,h=>by simp [opF] at h
 | [],_ :: _,_,h=>by simp [opF] at h
 | _ :: _,[],_,h=>by simp [opF] at h
 | _ :: os,true :: l,o,h=>by simpa [KT] using QE os l o h
 | _ :: _,false :: _,_,h=>by simpa [KT,opF] using h
section
variable {P:Program} {md:Region.Mode} {os:List Oper} {Q:Exit→Act→World→Prop} {S:World→Prop} {d:Tmp} {oi:Oper} {v:Value} {fuel:Nat} {L:List Bool} {a:Act} {w:World}
theorem hF (hi:opF os L=some oi) (hd:oi.dst=some d) (hv:∀ w,S w→(execOp a.eval oi).run P w=.ok (.value v) w) (h:wpAnyH P md os.toArray Q S fuel (Rn L).toArray (a.put (some d) v) w)
  (hw:Region.wanted oi (yielded os.toArray a.tmps)=true:=by rfl) (hs:Region.noSelect os.toArray=true:=by kernel_rfl) (hf:Region.free md os.toArray L.toArray (KT L)=true:=by kernel_rfl) (hr:(Region.ready md os.toArray L.toArray).contains (KT L)=true:=by kernel_rfl)
  (hQ:∀ c a w,Q (.panic c) (a.put oi.dst v) w→Q (.panic c) a w:=by exact fun _ _ _ h=>h) (hS:S w:=by assumption):wpAnyH P md os.toArray Q S (fuel+1) L.toArray a w :=
 Cz (KT L) d (by rw [List.getElem?_toArray];exact QE _ _ _ hi) hd hs hf hr hQ (Or.inl ⟨hw,hv⟩) hS (by rw [List.setIfInBounds_toArray,Oc];exact h)
theorem hFu (hi:opF os L=some oi) (hd:oi.dst=some d) (h:wpAnyH P md os.toArray Q S fuel (Rn L).toArray (a.put (some d) undef) w)
  (hw:Region.wanted oi (yielded os.toArray a.tmps)=false:=by rfl) (hs:Region.noSelect os.toArray=true:=by kernel_rfl) (hf:Region.free md os.toArray L.toArray (KT L)=true:=by kernel_rfl) (hr:(Region.ready md os.toArray L.toArray).contains (KT L)=true:=by kernel_rfl)
  (hQ:∀ c a w,Q (.panic c) (a.put oi.dst undef) w→Q (.panic c) a w:=by exact fun _ _ _ h=>h) (hS:S w:=by assumption):wpAnyH P md os.toArray Q S (fuel+1) L.toArray a w :=
 Cz (KT L) d (by rw [List.getElem?_toArray];exact QE _ _ _ hi) hd hs hf hr hQ (Or.inr ⟨hw,rfl⟩) hS (by rw [List.setIfInBounds_toArray,Oc];exact h)
end
abbrev b0:=false
abbrev b1:=true
def evK:Op→Bool
 | .alloc _=>true
 | .box _ _=>true
 | .buildSlice _ _ _=>true
 | .store _ _ _=>true
 | .makeSlice _ _ _=>true
 | .call ⟨.builtin _,_,_⟩=>false
 | .call _=>true
 | _=>false
def Ad0:List Bool→Nat→Bool
 | [],_=>true
 | b :: _,0=>b
 | _ :: l,n+1=>Ad0 l n
def Un (L:List Bool):List Edge→Bool
 | []=>true
 | ⟨n,g⟩ :: es=>match g with
  | .textOnly _=>Un L es
  | .gcOnly _=>Un L es
  | _=>match Ad0 L n with
   | true=>Un L es
   | false=>false
def nxK (e:Bool) (A:List Bool):List Oper→List Bool→Nat→Option (Nat × Oper)
 | o :: os,false :: l,i=>match evK o.op == e with
  | true=>match Un A o.after.toList with
   | true=>some (i,o)
   | false=>nxK e A os l (i+1)
  | false=>nxK e A os l (i+1)
 | _ :: os,true :: l,i=>nxK e A os l (i+1)
 | _,_,_=>none
theorem NI {e:Bool} {A:List Bool}:∀ (os:List Oper) (L:List Bool) (k i:Nat) (o:Oper),nxK e A os L k=some (i,o)→k<=i∧os[i - k]? = some o
 | [],_,_,_,_,h=>by simp [nxK] at h
 | _ :: _,[],_,_,_,h=>by simp [nxK] at h
 | o' :: os,true :: l,k,i,o,h=>by
  have h1:=NI os l (k+1) i o (by simpa [nxK] using h)
  refine ⟨by omega,?_⟩
  rw [show i - k=(i - (k+1))+1 by omega]
  simpa using h1.2
 | o' :: os,false :: l,k,i,o,h=>by
  have hr:nxK e A os l (k+1)=some (i,o)→k<=i∧(o' :: os)[i - k]? = some o:=fun h=>by
   have h1:=NI os l (k+1) i o h
   refine ⟨by omega,?_⟩
   rw [show i - k=(i - (k+1))+1 by omega]
   simpa using h1.2
  unfold nxK at h
  split at h
  ·split at h
   ·injection h with h
    injection h with h1 h2
    subst h1;subst h2
    exact ⟨Bn _,by simp⟩
   ·exact hr h
  ·exact hr h
theorem Kg {e:Bool} {os:List Oper} {L:List Bool} {i:Nat} {o:Oper} (h:nxK e L os L 0=some (i,o)):os.toArray[i]? = some o:=by
 rw [List.getElem?_toArray]
 exact (NI os L 0 i o h).2
section
variable {P:Program} {md:Region.Mode} {os:List Oper} {Q:Exit→Act→World→Prop} {S:World→Prop} {i:Nat} {d:Tmp} {oi:Oper} {v:Value} {fuel:Nat} {L:List Bool} {a:Act} {w:World}
theorem rK {H:Prop} (hi:nxK false L os L 0=some (i,oi)) (hd:oi.dst=some d) (hv:∀ w,S w→(execOp a.eval oi).run P w=.ok (.value v) w) (k:H)
  (hw:Region.wanted oi (yielded os.toArray a.tmps)=true:=by rfl) (hs:Region.noSelect os.toArray=true:=by kernel_rfl) (hf:Region.free md os.toArray L.toArray i=true:=by kernel_rfl) (hr:(Region.ready md os.toArray L.toArray).contains i=true:=by kernel_rfl)
  (hQ:∀ c a w,Q (.panic c) (a.put oi.dst v) w→Q (.panic c) a w:=by exact fun _ _ _ h=>h) (hS:S w:=by assumption)
  (h:H→wpAnyH P md os.toArray Q S fuel (L.set i true).toArray (a.put (some d) v) w:=by intro kk;simp only [Act.put,pa,pb,pc];exact kk):wpAnyH P md os.toArray Q S (fuel+1) L.toArray a w :=
 Cz i d (Kg hi) hd hs hf hr hQ (Or.inl ⟨hw,hv⟩) hS (by rw [List.setIfInBounds_toArray];exact h k)
theorem rKu {H:Prop} (hi:nxK false L os L 0=some (i,oi)) (hd:oi.dst=some d) (k:H)
  (hw:Region.wanted oi (yielded os.toArray a.tmps)=false:=by rfl) (hs:Region.noSelect os.toArray=true:=by kernel_rfl) (hf:Region.free md os.toArray L.toArray i=true:=by kernel_rfl) (hr:(Region.ready md os.toArray L.toArray).contains i=true:=by kernel_rfl)
  (hQ:∀ c a w,Q (.panic c) (a.put oi.dst undef) w→Q (.panic c) a w:=by exact fun _ _ _ h=>h) (hS:S w:=by assumption)
  (h:H→wpAnyH P md os.toArray Q S fuel (L.set i true).toArray (a.put (some d) undef) w:=by intro kk;simp only [Act.put,pa,pb,pc];exact kk):wpAnyH P md os.toArray Q S (fuel+1) L.toArray a w :=
 Cz i d (Kg hi) hd hs hf hr hQ (Or.inr ⟨hw,rfl⟩) hS (by rw [List.setIfInBounds_toArray];exact h k)
theorem rKy {H:Prop} (hi:nxK false L os L 0=some (i,oi)) (hd:oi.dst=some d) (hy:YieldsIf P os.toArray S oi v a) (k:H)
  (hs:Region.noSelect os.toArray=true:=by kernel_rfl) (hf:Region.free md os.toArray L.toArray i=true:=by kernel_rfl) (hr:(Region.ready md os.toArray L.toArray).contains i=true:=by kernel_rfl)
  (hQ:∀ c a w,Q (.panic c) (a.put oi.dst v) w→Q (.panic c) a w:=by exact fun _ _ _ h=>h) (hS:S w:=by assumption)
  (h:H→wpAnyH P md os.toArray Q S fuel (L.set i true).toArray (a.put (some d) v) w:=by intro kk;simp only [Act.put,pa,pb,pc];exact kk):wpAnyH P md os.toArray Q S (fuel+1) L.toArray a w :=
 Cz i d (Kg hi) hd hs hf hr hQ hy hS (by rw [List.setIfInBounds_toArray];exact h k)
theorem rE (hi:nxK true L os L 0=some (i,oi))
  (h:∀ K':Act→World→Prop,Shut (∀ a w,S w→(S w→wpAnyH P md os.toArray Q S fuel (L.set i true).toArray a w)→K' a w)→if Region.wanted oi (yielded os.toArray a.tmps)=true then Oper.wp P oi a w K' Q else K' (a.put oi.dst undef) w)
  (hr:Region.ready md os.toArray L.toArray=[i]:=by kernel_rfl):wpAnyH P md os.toArray Q S (fuel+1) L.toArray a w :=
 wpAnyH_ready (rs:=[i]) hr (by simp) (AllReadyH.cons (Kg hi) (fun K hK=>h K (by rwa [List.setIfInBounds_toArray] at hK)) AllReadyH.nil)
theorem rQ {H:Prop} (k:H) (hi:nxK false L os L 0=some (i,oi):=by rfl) (hd:oi.dst=some d:=by rfl) (hv:∀ w,S w→(execOp a.eval oi).run P w=.ok (.value v) w:=by intro W hW;go_simp;try with_reducible rfl)
  (hw:Region.wanted oi (yielded os.toArray a.tmps)=true:=by rfl) (hs:Region.noSelect os.toArray=true:=by kernel_rfl) (hf:Region.free md os.toArray L.toArray i=true:=by kernel_rfl) (hr:(Region.ready md os.toArray L.toArray).contains i=true:=by kernel_rfl)
  (hQ:∀ c a w,Q (.panic c) (a.put oi.dst v) w→Q (.panic c) a w:=by exact fun _ _ _ h=>h) (hS:S w:=by assumption)
  (h:H→wpAnyH P md os.toArray Q S fuel (L.set i true).toArray (a.put (some d) v) w:=by intro kk;simp only [Act.put,pa,pb,pc];exact kk):wpAnyH P md os.toArray Q S (fuel+1) L.toArray a w:=rK hi hd hv k hw hs hf hr hQ hS h
theorem rF {H:Prop} (k:H) (hi:nxK false L os L 0=some (i,oi):=by rfl) (hd:oi.dst=some d:=by rfl) (hv:∀ w,S w→(execOp a.eval oi).run P w=.ok (.value v) w:=by intro W hW;have kk:=FA W hW;clear hW;go_simp;try with_reducible rfl)
  (hw:Region.wanted oi (yielded os.toArray a.tmps)=true:=by rfl) (hs:Region.noSelect os.toArray=true:=by kernel_rfl) (hf:Region.free md os.toArray L.toArray i=true:=by kernel_rfl) (hr:(Region.ready md os.toArray L.toArray).contains i=true:=by kernel_rfl)
  (hQ:∀ c a w,Q (.panic c) (a.put oi.dst v) w→Q (.panic c) a w:=by exact fun _ _ _ h=>h) (hS:S w:=by assumption)
  (h:H→wpAnyH P md os.toArray Q S fuel (L.set i true).toArray (a.put (some d) v) w:=by intro kk;simp only [Act.put,pa,pb,pc];exact kk):wpAnyH P md os.toArray Q S (fuel+1) L.toArray a w:=rK hi hd hv k hw hs hf hr hQ hS h
theorem rT {H:Prop} {p:World→Prop} (FA:∀ W,S W→p W) (k:H) (hi:nxK false L os L 0=some (i,oi):=by rfl) (hd:oi.dst=some d:=by rfl) (hv:(∀ W,S W→p W)→∀ w,S w→(execOp a.eval oi).run P w=.ok (.value v) w:=by intro FA W hW;have kk:=FA W hW;clear hW FA;go_simp;try with_reducible rfl)
  (hw:Region.wanted oi (yielded os.toArray a.tmps)=true:=by rfl) (hs:Region.noSelect os.toArray=true:=by kernel_rfl) (hf:Region.free md os.toArray L.toArray i=true:=by kernel_rfl) (hr:(Region.ready md os.toArray L.toArray).contains i=true:=by kernel_rfl)
  (hQ:∀ c a w,Q (.panic c) (a.put oi.dst v) w→Q (.panic c) a w:=by exact fun _ _ _ h=>h) (hS:S w:=by assumption)
  (h:H→wpAnyH P md os.toArray Q S fuel (L.set i true).toArray (a.put (some d) v) w:=by intro kk;simp only [Act.put,pa,pb,pc];exact kk):wpAnyH P md os.toArray Q S (fuel+1) L.toArray a w:=rK hi hd (hv FA) k hw hs hf hr hQ hS h
theorem rV {H:Prop} (v:Value) (hv:∀ w,S w→(execOp a.eval oi).run P w=.ok (.value v) w) (k:H) (hi:nxK false L os L 0=some (i,oi):=by rfl) (hd:oi.dst=some d:=by rfl)
  (hw:Region.wanted oi (yielded os.toArray a.tmps)=true:=by rfl) (hs:Region.noSelect os.toArray=true:=by kernel_rfl) (hf:Region.free md os.toArray L.toArray i=true:=by kernel_rfl) (hr:(Region.ready md os.toArray L.toArray).contains i=true:=by kernel_rfl)
  (hQ:∀ c a w,Q (.panic c) (a.put oi.dst v) w→Q (.panic c) a w:=by exact fun _ _ _ h=>h) (hS:S w:=by assumption)
  (h:H→wpAnyH P md os.toArray Q S fuel (L.set i true).toArray (a.put (some d) v) w:=by intro kk;simp only [Act.put,pa,pb,pc];exact kk):wpAnyH P md os.toArray Q S (fuel+1) L.toArray a w:=rK hi hd hv k hw hs hf hr hQ hS h
theorem rU {H:Prop} (k:H) (hi:nxK false L os L 0=some (i,oi):=by rfl) (hd:oi.dst=some d:=by rfl) (hw:Region.wanted oi (yielded os.toArray a.tmps)=false:=by rfl) (hs:Region.noSelect os.toArray=true:=by kernel_rfl) (hf:Region.free md os.toArray L.toArray i=true:=by kernel_rfl) (hr:(Region.ready md os.toArray L.toArray).contains i=true:=by kernel_rfl)
  (hQ:∀ c a w,Q (.panic c) (a.put oi.dst undef) w→Q (.panic c) a w:=by exact fun _ _ _ h=>h) (hS:S w:=by assumption)
  (h:H→wpAnyH P md os.toArray Q S fuel (L.set i true).toArray (a.put (some d) undef) w:=by intro kk;simp only [Act.put,pa,pb,pc];exact kk):wpAnyH P md os.toArray Q S (fuel+1) L.toArray a w:=rKu hi hd k hw hs hf hr hQ hS h
theorem rY {H:Prop} (hy:YieldsIf P os.toArray S oi v a) (k:H) (hi:nxK false L os L 0=some (i,oi):=by rfl) (hd:oi.dst=some d:=by rfl)
  (hs:Region.noSelect os.toArray=true:=by kernel_rfl) (hf:Region.free md os.toArray L.toArray i=true:=by kernel_rfl) (hr:(Region.ready md os.toArray L.toArray).contains i=true:=by kernel_rfl)
  (hQ:∀ c a w,Q (.panic c) (a.put oi.dst v) w→Q (.panic c) a w:=by exact fun _ _ _ h=>h) (hS:S w:=by assumption)
  (h:H→wpAnyH P md os.toArray Q S fuel (L.set i true).toArray (a.put (some d) v) w:=by intro kk;simp only [Act.put,pa,pb,pc];exact kk):wpAnyH P md os.toArray Q S (fuel+1) L.toArray a w:=rKy hi hd hy k hs hf hr hQ hS h
theorem rEt {K':Act→World→Prop} {L:Array Bool} {ops:Array Oper} {H:Prop} (hK:Shut (∀ a w,S w→(S w→wpAnyH P md ops Q S fuel L a w)→K' a w)) (hS:S w) (k:S w→H) (h:H→wpAnyH P md ops Q S fuel L a w:=by intro kk;(try simp only [Act.put,pa,pb,pc]);exact kk):K' a w:=hK.out _ _ hS (fun h0=>h (k h0))
theorem rEk {H:Prop} (k:H) (hi:nxK true L os L 0=some (i,oi):=by rfl)
  (h:H→∀ K':Act→World→Prop,Shut (∀ a w,S w→(S w→wpAnyH P md os.toArray Q S fuel (L.set i true).toArray a w)→K' a w)→if Region.wanted oi (yielded os.toArray a.tmps)=true then Oper.wp P oi a w K' Q else K' (a.put oi.dst undef) w:=by intro kk K hK;go_simp;revert K;exact kk)
  (hr:Region.ready md os.toArray L.toArray=[i]:=by kernel_rfl):wpAnyH P md os.toArray Q S (fuel+1) L.toArray a w:=rE hi (h k) hr
theorem mN {G B:Prop} (h:B) (x:B→G:=by (intro nx;(try simp only [Act.put,pa,pb,pc] at nx);apply nx <;> first | assumption | exact Has.below (by assumption) hB | exact Has.alloc (by assumption) _ | exact Has.new _ _ _ | exact Nat.ne_of_lt (Has.lt (by assumption)) | exact Nat.ne_of_gt (Has.lt (by assumption)) | exact hHeld.sz | exact hHeld.1.sz | exact hHeld.size)):G:=x h
theorem mB {G:Prop} (x:G:=by (repeat' apply And.intro) <;> first | exact hHeld.below hB | exact hHeld.1.below hB | exact hHeld.2.below hB | exact hHeld.2.1.below hB | exact hHeld.2.2.below hB | exact hHeld.2.2.1.below hB | exact hHeld.2.2.2.below hB | exact hHeld.2.2.2.1.below hB | exact hHeld.2.2.2.2.below hB):G:=x
theorem mW {G:Prop} (x:G:=by (repeat' apply And.intro) <;> first | exact hHeld.alloc _ | exact hHeld.1.alloc _ | exact hHeld.2.alloc _ | exact hHeld.2.1.alloc _ | exact hHeld.2.2.alloc _ | exact hHeld.2.2.1.alloc _ | exact hHeld.2.2.2.alloc _ | exact hHeld.2.2.2.1.alloc _ | exact hHeld.2.2.2.2.alloc _ | exact Bh hHeld _):G:=x
theorem mK {G A B:Prop} (a:A) (h:B) (x:A→B→G:=by (intro ca nx;go_simp;refine ca.mono ?_;rintro e2 W2 ⟨rfl,hB⟩;go_wp2_with fail;refine rEt hK mB (fun hHeld2=>?_);exact mN nx)):G:=x a h
theorem mA {G B:Prop} (h:B) (x:B→G:=by (intro nx;go_simp;refine rEt hK mW (fun hHeld2=>?_);exact mN nx)):G:=x h
theorem aC {fuel:Nat} {listed:Array Bool} {ops:Array Oper} {a:Act} {w:World} {i:Nat} {o:Oper} {rs:List Nat} 
  (h:∀ K':Act→World→Prop,Shut (∀ a w,S w→(S w→wpAnyH P md ops Q S fuel (listed.setIfInBounds i true) a w)→K' a w)→if Region.wanted o (yielded ops a.tmps)=true then Oper.wp P o a w K' Q else K' (a.put o.dst undef) w)
  (hs:AllReadyH P md ops Q S fuel listed a w rs) (ho:ops[i]? = some o:=by rfl):AllReadyH P md ops Q S fuel listed a w (i :: rs):=AllReadyH.cons ho h hs
theorem aD {fuel:Nat} {listed:Array Bool} {ops:Array Oper} {a:Act} {w:World} {i:Nat} {o:Oper} {rs:List Nat} (ho:ops[i]? = some o)
  (h:∀ K':Act→World→Prop,Shut (∀ a w,S w→(S w→wpAnyH P md ops Q S fuel (listed.setIfInBounds i true) a w)→K' a w)→if Region.wanted o (yielded ops a.tmps)=true then Oper.wp P o a w K' Q else K' (a.put o.dst undef) w)
  (hs:AllReadyH P md ops Q S fuel listed a w rs):AllReadyH P md ops Q S fuel listed a w (i :: rs):=AllReadyH.cons ho h hs
theorem rD {L:Array Bool} {ops:Array Oper} (h:Q .normal a w) (hr:Region.ready md ops L=[]:=by kernel_rfl):wpAnyH P md ops Q S fuel L a w:=wpAnyH_done hr h _
theorem rS {id:Nat} {ops:List Oper} {H:Prop} (S:World→Prop) (n:Nat) (hS:S w.drew) (k:S w.drew→H) (hn:ops.length=n:=by rfl) (hk:H→wpAnyH P .any ops.toArray Q S n (List.replicate n false).toArray a w.drew:=by intro kk;simp only [List.replicate];exact kk) (hm:P.follows .mixedOrders=true:=by kernel_rfl):(Code.region id ops.toArray true).wp P Q a w :=
 Ir (S:=S) n (List.replicate n false).toArray (by simpa using hn) (by simp) hm hS (fun h=>hk (k h))
end
