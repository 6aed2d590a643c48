/- M42: RgX, RgM in one text. -/
import Derived.Test.YtedcanagfajcgaaGreatM37
namespace Go.Proofs.YtedcanagfajcgaaGreat
theorem Ph {e:Bool} {os:List Oper} {A L:List Bool} {i:Nat} {o:Oper} (h:nxK e A os L 0=some (i,o)):os.toArray[i]? = some o:=by
 rw [List.getElem?_toArray]
 exact (NI os L 0 i o h).2
def Xq:List Bool→List Nat→List Bool
 | L,[]=>L
 | L,n :: s=>Xq (L.set n true) s
section
variable {P:Program} {md:Region.Mode} {os:List Oper} {Q:Exit→Act→World→Prop} {S:World→Prop} {i:Nat} {d:Tmp} {oi:Oper} {v:Value} {fuel:Nat} {L:List Bool} {a:Act} {w:World}
theorem rQx (s:List Nat) {H:Prop} (k:H) (hi:nxK false L os (Xq L s) 0=some (i,oi):=by rfl) (hd:oi.dst=some d:=by rfl) (hv:∀ w,S w→(execOp a.eval oi).run P w=.ok (.value v) w:=by intro W hW;go_simp;try with_reducible rfl)
  (hw:Region.wanted oi (yielded os.toArray a.tmps)=true:=by rfl) (hs:Region.noSelect os.toArray=true:=by kernel_rfl) (hf:Region.free md os.toArray L.toArray i=true:=by kernel_rfl) (hr:(Region.ready md os.toArray L.toArray).contains i=true:=by kernel_rfl)
  (hQ:∀ c a w,Q (.panic c) (a.put oi.dst v) w→Q (.panic c) a w:=by exact fun _ _ _ h=>h) (hS:S w:=by assumption)
  (h:H→wpAnyH P md os.toArray Q S fuel (L.set i true).toArray (a.put (some d) v) w:=by intro kk;simp only [Act.put,pa,pb,pc];exact kk):wpAnyH P md os.toArray Q S (fuel+1) L.toArray a w :=
 Cz i d (Ph hi) hd hs hf hr hQ (Or.inl ⟨hw,hv⟩) hS (by rw [List.setIfInBounds_toArray];exact h k)
theorem rFx (s:List Nat) {H:Prop} (k:H) (hi:nxK false L os (Xq L s) 0=some (i,oi):=by rfl) (hd:oi.dst=some d:=by rfl) (hv:∀ w,S w→(execOp a.eval oi).run P w=.ok (.value v) w:=by intro W hW;have kk:=FA W hW;clear hW;go_simp;try with_reducible rfl)
  (hw:Region.wanted oi (yielded os.toArray a.tmps)=true:=by rfl) (hs:Region.noSelect os.toArray=true:=by kernel_rfl) (hf:Region.free md os.toArray L.toArray i=true:=by kernel_rfl) (hr:(Region.ready md os.toArray L.toArray).contains i=true:=by kernel_rfl)
  (hQ:∀ c a w,Q (.panic c) (a.put oi.dst v) w→Q (.panic c) a w:=by exact fun _ _ _ h=>h) (hS:S w:=by assumption)
  (h:H→wpAnyH P md os.toArray Q S fuel (L.set i true).toArray (a.put (some d) v) w:=by intro kk;simp only [Act.put,pa,pb,pc];exact kk):wpAnyH P md os.toArray Q S (fuel+1) L.toArray a w :=
 Cz i d (Ph hi) hd hs hf hr hQ (Or.inl ⟨hw,hv⟩) hS (by rw [List.setIfInBounds_toArray];exact h k)
theorem rVm {H:Prop} (v:Value) (k:H) (hi:nxK false L os L 0=some (i,oi):=by rfl) (hd:oi.dst=some d:=by rfl) (hv:∀ w,S w→(execOp a.eval oi).run P w=.ok (.value v) w:=by intro W hW;go_simp;(repeat' split) <;> omega)
  (hw:Region.wanted oi (yielded os.toArray a.tmps)=true:=by rfl) (hs:Region.noSelect os.toArray=true:=by kernel_rfl) (hf:Region.free md os.toArray L.toArray i=true:=by kernel_rfl) (hr:(Region.ready md os.toArray L.toArray).contains i=true:=by kernel_rfl)
  (hQ:∀ c a w,Q (.panic c) (a.put oi.dst v) w→Q (.panic c) a w:=by exact fun _ _ _ h=>h) (hS:S w:=by assumption)
  (h:H→wpAnyH P md os.toArray Q S fuel (L.set i true).toArray (a.put (some d) v) w:=by intro kk;simp only [Act.put,pa,pb,pc];exact kk):wpAnyH P md os.toArray Q S (fuel+1) L.toArray a w:=rK hi hd hv k hw hs hf hr hQ hS h
end
def evL (A:List Bool):List Oper→List Bool→Nat→List (Nat × Oper)
  | o :: os,false :: l,i=>match evK o.op with
    | true=>match Un A o.after.toList with
      | true=>(i,o) :: evL A os l (i+1)
      | false=>evL A os l (i+1)
    | false=>evL A os l (i+1)
  | _ :: os,true :: l,i=>evL A os l (i+1)
  | _,_,_=>[]
section
variable {P:Program} {md:Region.Mode} {os:List Oper} {Q:Exit→Act→World→Prop} {S:World→Prop} {i:Nat} {oi:Oper} {fuel:Nat} {L:List Bool} {a:Act} {w:World} {E E':List (Nat × Oper)}
theorem rM (h:AllReadyH P md os.toArray Q S fuel L.toArray a w ((evL L os L 0).map (·.1))) (hr:Region.ready md os.toArray L.toArray=(evL L os L 0).map (·.1):=by kernel_rfl) (hn:(evL L os L 0).isEmpty=false:=by kernel_rfl):wpAnyH P md os.toArray Q S (fuel+1) L.toArray a w :=
  wpAnyH_ready (rs:=(evL L os L 0).map (·.1)) hr (by cases h0:evL L os L 0 with | nil=>rw [h0] at hn;simp at hn | cons x y=>simp) h
theorem evN (h:E=[]):AllReadyH P md os.toArray Q S fuel L.toArray a w (E.map (·.1)):=by rw [h];exact AllReadyH.nil
theorem evC (h:E=(i,oi) :: E') (hk:∀ K':Act→World→Prop,Shut (∀ a w,S w→(S w→wpAnyH P md os.toArray Q S fuel (L.set i true).toArray a w)→K' a w)→if Region.wanted oi (yielded os.toArray a.tmps)=true then Oper.wp P oi a w K' Q else K' (a.put oi.dst undef) w)
    (ht:AllReadyH P md os.toArray Q S fuel L.toArray a w (E'.map (·.1))) (ho:os.toArray[i]? = some oi:=by rfl):AllReadyH P md os.toArray Q S fuel L.toArray a w (E.map (·.1)):=by
  rw [h]
  exact AllReadyH.cons ho (fun K hK=>hk K (by rwa [List.setIfInBounds_toArray] at hK)) ht
theorem rEa {K':Act→World→Prop} {L:Array Bool} {ops:Array Oper} {l:List Value} {t:TypeId} {H:World→Prop} (hK:Shut (∀ a w,S w→(S w→wpAnyH P md ops Q S fuel L a w)→K' a w)) (hS:S (w.alloc (.cells l.toArray t)))
    (k:∀ w',S w'→Has w' w.heap.size l→(∀ {b cs},Has w b cs→Has w' b cs)→H w') (h:∀ w',H w'→wpAnyH P md ops Q S fuel L a w':=by intro w' kk;(try simp only [Act.put,pa,pb,pc]);exact kk):K' a (w.alloc (.cells l.toArray t)) :=
  hK.out _ _ hS (fun h0=>h _ (k _ h0 (Has.new _ _ _) (fun q=>q.alloc _)))
end
theorem mR {G:Prop} (x:G:=by
    repeat' first
      | ((with_reducible apply TAIL.out) <;> first | assumption | omega | exact Nat.ne_of_lt (Has.lt (by assumption)) | exact Nat.ne_of_gt (Has.lt (by assumption)))
      | refine rQ ?_
      | refine rM ?_
      | exact evN rfl
      | refine evC rfl ?_ ?_
      | (intro K hK;go_simp;first
          | (first | (with_reducible refine (CA.out _ hHeld).mono ?_) | (with_reducible refine (CB.out _ hHeld).mono ?_) | (with_reducible refine (CC.out _ hHeld).mono ?_)
             rintro e2 W2 ⟨rfl,hB⟩
             go_wp2_with fail
             refine rEt hK mB ?_
             (try replace qa:=qa.below hB)
             (try replace qb:=qb.below hB)
             (try replace qc:=qc.below hB)
             clear hK K hHeld hB
             intro hHeld)
          | (have rc:=hHeld.sz;replace hn:=qb.lt;have hm:=qa.lt;refine rEa hK mW (fun W3 hHeld2 qc old=>?_);replace qa:=old qa;replace qb:=old qb;clear hK K hHeld old;have hHeld:=hHeld2;clear hHeld2)
          | (have rb:=hHeld.sz;have hn:=qa.lt;refine rEa hK mW (fun W3 hHeld2 qb old=>?_);replace qa:=old qa;clear hK K hHeld old;have hHeld:=hHeld2;clear hHeld2)
          | (have ra:=hHeld.sz;refine rEa hK mW (fun W3 hHeld2 qa old=>?_);clear hK K hHeld old;have hHeld:=hHeld2;clear hHeld2))):G:=x
