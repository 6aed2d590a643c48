/- M8: Mem, Open, Box, FxRootP, InB, PeRow in one text. -/
import Derived.Test.YtedcanagfajcgaaGreatFrame
import Derived.Lib.Hide
import Derived.Deep.Slices
import Derived.Deep.Fields
import Derived.Maps.AppendAt
import Derived.Deep.AppendLies
import Derived.SizedLaws
import Derived.Test.YtedcanagfajcgaaGreatM24
set_option linter.unusedSimpArgs false
set_option linter.unusedVariables false
namespace Go.Proofs
theorem Ae6{G:Prop}(h:G:=by
  rw [List.flatMap_cons,List.getElem?_append_right (by rw [hf];rw [Nat.succ_mul];omega),hf,show (k+1) * sz+j - sz=k * sz+j from by rw [Nat.succ_mul];omega]
  exact ih k (by simpa using h)):G:=h
theorem Ae7{G:Prop}(h:G:=by
  simp at h
  subst h
  rw [List.flatMap_cons,Nat.zero_mul,Nat.zero_add,List.getElem?_append_left (by rw [hf];exact hj)]
  exact hv):G:=h
end Go.Proofs
namespace Go.Proofs.YtedcanagfajcgaaGreat
open Go.RowKit Go.ChangeShapes Go.WideShapes Go.Deep
structure Ints (w:World) (A:Option Addr) (n:Nat) (xs:List Int):Prop where
 len:xs.length=n
 cells:0<n→∃ b off,A=some ⟨b,off,none⟩∧b<w.heap.size∧∀ k v,xs[k]? = some v→w.cell? ⟨b,off+k,none⟩=some (vI v)
structure Recs {α:Type} (f:α→List Value) (sz:Nat) (w:World) (A:Option Addr) (n:Nat) (xs:List α):Prop where
 len:xs.length=n
 cells:0<n→∃ b off,A=some ⟨b,off,none⟩∧b<w.heap.size∧∀ k x,xs[k]? = some x→∀ j v,(f x)[j]? = some v→w.cell? ⟨b,off+k * sz+j,none⟩=some v
theorem Ints.below {w w':World} {A:Option Addr} {n:Nat} {xs:List Int} (h:Ints w A n xs) (hb:Below w.heap.size w w'):Ints w' A n xs :=
 ⟨h.len,fun hn=>by
  obtain ⟨b,off,e,hlt,hc⟩:=h.cells hn
  exact ⟨b,off,e,Nat.lt_of_lt_of_le hlt hb.size,fun k v hk=>(hb.cell (p:=⟨b,_,none⟩) hlt).trans (hc k v hk)⟩⟩
theorem Recs.below {α:Type} {f:α→List Value} {sz:Nat} {w w':World} {A:Option Addr} {n:Nat} {xs:List α} (h:Recs f sz w A n xs) (hb:Below w.heap.size w w'):Recs f sz w' A n xs :=
 ⟨h.len,fun hn=>by
  obtain ⟨b,off,e,hlt,hc⟩:=h.cells hn
  exact ⟨b,off,e,Nat.lt_of_lt_of_le hlt hb.size,fun k x hk j v hv=>(hb.cell (p:=⟨b,_,none⟩) hlt).trans (hc k x hk j v hv)⟩⟩
theorem Ints.heap {w w':World} {A:Option Addr} {n:Nat} {xs:List Int} (h:Ints w A n xs) (hh:w'.heap=w.heap):Ints w' A n xs :=
 ⟨h.len,fun hn=>by
  obtain ⟨b,off,e,hlt,hc⟩:=h.cells hn
  exact ⟨b,off,e,by rw [hh];exact hlt,fun k v hk=>by
   have:=hc k v hk
   unfold World.cell? at this ⊢
   rw [hh];exact this⟩⟩
theorem Recs.heap {α:Type} {f:α→List Value} {sz:Nat} {w w':World} {A:Option Addr} {n:Nat} {xs:List α} (h:Recs f sz w A n xs) (hh:w'.heap=w.heap):Recs f sz w' A n xs :=
 ⟨h.len,fun hn=>by
  obtain ⟨b,off,e,hlt,hc⟩:=h.cells hn
  exact ⟨b,off,e,by rw [hh];exact hlt,fun k x hk j v hv=>by
   have:=hc k x hk j v hv
   unfold World.cell? at this ⊢
   rw [hh];exact this⟩⟩
theorem Ints.nil (w:World):Ints w none 0 []:=⟨rfl,fun h=>absurd h (by omega)⟩
theorem Recs.nil {α:Type} (f:α→List Value) (sz:Nat) (w:World):Recs f sz w none 0 []:=⟨rfl,fun h=>absurd h (by omega)⟩
theorem Ints.of_own {w:World} {base:Nat} {e:TypeId} {A:Option Addr} {n c:Nat} {xs:List Int} (h:w.ownsRow base e 1 (.slice A n c) n (xs.map fun v=>vI v)):Ints w A n xs:=by
 have hl:xs.length=n:=by have:=h.1;simpa using this
 refine ⟨hl,fun hn=>?_⟩
 rcases h.2 with ⟨_,h0⟩ | ⟨g,cap,cur,hv,_,hh,hnc,_,hs,ht⟩
 ·omega
 ·injection hv with hA
  subst hA
  refine ⟨g,0,rfl,(Array.getElem?_eq_some_iff.1 hh).1,fun k v hk=>?_⟩
  rw [Nat.zero_add,cell_of_row w g k cur e (0,0) hh]
  have hk':k<n:=by rw [← hl];exact (List.getElem?_eq_some_iff.1 hk).1
  have h2:(cur.toList.take (n * 1))[k]? = some (vI v):=by rw [ht,List.getElem?_map,hk];rfl
  rw [List.getElem?_take,if_pos (by omega)] at h2
  simpa using h2
theorem Recs.of_own {α:Type} {f:α→List Value} {sz:Nat} (hf:∀ x,(f x).length=sz) {w:World} {base:Nat} {e:TypeId} {A:Option Addr} {n c:Nat} {xs:List α} (hl:xs.length=n)
  (h:w.ownsRow base e sz (.slice A n c) n (xs.flatMap f)):Recs f sz w A n xs:=by
 refine ⟨hl,fun hn=>?_⟩
 rcases h.2 with ⟨_,h0⟩ | ⟨g,cap,cur,hv,_,hh,hnc,_,hs,ht⟩
 ·omega
 ·injection hv with hA
  subst hA
  refine ⟨g,0,rfl,(Array.getElem?_eq_some_iff.1 hh).1,fun k x hk j v hv=>?_⟩
  have hk':k<n:=by rw [← hl];exact (List.getElem?_eq_some_iff.1 hk).1
  have hj:j<sz:=by rw [← hf x];exact (List.getElem?_eq_some_iff.1 hv).1
  rw [Nat.zero_add,cell_of_row w g (k * sz+j) cur e (0,0) hh]
  have key:∀ (l:List α) (k:Nat),l[k]? = some x→(l.flatMap f)[k * sz+j]? = some v:=by
   intro l
   induction l with
   | nil=>intro k h;simp at h
   | cons y t ih =>
    intro k h
    cases k with
    | zero =>
     exact Ae7
    | succ k =>
     exact Ae6
  have h2:(cur.toList.take (n * sz))[k * sz+j]? = some v:=by rw [ht];exact key xs k hk
  have hlt:k * sz+j<n * sz:=by
   have:(k+1) * sz<=n * sz:=Nat.mul_le_mul_right _ hk'
   rw [Nat.succ_mul] at this
   omega
  rw [List.getElem?_take,if_pos hlt] at h2
  simpa using h2
theorem Aq {α:Type} (l:List α) (k:Nat) (x:α) (h:l[k]? = some x):l.take (k+1)=l.take k ++ [x]:=by
 obtain ⟨hk,rfl⟩:=List.getElem?_eq_some_iff.1 h
 exact List.take_succ_eq_append_getElem hk
theorem Am {α:Type} {l:List α} {n k:Nat} (hl:l.length=n) (hk:k<n):∃ x,l[k]? = some x:=⟨_,AQ (by omega)⟩
theorem LY (b j:Nat):(⟨b,0,none⟩:Addr).add j=⟨b,j,none⟩:=by unfold Addr.add;split <;> simp_all
theorem AY (w:World) (H:Nat) (hH:H=w.heap.size) (cs:Array Value) (t:TypeId) (l:List Value) (hl:l=cs.toList) :
  ∀ j u,l[j]? = some u→(w.alloc (.cells cs t)).cell? ((⟨H,0,none⟩:Addr).add j)=some u:=by
 intro j u hu
 subst hH hl
 rw [LY,World.cell?_alloc_new]
 simpa using hu
theorem Bq {w:World} {base:Nat} {e:TypeId} {size:Nat} {v:Value} {n:Nat} {xs:List Value} (h:w.ownsRow base e size v n xs):∀ k,v.ownBlock=some k→base<=k:=fun k hk=>(h.lt k hk).1
theorem Gh {w:World} {base:Nat} {e:TypeId} {size:Nat} {v:Value} {n:Nat} {xs:List Value} (h:w.ownsRow base e size v n xs):∃ A c,v=.slice A n c:=by
 rcases h.2 with ⟨rfl,rfl⟩ | ⟨g,cap,cur,rfl,_⟩
 ·exact ⟨none,0,rfl⟩
 ·exact ⟨_,_,rfl⟩
theorem CU:(Tryz.prog.info? 2).map (fun i=>(i.zero,i.size,i.bytes))=some (some (vI 0),1,8):=by kernel_rfl
theorem Ux {F:FuncId} {args:Array Value} {w:World} {v:Value} (h:Calls Tryz.prog F args w fun e w'=>e=.returned v∧w=w'):Calls Tryz.prog F args w fun e w'=>e=.returned v∧w'=w :=
 h.mono fun _ _ ⟨h1,h2⟩=>⟨h1,h2.symm⟩
theorem Eo {F:FuncId} {args:Array Value} {w:World} {a n:Nat} {v:Value} (h:Calls Tryz.prog F args (w.drewN (a+n)) fun e w'=>e=.returned v∧w'=w.drewN (a+n)) :
  Calls Tryz.prog F args (w.drewN (a+n)) fun e w'=>e=.returned v∧∃ m,w'=w.drewN (a+m):=h.mono fun _ _ ⟨he,hm⟩=>⟨he,n,hm⟩
theorem I6 {fn:Func} {t u v x:Tmp} (h:fn.results=#[.tmp t,.tmp u,.tmp v,.tmp x]) (tmps:Array Value) (P:Program) (w:World) :
  (results fn tmps).run P w=.ok (.tuple #[tmps.getD t undef,tmps.getD u undef,tmps.getD v undef,tmps.getD x undef]) w:=by simp [results,h]
theorem Ae {w w1 w2:World} (h1:Below w.heap.size w w1) (h2:Below w1.heap.size w1 w2):Below w.heap.size w w2:=h1.trans (h2.mono h1.size)
theorem Ap {w w1:World} {o:Obj} (h:Below (w.alloc o).heap.size (w.alloc o) w1):Below w.heap.size w w1:=((AJ _ w).alloc (Bn _) _).trans (h.mono (by simp))
theorem Ints.of_alloc (w:World) (cs:Array Value) (t:TypeId) (xs:List Int) (n:Nat) (hn:xs.length=n) (h:cs.toList=xs.map fun v=>vI v) (H:Nat) (hH:H=w.heap.size):Ints (w.alloc (.cells cs t)) (some ⟨H,0,none⟩) n xs:=by
 subst hH
 refine ⟨hn,fun _=>⟨w.heap.size,0,rfl,by simp,fun k v hk=>?_⟩⟩
 rw [World.cell?_alloc_new,← Array.getElem?_toList,h,Nat.zero_add,List.getElem?_map,hk]
 rfl
theorem DU {α:Type} {f:α→List Value} {sz:Nat} (hf:∀ x,(f x).length=sz) {j:Nat} {v:Value} {x:α} (hv:(f x)[j]? = some v):∀ (l:List α) (k:Nat),l[k]? = some x→(l.flatMap f)[k * sz+j]? = some v:=by
 have hj:j<sz:=by rw [← hf x];exact (List.getElem?_eq_some_iff.1 hv).1
 intro l
 induction l with
 | nil=>intro k h;simp at h
 | cons y t ih =>
  intro k h
  cases k with
  | zero =>
   exact Ae7
  | succ k =>
   exact Ae6
theorem Recs.of_alloc {α:Type} {f:α→List Value} {sz:Nat} (hf:∀ x,(f x).length=sz) (w:World) (cs:Array Value) (t:TypeId) (xs:List α) (n:Nat) (hn:xs.length=n) (h:cs.toList=xs.flatMap f) (H:Nat) (hH:H=w.heap.size):Recs f sz (w.alloc (.cells cs t)) (some ⟨H,0,none⟩) n xs:=by
 subst hH
 refine ⟨hn,fun _=>⟨w.heap.size,0,rfl,by simp,fun k x hk j v hv=>?_⟩⟩
 rw [World.cell?_alloc_new,← Array.getElem?_toList,h,Nat.zero_add]
 exact DU hf hv xs k hk
section
variable {H:Type} {enc:TypeId × Value→H} {P:Program} {w:World} {base:Nat} {spare:Nat→Bool} {held:Bool}
theorem Mk {k:IntKind} {t:TypeId} {n i:Nat} {cs:List Value} {xs:List (DataW H × List MemPlace)} (ht:P.underlying t=some (.int k)) (hi:i<xs.length) (h:DataW.trod enc P w base spare held n t cs=xs[i]?) :
  ∃ m,cs=[.int k m]∧(Lit.int k m).wf=true:=by
 rw [AQ hi] at h
 obtain ⟨m,h1,_,h2⟩:=DataW.trod_int ht h
 exact ⟨m,h1,h2⟩
theorem Ab7 {k:IntKind} {t u:TypeId} {n:Nat} {cs:List Value} {y:DataW H × List MemPlace} {f0 f1:Field} (ht:P.underlying t=some (.struct #[f0,f1])) (hu:P.underlying u=some (.int k)) (h0:f0.type=u) (h1:f1.type=u) (o0:f0.offset=0) (o1:f1.offset=1)
  (hC:P.cellsOf t=2) (hE:P.cellsOf u=1) (h:DataW.trod enc P w base spare held n t cs=some y):∃ a b,cs=[.int k a,.int k b]∧(Lit.int k a).wf=true∧(Lit.int k b).wf=true:=by
 obtain ⟨xs,n',_,_,hl,hx,hf⟩:=DataW.trod_struct ht h;have e0:=hf 0 f0 rfl;have e1:=hf 1 f1 rfl
 rw [h0,o0,hE] at e0
 rw [h1,o1,hE] at e1
 obtain ⟨a,ha,wa⟩:=Mk hu (by rw [hx];simp) e0;obtain ⟨b,hb,wb⟩:=Mk hu (by rw [hx];simp) e1
 rw [hC] at hl
 match cs,hl with
 | [c0,c1],_ =>
  simp at ha hb
  subst ha hb
  exact ⟨a,b,rfl,wa,wb⟩
theorem BF {k:IntKind} {u:TypeId} (hu:P.underlying u=some (.int k)) (n:Nat) (cs:List Value) (y:DataW H × List MemPlace) (h:DataW.trod enc P w base spare held n u cs=some y):∃ m,cs=[.int k m]∧(Lit.int k m).wf=true:=by
 obtain ⟨m,h1,_,h2⟩:=DataW.trod_int hu h
 exact ⟨m,h1,h2⟩
structure BS (A:Option Addr) (n c:Nat):Prop where
 le:n<=c
 mx:c<=maxLen
 nil:A=none→c=0
theorem DC {α:Type} [Inhabited α] (f:α→List Value) (sz:Nat) (hsz:0<sz) (hf:∀ x,(f x).length=sz) (ok:α→Prop) {t e:TypeId} {fuel:Nat} {v:Value} {y:DataW H × List MemPlace} (ht:P.underlying t=some (.slice e)) (hC:P.cellsOf e=sz)
  (hel:∀ n cs y,DataW.trod enc P w base spare held n e cs=some y→∃ x,cs=f x∧ok x) (h:DataW.trod enc P w base spare held fuel t [v]=some y) :
  ∃ (A:Option Addr) (n c:Nat) (xs:List α),v=.slice A n c∧n<=maxLen∧BS A n c∧Recs f sz w A n xs∧(∀ x ∈ xs,ok x)∧((∀ q ∈ y.1.weights P t,q<=reachBytes)→n * P.bytesOf e<=reachBytes):=by
 rcases open_slice ht h with ⟨hc,rfl⟩ | ⟨a,len,cap,m,fu,D,Pl,hc,hb,hl,hm,hmm,rfl,hi⟩
 ·injection hc with hc _
  subst hc
  exact ⟨none,0,0,[],rfl,Nat.zero_le _,⟨Bn _,Nat.zero_le _,fun _=>rfl⟩,Recs.nil f sz w,by simp,fun _=>by omega⟩
 ·injection hc with hc _
  subst hc
  have hlm:len<=m:=by rw [hmm];split <;> omega
  have each:∀ i,i<len→∃ x,(w.cells? base (a.add (i * P.cellsOf e)) (P.cellsOf e)=some (f x)∧ok x):=by
   intro i hi'
   obtain ⟨cs',h1,h2⟩:=hi i (by omega);obtain ⟨x,rfl,hx⟩:=hel _ _ _ h2
   exact ⟨x,h1,hx⟩
  obtain ⟨F,hF⟩:=choose_lt each
  refine ⟨some a,len,cap,(List.range len).map F,rfl,by omega,⟨hl,hm,fun h=>absurd h (by simp)⟩,⟨by simp,fun hn=>?_⟩,?_,fun hq=>?_⟩
  ·obtain ⟨b,off,spot⟩:=a
   have c0:=(World.cells?_some (hF 0 hn).1).2.2 0 (by omega);have hx0:((f (F 0))[0]?)=some ((f (F 0))[0]'(by rw [hf];exact hsz)):=AQ _
   rw [hx0] at c0
   have e0:((⟨b,off,spot⟩:Addr).add (0 * P.cellsOf e)).add 0=⟨b,off,spot⟩:=by simp [Addr.add]
   rw [e0] at c0
   have hspot:spot=none:=by simpa using World.cell?_spot c0
   subst hspot
   refine ⟨b,off,rfl,World.block_lt_of_cell? w ⟨b,off,none⟩ c0,fun k x hk j v hv=>?_⟩
   rw [List.getElem?_map] at hk
   rcases Nat.lt_or_ge k len with hkl | hkl
   ·rw [List.getElem?_range hkl] at hk
    obtain rfl:F k=x:=by simpa using hk
    have hj:j<sz:=by rw [← hf (F k)];exact (List.getElem?_eq_some_iff.1 hv).1
    have cc:=(World.cells?_some (hF k hkl).1).2.2 j (by rw [hC];exact hj)
    rw [hv,hC] at cc
    have e1:((⟨b,off,none⟩:Addr).add (k * sz)).add j=⟨b,off+k * sz+j,none⟩:=by
     rw [Go.Deep.add_add]
     unfold Addr.add
     split
     ·rename_i h0;simp <;> omega
     ·simp <;> omega
    rw [e1] at cc
    exact cc
   ·rw [List.getElem?_eq_none (by simpa using hkl)] at hk
    simp at hk
  ·intro x hx
   simp only [List.mem_map,List.mem_range] at hx
   obtain ⟨i,hi',rfl⟩:=hx
   exact (hF i hi').2
  ·have:=hq ((((List.range len).map D).length+((List.range (m - len)).map fun j=>D (len+j)).length) * P.bytesOf e) (by simp [DataW.weights,ht])
   simp only [List.length_map,List.length_range] at this
   have h2:len * P.bytesOf e<=(len+(m - len)) * P.bytesOf e:=Nat.mul_le_mul_right _ (by omega)
   omega
theorem Fj {A:Option Addr} {n:Nat} {xs:List Int} (h:Recs (fun v:Int=>[Value.int .i64 v]) 1 w A n xs):Ints w A n xs :=
 ⟨h.len,fun hn=>by
  obtain ⟨b,off,e,hlt,hc⟩:=h.cells hn
  exact ⟨b,off,e,hlt,fun k v hk=>by
   have:=hc k v hk 0 (vI v) rfl
   simpa using this⟩⟩
theorem BD {t e:TypeId} {fuel:Nat} {v:Value} {y:DataW H × List MemPlace} (ht:P.underlying t=some (.slice e)) (he:P.underlying e=some (.int .i64)) (hC:P.cellsOf e=1) (h:DataW.trod enc P w base spare held fuel t [v]=some y) :
  ∃ (A:Option Addr) (n c:Nat) (xs:List Int),v=.slice A n c∧n<=maxLen∧BS A n c∧Ints w A n xs∧(∀ x ∈ xs,(Lit.int .i64 x).wf=true)∧((∀ q ∈ y.1.weights P t,q<=reachBytes)→n * P.bytesOf e<=reachBytes):=by
 obtain ⟨A,n,c,xs,h1,h2,h3,h4,h5,h6⟩:=DC (fun v:Int=>[Value.int .i64 v]) 1 (by omega) (fun _=>rfl) (fun x=>(Lit.int .i64 x).wf=true) ht hC (fun n cs y hy=>BF he n cs y hy) h
 exact ⟨A,n,c,xs,h1,h2,h3,Fj h4,h5,h6⟩
theorem PX {ts:List TypeId} {ds:List (DataW H)} (h:(DataW.weightsEach P ts ds).all (·<=reachBytes)=true) {j:Nat} {t:TypeId} {d:DataW H} (ht:ts[j]? = some t) (hd:ds[j]? = some d):∀ q ∈ d.weights P t,q<=reachBytes:=by
 intro q hq
 simpa using List.all_eq_true.1 h q (DataW.weights_mem_each ht hd q hq)
theorem LK {r:Reach} {b0:Nat} {t:TypeId} {fs:Array Field} {v:Value} {d:DataW H} {p:List MemPlace} (hs:P.underlying t=some (.struct fs))
  (hv:Value.okWide P w r b0 t v) (h:DataW.Trod enc P w base spare held t v d p):∃ cs n,v=.agg ⟨cs⟩∧DataW.trod enc P w base spare held n t cs=some (d,p):=by
 obtain ⟨cs,rfl,hsz⟩:=okWide_struct hs hv;obtain ⟨l⟩:=cs;obtain ⟨fuel,hf⟩:=h
 exact ⟨l,fuel,rfl,by simpa [Value.cells] using hf⟩
theorem GG {r:Reach} {b0:Nat} {t e:TypeId} {v:Value} {d:DataW H} {p:List MemPlace} (ht:P.underlying t=some (.slice e)) (he:P.underlying e=some (.int .i64)) (hC:P.cellsOf e=1) (hv:Value.okWide P w r b0 t v) (h:DataW.Trod enc P w base spare held t v d p) :
  ∃ (A:Option Addr) (n c:Nat) (xs:List Int),v=.slice A n c∧n<=maxLen∧BS A n c∧Ints w A n xs∧(∀ x ∈ xs,(Lit.int .i64 x).wf=true)∧((∀ q ∈ d.weights P t,q<=reachBytes)→n * P.bytesOf e<=reachBytes):=by
 obtain ⟨a,len,cap,rfl⟩:=okWide_slice ht hv;obtain ⟨fuel,hf⟩:=h
 exact BD ht he hC (y:=(d,p)) (by simpa [Value.cells] using hf)
theorem KY {α:Type} [Inhabited α] (f:α→List Value) (sz:Nat) (hsz:0<sz) (hf:∀ x,(f x).length=sz) (ok:α→Prop) {r:Reach} {b0:Nat} {t e:TypeId} {v:Value} {d:DataW H} {p:List MemPlace} (ht:P.underlying t=some (.slice e)) (hC:P.cellsOf e=sz)
  (hel:∀ n cs y,DataW.trod enc P w base spare held n e cs=some y→∃ x,cs=f x∧ok x) (hv:Value.okWide P w r b0 t v) (h:DataW.Trod enc P w base spare held t v d p) :
  ∃ (A:Option Addr) (n c:Nat) (xs:List α),v=.slice A n c∧n<=maxLen∧BS A n c∧Recs f sz w A n xs∧(∀ x ∈ xs,ok x)∧((∀ q ∈ d.weights P t,q<=reachBytes)→n * P.bytesOf e<=reachBytes):=by
 obtain ⟨a,len,cap,rfl⟩:=okWide_slice ht hv;obtain ⟨fuel,hf'⟩:=h
 exact DC f sz hsz hf ok ht hC hel (y:=(d,p)) (by simpa [Value.cells] using hf')
theorem ZP (w:World) (X Y:Array Value) (t u:TypeId):(∀ i,((w.alloc (.cells X t)).alloc (.cells Y u)).cell? ⟨w.heap.size,i,none⟩=X[i]?)∧∀ i,((w.alloc (.cells X t)).alloc (.cells Y u)).cell? ⟨w.heap.size+1,i,none⟩=Y[i]?:=by
 refine ⟨fun i=>?_,fun i=>?_⟩
 ·rw [World.cell?_alloc_lt (w.alloc (.cells X t)) _ ⟨w.heap.size,i,none⟩ (by simp),World.cell?_alloc_new]
 ·have e:w.heap.size+1=(w.alloc (.cells X t)).heap.size:=by simp
  rw [e,World.cell?_alloc_new]
theorem Zb (w:World) (X:Array Value) (t:TypeId) (i:Nat):(w.alloc (.cells X t)).cell? ⟨w.heap.size,i,none⟩=X[i]?:=by rw [World.cell?_alloc_new]
end
open Go.RowKit
structure Has (W:World) (b:Nat) (cs:List Value):Prop where
 lt:b<W.heap.size
 cell:∀ i v,cs[i]? = some v→W.cell? ⟨b,i,none⟩=some v
 fr:∀ o,W.frozen? ⟨b,o,none⟩=false
theorem Vl (w:World) (cs:Array Value) (t:TypeId) (i:Nat):(w.alloc (.cells cs t)).frozen? ⟨w.heap.size,i,none⟩=false:=frozen_of_row _ _ _ _ _ (heap_alloc_new w _)
theorem Has.below {W W':World} {b:Nat} {cs:List Value} (h:Has W b cs) (hb:Below W.heap.size W W'):Has W' b cs :=
 ⟨Nat.lt_of_lt_of_le h.lt hb.size,fun i v hv=>(hb.cell (p:=⟨b,i,none⟩) h.lt).trans (h.cell i v hv),fun o=>(hb.frozen (p:=⟨b,o,none⟩) h.lt).trans (h.fr o)⟩
theorem Has.new (w:World) (X:Array Value) (t:TypeId):Has (w.alloc (.cells X t)) w.heap.size X.toList :=
 ⟨by simp,fun i v hv=>by rw [World.cell?_alloc_new,← Array.getElem?_toList];exact hv,Vl w X t⟩
theorem Has.alloc {W:World} {b:Nat} {cs:List Value} (h:Has W b cs) (o:Obj):Has (W.alloc o) b cs:=h.below ((AJ _ _).alloc (Bn _) _)
theorem Has.newAt (w:World) (X:Array Value) (t:TypeId) (b:Nat) (hb:w.heap.size=b):Has (w.alloc (.cells X t)) b X.toList:=hb ▸ Has.new w X t
theorem Has.set {W:World} {b:Nat} {cs:List Value} (h:Has W b cs) (i:Nat) (v:Value) (hi:i<cs.length):Has (W.setCell ⟨b,i,none⟩ v) b (cs.set i v):=by
 refine ⟨by simpa [World.setCell] using h.lt,fun j u hu=>?_,fun o=>by rw [World.frozen?_setCell];exact h.fr o⟩
 by_cases hj:i=j
 ·subst hj
  rw [List.getElem?_set_self hi] at hu
  injection hu with hu
  subst hu
  exact World.cell?_setCell_same _ ⟨b,i,none⟩ _ (h.cell i _ (AQ hi))
 ·rw [List.getElem?_set_ne hj] at hu
  rw [World.cell?_setCell_other _ ⟨b,i,none⟩ ⟨b,j,none⟩ _ (by intro e;injection e with _ e;omega)]
  exact h.cell j u hu
theorem Has.other {W:World} {b:Nat} {cs:List Value} (h:Has W b cs) (c i:Nat) (v:Value) (hc:b≠c):Has (W.setCell ⟨c,i,none⟩ v) b cs :=
 ⟨by simpa [World.setCell] using h.lt,fun j u hu=>by
  rw [World.cell?_setCell_other _ ⟨c,i,none⟩ ⟨b,j,none⟩ _ (by intro e;injection e with e _;omega)]
  exact h.cell j u hu,fun o=>by rw [World.frozen?_setCell];exact h.fr o⟩
theorem Has.drew {W:World} {b:Nat} {cs:List Value} (h:Has W b cs):Has W.drew b cs:=⟨h.lt,fun i v hv=>by rw [World.cell?_drew];exact h.cell i v hv,h.fr⟩
theorem Aa (w:World) (o:Obj):Below w.heap.size w (w.alloc o):=(AJ _ _).alloc (Bn _) _
theorem Cg (w:World) (o p:Obj):Below w.heap.size w ((w.alloc o).alloc p):=(Aa w o).alloc (by simp) _
theorem Da (w:World) (o p q:Obj):Below w.heap.size w (((w.alloc o).alloc p).alloc q):=(Cg w o p).alloc (by simp;omega) _
theorem Db (w:World) (o p q r:Obj):Below w.heap.size w ((((w.alloc o).alloc p).alloc q).alloc r):=(Da w o p q).alloc (by simp;omega) _
theorem Bh {w W:World} (h:Below w.heap.size w W) (o:Obj):Below w.heap.size w (W.alloc o):=h.alloc h.size _
end Go.Proofs.YtedcanagfajcgaaGreat
namespace Go.Proofs.Fx
def isq:Nat→Nat
 | 0=>0
 | n+1=>if (isq n+1) * (isq n+1)<=n+1 then isq n+1 else isq n
theorem isq_spec (n:Nat):isq n * isq n<=n∧n<(isq n+1) * (isq n+1):=by
 induction n with
 | zero=>exact ⟨by decide,by decide⟩
 | succ n ih =>
  obtain ⟨h1,h2⟩:=ih
  unfold isq
  split
  ·rename_i h
   refine ⟨h,?_⟩
   have:(isq n+1+1) * (isq n+1+1)=(isq n+1) * (isq n+1)+(isq n+1)+(isq n+1)+1:=by
    rw [Nat.add_mul,Nat.mul_add];omega
   omega
  ·rename_i h
   exact ⟨by omega,by omega⟩
theorem isq_eq {n r:Nat} (h1:r * r<=n) (h2:n<(r+1) * (r+1)):r=isq n:=by
 obtain ⟨a,b⟩:=isq_spec n
 rcases Nat.lt_trichotomy r (isq n) with h | h | h
 ·exfalso
  have:=Nat.mul_le_mul (show r+1<=isq n from h) (show r+1<=isq n from h)
  omega
 ·exact h
 ·exfalso
  have:=Nat.mul_le_mul (show isq n+1<=r from h) (show isq n+1<=r from h)
  omega
theorem Qz {n r:Nat} (h:r * r<=n):r<=isq n:=by
 obtain ⟨a,b⟩:=isq_spec n
 rcases Nat.lt_or_ge (isq n) r with h' | h'
 ·exfalso
  have:=Nat.mul_le_mul (show isq n+1<=r from h') (show isq n+1<=r from h')
  omega
 ·exact h'
theorem isq_mono {a b:Nat} (h:a<=b):isq a<=isq b:=Qz (Nat.le_trans (isq_spec a).1 h)
theorem isq_pos {n:Nat} (h:0<n):0<isq n:=Qz (r:=1) h
theorem newton_ge {n x:Nat} (hx:0<x):isq n<=(x+n / x) / 2:=by
 obtain ⟨h1,h2⟩:=isq_spec n;generalize isq n=s at *
 have key:2 * s<=x+n / x:=by
  rcases Nat.lt_or_ge (2 * s) x with h | h
  ·exact Nat.le_trans (Nat.le_of_lt h) (Cn _ _)
  ·obtain ⟨d,hd⟩:∃ d,2 * s=x+d:=⟨2 * s - x,by omega⟩
   have hdx:d * x<=s * s:=by
    rcases Nat.le_total s x with hsx | hsx
    ·obtain ⟨k,rfl⟩:∃ k,x=s+k:=⟨x - s,by omega⟩
     obtain rfl:d=s - k:=by omega
     have hk:k<=s:=by omega
     obtain ⟨j,rfl⟩:∃ j,s=k+j:=⟨s - k,by omega⟩
     simp only [Nat.add_sub_cancel_left]
     rw [Nat.mul_add,Nat.add_mul,Nat.mul_add,Nat.mul_add]
     have:=Nat.mul_comm j k
     omega
    ·obtain ⟨k,rfl⟩:∃ k,s=x+k:=⟨s - x,by omega⟩
     obtain rfl:d=x+2 * k:=by omega
     rw [Nat.add_mul,Nat.add_mul,Nat.mul_add,Nat.mul_add,Nat.mul_assoc]
     have:=Nat.mul_comm k x
     omega
   have:d<=n / x:=(Nat.le_div_iff_mul_le hx).2 (by omega)
   omega
 omega
theorem newton_stop {n x:Nat} (hx:0<x) (hs:isq n<=x) (h:x<=(x+n / x) / 2):x=isq n:=by
 have h1:x<=n / x:=by omega
 have h2:x * x<=n:=(Nat.le_div_iff_mul_le hx).1 h1
 exact Nat.le_antisymm (Qz h2) hs
theorem newton_bound {n x:Nat} (hx:0<x) (hs:isq n<=x):n / x<=x+2:=by
 have h:=(isq_spec n).2;have h2:(isq n+1) * (isq n+1)<=(x+1) * (x+1):=Nat.mul_le_mul (by omega) (by omega)
 have h3:n / x<x+3:=by
  rw [Nat.div_lt_iff_lt_mul hx]
  have:(x+1) * (x+1)=x * x+2 * x+1:=by rw [Nat.add_mul,Nat.mul_add];omega
  rw [Nat.add_mul]
  omega
 omega
theorem newton_start {n k:Nat} (h:n<2 ^ k):isq n<=2 ^ ((k+1) / 2):=by
 rcases Nat.lt_or_ge (2 ^ ((k+1) / 2)) (isq n) with h' | h'
 ·exfalso
  have h1:=(isq_spec n).1;have h2:2 ^ ((k+1) / 2) * 2 ^ ((k+1) / 2)<=isq n * isq n:=Nat.mul_le_mul (by omega) (by omega)
  rw [← Nat.pow_add] at h2
  have h3:2 ^ k<=2 ^ ((k+1) / 2+(k+1) / 2):=Nat.pow_le_pow_right (by decide) (by omega)
  omega
 ·exact h'
structure BitInv (n r b:Nat):Prop where
 lo:r * r<=n
 hi:(b=0∧n<(r+1) * (r+1))∨∃ k,b=2 ^ k∧n<(r+2 * b) * (r+2 * b)
 bd:r+2 * b<=4294967296
theorem bit_start {n:Nat} (h:n<9223372036854775808):BitInv n 0 2147483648:=by
 refine ⟨Nat.zero_le _,.inr ⟨31,rfl,Nat.lt_trans h (by decide)⟩,by decide⟩
theorem bit_end {n r:Nat} (h:BitInv n r 0):r=isq n:=by
 rcases h.hi with ⟨_,h2⟩ | ⟨k,hk,_⟩
 ·exact isq_eq h.lo h2
 ·have:=Nat.two_pow_pos k;omega
theorem Mc {n r b:Nat} (hb:0<b) (hlo:r * r<=n) (hk:∃ k,b=2 ^ k) (hhi:n<(r+b) * (r+b)) (hbd:r+b<=4294967296):BitInv n r (b / 2):=by
 obtain ⟨k,rfl⟩:=hk
 refine ⟨hlo,?_,by omega⟩
 cases k with
 | zero=>exact .inl ⟨by decide,hhi⟩
 | succ k =>
  have e:2 ^ (k+1) / 2=2 ^ k:=by rw [Nat.pow_succ];exact Nat.mul_div_cancel _ (by decide)
  refine .inr ⟨k,e,?_⟩
  rw [e]
  rw [show 2 ^ (k+1)=2 * 2 ^ k from by rw [Nat.pow_succ,Nat.mul_comm]] at hhi
  exact hhi
theorem bit_yes {n r b:Nat} (hb:0<b) (h:BitInv n r b) (hy:(r+b) * (r+b)<=n):BitInv n (r+b) (b / 2):=by
 rcases h.hi with ⟨h0,_⟩ | ⟨k,hk,h2⟩
 ·omega
 ·have e:r+2 * b=r+b+b:=by omega
  rw [e] at h2
  exact Mc hb hy ⟨k,hk⟩ h2 (by have:=h.bd;omega)
theorem bit_no {n r b:Nat} (hb:0<b) (h:BitInv n r b) (hy:¬ (r+b) * (r+b)<=n):BitInv n r (b / 2):=by
 rcases h.hi with ⟨h0,_⟩ | ⟨k,hk,h2⟩
 ·omega
 ·exact Mc hb h.lo ⟨k,hk⟩ (by omega) (by have:=h.bd;omega)
end Go.Proofs.Fx
namespace Go.Proofs.YtedcanagfajcgaaGreat
open Go.RowKit
def inB (n lo hi:Int):Bool:=decide (lo<=n) && decide (n<=hi)
theorem Al {n lo hi:Int}:inB n lo hi=true ↔ lo<=n∧n<=hi:=by simp [inB]
theorem Dz {n lo hi:Int}:inB n lo hi=false ↔ ¬ (lo<=n∧n<=hi):=by rw [← Al];simp
theorem Ao {a b:Bool} (h:a=b):Ending.returned (.bool a)=.returned (.bool b):=by rw [h]
theorem AL {a b:Int} (h:(a == b)=false):(a != b)=true:=by rw [bne,h];rfl
theorem Aw {a b:Int} (h:a≠b):(a == b)=false:=BA.2 h
structure Row where
 A:Option Addr
 n:Nat
 c:Nat
 l:List Int
instance:Inhabited Row:=⟨⟨none,0,0,[]⟩⟩
def Row.cells (r:Row):List Value:=[.slice r.A r.n r.c]
structure Tab (w:World) (A:Option Addr) (n:Nat) (rs:List Row):Prop where
 top:Recs Row.cells 1 w A n rs
 row:∀ r ∈ rs,Ints w r.A r.n r.l
theorem Tab.below {w w':World} {A:Option Addr} {n:Nat} {rs:List Row} (h:Tab w A n rs) (hb:Below w.heap.size w w'):Tab w' A n rs :=
 ⟨h.top.below hb,fun r hr=>(h.row r hr).below hb⟩
def Aj (rs:List Row):List (List Int):=rs.map Row.l
structure Sl where
 A:Option Addr
 n:Nat
 c:Nat
def Sl.v (s:Sl):Value:=.slice s.A s.n s.c
structure Prf where
 nm:ByteArray
 em:Int
 mf:Int
 sal:Sl
 sms:Sl
 scl:Sl
 scf:Sl
 scr:Sl
 sde:Sl
 sid:Sl
 smx:Sl
 smn:Sl
 rf:Int
 ex:Int
 ce:Int
 al:List Int
 ms:List Int
 cl:List Row
 cf:List Row
 cr:List Row
 de:List Int
 id:List Int
 mx:List Int
 mn:List Int
def Prf.cells (p:Prf):List Value :=
 [.string p.nm,vI p.em,vI p.mf,.slice p.sal.A p.sal.n p.sal.c,.slice p.sms.A p.sms.n p.sms.c,.slice p.scl.A p.scl.n p.scl.c,.slice p.scf.A p.scf.n p.scf.c,.slice p.scr.A p.scr.n p.scr.c,.slice p.sde.A p.sde.n p.sde.c,.slice p.sid.A p.sid.n p.sid.c,.slice p.smx.A p.smx.n p.smx.c,.slice p.smn.A p.smn.n p.smn.c,vI p.rf,vI p.ex,vI p.ce]
structure Prf.lies (p:Prf) (w:World):Prop where
 al:Ints w p.sal.A p.sal.n p.al
 ms:Ints w p.sms.A p.sms.n p.ms
 cl:Tab w p.scl.A p.scl.n p.cl
 cf:Tab w p.scf.A p.scf.n p.cf
 cr:Tab w p.scr.A p.scr.n p.cr
 de:Ints w p.sde.A p.sde.n p.de
 id:Ints w p.sid.A p.sid.n p.id
 mx:Ints w p.smx.A p.smx.n p.mx
 mn:Ints w p.smn.A p.smn.n p.mn
theorem Prf.lies.below {p:Prf} {w w':World} (h:p.lies w) (hb:Below w.heap.size w w'):p.lies w' :=
 ⟨h.al.below hb,h.ms.below hb,h.cl.below hb,h.cf.below hb,h.cr.below hb,h.de.below hb,h.id.below hb,h.mx.below hb,h.mn.below hb⟩
structure Prf.ok (p:Prf):Prop where
 nm:p.nm.size<=maxLen
 al:p.sal.n<=maxLen
 ms:p.sms.n<=maxLen
 cl:p.scl.n<=maxLen
 cf:p.scf.n<=maxLen
 cr:p.scr.n<=maxLen
 de:p.sde.n<=maxLen
 id:p.sid.n<=maxLen
 mx:p.smx.n<=maxLen
 mn:p.smn.n<=maxLen
 rcl:∀ r ∈ p.cl,r.n<=maxLen
 rcf:∀ r ∈ p.cf,r.n<=maxLen
 rcr:∀ r ∈ p.cr,r.n<=maxLen
/-! ### the tests -/
def BK (l:List Int) (lo hi:Int):Bool:=l.all fun x=>inB x lo hi
def FW (t:List (List Int)) (lo hi:Int):Bool:=t.all fun l=>BK l lo hi
def EW (t:List (List Int)) (n m:Nat):Bool:=decide (t.length=n) && t.all fun l=>decide (l.length=m)
def KA (l:List Int):Bool:=decide (Pe.Asc l)
def upB (l:List Int):Bool:=decide (Pe.Up l)
def dnB (l:List Int):Bool:=decide (Pe.Down l)
def g2 (t:List (List Int)) (i j:Nat):Int:=(t.getD i []).getD j 0
def Fp (t:List (List Int)):Bool:=decide (∀ i,i<t.length→Pe.Up (t.getD i [])∧(0<i→∀ j,j<(t.getD i []).length→g2 t i j<=g2 t (i - 1) j))
def Gd (t:List (List Int)):Bool:=decide (∀ i,i<t.length→Pe.Down (t.getD i [])∧(0<i→∀ j,j<(t.getD i []).length→g2 t i j<=g2 t (i - 1) j))
def gnB (al:List Int) (t:List (List Int)):Bool:=decide (∀ i,i<al.length→0<i→∀ j,j<(t.getD i []).length→g2 t (i - 1) j - g2 t i j<=al.getD i 0 - al.getD (i - 1) 0)
def nmC (c:UInt8):Bool:=(decide (65<=c.toNat) && decide (c.toNat<=90)) || (decide (48<=c.toNat) && decide (c.toNat<=57))
def AeC:List UInt8→Bool
 | []=>false
 | c :: _=>decide (65<=c.toNat) && decide (c.toNat<=90)
def nmB (s:ByteArray) (most:Nat):Bool:=decide (0<s.size) && decide (s.size<=most) && AeC s.data.toList && s.data.toList.all nmC
theorem D8 {α:Type} {l:List α} {f:α→Bool} {k:Nat} {q:α} (h:l[k]? = some q) (hf:f q=false):l.all f=false:=by
 rw [List.all_eq_false];exact ⟨q,Au h,by rw [hf];decide⟩
theorem BX {α:Type} {l:List α} {f:α→Bool} {k:Nat} {q:α} (ht:l.take (k+1)=l.take k ++ [q]) (ha:(l.take k).all f=true) (hf:f q=true):(l.take (k+1)).all f=true:=by
 rw [ht,List.all_append,ha];simp [hf]
theorem C9 {α:Type} {l:List α} {f:α→Bool} {k:Nat} (hk:l.length<=k) (ha:(l.take k).all f=true):l.all f=true:=by
 rwa [CY hk] at ha
theorem Ah {α:Type} {l:List α} {k:Nat} {x d:α} (h:l[k]? = some x):l.getD k d=x:=by rw [Dp,h];rfl
