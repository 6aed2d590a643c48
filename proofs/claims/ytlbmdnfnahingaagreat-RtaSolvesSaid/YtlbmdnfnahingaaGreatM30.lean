/- M30: SpPlain2, RtP, RtL, RtM, BmP, Rf8P in one text. -/
import Derived.Test.YtlbmdnfnahingaaGreatM31
import Derived.Test.YtlbmdnfnahingaaGreatM9
import Derived.Test.YtlbmdnfnahingaaGreatM14
import Derived.Test.YtlbmdnfnahingaaGreatM21
import Derived.Test.YtlbmdnfnahingaaGreatM27
import Derived.Test.YtlbmdnfnahingaaGreatSpG
set_option linter.unusedSimpArgs false
set_option linter.unusedVariables false
set_option maxRecDepth 100000
set_option maxHeartbeats 8000000
namespace Go.Proofs.YtlbmdnfnahingaaGreat
open Sp
theorem Agk (zs ys:Cs.Wins) (k:Int):(faL zs ys k).length=zs.length:=by unfold faL;rw [List.length_map,Cs.tight_len]
theorem Af0 {zs ys:Cs.Wins} {k:Int} {i:Nat} (h:i<zs.length):(faL zs ys k)[i]? = some (min (Cs.tH zs ys i) (Cs.tL zs ys i+k)):=by
 unfold faL
 rw [List.getElem?_map,Cs.tight_get h];rfl
theorem Ago (l:Cs.Wins):∀ m:Int,m<=spM l m∧∀ p ∈ l,p.2 - p.1<=spM l m:=by
 induction l with
 | nil=>intro m;exact ⟨Bt _,fun p hp=>by simp at hp⟩
 | cons q l ih =>
  intro m
  have h:=ih (max m (q.2 - q.1))
  refine ⟨by show m<=spM l (max m (q.2 - q.1));omega,fun p hp=>?_⟩
  show _<=spM l (max m (q.2 - q.1))
  rcases List.mem_cons.1 hp with rfl | hp
  ·omega
  ·exact h.2 p hp
theorem AgG (l:Cs.Wins):∀ m:Int,spM l m=m∨∃ p ∈ l,spM l m=p.2 - p.1:=by
 induction l with
 | nil=>intro m;exact .inl rfl
 | cons q l ih =>
  intro m
  show spM l (max m (q.2 - q.1))=m∨∃ p ∈ q :: l,spM l (max m (q.2 - q.1))=p.2 - p.1
  rcases ih (max m (q.2 - q.1)) with h | ⟨p,hp,h⟩
  ·rcases Int.le_total m (q.2 - q.1) with h2 | h2
   ·right;exact ⟨q,by simp,by omega⟩
   ·left;omega
  ·right;exact ⟨p,List.mem_cons_of_mem _ hp,h⟩
theorem AgH {zs ys:Cs.Wins} {i:Nat} (h:i<zs.length):Cs.tH zs ys i - Cs.tL zs ys i<=spV zs ys:=(Ago _ 0).2 _ (Au (Cs.tight_get h))
theorem Agp (zs ys:Cs.Wins):0<=spV zs ys:=(Ago _ 0).1
theorem AgI (zs ys:Cs.Wins):spV zs ys=0∨∃ i,i<zs.length∧spV zs ys=Cs.tH zs ys i - Cs.tL zs ys i:=by
 rcases AgG (Cs.tight zs ys) 0 with h | ⟨p,hp,h⟩
 ·exact .inl h
 ·right
  obtain ⟨i,hi⟩:=List.getElem?_of_mem hp;have hk:=(List.getElem?_eq_some_iff.1 hi).1
  rw [Cs.tight_len] at hk
  rw [Cs.tight_get hk] at hi
  obtain rfl:=Option.some.inj hi
  exact ⟨i,hk,h⟩
theorem Ah5 {zs ys:Cs.Wins} (h:rdE zs ys=0) (ht:Cs.tgE zs ys=0):okV (spV zs ys):=by
 unfold okV
 have h0:=Agp zs ys
 rcases AgI zs ys with e | ⟨i,hi,e⟩
 ·omega
 ·have:=Agq h ht hi
  unfold okV at this
  omega
theorem Agw {zs ys:Cs.Wins} {k:Int} (h:rdE zs ys=0) (ht:Cs.tgE zs ys=0) (hk:0<=k):Adw zs ys (faL zs ys k):=by
 have hc:=(rdE_0 h).1;have hok:=Cs.csOk_of hc;have hnc:=Cs.confL_nil.1 (Cs.tgE_0 ht).2;have sH:=Cs.sol_tH hok hnc;have sL:=Cs.sol_tL hok hnc
 refine ⟨hc,Agk _ _ _,⟨fun i hi=>?_,fun i hi=>?_⟩⟩
 ·have a:=sH.win i hi
  have b:=sL.win i hi;have c:=Cs.tL_le_tH hok hnc hi
  rw [J8 (Af0 hi)]
  omega
 ·have a:=sH.stp i hi
  have b:=sL.stp i hi
  rw [J8 (Af0 (show i<zs.length by omega)),J8 (Af0 hi)]
  omega
theorem Agx {zs ys:Cs.Wins} {k:Int} (hk:0<=k):(∃ i,i<zs.length∧k<Cs.tH zs ys i - Cs.tL zs ys i) ↔ k<spV zs ys:=by
 constructor
 ·rintro ⟨i,hi,h⟩
  have:=AgH (ys:=ys) hi
  omega
 ·intro h
  rcases AgI zs ys with e | ⟨i,hi,e⟩
  ·omega
  ·exact ⟨i,hi,by omega⟩
open Go.RowKit
def sdA (s:Stp):Cs.Wins:=sdL s (C8 s)
def fam (s:Stp) (k:Int):List Int:=Sp.faL (sdA s) (spS s) k
def spn (s:Stp):Int:=Sp.spV (sdA s) (spS s)
def opE (s:Stp) (node:Int) (late:Bool):Int :=
 if suE s≠0 then suE s else if node<1∨(s.no.length:Int)<=node∨late=true then 1 else if Dr s≠0 then Dr s else Sp.spE (sdA s) (spS s)
noncomputable def fkE (s:Stp) (k:Int):Int:=wtE s (C8 s) (fam s k)
noncomputable def fkL (s:Stp) (k:Int):List Pass:=wtL s (C8 s) (fam s k)
noncomputable def fkT (s:Stp) (k:Int) (node:Nat):Int:=(psP s (C8 s) (fam s k) node).tick
noncomputable def wdE (s:Stp) (node:Int):Int:=if opE s node false≠0 then opE s node false else if fkE s (spn s)≠0 then fkE s (spn s) else fkE s 0
noncomputable def Agi (s:Stp) (node:Nat) (hi:Int):Nat→Nat→Option Nat
 | _,0=>none
 | k,n+1=>if fkE s k=0∧fkT s k node<=hi then some k else Agi s node hi (k+1) n
noncomputable def fnd (s:Stp) (node:Nat) (hi:Int):Option Nat:=Agi s node hi 0 ((spn s).toNat+1)
noncomputable def soE (s:Stp) (node lo hi:Int):Int :=
 if opE s node (decide (hi<lo))≠0 then opE s node (decide (hi<lo)) else if fkE s (spn s)=0∧hi<fkT s (spn s) node.toNat then 16
 else if fnd s node.toNat hi=none then 16 else 0
noncomputable def soL (s:Stp) (node lo hi:Int):List Pass:=if soE s node lo hi=0 then fkL s ((fnd s node.toNat hi).getD 0:Nat) else []
noncomputable def soV (s:Stp) (node lo hi:Int):Int:=if soE s node lo hi=0 then max (lo - fkT s ((fnd s node.toNat hi).getD 0:Nat) node.toNat) 0 else 0
def tgt (s:Stp) (i:Int):Bool:=decide (0<=i) && decide (i<s.no.length) && decide (((Cs.tight (sdA s) (spS s)).getD i.toNat (0,0)).2=((sdA s).getD i.toNat (0,0)).2)
def bdF (s:Stp) (node:Int):Nat→Nat→Int
 | _,0 => -1
 | d,n+1=>if tgt s (node - d)=true then node - d else if tgt s (node+d)=true then node+d else bdF s node (d+1) n
def bdV (s:Stp) (node:Int):Int:=if opE s node false≠0 then 0 else bdF s node 0 s.no.length
section
variable {s:Stp}
structure OpG (s:Stp) (node:Int):Prop where
 su:suE s=0
 G:StG s
 n1:1<=node
 n2:node<s.no.length
 al:AlG s (C8 s)
 alE:Dr s=0
 rd:Sp.rdE (sdA s) (spS s)=0
 tg:Cs.tgE (sdA s) (spS s)=0
theorem Af2 (N:StN s) {node:Int} {late:Bool} (h:opE s node late=0):OpG s node∧late=false:=by
 unfold opE at h
 by_cases h0:suE s=0
 rotate_left
 ·rw [if_pos h0] at h;exact absurd h h0
 rw [if_neg (by rw [h0];decide)] at h
 by_cases h1:node<1∨(s.no.length:Int)<=node∨late=true
 ·rw [if_pos h1] at h;exact absurd h (by decide)
 rw [if_neg h1] at h
 by_cases h2:Dr s=0
 rotate_left
 ·rw [if_pos h2] at h;exact absurd h h2
 rw [if_neg (by rw [h2];decide)] at h
 have G:=Cm h0;have A:=OG N h2;have hr:Sp.rdE (sdA s) (spS s)=0:=Xt G N A.len
 rw [Sp.spE_t hr] at h
 exact ⟨⟨h0,G,by omega,by omega,A,h2,hr,h⟩,by cases late <;> simp_all⟩
theorem Af3 (A:AlG s (C8 s)):(sdA s).length=s.no.length:=CV A.len
theorem Agy (A:AlG s (C8 s)) (k:Int):(fam s k).length=s.no.length:=by unfold fam;rw [Agk,Af3 A]
theorem Agb (A:AlG s (C8 s)) {k:Int} {i:Nat} (hi:i<s.no.length):(fam s k).getD i 0=min (Cs.tH (sdA s) (spS s) i) (Cs.tL (sdA s) (spS s) i+k):=Ah (Af0 (by rw [Af3 A];exact hi))
theorem Agl {node:Int} (O:OpG s node) {k:Int} (hk:0<=k):SpG s (C8 s) (fam s k) :=
 Agn O.al.len (Agy O.al k) (Agw O.rd O.tg hk).2.2
theorem Af1 {node:Int} (O:OpG s node) (N:StN s) {k:Int} (hk:0<=k):fcE s (C8 s) (fam s k)=0:=AgN O.G N O.al (Agl O hk)
theorem AgD {node:Int} (O:OpG s node) (N:StN s) {k:Int} (hk:0<=k):fkE s k=psE s (C8 s) (fam s k) (s.no.length - 1):=by
 unfold fkE wtE
 rw [if_neg (by rw [O.su];decide),if_neg (by rw [Af1 O N hk];decide)]
theorem Agz {node:Int} (O:OpG s node) (N:StN s) {j k:Int} (h0:0<=j) (hjk:j<=k) (hj:fkE s j=0) (hk:fkE s k=0) {i:Nat} (hi:i<s.no.length):fkT s k i<=fkT s j i:=by
 rw [AgD O N h0] at hj
 rw [AgD O N (by omega)] at hk
 refine (VJ O.G N (J7 (Af1 O N h0)) (J7 (Af1 O N (show 0<=k by omega))) (fun i hi=>?_) i hi (JA (by omega) hj) (JA (by omega) hk)).1.1
 rw [Agb O.al hi,Agb O.al hi]
 omega
structure FoG (s:Stp) (node lo hi:Int) (k:Nat):Prop where
 O:OpG s node
 ord:lo<=hi
 ks:(k:Int)<=spn s
 e:fkE s k=0
 t:fkT s k node.toNat<=hi
 first:∀ i:Nat,i<k→¬ (fkE s i=0∧fkT s i node.toNat<=hi)
 soL:soL s node lo hi=fkL s k
 soV:soV s node lo hi=max (lo - fkT s k node.toNat) 0
theorem Agd {k:Int} {i:Nat} (hi:i<s.no.length):(fkL s k)[i]? = some (psP s (C8 s) (fam s k) i):=TP hi
theorem RnG.op (R:RnG s) (N:StN s) {node:Int} (h1:1<=node) (h2:node<s.no.length) (ha:Dr s=0) {late:Bool} (hl:late=false):opE s node late=0:=by
 unfold opE
 rw [if_neg (by rw [R.su];decide),if_neg (by subst hl;simp;omega),if_neg (by rw [ha];decide)]
 have hr:Sp.rdE (sdA s) (spS s)=0:=Xt R.G N R.al.len
 rw [Sp.spE_t hr]
 exact Cs.tgE_ok (Sp.rdE_0 hr).1 R.nc
end
theorem AgE {s:Stp} {node:Int} {late:Bool} (h:suE s≠0):opE s node late=suE s:=if_pos h
theorem AgK {s:Stp} {node:Int} {late:Bool} (h:suE s=0) (h1:node<1∨(s.no.length:Int)<=node∨late=true):opE s node late=1:=by unfold opE;rw [if_neg (by rw [h];decide),if_pos h1]
theorem AgL {s:Stp} {node:Int} {late:Bool} (h:suE s=0) (h1:¬ (node<1∨(s.no.length:Int)<=node∨late=true)) (h2:Dr s≠0):opE s node late=Dr s:=by unfold opE;rw [if_neg (by rw [h];decide),if_neg h1,if_pos h2]
theorem AgM {s:Stp} {node:Int} {late:Bool} (h:suE s=0) (h1:¬ (node<1∨(s.no.length:Int)<=node∨late=true)) (h2:Dr s=0):opE s node late=Sp.spE (sdA s) (spS s):=by unfold opE;rw [if_neg (by rw [h];decide),if_neg h1,if_neg (by rw [h2];decide)]
/-- block b holds the cells cs and no others -/ structure Ex (W : World) (b : Nat) (cs : List Value) : Prop where
 lt:b<W.heap.size
 all:∀ i,W.cell? ⟨b,i,none⟩=cs[i]?
theorem Ex.new (w:World) (X:Array Value) (t:TypeId) (b:Nat) (hb:w.heap.size=b):Ex (w.alloc (.cells X t)) b X.toList :=
 ⟨by simp;omega,fun i=>by subst hb;rw [World.cell?_alloc_new,← Array.getElem?_toList]⟩
theorem Ex.below {W W1:World} {b:Nat} {cs:List Value} (h:Ex W b cs) (hb:Below W.heap.size W W1):Ex W1 b cs:=⟨Nat.lt_of_lt_of_le h.lt hb.size,fun i=>(hb.cell (p:=⟨b,i,none⟩) h.lt).trans (h.all i)⟩
theorem Ex.set {W:World} {b:Nat} {cs:List Value} (h:Ex W b cs) (i:Nat) (v:Value) (hi:i<cs.length):Ex (W.setCell ⟨b,i,none⟩ v) b (cs.set i v):=by
 refine ⟨by simpa [World.setCell] using h.lt,fun j=>?_⟩
 by_cases hj:i=j
 ·subst hj
  rw [List.getElem?_set_self hi]
  exact World.cell?_setCell_same _ ⟨b,i,none⟩ _ ((h.all i).trans (AQ hi))
 ·rw [List.getElem?_set_ne hj,World.cell?_setCell_other _ ⟨b,i,none⟩ ⟨b,j,none⟩ _ (by intro e;injection e with _ e;omega)]
  exact h.all j
theorem Ex.other {W:World} {b:Nat} {cs:List Value} (h:Ex W b cs) (c i:Nat) (v:Value) (hc:b≠c):Ex (W.setCell ⟨c,i,none⟩ v) b cs :=
 ⟨by simpa [World.setCell] using h.lt,fun j=>by
  rw [World.cell?_setCell_other _ ⟨c,i,none⟩ ⟨b,j,none⟩ _ (by intro e;injection e with e _;omega)]
  exact h.all j⟩
/-- a list lies in another block -/ def Ne (A : Option Addr) (H : Nat) : Prop := ∀ b off, A = some ⟨b, off, none⟩ → b ≠ H
theorem Agc {x y z:Value} {k:Int} {a b c:Int} (hx:∀ v,x≠vI v) (hy:∀ v,y≠vI v) (hz:∀ v,z≠vI v):∀ i:Nat,[x,y,z,vI k][i]? = some (vI a)→[x,y,z,vI k][i+1]? = some (vI b)→False
 | 0,h,_=>hx _ (by simpa using h)
 | 1,h,_=>hy _ (by simpa using h)
 | 2,h,_=>hz _ (by simpa using h)
 | 3,_,h=>by simp at h
 | i+4,h,_=>by simp at h
theorem Agh {W:World} {A:Option Addr} {n:Nat} {l:List Int} {H:Nat} {A1 A2 A3:Option Addr} {n1 c1 n2 c2 n3 c3:Nat} {k:Int} (h:Ints W A n l) (hn:2<=n) (hx:Ex W H [.slice A1 n1 c1,.slice A2 n2 c2,.slice A3 n3 c3,vI k]):Ne A H:=by
 rintro b off rfl rfl
 obtain ⟨b',o',h1,h2,h3⟩:=h.cells (by omega)
 injection h1 with h1;injection h1 with h1 h4;subst h1;subst h4
 obtain ⟨x,hx0⟩:=Am h.len (show 0<n by omega);obtain ⟨y,hx1⟩:=Am h.len (show 1<n by omega);have e0:=h3 0 x hx0;have e1:=h3 1 y hx1
 rw [hx.all] at e0 e1
 exact Agc (c:=0) (fun v=>by simp) (fun v=>by simp) (fun v=>by simp) off e0 e1
theorem AfV {W:World} {A:Option Addr} {n:Nat} {l:Cs.Wins} {H:Nat} {A1 A2 A3:Option Addr} {n1 c1 n2 c2 n3 c3:Nat} {k:Int} (h:Pairs W A n l) (hn:1<=n) (hx:Ex W H [.slice A1 n1 c1,.slice A2 n2 c2,.slice A3 n3 c3,vI k]):Ne A H:=by
 rintro b off rfl rfl
 obtain ⟨b',o',h1,h2,h3⟩:=h.cells (by omega)
 injection h1 with h1;injection h1 with h1 h4;subst h1;subst h4
 obtain ⟨x,hx0⟩:=Am h.len (show 0<n by omega);have e0:=h3 0 x hx0 0 _ rfl;have e1:=h3 0 x hx0 1 _ rfl
 rw [hx.all] at e0 e1
 simp only [Nat.zero_mul,Nat.add_zero] at e0 e1
 exact Agc (c:=0) (fun v=>by simp) (fun v=>by simp) (fun v=>by simp) off e0 e1
theorem Recs.set_ne {α:Type} {f:α→List Value} {sz:Nat} {W:World} {A:Option Addr} {n:Nat} {l:List α} {H:Nat} (h:Recs f sz W A n l) (hne:Ne A H) (j:Nat) (v:Value):Recs f sz (W.setCell ⟨H,j,none⟩ v) A n l :=
 ⟨h.len,fun hn=>by
  obtain ⟨b,off,h1,h2,h3⟩:=h.cells hn
  refine ⟨b,off,h1,by simpa [World.setCell] using h2,fun k x hk i y hy=>?_⟩
  rw [World.cell?_setCell_other _ ⟨H,j,none⟩ ⟨b,_,none⟩ v (by intro e;injection e with e _;exact hne b off h1 e.symm)]
  exact h3 k x hk i y hy⟩
theorem Ints.set_ne {W:World} {A:Option Addr} {n:Nat} {l:List Int} {H:Nat} (h:Ints W A n l) (hne:Ne A H) (j:Nat) (v:Value):Ints (W.setCell ⟨H,j,none⟩ v) A n l :=
 ⟨h.len,fun hn=>by
  obtain ⟨b,off,h1,h2,h3⟩:=h.cells hn
  refine ⟨b,off,h1,by simpa [World.setCell] using h2,fun k x hk=>?_⟩
  rw [World.cell?_setCell_other _ ⟨H,j,none⟩ ⟨b,_,none⟩ v (by intro e;injection e with e _;exact hne b off h1 e.symm)]
  exact h3 k x hk⟩
theorem Agv (w:World):BoxS w 0 [] w:=⟨fun i cs hi=>by simp at hi,by simp,AJ _ _,by simp⟩
theorem Agj {s:Stp} {k:Nat} (hk:k+1<s.no.length):(EI s).take (k+1)=(EI s).take k ++ [(Ac s (k+1)).di]:=Aq _ k _ (by
 have h2:=AQ hk
 unfold EI
 rw [List.getElem?_map,List.getElem?_drop,Nat.add_comm 1 k,h2,GJ h2];rfl)
theorem AgJ {s:Stp} {k:Int} (hr:Sp.rdE (sdA s) (spS s)=0) (ht:Cs.tgE (sdA s) (spS s)=0) (h0:0<=k∧k<=1000):Sp.faE (sdA s) (spS s) k=0:=by
 unfold Sp.faE
 rw [if_neg (by rw [hr];decide),if_pos (by unfold Sp.okV;omega),ht]
/-- the window of arrival, with an error beside it -/ def WdP (s : Stp) (node : Int) (w : World) (e : Ending) (w' : World) : Prop := e = .returned (.tuple #[.agg #[vI (okI (wdE s node) (fkT s (spn s) node.toNat)), vI (okI (wdE s node) (fkT s 0 node.toNat))], vI (wdE s node)]) ∧ Below w.heap.size w w'
theorem Ah7 {s:Stp} {node:Int} {w w':World} {E:Int} (hE:wdE s node=E) (h0:E≠0) (hb:Below w.heap.size w w'):WdP s node w (.returned (.tuple #[.agg #[vI 0,vI 0],vI E])) w':=by
 unfold WdP
 rw [hE]
 unfold okI
 rw [if_neg h0,if_neg h0]
 exact ⟨rfl,hb⟩
theorem Ait {s:Stp} {node:Int} {w w':World} {a b:Int} (hE:wdE s node=0) (h1:a=fkT s (spn s) node.toNat) (h2:b=fkT s 0 node.toNat) (hb:Below w.heap.size w w'):WdP s node w (.returned (.tuple #[.agg #[vI a,vI b],vI 0])) w':=by
 unfold WdP
 rw [hE,h1,h2]
 exact ⟨rfl,hb⟩
theorem AhE {s:Stp} {node:Int} (h:(opE s node false)≠0):wdE s node=(opE s node false):=if_pos h
theorem Air {s:Stp} {node:Int} (h:(opE s node false)=0) (h1:fkE s (spn s)≠0):wdE s node=fkE s (spn s):=by unfold wdE;rw [if_neg (by rw [h];decide),if_pos h1]
theorem Ais {s:Stp} {node:Int} (h:(opE s node false)=0) (h1:fkE s (spn s)=0):wdE s node=fkE s 0:=by unfold wdE;rw [if_neg (by rw [h];decide),if_neg (by rw [h1];decide)]
theorem AgX {s:Stp} {node:Int} (O:OpG s node) (N:StN s):0<=spn s∧spn s<=1000:=by
 refine ⟨Agp _ _,?_⟩
 rcases Int.lt_or_le (spn s) 1001 with h | h
 ·omega
 ·exfalso
  obtain ⟨i,hi,h2⟩:=(Agx (zs:=sdA s) (ys:=spS s) (k:=1000) (by omega)).2 (show (1000:Int)<Sp.spV (sdA s) (spS s) from by show (1000:Int)<spn s;omega);have hc:=(Sp.rdE_0 O.rd).1;have hn:=Cs.confL_nil.1 (Cs.tgE_0 O.tg).2;have h3:=(Cs.tH_win hn hi).2;have h4:=(Cs.tL_win hn hi).1;have hl:=Af3 O.al;have e:=Aa6 O.al.len (show i<s.no.length by omega);have b:=(Xp O.G N (show i<s.no.length by omega) ((C8 s).getD i 0)).1;have e1:Cs.lo (sdA s) i=_:=e.1;have e2:Cs.hi (sdA s) i=_:=e.2
  unfold Sp.okP Sp.okV at b
  omega
/-- schedules 0 to the span are good -/ theorem fk_go {s : Stp} {node : Int} (O : OpG s node) (N : StN s) {k : Int} (h0 : 0 <= k) (h1 : k <= spn s) : Sp.faE (sdA s) (spS s) k = 0 := AgJ O.rd O.tg (by have := AgX O N; omega)
theorem Ag2 {W:World} {A:Option Addr} {n:Nat} {l:List Pass} {H:Nat} {x y:Value} (h:Passes W A n l) (hn:1<=n) (hx:Ex W H [x,y]):Ne A H:=by
 rintro b off rfl rfl
 obtain ⟨b',o',h1,h2,h3⟩:=h.cells (by omega)
 injection h1 with h1;injection h1 with h1 h4;subst h1;subst h4
 obtain ⟨p,hp⟩:=Am h.len (show 0<n by omega);have e:=h3 0 p hp 2 _ rfl
 rw [hx.all,List.getElem?_eq_none (by show 2<=_;omega)] at e
 exact absurd e (by simp)
theorem KV {W:World} {A:Option Addr} {n:Nat} {l:List Pass} (h:Passes W A n l) (hn:0<n):∃ b off,A=some ⟨b,off,none⟩:=by
 obtain ⟨b,off,h1,_,_⟩:=h.cells hn
 exact ⟨b,off,h1⟩
theorem E5 {W:World} {b off n:Nat} {l:List Pass} (h:Passes W (some ⟨b,off,none⟩) n l) {k:Nat} {p:Pass} (hk:l[k]? = some p):b<W.heap.size∧∀ j u,p.cells[j]? = some u→W.cell? ⟨b,off+k * 13+j,none⟩=some u:=by
 obtain ⟨b',o',h1,h2,h3⟩:=h.cells (by have:=h.len;have:=(List.getElem?_eq_some_iff.1 hk).1;omega)
 injection h1 with h1;injection h1 with h1 h4;subst h1;subst h4
 exact ⟨h2,fun j u hj=>h3 k p hk j u hj⟩
/-- the flight that arrives in time, with an error beside it -/ def SoP (s : Stp) (node lo hi : Int) (w : World) (e : Ending) (w' : World) : Prop := ∃ A c, e = .returned (.tuple #[.agg #[.slice A (okN (soE s node lo hi) s.no.length) c, vI 0, vI 0, .bool false], vI (soV s node lo hi), vI (soE s node lo hi)]) ∧ Passes w' A (okN (soE s node lo hi) s.no.length) (soL s node lo hi) ∧ BS A (okN (soE s node lo hi) s.no.length) c ∧ Below w.heap.size w w'
theorem Ah3 {s:Stp} {node lo hi:Int} {w w':World} {E:Int} (hE:(soE s node lo hi)=E) (h0:E≠0) (hb:Below w.heap.size w w'):SoP s node lo hi w (.returned (.tuple #[.agg #[.slice none 0 0,vI 0,vI 0,.bool false],vI 0,vI E])) w':=by
 have h1:soL s node lo hi=[]:=if_neg (by rw [hE];exact h0);have h2:soV s node lo hi=0:=if_neg (by rw [hE];exact h0)
 unfold SoP
 rw [hE,h1,h2]
 unfold okN
 rw [if_neg h0]
 exact ⟨none,0,rfl,Recs.nil _ _ _,⟨Bn _,Nat.zero_le _,fun _=>rfl⟩,hb⟩
theorem Aip {s:Stp} {node lo hi:Int} {w w':World} {A:Option Addr} {c:Nat} {v:Int} {l:List Pass} (hE:(soE s node lo hi)=0) (hv:soV s node lo hi=v) (hl:soL s node lo hi=l) (hp:Passes w' A s.no.length l) (hc:BS A s.no.length c) (hb:Below w.heap.size w w'):SoP s node lo hi w (.returned (.tuple #[.agg #[.slice A s.no.length c,vI 0,vI 0,.bool false],vI v,vI 0])) w':=by
 unfold SoP
 rw [hE,hv,hl]
 exact ⟨A,c,rfl,hp,hc,hb⟩
theorem AhB {s:Stp} {node lo hi:Int} (h:(opE s node (decide (hi<lo)))≠0):(soE s node lo hi)=(opE s node (decide (hi<lo))):=if_pos h
theorem AhC {s:Stp} {node lo hi:Int} (h:(opE s node (decide (hi<lo)))=0) (h1:fkE s (spn s)=0∧hi<fkT s (spn s) node.toNat):(soE s node lo hi)=16:=by unfold soE;rw [if_neg (by rw [h];decide),if_pos h1]
theorem Aio {s:Stp} {node lo hi:Int} (h:(opE s node (decide (hi<lo)))=0) (h1:fnd s node.toNat hi=none):(soE s node lo hi)=16:=by unfold soE;rw [if_neg (by rw [h];decide)];split <;> rfl
theorem Ahl {s:Stp} {node lo hi:Int} {k:Nat} (h:(opE s node (decide (hi<lo)))=0) (h1:¬ (fkE s (spn s)=0∧hi<fkT s (spn s) node.toNat)) (h2:fnd s node.toNat hi=some k):(soE s node lo hi)=0∧soL s node lo hi=fkL s k∧soV s node lo hi=max (lo - fkT s k node.toNat) 0:=by
 have e:(soE s node lo hi)=0:=by unfold soE;rw [if_neg (by rw [h];decide),if_neg h1,if_neg (by rw [h2];simp)]
 refine ⟨e,?_,?_⟩
 ·unfold soL;rw [if_pos e,h2];rfl
 ·unfold soV;rw [if_pos e,h2];rfl
theorem X6 {s:Stp} {node:Nat} {hi:Int}:∀ {n k j:Nat},k<=j→j<k+n→(∀ i:Nat,k<=i→i<j→¬ (fkE s i=0∧fkT s i node<=hi))→(fkE s j=0∧fkT s j node<=hi)→Agi s node hi k n=some j
 | 0,k,j,h1,h2,_,_=>by omega
 | n+1,k,j,h1,h2,h3,h4=>by
  unfold Agi
  by_cases e:k=j
  ·subst e;rw [if_pos h4]
  ·rw [if_neg (h3 k (Bn _) (by omega))]
   exact X6 (by omega) (by omega) (fun i hi1 hi2=>h3 i (by omega) hi2) h4
theorem Ahf {s:Stp} {node:Nat} {hi:Int}:∀ {n k:Nat},(∀ i:Nat,k<=i→i<k+n→¬ (fkE s i=0∧fkT s i node<=hi))→Agi s node hi k n=none
 | 0,k,_=>rfl
 | n+1,k,h=>by
  unfold Agi
  rw [if_neg (h k (Bn _) (by omega))]
  exact Ahf (fun i h1 h2=>h i (by omega) (by omega))
theorem AhZ {s:Stp} {node:Int} (O:OpG s node) (N:StN s) {k:Int} (hk:0<=k) (h:fkE s k=0) {i:Nat} (hi:i<s.no.length):PsI (psP s (C8 s) (fam s k) i):=by
 have hf:=J7 (Af1 O N hk)
 rw [AgD O N hk] at h
 exact psI O.G N hf hi (JA (by omega) h)
/-- schedules 0 to k are not in time -/ def SvR (s : Stp) (m : Nat) (hi : Int) (B : World) (t : Value) (wr : World) : Prop := ∃ k : Nat, (k : Int) <= spn s + 1 ∧ t = vI (k : Int) ∧ (∀ i : Nat, i < k → ¬ (fkE s i = 0 ∧ fkT s i m <= hi)) ∧ BoxS B 0 [] wr
theorem Ahc (w:World):BoxS w 0 [] w:=⟨fun i cs hi=>by simp at hi,by simp,AJ _ _,by simp⟩
/-- the binding node, with an error beside it -/ def BdP (s : Stp) (node : Int) (w : World) (e : Ending) (w' : World) : Prop := e = .returned (.tuple #[vI (bdV s node), vI (opE s node false)]) ∧ Below w.heap.size w w'
theorem Aha {s:Stp} {node:Int} {w w':World} {E:Int} (hE:(opE s node false)=E) (h0:E≠0) (hb:Below w.heap.size w w'):BdP s node w (.returned (.tuple #[vI 0,vI E])) w':=by
 have h1:bdV s node=0:=if_pos (by rw [hE];exact h0)
 unfold BdP
 rw [hE,h1]
 exact ⟨rfl,hb⟩
theorem Ahb {s:Stp} {node:Int} {w w':World} {v:Int} (hE:(opE s node false)=0) (hv:bdF s node 0 s.no.length=v) (hb:Below w.heap.size w w'):BdP s node w (.returned (.tuple #[vI v,vI 0])) w':=by
 have h1:bdV s node=v:=by unfold bdV;rw [if_neg (by rw [hE];decide),hv]
 unfold BdP
 rw [hE,h1]
 exact ⟨rfl,hb⟩
theorem Aib {s:Stp} {node:Int} {d k:Nat}:bdF s node d (k+1)=if tgt s (node - d)=true then node - d else if tgt s (node+d)=true then node+d else bdF s node (d+1) k:=rfl
theorem Ahn {s:Stp} {x:Int} (h:¬ (0<=x∧x<s.no.length)):tgt s x=false:=by
 unfold tgt
 by_cases h1:0<=x
 ·rw [BJ (show ¬ x<((s.no.length:Nat):Int) by omega)];simp
 ·rw [BJ h1];rfl
theorem AhD {s:Stp} {m:Nat} (h:m<s.no.length):tgt s (m:Int)=decide (((Cs.tight (sdA s) (spS s)).getD m (0,0)).2=((sdA s).getD m (0,0)).2):=by
 unfold tgt
 rw [Ct (show 0<=(m:Int) by omega),Ct (show (m:Int)<((s.no.length:Nat):Int) by omega),Int.toNat_natCast];rfl
/-- no node nearer than d -/ def BdR (s : Stp) (node : Int) (B : World) (t : Value) (wr : World) : Prop := ∃ d : Nat, d <= s.no.length ∧ t = vI (d : Int) ∧ bdF s node 0 s.no.length = bdF s node d (s.no.length - d) ∧ BoxS B 0 [] wr
/-- the two nodes at a distance -/ def BdJ (s : Stp) (x y : Int) (B : World) (t : Value) (wr : World) : Prop := ∃ j : Nat, j <= 2 ∧ t = vI (j : Int) ∧ (1 <= j → tgt s x = false) ∧ (2 <= j → tgt s y = false) ∧ BoxS B 0 [] wr
theorem MS (w:World):BoxS w 0 [] w:=⟨fun i cs hi=>by simp at hi,by simp,AJ _ _,by simp⟩
theorem LD {W:World} {b off n:Nat} {l:Cs.Wins} (h:Pairs W (some ⟨b,off,none⟩) n l) {k:Nat} (hk:k<n):b<W.heap.size∧W.cell? ⟨b,off+k * 2+1,none⟩=some (vI (l.getD k (0,0)).2):=by
 obtain ⟨x,hx⟩:=Am h.len hk;obtain ⟨b',o',h1,h2,h3⟩:=h.cells (by omega)
 injection h1 with h1;injection h1 with h1 h4;subst h1;subst h4
 rw [Ah hx]
 exact ⟨h2,h3 k x hx 1 _ rfl⟩
theorem AgW {W:World} {A:Option Addr} {n:Nat} {l:Cs.Wins} (h:Pairs W A n l) (hn:0<n):∃ b off,A=some ⟨b,off,none⟩:=by
 obtain ⟨b,off,h1,_,_⟩:=h.cells hn
 exact ⟨b,off,h1⟩
theorem Ahg {W:World} {b off n:Nat} {l:List Int} (h:Ints W (some ⟨b,off,none⟩) n l) {k:Nat} (hk:k<n):b<W.heap.size∧W.cell? ⟨b,off+k,none⟩=some (vI (l.getD k 0)):=by
 obtain ⟨x,hx⟩:=Am h.len hk;obtain ⟨b',o',h1,h2,h3⟩:=h.cells (by omega)
 injection h1 with h1;injection h1 with h1 h4;subst h1;subst h4
 rw [Ah hx]
 exact ⟨h2,h3 k x hx⟩
theorem Ail {W:World} {A:Option Addr} {n:Nat} {l:List Int} (h:Ints W A n l) (hn:0<n):∃ b off,A=some ⟨b,off,none⟩:=by
 obtain ⟨b,off,h1,_,_⟩:=h.cells hn
 exact ⟨b,off,h1⟩
structure PlB (s:Stp) (A A2 A3:Option Addr) (c3:Nat) (w:World):Prop where
 al:Ints w A s.no.length (C8 s)
 ws:Pairs w A2 s.no.length (sdA s)
 st:Pairs w A3 (s.no.length - 1) (spS s)
 cap:BS A3 (s.no.length - 1) c3
theorem PlB.below {s:Stp} {A A2 A3:Option Addr} {c3:Nat} {w w':World} (h:PlB s A A2 A3 c3 w) (hb:Below w.heap.size w w'):PlB s A A2 A3 c3 w':=⟨h.al.below hb,h.ws.below hb,h.st.below hb,h.cap⟩
theorem PlB.set {s:Stp} {A A2 A3:Option Addr} {c3:Nat} {W:World} (h:PlB s A A2 A3 c3 W) {H:Nat} (hn:Ne A H∧Ne A2 H∧Ne A3 H) (j:Nat) (v:Value):PlB s A A2 A3 c3 (W.setCell ⟨H,j,none⟩ v):=⟨h.al.set_ne hn.1 j v,Recs.set_ne h.ws hn.2.1 j v,Recs.set_ne h.st hn.2.2 j v,h.cap⟩
theorem Ag3 {W w:World} {b:Nat} {l:List Value} (h:Has W b l) (hB:Below w.heap.size w W) (hb:w.heap.size<=b) (hl:l.length=4) (v0 v1 v2 v3:Value):Has ((((W.setCell ⟨b,0,none⟩ v0).setCell ⟨b,1,none⟩ v1).setCell ⟨b,2,none⟩ v2).setCell ⟨b,3,none⟩ v3) b [v0,v1,v2,v3]∧Below w.heap.size w ((((W.setCell ⟨b,0,none⟩ v0).setCell ⟨b,1,none⟩ v1).setCell ⟨b,2,none⟩ v2).setCell ⟨b,3,none⟩ v3) :=
 match l,hl with
 | [_,_,_,_],_=>⟨(((h.set 0 v0 (by simp)).set 1 v1 (by simp)).set 2 v2 (by simp)).set 3 v3 (by simp),Ab (Ab (Ab (Ab hB _ _ hb _) _ _ hb _) _ _ hb _) _ _ hb _⟩
theorem Ain {W w:World} {b:Nat} {l:List Value} (h:Has W b l) (hB:Below w.heap.size w W) (hb:w.heap.size<=b) (hl:l.length=2) (v0 v1:Value):Has ((W.setCell ⟨b,0,none⟩ v0).setCell ⟨b,1,none⟩ v1) b [v0,v1]∧Below w.heap.size w ((W.setCell ⟨b,0,none⟩ v0).setCell ⟨b,1,none⟩ v1) :=
 match l,hl with
 | [_,_],_=>⟨(h.set 0 v0 (by simp)).set 1 v1 (by simp),Ab (Ab hB _ _ hb _) _ _ hb _⟩
theorem AgR {W:World} {b o H:Nat} {v:Value} (h:W.cell? ⟨b,o,none⟩=some v) (hne:b≠H) (x y:Value):((W.setCell ⟨H,0,none⟩ x).setCell ⟨H,1,none⟩ y).cell? ⟨b,o,none⟩=some v :=
 (World.cell?_setCell_other _ ⟨H,1,none⟩ ⟨b,o,none⟩ y (by intro e;injection e with e _;omega)).trans ((World.cell?_setCell_other _ ⟨H,0,none⟩ ⟨b,o,none⟩ x (by intro e;injection e with e _;omega)).trans h)
theorem Ahh {W:World} {A:Option Addr} {n:Nat} {l:List Pass} {H:Nat} {cs:List Value} (h:Passes W A n l) (hn:1<=n) (hl:cs.length<=12) (hx:Ex W H cs):Ne A H:=by
 rintro b off rfl rfl
 obtain ⟨b',o',h1,h2,h3⟩:=h.cells (by omega)
 injection h1 with h1;injection h1 with h1 h4;subst h1;subst h4
 obtain ⟨p,hp⟩:=Am h.len (show 0<n by omega);have e:=h3 0 p hp 12 _ rfl
 rw [hx.all,List.getElem?_eq_none (by omega)] at e
 exact absurd e (by simp)
def FmP (s:Stp) (node:Int) (late:Bool) (w:World) (e:Ending) (w':World):Prop :=
 (opE s node late≠0→e=.returned (.tuple #[.agg #[.slice none 0 0,.slice none 0 0,.slice none 0 0,vI 0],vI (opE s node late)])) ∧
 (opE s node late=0→∃ A c A2 c2 A3 c3,e=.returned (.tuple #[.agg #[.slice A s.no.length c,.slice A2 s.no.length c2,.slice A3 (s.no.length - 1) c3,vI (spn s)],vI 0])∧PlB s A A2 A3 c3 w')∧Below w.heap.size w w'
theorem Ahs {s:Stp} {node:Int} {late:Bool} {w w':World} {E:Int} (hE:opE s node late=E) (h0:E≠0) (hb:Below w.heap.size w w'):FmP s node late w (.returned (.tuple #[.agg #[.slice none 0 0,.slice none 0 0,.slice none 0 0,vI 0],vI E])) w':=⟨fun _=>by rw [hE],fun h=>absurd (hE.symm.trans h) h0,hb⟩
theorem Ah0 {s:Stp} {node:Int} {late:Bool} {w w':World} {A A2 A3:Option Addr} {c c2 c3:Nat} (hE:opE s node late=0) (h:PlB s A A2 A3 c3 w') (hb:Below w.heap.size w w'):FmP s node late w (.returned (.tuple #[.agg #[.slice A s.no.length c,.slice A2 s.no.length c2,.slice A3 (s.no.length - 1) c3,vI (spn s)],vI 0])) w':=⟨fun k=>absurd hE k,fun _=>⟨A,c,A2,c2,A3,c3,rfl,h⟩,hb⟩
section
variable {s:Stp}
theorem Aik {node:Int} (O:OpG s node) {k:Int} (hk:Sp.okV k):Sp.faE (sdA s) (spS s) k=0:=AgJ O.rd O.tg hk
theorem Aiq {node:Int} (O:OpG s node):Sp.spE (sdA s) (spS s)=0:=by rw [Sp.spE_t O.rd];exact O.tg
theorem Ah6 {node:Int} (O:OpG s node):Sp.okV (spn s):=Ah5 O.rd O.tg
structure BiG (s:Stp) (node:Int) (b:Nat):Prop where
 b2:b<s.no.length
 eq:(fam s (spn s)).getD b 0=((sdA s).getD b (0,0)).2
 near:∀ x:Nat,x<s.no.length→(fam s (spn s)).getD x 0=((sdA s).getD x (0,0)).2→max ((b:Int) - node) (node - b)<=max ((x:Int) - node) (node - x)
theorem AhY {node:Int} (O:OpG s node) {i:Nat} (hi:i<s.no.length):(fam s (spn s)).getD i 0=Cs.tH (sdA s) (spS s) i:=by
 have h1:=AgH (zs:=sdA s) (ys:=spS s) (i:=i) (by rw [Af3 O.al];exact hi)
 rw [Agb O.al hi]
 unfold spn
 omega
def dfM (s:Stp) (k:Int):Nat→Int
 | 0=>0
 | j+1=>max (dfM s k j) ((fam s k).getD j 0 - (fam s 0).getD j 0)
structure MbG (s:Stp) (node lo hi:Int) (k:Nat):Prop where
 kb:Sp.okV (k:Int)
 n1:1<=node
 n2:node<s.no.length
 top:dfM s k s.no.length=k
 bd:∀ j,j<=s.no.length→0<=dfM s k j∧dfM s k j<=1000
 L:soL s node lo hi=wtL s (C8 s) (fam s k)
 get:∀ i,i<s.no.length→∃ p,(soL s node lo hi)[i]? = some p∧p.alt=(C8 s).getD i 0∧p.cas=(fam s k).getD i 0
 vb:∀ i,i<s.no.length→(0<=(fam s k).getD i 0∧(fam s k).getD i 0<=1000)∧0<=(fam s 0).getD i 0∧(fam s 0).getD i 0<=1000
 slow:0<k→Sp.okV ((k:Int) - 1)∧(wtE s (C8 s) (fam s ((k:Int) - 1))=0→∃ p,(wtL s (C8 s) (fam s ((k:Int) - 1)))[node.toNat]? = some p∧hi<p.tick)
end
section
variable {s:Stp}
theorem Aim (G:StG s) (N:StN s) (A:AlG s (C8 s)):(cfB (sdA s) (spS s)=false∧Sp.spE (sdA s) (spS s)=0)∨(cfB (sdA s) (spS s)=true∧Sp.spE (sdA s) (spS s)=11):=by
 have hr:Sp.rdE (sdA s) (spS s)=0:=Xt G N A.len;have hc:=(Sp.rdE_0 hr).1
 rw [Sp.spE_t hr]
 cases hf:Cs.confL (sdA s) (spS s) with
 | nil=>exact .inl ⟨(R4 hc hf).2,Cs.tgE_ok hc hf⟩
 | cons p t=>exact .inr ⟨(R5 hc hf).2,Cs.tgE_conf hc (by rw [hf];simp)⟩
/-! ### the binding node -/
def bsD (m j:Int):Int:=max (j - m) (m - j)
def BsG (s:Stp) (m best:Int) (k:Nat):Prop:=(best = -1∧∀ j:Nat,j<k→tgt s j=false)∨∃ b:Nat,best=b∧b<k∧tgt s b=true∧(∀ j:Nat,j<k→tgt s j=true→bsD m b<=bsD m j)∧∀ j:Nat,j<b→tgt s j=true→bsD m b<bsD m j
theorem Aiv (m:Int):BsG s m (-1) 0:=.inl ⟨rfl,fun j h=>absurd h (Nat.not_lt_zero _)⟩
theorem Aie {m best:Int} {k:Nat} (h:BsG s m best k) (ht:tgt s k=false):BsG s m best (k+1):=by
 rcases h with ⟨h1,h2⟩ | ⟨b,h1,h2,h3,h4,h5⟩
 ·refine .inl ⟨h1,fun j hj=>?_⟩
  by_cases e:j=k
  ·rw [e];exact ht
  ·exact h2 j (by omega)
 ·refine .inr ⟨b,h1,by omega,h3,fun j hj t=>?_,h5⟩
  by_cases e:j=k
  ·rw [e,ht] at t;exact absurd t (by decide)
  ·exact h4 j (by omega) t
theorem AhQ {m best:Int} {k:Nat} (h:BsG s m best k) (h0:¬ best<0) (hd:¬ bsD m k<bsD m best):BsG s m best (k+1):=by
 rcases h with ⟨h1,h2⟩ | ⟨b,rfl,h2,h3,h4,h5⟩
 ·exact absurd (by omega) h0
 ·refine .inr ⟨b,rfl,by omega,h3,fun j hj t=>?_,h5⟩
  by_cases e:j=k
  ·rw [e];omega
  ·exact h4 j (by omega) t
theorem Ahd {m best:Int} {k:Nat} (h:BsG s m best k) (ht:tgt s k=true) (hd:best<0∨bsD m k<bsD m best):BsG s m k (k+1):=by
 rcases h with ⟨h1,h2⟩ | ⟨b,rfl,h2,h3,h4,h5⟩
 ·refine .inr ⟨k,rfl,by omega,ht,fun j hj t=>?_,fun j hj t=>?_⟩
  ·by_cases e:j=k
   ·rw [e];exact Bt _
   ·rw [h2 j (by omega)] at t;exact absurd t (by decide)
  ·rw [h2 j hj] at t;exact absurd t (by decide)
 ·have hd:bsD m k<bsD m b:=hd.elim (fun h=>absurd h (by omega)) id
  refine .inr ⟨k,rfl,by omega,ht,fun j hj t=>?_,fun j hj t=>?_⟩
  ·by_cases e:j=k
   ·rw [e];exact Bt _
   ·have:=h4 j (by omega) t;omega
  ·have:=h4 j hj t;omega
theorem AgQ {m:Int}:∀ (n d:Nat),(∀ c:Nat,d<=c→c<d+n→tgt s (m - c)=false∧tgt s (m+c)=false)→bdF s m d n = -1
 | 0,d,_=>rfl
 | n+1,d,h=>by
  obtain ⟨h1,h2⟩:=h d (Bn _) (by omega)
  unfold bdF
  rw [if_neg (by rw [h1];decide),if_neg (by rw [h2];decide)]
  exact AgQ n (d+1) fun c h3 h4=>h c (by omega) (by omega)
theorem Ag9 {m:Int}:∀ (n d e:Nat),d<=e→e<d+n→(∀ c:Nat,d<=c→c<e→tgt s (m - c)=false∧tgt s (m+c)=false)→(tgt s (m - e)=true→bdF s m d n=m - e)∧(tgt s (m - e)=false→tgt s (m+e)=true→bdF s m d n=m+e)
 | 0,d,e,h1,h2,_=>by omega
 | n+1,d,e,h1,h2,h=>by
  by_cases hd:d=e
  ·subst hd
   unfold bdF
   exact ⟨fun t=>if_pos t,fun t t2=>by rw [if_neg (by rw [t];decide),if_pos t2]⟩
  ·obtain ⟨a,b⟩:=h d (Bn _) (by omega)
   unfold bdF
   rw [if_neg (by rw [a];decide),if_neg (by rw [b];decide)]
   exact Ag9 n (d+1) e (by omega) (by omega) fun c h3 h4=>h c (by omega) h4
theorem AhP {m:Nat} (hm:m<s.no.length) {best:Int} (h:BsG s m best s.no.length):bdF s m 0 s.no.length=best:=by
 have out:∀ x:Int,¬ (0<=x∧x<s.no.length)→tgt s x=false:=fun x hx=>Ahn hx
 rcases h with ⟨h1,h2⟩ | ⟨b,h1,h2,h3,h4,h5⟩
 ·rw [h1]
  have all:∀ x:Int,tgt s x=false:=fun x=>by
   by_cases hx:0<=x∧x<s.no.length
   ·obtain ⟨j,rfl⟩:=Int.eq_ofNat_of_zero_le hx.1
    exact h2 j (by omega)
   ·exact out x hx
  exact AgQ _ _ fun c _ _=>⟨all _,all _⟩
 ·rw [h1]
  obtain ⟨e,he⟩:∃ e:Nat,(e:Int)=bsD m b:=⟨(bsD m b).toNat,by unfold bsD;omega⟩
  have near:∀ x:Int,bsD m x<e→tgt s x=false:=fun x hx=>by
   by_cases hr:0<=x∧x<s.no.length
   ·obtain ⟨j,rfl⟩:=Int.eq_ofNat_of_zero_le hr.1
    cases t:tgt s (j:Int) with
    | false=>rfl
    | true=>have:=h4 j (by omega) t;omega
   ·exact out x hr
  obtain ⟨g1,g2⟩:=Ag9 (s:=s) (m:=m) s.no.length 0 e (Nat.zero_le _) (by unfold bsD at he;omega) fun c _ hc=>⟨near _ (by unfold bsD;omega),near _ (by unfold bsD;omega)⟩
  by_cases hb:(b:Int)=m - e
  ·rw [hb] at h3
   rw [hb];exact g1 h3
  ·have hb2:(b:Int)=m+e:=by unfold bsD at he;omega
   have hf:tgt s ((m:Int) - e)=false:=by
    by_cases hr:0<=(m:Int) - e∧(m:Int) - e<s.no.length
    ·obtain ⟨j,hj⟩:=Int.eq_ofNat_of_zero_le hr.1
     rw [hj]
     cases t:tgt s (j:Int) with
     | false=>rfl
     | true=>have:=h5 j (by omega) t;unfold bsD at this he;omega
    ·exact out _ hr
   rw [hb2] at h3
   rw [hb2];exact g2 hf h3
/-! ### the flight in time -/
theorem Ah4 {node:Nat} {lo hi:Int} (O:OpG s node) (N:StN s) (ho:opE s node (decide (hi<lo))=0) {k:Nat} (hk:(k:Int)<=spn s) (h1:fkE s k=0) (h2:fkT s k node<=hi) (hn:∀ i:Nat,i<k→¬ (fkE s i=0∧fkT s i node<=hi)):soE s node lo hi=0∧soL s node lo hi=fkL s k∧soV s node lo hi=max (lo - fkT s k node) 0:=by
 refine Ahl ho (fun h=>?_) ?_
 ·have:=Agz O N (j:=k) (by omega) hk h1 h.1 (i:=node) (by have:=O.n2;omega)
  have h3:=h.2
  rw [Int.toNat_natCast] at h3
  omega
 ·rw [Int.toNat_natCast]
  exact X6 (Nat.zero_le _) (by omega) (fun i _ h=>hn i h) ⟨h1,h2⟩
theorem Ahm {node:Nat} {lo hi:Int} (ho:opE s node (decide (hi<lo))=0) (hs:0<=spn s) (hn:∀ i:Nat,(i:Int)<=spn s→¬ (fkE s i=0∧fkT s i node<=hi)):soE s node lo hi=16:=by
 refine Aio ho ?_
 rw [Int.toNat_natCast]
 exact Ahf fun i _ h=>hn i (by omega)
end
