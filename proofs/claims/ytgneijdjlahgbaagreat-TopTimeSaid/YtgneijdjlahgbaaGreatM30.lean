/- M30: SpPlain2, RtP, RtL, RtF in one text. -/
import Derived.Test.YtgneijdjlahgbaaGreatM31
import Derived.Test.YtgneijdjlahgbaaGreatM9
import Derived.Test.YtgneijdjlahgbaaGreatM14
import Derived.Test.YtgneijdjlahgbaaGreatM27
import Derived.Test.YtgneijdjlahgbaaGreatM21
import Derived.Test.YtgneijdjlahgbaaGreatSpF
import Derived.RegionTactic
namespace Go.Proofs.YtgneijdjlahgbaaGreat
set_option linter.unusedSimpArgs false
set_option linter.unusedVariables false
open Sp

theorem fa_len (zs ys:Cs.Wins) (k:Int):(faL zs ys k).length=zs.length:=by unfold faL;rw [List.length_map,Cs.tight_len]
theorem fa_get {zs ys:Cs.Wins} {k:Int} {i:Nat} (h:i<zs.length):(faL zs ys k)[i]? = some (min (Cs.tH zs ys i) (Cs.tL zs ys i+k)):=by
 unfold faL
 rw [List.getElem?_map,Cs.tight_get h];rfl
theorem fa_0 {zs ys:Cs.Wins} (h:rdE zs ys=0) (ht:Cs.tgE zs ys=0):faL zs ys 0=(Cs.tight zs ys).map fun p=>p.1:=by
 refine List.ext_getElem? fun i=>?_
 rcases Nat.lt_or_ge i zs.length with hi | hi
 ·have h1:=tight_ok h ht hi
  rw [fa_get hi,List.getElem?_map,Cs.tight_get hi]
  show some _=some _
  congr 1
  simp only
  omega
 ·rw [List.getElem?_eq_none (by rw [fa_len];exact hi),List.getElem?_eq_none (by rw [List.length_map,Cs.tight_len];exact hi)]
theorem spM_ge (l:Cs.Wins):∀ m:Int,m≤spM l m∧∀ p ∈ l,p.2 - p.1≤spM l m:=by
 induction l with
 | nil=>intro m;exact ⟨Int.le_refl _,fun p hp=>by simp at hp⟩
 | cons q l ih =>
  intro m
  have h:=ih (max m (q.2 - q.1))
  refine ⟨by show m≤spM l (max m (q.2 - q.1));omega,fun p hp=>?_⟩
  show _≤spM l (max m (q.2 - q.1))
  rcases List.mem_cons.1 hp with rfl | hp
  ·omega
  ·exact h.2 p hp
theorem spM_is (l:Cs.Wins):∀ m:Int,spM l m=m∨∃ p ∈ l,spM l m=p.2 - p.1:=by
 induction l with
 | nil=>intro m;exact .inl rfl
 | cons q l ih =>
  intro m
  show spM l (max m (q.2 - q.1))=m∨∃ p ∈ q :: l,spM l (max m (q.2 - q.1))=p.2 - p.1
  rcases ih (max m (q.2 - q.1)) with h | ⟨p,hp,h⟩
  ·rcases Int.le_total m (q.2 - q.1) with h2 | h2
   ·right;exact ⟨q,by simp,by omega⟩
   ·left;omega
  ·right;exact ⟨p,List.mem_cons_of_mem _ hp,h⟩
theorem spV_ge {zs ys:Cs.Wins} {i:Nat} (h:i<zs.length):Cs.tH zs ys i - Cs.tL zs ys i≤spV zs ys:=(spM_ge _ 0).2 _ (List.mem_of_getElem? (Cs.tight_get h))
theorem spV_0 (zs ys:Cs.Wins):0≤spV zs ys:=(spM_ge _ 0).1
theorem spV_is (zs ys:Cs.Wins):spV zs ys=0∨∃ i,i<zs.length∧spV zs ys=Cs.tH zs ys i - Cs.tL zs ys i:=by
 rcases spM_is (Cs.tight zs ys) 0 with h | ⟨p,hp,h⟩
 ·exact .inl h
 ·right
  obtain ⟨i,hi⟩:=List.getElem?_of_mem hp
  have hk:=(List.getElem?_eq_some_iff.1 hi).1
  rw [Cs.tight_len] at hk
  rw [Cs.tight_get hk] at hi
  obtain rfl:=Option.some.inj hi
  exact ⟨i,hk,h⟩
theorem spV_bd {zs ys:Cs.Wins} (h:rdE zs ys=0) (ht:Cs.tgE zs ys=0):okV (spV zs ys):=by
 unfold okV
 have h0:=spV_0 zs ys
 rcases spV_is zs ys with e | ⟨i,hi,e⟩
 ·omega
 ·have:=tight_ok h ht hi
  unfold okV at this
  omega
theorem fa_top {zs ys:Cs.Wins}:faL zs ys (spV zs ys)=(Cs.tight zs ys).map fun p=>p.2:=by
 refine List.ext_getElem? fun i=>?_
 rcases Nat.lt_or_ge i zs.length with hi | hi
 ·have h1:=spV_ge (ys:=ys) hi
  rw [fa_get hi,List.getElem?_map,Cs.tight_get hi]
  show some _=some _
  congr 1
  simp only
  omega
 ·rw [List.getElem?_eq_none (by rw [fa_len];exact hi),List.getElem?_eq_none (by rw [List.length_map,Cs.tight_len];exact hi)]
theorem fa_meet {zs ys:Cs.Wins} {k:Int} (h:rdE zs ys=0) (ht:Cs.tgE zs ys=0) (hk:0≤k):Meet zs ys (faL zs ys k):=by
 have hc:=(rdE_0 h).1
 have hok:=Cs.csOk_of hc
 have hnc:=Cs.confL_nil.1 (Cs.tgE_0 ht).2
 have sH:=Cs.sol_tH hok hnc
 have sL:=Cs.sol_tL hok hnc
 refine ⟨hc,fa_len _ _ _,⟨fun i hi=>?_,fun i hi=>?_⟩⟩
 ·have a:=sH.win i hi
  have b:=sL.win i hi
  have c:=Cs.tL_le_tH hok hnc hi
  rw [getD_of (fa_get hi)]
  omega
 ·have a:=sH.stp i hi
  have b:=sL.stp i hi
  rw [getD_of (fa_get (show i<zs.length by omega)),getD_of (fa_get hi)]
  omega
theorem fa_step {zs ys:Cs.Wins} {k:Int} {i:Nat} (hi:i<zs.length) :
  0≤(faL zs ys (k+1)).getD i 0 - (faL zs ys k).getD i 0∧(faL zs ys (k+1)).getD i 0 - (faL zs ys k).getD i 0≤1∧((faL zs ys (k+1)).getD i 0≠(faL zs ys k).getD i 0 ↔ k<Cs.tH zs ys i - Cs.tL zs ys i):=by
 rw [getD_of (fa_get hi),getD_of (fa_get hi)]
 omega
theorem fa_rise {zs ys:Cs.Wins} {k:Int} (hk:0≤k):(∃ i,i<zs.length∧k<Cs.tH zs ys i - Cs.tL zs ys i) ↔ k<spV zs ys:=by
 constructor
 ·rintro ⟨i,hi,h⟩
  have:=spV_ge (ys:=ys) hi
  omega
 ·intro h
  rcases spV_is zs ys with e | ⟨i,hi,e⟩
  ·omega
  ·exact ⟨i,hi,by omega⟩
theorem fa_cover {zs ys:Cs.Wins} {v:List Int} {k:Int} (hv:Meet zs ys v) (hk:∀ i,i<zs.length→v.getD i 0 - (faL zs ys 0).getD i 0≤k) (h:rdE zs ys=0) (ht:Cs.tgE zs ys=0) {i:Nat} (hi:i<zs.length) :
  (faL zs ys 0).getD i 0≤v.getD i 0∧v.getD i 0≤(faL zs ys k).getD i 0∧(faL zs ys k).getD i 0≤(faL zs ys 0).getD i 0+k:=by
 have h1:=hv.2.2.between hi
 have h2:=hk i hi
 have h3:=tight_ok h ht hi
 rw [getD_of (fa_get hi)] at h2 ⊢
 rw [getD_of (fa_get hi)]
 omega
end Go.Proofs.YtgneijdjlahgbaaGreat

namespace Go.Proofs.YtgneijdjlahgbaaGreat
set_option linter.unusedSimpArgs false
set_option linter.unusedVariables false
open Go.RowKit
def sdA (s:Stp):Cs.Wins:=sdL s (altL s)
def fam (s:Stp) (k:Int):List Int:=Sp.faL (sdA s) (spS s) k
def spn (s:Stp):Int:=Sp.spV (sdA s) (spS s)
def opE (s:Stp) (node:Int) (late:Bool):Int :=
 if suE s≠0 then suE s else if node<1∨(s.no.length:Int)≤node∨late=true then 1 else if altE s≠0 then altE s else Sp.spE (sdA s) (spS s)
noncomputable def fkE (s:Stp) (k:Int):Int:=wtE s (altL s) (fam s k)
noncomputable def fkL (s:Stp) (k:Int):List Pass:=wtL s (altL s) (fam s k)
noncomputable def fkT (s:Stp) (k:Int) (node:Nat):Int:=(psP s (altL s) (fam s k) node).tick
noncomputable def wdE (s:Stp) (node:Int):Int:=if opE s node false≠0 then opE s node false else if fkE s (spn s)≠0 then fkE s (spn s) else fkE s 0
noncomputable def fndK (s:Stp) (node:Nat) (hi:Int):Nat→Nat→Option Nat
 | _,0=>none
 | k,n+1=>if fkE s k=0∧fkT s k node≤hi then some k else fndK s node hi (k+1) n
noncomputable def fnd (s:Stp) (node:Nat) (hi:Int):Option Nat:=fndK s node hi 0 ((spn s).toNat+1)
noncomputable def soE (s:Stp) (node lo hi:Int):Int :=
 if opE s node (decide (hi<lo))≠0 then opE s node (decide (hi<lo)) else if fkE s (spn s)=0∧hi<fkT s (spn s) node.toNat then 16
 else if fnd s node.toNat hi=none then 16 else 0
noncomputable def soL (s:Stp) (node lo hi:Int):List Pass:=if soE s node lo hi=0 then fkL s ((fnd s node.toNat hi).getD 0:Nat) else []
noncomputable def soV (s:Stp) (node lo hi:Int):Int:=if soE s node lo hi=0 then max (lo - fkT s ((fnd s node.toNat hi).getD 0:Nat) node.toNat) 0 else 0
def tgt (s:Stp) (i:Int):Bool:=decide (0≤i) && decide (i<s.no.length) && decide (((Cs.tight (sdA s) (spS s)).getD i.toNat (0,0)).2=((sdA s).getD i.toNat (0,0)).2)
def bdF (s:Stp) (node:Int):Nat→Nat→Int
 | _,0 => -1
 | d,n+1=>if tgt s (node - d)=true then node - d else if tgt s (node+d)=true then node+d else bdF s node (d+1) n
def bdV (s:Stp) (node:Int):Int:=if opE s node false≠0 then 0 else bdF s node 0 s.no.length
end Go.Proofs.YtgneijdjlahgbaaGreat

namespace Go.Proofs.YtgneijdjlahgbaaGreat
set_option linter.unusedSimpArgs false
set_option linter.unusedVariables false
open Go.RowKit
section
variable {s:Stp}
structure OpG (s:Stp) (node:Int):Prop where
 su:suE s=0
 G:StG s
 n1:1≤node
 n2:node<s.no.length
 al:AlG s (altL s)
 alE:altE s=0
 rd:Sp.rdE (sdA s) (spS s)=0
 tg:Cs.tgE (sdA s) (spS s)=0
theorem op_good (N:StN s) {node:Int} {late:Bool} (h:opE s node late=0):OpG s node∧late=false:=by
 unfold opE at h
 by_cases h0:suE s=0
 rotate_left
 ·rw [if_pos h0] at h;exact absurd h h0
 rw [if_neg (by rw [h0];decide)] at h
 by_cases h1:node<1∨(s.no.length:Int)≤node∨late=true
 ·rw [if_pos h1] at h;exact absurd h (by decide)
 rw [if_neg h1] at h
 by_cases h2:altE s=0
 rotate_left
 ·rw [if_pos h2] at h;exact absurd h h2
 rw [if_neg (by rw [h2];decide)] at h
 have G:=su_good h0
 have A:=alt_good N h2
 have hr:Sp.rdE (sdA s) (spS s)=0:=sp_ok G N A.len
 rw [Sp.spE_t hr] at h
 exact ⟨⟨h0,G,by omega,by omega,A,h2,hr,h⟩,by cases late <;> simp_all⟩
theorem sdA_len (A:AlG s (altL s)):(sdA s).length=s.no.length:=sdL_len A.len
theorem fam_len (A:AlG s (altL s)) (k:Int):(fam s k).length=s.no.length:=by unfold fam;rw [fa_len,sdA_len A]
theorem fam_get (A:AlG s (altL s)) {k:Int} {i:Nat} (hi:i<s.no.length):(fam s k).getD i 0=min (Cs.tH (sdA s) (spS s) i) (Cs.tL (sdA s) (spS s) i+k):=getD_of_get (fa_get (by rw [sdA_len A];exact hi))
theorem fam_good {node:Int} (O:OpG s node) {k:Int} (hk:0≤k):SpG s (altL s) (fam s k) :=
 sol_good O.al.len (fam_len O.al k) (fa_meet O.rd O.tg hk).2.2
theorem fam_fc {node:Int} (O:OpG s node) (N:StN s) {k:Int} (hk:0≤k):fcE s (altL s) (fam s k)=0:=fc_0 O.G N O.al (fam_good O hk)
theorem fk_E {node:Int} (O:OpG s node) (N:StN s) {k:Int} (hk:0≤k):fkE s k=psE s (altL s) (fam s k) (s.no.length - 1):=by
 unfold fkE wtE
 rw [if_neg (by rw [O.su];decide),if_neg (by rw [fam_fc O N hk];decide)]
theorem fk_mono {node:Int} (O:OpG s node) (N:StN s) {j k:Int} (h0:0≤j) (hjk:j≤k) (hj:fkE s j=0) (hk:fkE s k=0) {i:Nat} (hi:i<s.no.length):fkT s k i≤fkT s j i:=by
 rw [fk_E O N h0] at hj
 rw [fk_E O N (by omega)] at hk
 refine (faster O.G N (fc_good (fam_fc O N h0)) (fc_good (fam_fc O N (show 0≤k by omega))) (fun i hi=>?_) i hi (psE_le (by omega) hj) (psE_le (by omega) hk)).1.1
 rw [fam_get O.al hi,fam_get O.al hi]
 omega
theorem fndK_some {node:Nat} {hi:Int}:∀ {n k j:Nat},fndK s node hi k n=some j→(k≤j∧j<k+n)∧(fkE s j=0∧fkT s j node≤hi)∧∀ i:Nat,k≤i→i<j→¬ (fkE s i=0∧fkT s i node≤hi)
 | 0,k,j,h=>by simp [fndK] at h
 | n+1,k,j,h=>by
  unfold fndK at h
  by_cases h1:fkE s k=0∧fkT s k node≤hi
  ·rw [if_pos h1] at h
   obtain rfl:=Option.some.inj h
   exact ⟨⟨Nat.le_refl _,by omega⟩,h1,fun i h2 h3=>by omega⟩
  ·rw [if_neg h1] at h
   obtain ⟨⟨a1,a2⟩,a3,a4⟩:=fndK_some h
   refine ⟨⟨by omega,by omega⟩,a3,fun i h2 h3=>?_⟩
   by_cases e:i=k
   ·subst e;exact h1
   ·exact a4 i (by omega) h3
theorem fndK_none {node:Nat} {hi:Int}:∀ {n k:Nat},fndK s node hi k n=none→∀ i:Nat,k≤i→i<k+n→¬ (fkE s i=0∧fkT s i node≤hi)
 | 0,k,_,i,h1,h2=>by omega
 | n+1,k,h,i,h1,h2=>by
  unfold fndK at h
  by_cases h3:fkE s k=0∧fkT s k node≤hi
  ·rw [if_pos h3] at h;exact absurd h (by simp)
  ·rw [if_neg h3] at h
   by_cases e:i=k
   ·subst e;exact h3
   ·exact fndK_none h i (by omega) (by omega)
structure FoG (s:Stp) (node lo hi:Int) (k:Nat):Prop where
 O:OpG s node
 ord:lo≤hi
 ks:(k:Int)≤spn s
 e:fkE s k=0
 t:fkT s k node.toNat≤hi
 first:∀ i:Nat,i<k→¬ (fkE s i=0∧fkT s i node.toNat≤hi)
 soL:soL s node lo hi=fkL s k
 soV:soV s node lo hi=max (lo - fkT s k node.toNat) 0
theorem so_good (N:StN s) {node lo hi:Int} (h:soE s node lo hi=0):∃ k:Nat,FoG s node lo hi k:=by
 have h':=h
 unfold soE at h
 by_cases h0:opE s node (decide (hi<lo))=0
 rotate_left
 ·rw [if_pos h0] at h;exact absurd h h0
 rw [if_neg (by rw [h0];decide)] at h
 by_cases h1:fkE s (spn s)=0∧hi<fkT s (spn s) node.toNat
 ·rw [if_pos h1] at h;exact absurd h (by decide)
 rw [if_neg h1] at h
 cases hf:fnd s node.toNat hi with
 | none=>rw [if_pos hf] at h;exact absurd h (by decide)
 | some k =>
  obtain ⟨O,hl⟩:=op_good N h0
  have hf2:=hf
  unfold fnd at hf2
  obtain ⟨⟨a1,a2⟩,⟨a3,a4⟩,a5⟩:=fndK_some hf2
  have hs:0≤spn s:=spV_0 _ _
  refine ⟨k,O,by simpa using hl,by omega,a3,a4,fun i hi=>a5 i (by omega) hi,?_,?_⟩
  ·unfold Go.Proofs.YtgneijdjlahgbaaGreat.soL;rw [if_pos h',hf];rfl
  ·unfold Go.Proofs.YtgneijdjlahgbaaGreat.soV;rw [if_pos h',hf];rfl
theorem so_16 (N:StN s) {node lo hi:Int} (ho:opE s node (decide (hi<lo))=0) (h:soE s node lo hi≠0):soE s node lo hi=16∧∀ k:Nat,(k:Int)≤spn s→¬ (fkE s k=0∧fkT s k node.toNat≤hi):=by
 obtain ⟨O,hl⟩:=op_good N ho
 have h':=h
 unfold soE at h ⊢
 rw [if_neg (by rw [ho];decide)] at h ⊢
 by_cases h1:fkE s (spn s)=0∧hi<fkT s (spn s) node.toNat
 ·rw [if_pos h1]
  refine ⟨rfl,fun k hk hh=>?_⟩
  have:=fk_mono O N (by omega) hk hh.1 h1.1 (show node.toNat<s.no.length by have:=O.n2;have:=O.n1;omega)
  omega
 ·rw [if_neg h1] at h ⊢
  by_cases h2:fnd s node.toNat hi=none
  ·rw [if_pos h2]
   unfold fnd at h2
   exact ⟨rfl,fun k hk=>fndK_none h2 k (by omega) (by omega)⟩
  ·rw [if_neg h2] at h;exact absurd rfl h
theorem fkL_get {k:Int} {i:Nat} (hi:i<s.no.length):(fkL s k)[i]? = some (psP s (altL s) (fam s k) i):=wtL_get hi
theorem fkL_len (s:Stp) (k:Int):(fkL s k).length=s.no.length:=wtL_len _ _ _
theorem fam_top {node:Int} (O:OpG s node) (N:StN s):fam s (spn s)=pnL s∧pnE s=0:=by
 constructor
 ·unfold fam spn pnL
  rw [fa_top,plL_eq O.G N O.al.len];rfl
 ·unfold pnE
  rw [pl_E O.G N O.al.len];exact O.tg
theorem run_fk {node:Int} (O:OpG s node) (N:StN s):runE s=fkE s (spn s):=by
 obtain ⟨h1,h2⟩:=fam_top O N
 unfold runE fkE
 rw [if_neg (by rw [O.alE];decide),if_neg (by rw [h2];decide),h1]
theorem RnG.op (R:RnG s) (N:StN s) {node:Int} (h1:1≤node) (h2:node<s.no.length) (ha:altE s=0) {late:Bool} (hl:late=false):opE s node late=0:=by
 unfold opE
 rw [if_neg (by rw [R.su];decide),if_neg (by subst hl;simp;omega),if_neg (by rw [ha];decide)]
 have hr:Sp.rdE (sdA s) (spS s)=0:=sp_ok R.G N R.al.len
 rw [Sp.spE_t hr]
 exact Cs.tgE_ok (Sp.rdE_0 hr).1 R.nc
theorem runE_alt (h:runE s=0):altE s=0:=by
 unfold runE at h
 by_cases h1:altE s=0
 ·exact h1
 ·rw [if_pos h1] at h;exact absurd h h1
theorem mn_is {f:Nat→Int} {a:Int}:∀ k,Cs.mn f a k=a∨∃ j,j<k∧Cs.mn f a k=f j
 | 0=>.inl rfl
 | k+1=>by
  have e:Cs.mn f a (k+1)=min (Cs.mn f a k) (f k):=rfl
  rw [e]
  rcases mn_is (f:=f) (a:=a) k with h | ⟨j,hj,h⟩
  ·by_cases h1:a≤f k
   ·left;omega
   ·right;exact ⟨k,by omega,by omega⟩
  ·by_cases h1:Cs.mn f a k≤f k
   ·right;exact ⟨j,by omega,by omega⟩
   ·right;exact ⟨k,by omega,by omega⟩
theorem tight_some {zs ys:Cs.Wins} (hok:Cs.CsOk zs ys) (hn:Cs.NoConf zs ys) {i:Nat} (hi:i<zs.length):∃ k,k<zs.length∧Cs.tH zs ys k=Cs.hi zs k:=by
 have key:∀ k,k<zs.length→Cs.tH zs ys i=Cs.gH zs ys i k→Cs.tH zs ys k=Cs.hi zs k:=by
  intro k hk e
  have h1:=(Cs.tH_win hn hk).2
  have hs:=Cs.sol_tH hok hn
  unfold Cs.gH at e
  by_cases h2:k<i
  ·rw [if_pos h2] at e
   have:=(hs.tele (k:=k) (i:=i) (by omega) hi).1
   omega
  ·rw [if_neg h2] at e
   by_cases h3:i<k
   ·rw [if_pos h3] at e
    have:=(hs.tele (k:=i) (i:=k) (by omega) hk).2
    omega
   ·rw [if_neg h3] at e
    obtain rfl:k=i:=by omega
    exact e
 rcases mn_is (f:=Cs.gH zs ys i) (a:=Cs.hi zs i) zs.length with h | ⟨j,hj,h⟩
 ·exact ⟨i,hi,h⟩
 ·exact ⟨j,hj,key j hj h⟩
theorem tgt_iff (A:AlG s (altL s)) {i:Int}:tgt s i=true ↔ ∃ j:Nat,i=j∧j<s.no.length∧Cs.tH (sdA s) (spS s) j=Cs.hi (sdA s) j:=by
 unfold tgt
 simp only [Bool.and_eq_true,decide_eq_true_eq]
 constructor
 ·rintro ⟨⟨h1,h2⟩,h3⟩
  obtain ⟨j,rfl⟩:=Int.eq_ofNat_of_zero_le h1
  refine ⟨j,rfl,by omega,?_⟩
  rw [Int.toNat_natCast,getD_of_get (Cs.tight_get (by rw [sdA_len A];omega))] at h3
  exact h3
 ·rintro ⟨j,rfl,h2,h3⟩
  refine ⟨⟨by omega,by omega⟩,?_⟩
  rw [Int.toNat_natCast,getD_of_get (Cs.tight_get (by rw [sdA_len A];omega))]
  exact h3
theorem bdF_spec {node:Int}:∀ (n d:Nat),(bdF s node d n = -1∧∀ e:Nat,d≤e→e<d+n→tgt s (node - e)=false∧tgt s (node+e)=false) ∨
  ∃ e:Nat,d≤e∧(bdF s node d n=node - e∨bdF s node d n=node+e)∧tgt s (bdF s node d n)=true∧∀ c:Nat,d≤c→c<e→tgt s (node - c)=false∧tgt s (node+c)=false
 | 0,d=>.inl ⟨rfl,fun e h1 h2=>by omega⟩
 | n + 1,d=>by
  unfold bdF
  by_cases h1:tgt s (node - d)=true
  ·rw [if_pos h1]
   exact .inr ⟨d,Nat.le_refl _,.inl rfl,h1,fun c h2 h3=>by omega⟩
  ·rw [if_neg h1]
   by_cases h2:tgt s (node+d)=true
   ·rw [if_pos h2]
    exact .inr ⟨d,Nat.le_refl _,.inr rfl,h2,fun c h2 h3=>by omega⟩
   ·rw [if_neg h2]
    have hd:tgt s (node - d)=false∧tgt s (node+d)=false:=by simpa using And.intro h1 h2
    rcases bdF_spec n (d+1) with ⟨h3,h4⟩ | ⟨e,h3,h4,h5,h6⟩
    ·refine .inl ⟨h3,fun e he he2=>?_⟩
     by_cases x:e=d
     ·subst x;exact hd
     ·exact h4 e (by omega) (by omega)
    ·refine .inr ⟨e,by omega,h4,h5,fun c hc hc2=>?_⟩
     by_cases x:c=d
     ·subst x;exact hd
     ·exact h6 c (by omega) hc2
theorem bd_good {node:Int} (O:OpG s node) (N:StN s):∃ b:Nat,bdF s node 0 s.no.length=b∧b<s.no.length∧Cs.tH (sdA s) (spS s) b=Cs.hi (sdA s) b ∧
  ∀ x:Nat,x<s.no.length→Cs.tH (sdA s) (spS s) x=Cs.hi (sdA s) x→max ((b:Int) - node) (node - b)≤max ((x:Int) - node) (node - x):=by
 have hc:=(Sp.rdE_0 O.rd).1
 have hnc:=Cs.confL_nil.1 (Cs.tgE_0 O.tg).2
 have hl:=sdA_len O.al
 have n1:=O.n1
 have n2:=O.n2
 obtain ⟨k,hk,hk2⟩:=tight_some (Cs.csOk_of hc) hnc (i:=0) (by rw [hl];omega)
 rw [hl] at hk
 have tk:tgt s (k:Int)=true:=(tgt_iff O.al).2 ⟨k,rfl,hk,hk2⟩
 have near:∀ x:Nat,x<s.no.length→∃ c:Nat,c<s.no.length∧(c:Int)=max ((x:Int) - node) (node - x)∧((x:Int)=node - c∨(x:Int)=node+c):=by
  intro x hx
  refine ⟨(max ((x:Int) - node) (node - x)).toNat,by omega,by omega,by omega⟩
 rcases bdF_spec (s:=s) (node:=node) s.no.length 0 with ⟨h1,h2⟩ | ⟨e,h1,h2,h3,h4⟩
 ·obtain ⟨c,c1,c2,c3⟩:=near k hk
  have:=h2 c (by omega) (by omega)
  rcases c3 with c3 | c3
  ·rw [c3,this.1] at tk;exact absurd tk (by decide)
  ·rw [c3,this.2] at tk;exact absurd tk (by decide)
 ·obtain ⟨b,b1,b2,b3⟩:=(tgt_iff O.al).1 h3
  refine ⟨b,b1,b2,b3,fun x hx hx2=>?_⟩
  rw [b1] at h2
  have tx:tgt s (x:Int)=true:=(tgt_iff O.al).2 ⟨x,rfl,hx,hx2⟩
  obtain ⟨c,c1,c2,c3⟩:=near x hx
  rcases Nat.lt_or_ge c e with hce | hce
  ·have:=h4 c (by omega) hce
   rcases c3 with c3 | c3
   ·rw [c3,this.1] at tx;exact absurd tx (by decide)
   ·rw [c3,this.2] at tx;exact absurd tx (by decide)
  ·omega
end
end Go.Proofs.YtgneijdjlahgbaaGreat

namespace Go.Proofs.YtgneijdjlahgbaaGreat
set_option maxRecDepth 100000
set_option maxHeartbeats 8000000
set_option linter.unusedSimpArgs false
set_option linter.unusedVariables false
open Go.RowKit
theorem fk_fa {s:Stp} {k:Int} (hr:Sp.rdE (sdA s) (spS s)=0) (ht:Cs.tgE (sdA s) (spS s)=0) (h0:0≤k∧k≤1000):Sp.faE (sdA s) (spS s) k=0:=by
 unfold Sp.faE
 rw [if_neg (by rw [hr];decide),if_pos (by unfold Sp.okV;omega),ht]
theorem xRtFly (s:Stp) (A A2 A3:Option Addr) (n c c2 m c3:Nat) (sp k:Int) (w:World) (hl:s.lies w) (hok:s.ok) (ha:Ints w A n (altL s)) (h2:Pairs w A2 n (sdA s)) (h3:Pairs w A3 m (spS s)) (k3:CapOk A3 m c3) (hn:n≤maxLen) (hm:m≤maxLen) (hf:Sp.faE (sdA s) (spS s) k=0):Calls Tryz.prog 77 #[.agg #[.slice A n c,.slice A2 n c2,.slice A3 m c3,.int .i64 sp],.agg s.cells.toArray,.int .i64 k] w (WtRes (okL (fkE s k) (fkL s k)) (okN (fkE s k) s.no.length) (fkE s k) w):=by
 have HS:=Lib.hid (boxS2 w #[.slice A n c,.slice A2 n c2,.slice A3 m c3,.int .i64 sp] s.cells.toArray 147 35)
 have HFA:=Lib.hid (fun W (h:BoxS w 2 [[.slice A n c,.slice A2 n c2,.slice A3 m c3,.int .i64 sp],s.cells] W)=>xSpFamily A2 A3 n c2 m c3 (sdA s) (spS s) k W (h2.below h.B) (h3.below h.B) hn hm k3.le k3.mx)
 rw [hf] at HFA
 simp only [okN_0,okL_0] at HFA
 have HW:=Lib.hid (fun W (h:BoxS w 2 [[.slice A n c,.slice A2 n c2,.slice A3 m c3,.int .i64 sp],s.cells] W) A' c' (hb:Ints W A' n (fam s k))=>xPWith s A A' n c n c' (altL s) (fam s k) W (hl.below h.B) hok (ha.below h.B) hb hn hn)
 have HW2:=Lib.hid (fun W (h:BoxS w 2 [[.slice A n c,.slice A2 n c2,.slice A3 m c3,.int .i64 sp],s.cells] W) A' c' (hb:Ints W A' n (fam s k))=>show Calls Tryz.prog 23 #[.agg s.cells.toArray,.slice A n c,.slice A' n c'] W (WtRes (okL (fkE s k) (fkL s k)) (okN (fkE s k) s.no.length) (fkE s k) W) from HW.out W h A' c' hb)
 have HFM:=Lib.hid (show Sp.faL (sdA s) (spS s) k=fam s k from rfl)
 rw [HFM.out] at HFA
 generalize fam s k=FA at *
 generalize fkE s k=E at *
 generalize fkL s k=FL at *
 generalize okL E FL=RL at *
 generalize okN E s.no.length=RN at *
 clear hl hok ha h2 h3 k3 hn hm hf HW HFM
 go_enter Tryz.func77,Tryz.ntmps77
 have d1:=HS.out.at 0 _ rfl 1 _ rfl
 have d2:=HS.out.at 0 _ rfl 2 _ rfl
 rw [Nat.add_zero] at d1 d2
 go_wp2_with fail
 clear d1 d2
 refine (HFA.out _ HS.out).mono ?_;rintro e' w1 ⟨A4,c4,rfl,hI,hB⟩
 replace HS:=Lib.hid (HS.out.below hB)
 have HI:=Lib.hid hI
 clear hB hI HFA
 have d0:=HS.out.at 0 _ rfl 0 _ rfl
 rw [Nat.add_zero] at d0
 go_wp2_with (refine at_stp (.tmp 4) rfl rfl rfl (HS.out.has 1 _ rfl) ?_)
 clear d0
 refine (HW2.out _ HS.out _ _ HI.out).mono ?_;rintro e' w2 ⟨A5,c5,rfl,hP,hK,hB⟩
 have HP:=Lib.hid (And.intro hP (And.intro hK (bel_trans HS.out.B hB)))
 clear hP hK hB
 go_wp2_with fail
 go_ret2
 exact ⟨A5,c5,rfl,HP.out.1,HP.out.2.1,HP.out.2.2⟩
end Go.Proofs.YtgneijdjlahgbaaGreat

