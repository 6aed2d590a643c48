
/- Layer 38, plain laws: what the laws RtaBinds and RtaMembers look at. -/
import Derived.Test.YtgneijdjlahgbaaGreatRtS
namespace Go.Proofs.YtgneijdjlahgbaaGreat
set_option linter.unusedSimpArgs false
set_option linter.unusedVariables false
open Go.RowKit
def BiR (n:Nat) (B:World) (t:Value) (wr:World):Prop:=∃ k:Nat,k≤n∧t=.int .i64 (k:Int)∧BoxS B 0 [] wr
theorem boxS0i (w:World):BoxS w 0 [] w:=⟨fun i cs hi=>by simp at hi,by simp,Below.refl _ _,by simp⟩
theorem int_at {W:World} {b off n:Nat} {l:List Int} (h:Ints W (some ⟨b,off,none⟩) n l) {k:Nat} (hk:k<n):b<W.heap.size∧W.cell? ⟨b,off+k,none⟩=some (.int .i64 (l.getD k 0)):=by
 obtain ⟨x,hx⟩:=get_ex h.len hk
 obtain ⟨b',o',h1,h2,h3⟩:=h.cells (by omega)
 injection h1 with h1;injection h1 with h1 h4;subst h1;subst h4
 rw [getD_of_get hx]
 exact ⟨h2,h3 k x hx⟩
theorem int_A {W:World} {A:Option Addr} {n:Nat} {l:List Int} (h:Ints W A n l) (hn:0<n):∃ b off,A=some ⟨b,off,none⟩:=by
 obtain ⟨b,off,h1,_,_⟩:=h.cells hn
 exact ⟨b,off,h1⟩
section
variable {s:Stp}
theorem fam_E {node:Int} (O:OpG s node) {k:Int} (hk:Sp.okV k):Sp.faE (sdA s) (spS s) k=0:=by rw [Sp.faE_t O.rd hk];exact O.tg
theorem spn_E {node:Int} (O:OpG s node):Sp.spE (sdA s) (spS s)=0:=by rw [Sp.spE_t O.rd];exact O.tg
theorem spn_ok {node:Int} (O:OpG s node):Sp.okV (spn s):=spV_bd O.rd O.tg
structure BiG (s:Stp) (node:Int) (b:Nat):Prop where
 b2:b<s.no.length
 eq:(fam s (spn s)).getD b 0=((sdA s).getD b (0,0)).2
 near:∀ x:Nat,x<s.no.length→(fam s (spn s)).getD x 0=((sdA s).getD x (0,0)).2→max ((b:Int) - node) (node - b)≤max ((x:Int) - node) (node - x)
theorem fam_hi {node:Int} (O:OpG s node) {i:Nat} (hi:i<s.no.length):(fam s (spn s)).getD i 0=Cs.tH (sdA s) (spS s) i:=by
 have h1:=spV_ge (zs:=sdA s) (ys:=spS s) (i:=i) (by rw [sdA_len O.al];exact hi)
 rw [fam_get O.al hi]
 unfold spn
 omega
theorem bi_gd (N:StN s) {node:Int} (h:opE s node false=0):∃ b:Nat,bdV s node=b∧BiG s node b:=by
 obtain ⟨O,-⟩:=op_good N h
 obtain ⟨b,b1,b2,b3,b4⟩:=bd_good O N
 refine ⟨b,by unfold bdV;rw [if_neg (by rw [h];decide),b1],b2,?_,fun x hx he=>b4 x hx ?_⟩
 ·rw [fam_hi O b2,b3];rfl
 ·rw [fam_hi O hx] at he;exact he
def dfM (s:Stp) (k:Int):Nat→Int
 | 0=>0
 | j+1=>max (dfM s k j) ((fam s k).getD j 0 - (fam s 0).getD j 0)
theorem fam_df {node:Int} (O:OpG s node) {k:Int} {i:Nat} (hi:i<s.no.length):(fam s k).getD i 0 - (fam s 0).getD i 0=min (Cs.tH (sdA s) (spS s) i - Cs.tL (sdA s) (spS s) i) k:=by
 have h1:=(Sp.tight_ok O.rd O.tg (i:=i) (by rw [sdA_len O.al];exact hi)).2.2
 rw [fam_get O.al hi,fam_get O.al hi]
 omega
theorem dfM_le {node:Int} (O:OpG s node) {k:Int} (hk:0≤k):∀ j,j≤s.no.length→0≤dfM s k j∧dfM s k j≤k
 | 0,_=>⟨Int.le_refl 0,hk⟩
 | j+1,hj=>by
  have h1:=dfM_le O hk j (by omega)
  have h2:=fam_df O (k:=k) (i:=j) (by omega)
  have e:dfM s k (j+1)=max (dfM s k j) ((fam s k).getD j 0 - (fam s 0).getD j 0):=rfl
  rw [e,h2]
  omega
theorem dfM_ge {k:Int}:∀ {j i:Nat},i<j→(fam s k).getD i 0 - (fam s 0).getD i 0≤dfM s k j
 | 0,i,h=>by omega
 | j+1,i,h=>by
  have e:dfM s k (j+1)=max (dfM s k j) ((fam s k).getD j 0 - (fam s 0).getD j 0):=rfl
  rw [e]
  by_cases h1:i=j
  ·subst h1;omega
  ·have:=dfM_ge (k:=k) (j:=j) (i:=i) (by omega)
   omega
theorem dfM_top {node:Int} (O:OpG s node) {k:Int} (hk:0≤k) (hk2:k≤spn s):dfM s k s.no.length=k:=by
 have h1:=(dfM_le O hk s.no.length (Nat.le_refl _)).2
 rcases spV_is (sdA s) (spS s) with h2 | ⟨i,hi,h2⟩
 ·have h3:=(dfM_le O hk s.no.length (Nat.le_refl _)).1
  unfold spn at hk2
  omega
 ·rw [sdA_len O.al] at hi
  have h3:=dfM_ge (s:=s) (k:=k) hi
  rw [fam_df O hi] at h3
  unfold spn at hk2
  omega
structure MbG (s:Stp) (node lo hi:Int) (k:Nat):Prop where
 kb:Sp.okV (k:Int)
 n1:1≤node
 n2:node<s.no.length
 top:dfM s k s.no.length=k
 bd:∀ j,j≤s.no.length→0≤dfM s k j∧dfM s k j≤1000
 L:soL s node lo hi=wtL s (altL s) (fam s k)
 get:∀ i,i<s.no.length→∃ p,(soL s node lo hi)[i]? = some p∧p.alt=(altL s).getD i 0∧p.cas=(fam s k).getD i 0
 vb:∀ i,i<s.no.length→(0≤(fam s k).getD i 0∧(fam s k).getD i 0≤1000)∧0≤(fam s 0).getD i 0∧(fam s 0).getD i 0≤1000
 slow:0<k→Sp.okV ((k:Int) - 1)∧(wtE s (altL s) (fam s ((k:Int) - 1))=0→∃ p,(wtL s (altL s) (fam s ((k:Int) - 1)))[node.toNat]? = some p∧hi<p.tick)
theorem mb_good (N:StN s) {node lo hi:Int} (h:soE s node lo hi=0):opE s node false=0∧∃ k:Nat,MbG s node lo hi k:=by
 obtain ⟨k,F⟩:=so_good N h
 have O:=F.O
 have hk:=F.ks
 have hb:=spn_ok O
 unfold Sp.okV at hb
 have hm:node.toNat<s.no.length:=by have:=O.n1;have:=O.n2;omega
 have h0:opE s node false=0:=by
  unfold soE at h
  by_cases e:opE s node (decide (hi<lo))=0
  ·rwa [decide_eq_false (by have:=F.ord;omega)] at e
  ·rw [if_pos e] at h;exact absurd h e
 refine ⟨h0,k,by unfold Sp.okV;omega,O.n1,O.n2,dfM_top O (by omega) hk,fun j hj=>?_,F.soL,fun i hi=>⟨_,by rw [F.soL];exact fkL_get hi,(psP_alt _ _ _).1,(psP_alt _ _ _).2⟩,fun i hi=>?_,fun h1=>⟨by unfold Sp.okV;omega,fun he=>⟨_,wtL_get hm,?_⟩⟩⟩
 ·have:=dfM_le O (k:=k) (by omega) j hj;omega
 ·have a:=(fam_good O (show (0:Int)≤(k:Int) by omega)).bd O.G N hi
  have b:=(fam_good O (Int.le_refl 0)).bd O.G N hi
  exact ⟨⟨a.1,a.2.1⟩,b.1,b.2.1⟩
 ·have h2:=F.first (k - 1) (by omega)
  rw [show ((k - 1:Nat):Int)=(k:Int) - 1 by omega] at h2
  have h3:¬ fkT s ((k:Int) - 1) node.toNat≤hi:=fun h4=>h2 ⟨he,h4⟩
  unfold fkT at h3
  omega
end
end Go.Proofs.YtgneijdjlahgbaaGreat
