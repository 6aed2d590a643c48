/- M36: BmP, LgL in one text. -/
import Derived.Test.YtgneijdjlahgbaaGreatRtS
import Derived.Test.YtgneijdjlahgbaaGreatRtO
import Derived.RegionTactic
namespace Go.Proofs.YtgneijdjlahgbaaGreat
set_option linter.unusedSimpArgs false
set_option linter.unusedVariables false
open Go.RowKit
def BiR (n:Nat) (B:World) (t:Value) (wr:World):Prop:=∃ k:Nat,k≤n∧t=.int .i64 (k:Int)∧BoxS B 0 [] wr
theorem boxS0i (w:World):BoxS w 0 [] w:=⟨fun i cs hi=>by simp at hi,by simp,Below.refl _ _,by simp⟩
theorem int_at {W:World} {b off n:Nat} {l:List Int} (h:Ints W (some ⟨b,off,none⟩) n l) {k:Nat} (hk:k<n):b<W.heap.size∧W.cell? ⟨b,off+k,none⟩=some (.int .i64 (l.getD k 0)):=by
 obtain ⟨x,hx⟩:=get_ex h.len hk
 obtain ⟨b',o',h1,h2,h3⟩:=h.cells (by omega)
 injection h1 with h1;injection h1 with h1 h4;subst h1;subst h4
 rw [getD_of_get hx]
 exact ⟨h2,h3 k x hx⟩
theorem int_A {W:World} {A:Option Addr} {n:Nat} {l:List Int} (h:Ints W A n l) (hn:0<n):∃ b off,A=some ⟨b,off,none⟩:=by
 obtain ⟨b,off,h1,_,_⟩:=h.cells hn
 exact ⟨b,off,h1⟩
section
variable {s:Stp}
theorem fam_E {node:Int} (O:OpG s node) {k:Int} (hk:Sp.okV k):Sp.faE (sdA s) (spS s) k=0:=by rw [Sp.faE_t O.rd hk];exact O.tg
theorem spn_E {node:Int} (O:OpG s node):Sp.spE (sdA s) (spS s)=0:=by rw [Sp.spE_t O.rd];exact O.tg
theorem spn_ok {node:Int} (O:OpG s node):Sp.okV (spn s):=spV_bd O.rd O.tg
structure BiG (s:Stp) (node:Int) (b:Nat):Prop where
 b2:b<s.no.length
 eq:(fam s (spn s)).getD b 0=((sdA s).getD b (0,0)).2
 near:∀ x:Nat,x<s.no.length→(fam s (spn s)).getD x 0=((sdA s).getD x (0,0)).2→max ((b:Int) - node) (node - b)≤max ((x:Int) - node) (node - x)
theorem fam_hi {node:Int} (O:OpG s node) {i:Nat} (hi:i<s.no.length):(fam s (spn s)).getD i 0=Cs.tH (sdA s) (spS s) i:=by
 have h1:=spV_ge (zs:=sdA s) (ys:=spS s) (i:=i) (by rw [sdA_len O.al];exact hi)
 rw [fam_get O.al hi]
 unfold spn
 omega
theorem bi_gd (N:StN s) {node:Int} (h:opE s node false=0):∃ b:Nat,bdV s node=b∧BiG s node b:=by
 obtain ⟨O,-⟩:=op_good N h
 obtain ⟨b,b1,b2,b3,b4⟩:=bd_good O N
 refine ⟨b,by unfold bdV;rw [if_neg (by rw [h];decide),b1],b2,?_,fun x hx he=>b4 x hx ?_⟩
 ·rw [fam_hi O b2,b3];rfl
 ·rw [fam_hi O hx] at he;exact he
def dfM (s:Stp) (k:Int):Nat→Int
 | 0=>0
 | j+1=>max (dfM s k j) ((fam s k).getD j 0 - (fam s 0).getD j 0)
theorem fam_df {node:Int} (O:OpG s node) {k:Int} {i:Nat} (hi:i<s.no.length):(fam s k).getD i 0 - (fam s 0).getD i 0=min (Cs.tH (sdA s) (spS s) i - Cs.tL (sdA s) (spS s) i) k:=by
 have h1:=(Sp.tight_ok O.rd O.tg (i:=i) (by rw [sdA_len O.al];exact hi)).2.2
 rw [fam_get O.al hi,fam_get O.al hi]
 omega
theorem dfM_le {node:Int} (O:OpG s node) {k:Int} (hk:0≤k):∀ j,j≤s.no.length→0≤dfM s k j∧dfM s k j≤k
 | 0,_=>⟨Int.le_refl 0,hk⟩
 | j+1,hj=>by
  have h1:=dfM_le O hk j (by omega)
  have h2:=fam_df O (k:=k) (i:=j) (by omega)
  have e:dfM s k (j+1)=max (dfM s k j) ((fam s k).getD j 0 - (fam s 0).getD j 0):=rfl
  rw [e,h2]
  omega
theorem dfM_ge {k:Int}:∀ {j i:Nat},i<j→(fam s k).getD i 0 - (fam s 0).getD i 0≤dfM s k j
 | 0,i,h=>by omega
 | j+1,i,h=>by
  have e:dfM s k (j+1)=max (dfM s k j) ((fam s k).getD j 0 - (fam s 0).getD j 0):=rfl
  rw [e]
  by_cases h1:i=j
  ·subst h1;omega
  ·have:=dfM_ge (k:=k) (j:=j) (i:=i) (by omega)
   omega
theorem dfM_top {node:Int} (O:OpG s node) {k:Int} (hk:0≤k) (hk2:k≤spn s):dfM s k s.no.length=k:=by
 have h1:=(dfM_le O hk s.no.length (Nat.le_refl _)).2
 rcases spV_is (sdA s) (spS s) with h2 | ⟨i,hi,h2⟩
 ·have h3:=(dfM_le O hk s.no.length (Nat.le_refl _)).1
  unfold spn at hk2
  omega
 ·rw [sdA_len O.al] at hi
  have h3:=dfM_ge (s:=s) (k:=k) hi
  rw [fam_df O hi] at h3
  unfold spn at hk2
  omega
structure MbG (s:Stp) (node lo hi:Int) (k:Nat):Prop where
 kb:Sp.okV (k:Int)
 n1:1≤node
 n2:node<s.no.length
 top:dfM s k s.no.length=k
 bd:∀ j,j≤s.no.length→0≤dfM s k j∧dfM s k j≤1000
 L:soL s node lo hi=wtL s (altL s) (fam s k)
 get:∀ i,i<s.no.length→∃ p,(soL s node lo hi)[i]? = some p∧p.alt=(altL s).getD i 0∧p.cas=(fam s k).getD i 0
 vb:∀ i,i<s.no.length→(0≤(fam s k).getD i 0∧(fam s k).getD i 0≤1000)∧0≤(fam s 0).getD i 0∧(fam s 0).getD i 0≤1000
 slow:0<k→Sp.okV ((k:Int) - 1)∧(wtE s (altL s) (fam s ((k:Int) - 1))=0→∃ p,(wtL s (altL s) (fam s ((k:Int) - 1)))[node.toNat]? = some p∧hi<p.tick)
theorem mb_good (N:StN s) {node lo hi:Int} (h:soE s node lo hi=0):opE s node false=0∧∃ k:Nat,MbG s node lo hi k:=by
 obtain ⟨k,F⟩:=so_good N h
 have O:=F.O
 have hk:=F.ks
 have hb:=spn_ok O
 unfold Sp.okV at hb
 have hm:node.toNat<s.no.length:=by have:=O.n1;have:=O.n2;omega
 have h0:opE s node false=0:=by
  unfold soE at h
  by_cases e:opE s node (decide (hi<lo))=0
  ·rwa [decide_eq_false (by have:=F.ord;omega)] at e
  ·rw [if_pos e] at h;exact absurd h e
 refine ⟨h0,k,by unfold Sp.okV;omega,O.n1,O.n2,dfM_top O (by omega) hk,fun j hj=>?_,F.soL,fun i hi=>⟨_,by rw [F.soL];exact fkL_get hi,(psP_alt _ _ _).1,(psP_alt _ _ _).2⟩,fun i hi=>?_,fun h1=>⟨by unfold Sp.okV;omega,fun he=>⟨_,wtL_get hm,?_⟩⟩⟩
 ·have:=dfM_le O (k:=k) (by omega) j hj;omega
 ·have a:=(fam_good O (show (0:Int)≤(k:Int) by omega)).bd O.G N hi
  have b:=(fam_good O (Int.le_refl 0)).bd O.G N hi
  exact ⟨⟨a.1,a.2.1⟩,b.1,b.2.1⟩
 ·have h2:=F.first (k - 1) (by omega)
  rw [show ((k - 1:Nat):Int)=(k:Int) - 1 by omega] at h2
  have h3:¬ fkT s ((k:Int) - 1) node.toNat≤hi:=fun h4=>h2 ⟨he,h4⟩
  unfold fkT at h3
  omega
end
end Go.Proofs.YtgneijdjlahgbaaGreat

namespace Go.Proofs.YtgneijdjlahgbaaGreat
set_option maxRecDepth 100000
set_option maxHeartbeats 16000000
set_option linter.unusedSimpArgs false
set_option linter.unusedVariables false
open Go.RowKit
def LgR (s:Stp) (B:World) (v t:Value) (wr:World):Prop:=∃ k:Nat,k≤s.no.length∧t=.int .i64 (k:Int)∧BoxS B 0 [] wr∧Ow oneI 1 2 B.heap.size ((dstL s).take (k - 1)) v wr
def LgP (s:Stp) (w:World) (e:Ending) (w':World):Prop:=∃ A c,e=.returned (.slice A (s.no.length - 1) c)∧Ints w' A (s.no.length - 1) (dstL s)∧Below w.heap.size w w'
theorem dstL_len' (s:Stp):(dstL s).length=s.no.length - 1:=by unfold dstL;simp
theorem xLegs (s:Stp) (w:World) (hl:s.lies w) (hok:s.ok) (h0:0<s.no.length) (hmx:s.no.length≤64):Calls Tryz.prog 35 #[.agg s.cells.toArray] w (LgP s w):=by
 obtain ⟨i0,hi,hz0,hz1,hz2⟩:=info_parts infoI64
 have HS:=Lib.hid (boxS1 w s.cells.toArray 35)
 have hno:=(StN.of hl).no
 obtain ⟨b,off,hA⟩:=su_A hl h0
 have HNS:=Lib.hid (fun W (h:BoxS w 1 [s.cells] W)=>show W.cell? ⟨w.heap.size,0,none⟩=some (.slice (some ⟨b,off,none⟩) s.sno.n s.sno.c) from su_sl (h.has 0 _ rfl) hA)
 have HNV:=Lib.hid (fun W (h:BoxS w 1 [s.cells] W) k (hk:k<s.no.length)=>su_nd (hl.below h.B) hA hk)
 have HDL:=Lib.hid (dstL_len' s)
 have HNO:=Lib.hid hno
 have HB0:=Lib.hid (fun W (h:BoxS w 1 [s.cells] W)=>h.B)
 clear hl hok hno hA h0
 go_enter Tryz.func35,Tryz.ntmps35
 have k0:=HNS.out _ HS.out
 go_wp2_with fail
 clear k0
 generalize (w.alloc (.cells s.cells.toArray 35))=w6 at *
 have HYB:=Lib.hid (fun W (h:BoxS w6 0 [] W)=>HS.out.below h.B)
 have HNK:=Lib.hid (fun W (h:BoxS w6 0 [] W) k (hk:k<s.no.length)=>HNV.out W (HYB.out W h) k hk)
 go_loopw [3,9] (fun v t wr=>LgR s w6 v t wr) (fun _ t _=>s.sno.n - (intOf t).toNat)
 case atStart=>exact ⟨0,by omega,rfl,boxS0'' _,Ow.start _ _ _ _ _⟩
 case round =>
  obtain ⟨k,hk,rfl,hs,ho⟩:=hrel
  have HW:=Lib.hid hs
  have HO:=Lib.hid ho
  clear hs ho
  by_cases hlt:k<s.sno.n
  ·have hlt':(k:Int)<(s.sno.n:Int):=by omega
   have hk0:(0:Int)≤(k:Int):=by omega
   have hg:IntKind.i64.wrap ((k:Int)+1)=(k:Int)+1:=IntWalk.i64_in _ (by omega)
   obtain ⟨n0,n1,n2,n3,n4,n5,n6⟩:=HNK.out _ HW.out k (by have:=HNO.out;omega)
   rcases Nat.eq_zero_or_pos k with hz | hz
   ·have HZ:=Lib.hid hz
    have hgt:¬ (0:Int)<(k:Int):=by omega
    clear hz
    go_wp2_with fail
    go_roundw
    case rel=>exact ⟨k+1,by have:=HNO.out;omega,by go_num,HW.out.alloc _,by have h:=HO.out.alloc (.cells #[.int .i64 (nodA s k).px,.int .i64 (nodA s k).py,.int .i64 (nodA s k).di,.int .i64 (nodA s k).a0,.int .i64 (nodA s k).a1,.int .i64 (nodA s k).s0,.int .i64 (nodA s k).s1] 60);rw [HZ.out] at h ⊢;exact h⟩
    case measure=>simp only [intOf];omega
   ·have hgt:(0:Int)<(k:Int):=by omega
    have HTK:=Lib.hid (show (dstL s).take k=(dstL s).take (k - 1) ++ [(nodA s k).di] from by have h:=dst_take (s:=s) (k:=k - 1) (by have:=HNO.out;omega);rwa [show k - 1+1=k from by omega] at h)
    have hlen:((dstL s).take (k - 1)).length≤64:=by rw [List.length_take];omega
    generalize (dstL s).take (k - 1)=LL at *
    go_wp2_with (at_builtin;refine wpList_append_own_at _ rfl _ _ 23 rfl w6.heap.size 2 i0 (.int .i64 0) 1 8 Tryz.underlying23 hi hz0 hz1 hz2 rfl (by decide) _ _ _ rfl (((HO.out.alloc _).alloc _).own) ⟨(wr.heap.size+1),0,none⟩ 1 1 [.int .i64 (nodA s k).di] rfl rfl (news_new _ _ (by first | rfl | simp) _ _ _ rfl) (by intro u hu;simp at hu;subst hu;rfl) (by unfold maxLen;omega) (by omega) (by have:=HW.out.B.size;simp;omega) ?_;intro v1 w7 hown hgrow hnil hblk)
    have HS7:=Lib.hid (((HW.out.alloc _).alloc _).grown hgrow (fun k hk=>(HO.out.lt hk).1))
    have HO7:=Lib.hid (Ow.next (l:=LL) (f:=oneI) (x:=(nodA s k).di) hown)
    clear hown hgrow hnil hblk
    go_roundw
    case rel=>exact ⟨k+1,by have:=HNO.out;omega,by go_num,HS7.out,by rw [show k+1 - 1=k from rfl,HTK.out];exact HO7.out⟩
    case measure=>simp only [intOf];omega
  ·have hlt':¬ (k:Int)<(s.sno.n:Int):=by omega
   have HL:=Lib.hid (show Ow oneI 1 2 w6.heap.size (dstL s) _ wr from by have h:=HO.out;rwa [List.take_of_length_le (by have:=HDL.out;have:=HNO.out;omega)] at h)
   obtain ⟨A',c',hv,hD,-⟩:=HL.out.ints HDL.out
   subst hv
   have HBB:=HB0.out _ (HYB.out _ HW.out)
   go_wp2_with fail
   go_ret
   exact ⟨A',c',rfl,hD,HBB⟩
end Go.Proofs.YtgneijdjlahgbaaGreat

