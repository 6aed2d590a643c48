/- M43: RfAt, RfAu, RfAv in one text. -/
import Derived.Test.YtedcanagfajcgaaGreatM46
import Derived.Test.YtedcanagfajcgaaGreatM19
import Derived.Deep.CutBlock
import Derived.Test.YtedcanagfajcgaaGreatM42
set_option linter.unusedSimpArgs false
set_option linter.unusedVariables false
set_option maxRecDepth 100000
set_option maxHeartbeats 8000000
namespace Go.Proofs
theorem AbB{G:Prop}(h:G:=by
  refine rEt hK hHeld (fun _=>?_)
  clear hK K
  refine rEk ?_
  intro K hK
  refine (HEL.out _ hHeld.1.B _ _ _ ⟨by omega,ko⟩ kp kq).mono ?_;rintro e2 W2 ⟨rfl,hB⟩
  go_wp2_with fail
  have q8:=Q8.out.below hB
  refine rEt hK mB (fun hHeld2=>?_)
  exact mN stB.out):G:=h
theorem AbC{G:Prop}(h:G:=by
  refine rEt hK mB (fun hHeld2=>?_)
  clear hK K
  refine wpAnyH_ready (rs:=[3]) (by kernel_rfl) (by simp) ?_
  refine aC (fun K hK=>?_) AllReadyH.nil
  go_simp
  refine rEt hK hHeld2 (fun _=>?_)
  exact mN stB.out):G:=h
end Go.Proofs
namespace Go.Proofs.YtedcanagfajcgaaGreat
open Go.RowKit
open Go.Lib (hid)
theorem Xg {a b c x y z:Int} (h1:a=x) (h2:b=y) (h3:c=z):Ending.returned (.tuple #[vI a,vI b,vI c])=.returned (.tuple #[vI x,vI y,vI z]):=by rw [h1,h2,h3]
theorem NG {a b A B:Int} (ha:0<=a∧a<=A) (hb:0<=b∧b<=B):0<=a * b∧a * b<=A * B:=⟨BM ha.1 hb.1,Int.mul_le_mul ha.2 hb.2 hb.1 (by omega)⟩
theorem NU (co ce n x:Int) (hco : -2000000<=co∧co<=2000000) (hce:1<=ce∧ce<=2000000) (hn:1<=n∧n<=16) (hx : -2000000<=x∧x<=2000000) (w:World):Calls Tryz.prog 141 #[vI co,vI ce,vI n,vI x] w fun e w'=>e=.returned (.tuple #[vI (Wg.sI co ce n x),vI (Wg.sF co ce n x)])∧w=w':=by
 have HX:=hid (show min (max x co) (co+(n - 1) * ce)=co+Wg.sX co ce n x by unfold Wg.sX;omega);have hb:=Wg.sX_bd (corner:=co) (x:=x) hce.1 hn.1;have hm:=NG (a:=n - 1) (b:=ce) (A:=15) (B:=2000000) (by omega) (by omega);have HR:=hid (fun i h0 h1 h2 h3=>Wg.sI_ref (corner:=co) (cell:=ce) (n:=n) (x:=x) (i:=i) hce.1 hn.1 h0 h1 h2 h3);have HF:=hid (show Wg.sF co ce n x=Wg.sX co ce n x - Wg.sI co ce n x * ce from rfl);have u1:=iW (n - 1);have u2:=iW ((n - 1) * ce);have u3:=iW (co+(n - 1) * ce);generalize Wg.sI co ce n x=SI at *;generalize Wg.sF co ce n x=SF at *;generalize Wg.sX co ce n x=X at *
 go_enter Tryz.func141,Tryz.ntmps141
 go_wp2_with fail
 rw [HX.out]
 clear u1 u2 u3
 go_loopw [10] (fun i wr=>∃ k:Nat,i=vI (k:Int)∧((k:Int)=0∨(k:Int)<=n - 2)∧(k:Int) * ce<=X∧w=wr) (fun i _=>16 - (intOf i).toNat)
 case atStart=>exact ⟨0,rfl,.inl rfl,by simp;omega,rfl⟩
 case round =>
 obtain ⟨k,rfl,hk,hX,rfl⟩:=hrel;have m0:=NG (a:=(k:Int)) (b:=ce) (A:=14) (B:=2000000) (by omega) (by omega)
 have m1:((k:Int)+1) * ce=(k:Int) * ce+ce:=by rw [Int.add_mul,Int.one_mul]
 have v1:=iW ((k:Int)+1);have v2:=iW (((k:Int)+1) * ce);have v3:=iW (co+((k:Int)+1) * ce);have v4:=iW (n - 2);have v5:=iW ((k:Int) * ce)
 have v6:IntKind.i64.wrap (co+X - co)=X:=by rw [(iW _)];omega
 have v7:=iW (X - (k:Int) * ce);have v8:IntKind.i64.wrap X=X:=iW _;have M1:=hid m1;clear m1;have HE:=hid (fun h=>HR.out (k:Int) (by omega) hk hX h)
 by_cases h1:(k:Int)<n - 2
 ·by_cases h2:co+((k:Int)+1) * ce<=co+X
  ·have HK:=hid (show ((k+1:Nat):Int) * ce<=X by rw [show ((k+1:Nat):Int)=(k:Int)+1 from rfl];omega)
   clear m0 hX
   go_wp2_with fail
   go_roundw
   case rel=>exact ⟨k+1,by go_num,.inr (by omega),HK.out,trivial⟩
   case measure=>exact zMs
  ·have HS:=hid (HE.out (.inr (by omega)))
   clear m0 hX
   go_wp2_with fail
   go_ret2
   exact ⟨Ay HS.out.symm (by rw [HF.out,HS.out]),rfl⟩
 ·have HS:=hid (HE.out (.inl (by omega)))
  clear m0 hX
  go_wp2_with fail
  go_ret2
  exact ⟨Ay HS.out.symm (by rw [HF.out,HS.out]),rfl⟩
theorem Pq (A:Option Addr) (n c:Nat) (l:List Int) (alt:Int) (w:World) (hl:Ints w A n l) (hn:1<=n∧n<=8) (hb:∀ x ∈ l,-200000<=x∧x<=6000000) (ha : -200000<=alt∧alt<=6000000):Calls Tryz.prog 142 #[.slice A n c,vI alt] w fun e' w'=>e'=.returned (.tuple #[vI (Wg.lI l alt:Nat),vI (Wg.lF l alt),vI (Wg.lC l alt)])∧Below w.heap.size w w':=by
 obtain ⟨b,off,rfl,hb0,hc⟩:=hl.cells (by omega);obtain ⟨F,hF⟩:∃ F:Nat→Int,∀ i,F i=l.getD i 0:=⟨fun i=>l.getD i 0,fun _=>rfl⟩
 have HG:=hid (show ∀ (W:World) (_:Below w.heap.size w W) (i:Nat),i<n→W.cell? ⟨b,off+i,none⟩=some (vI (F i)) from fun W hB i hi=>by
  obtain ⟨x,hx⟩:=Am hl.len hi
  rw [hF,Ah hx]
  exact (hB.cell (p:=⟨b,off+i,none⟩) hb0).trans (hc i x hx))
 have hA0:min (max alt (F 0)) (F (n - 1))=Wg.lA l alt:=by rw [hF,hF,← hl.len];rfl
 have HBB:=hid (show ∀ i,-200000<=F i∧F i<=6000000 from fun i=>by rw [hF];exact JK hb i)
 have HLI:=hid (show ∀ j:Nat,(∀ k,k<j→F (k+1)<=Wg.lA l alt)→(j=0∨j+2<=n)→(n<=j+2∨Wg.lA l alt<F (j+1))→Wg.lI l alt=j∧Wg.lF l alt=(if n=1 then 0 else Wg.lA l alt - F j)∧Wg.lC l alt=(if n=1 then 1 else F (j+1) - F j) from fun j h0 h1 h2=>by
  have e:=Wg.lev_eq l (Wg.lA l alt) j (fun k hk=>by rw [← hF];exact h0 k hk) (by rw [hl.len];exact h1) (by rw [hl.len,← hF];exact h2);have e2:Wg.lI l alt=j:=e
  refine ⟨e2,?_,?_⟩
  ·unfold Wg.lF;rw [hl.len,e2,← hF]
  ·unfold Wg.lC;rw [hl.len,e2,← hF,← hF])
 have b0:=HBB.out 0;have b1:=HBB.out (n - 1)
 have hA : -200000<=Wg.lA l alt∧Wg.lA l alt<=6000000:=by rw [← hA0];omega
 have HA0:=hid hA0;clear hl hb hc hF hA0 b0 b1;generalize Wg.lA l alt=AA at *;generalize Wg.lI l alt=LI at *;generalize Wg.lF l alt=LF at *;generalize Wg.lC l alt=LC at *
 have s1:IntKind.i64.wrap ((n:Int) - 1)=((n - 1:Nat):Int):=by rw [(iW _)];omega
 have i0:(0:Int)<=((n - 1:Nat):Int):=by omega
 have i1:((n - 1:Nat):Int)<(n:Int):=by omega
 have i2:0<n:=by omega
 go_enter Tryz.func142,Tryz.ntmps142
 go_wp2_with fail
 refine rS (fun W=>Below w.heap.size w W) 12 (AJ _ _).drew (fun hHeld=>?_)
 have FA:=fun W (h:Below w.heap.size w W)=>And.intro (show W.cell? ⟨b,off,none⟩=some (vI (F 0)) from HG.out W h 0 (by omega)) (HG.out W h (n - 1) (by omega))
 iterate 3 refine rQ ?_
 refine rF ?_
 iterate 5 refine rQ ?_
 refine rF ?_
 iterate 2 refine rQ ?_
 refine rD ?_
 rw [HA0.out]
 have HB:=hid hHeld;clear hHeld FA i0 i1 i2 s1 HA0;generalize w.drew=w1 at *;have v0:=iW ((n:Int) - 2)
 go_upto_block 0 with fail
 go_cut [8] (fun i wx=>∃ k:Nat,i=vI (k:Int)∧(∀ j,j<k→F (j+1)<=AA)∧(k=0∨k+2<=n)∧(n<=k+2∨AA<F (k+1))∧w1=wx)
 case first =>
  go_wp2_with fail
  go_loopw [8] (fun i wr=>∃ k:Nat,i=vI (k:Int)∧(∀ j,j<k→F (j+1)<=AA)∧(k=0∨k+2<=n)∧w1=wr) (fun i _=>n - (intOf i).toNat)
  case atStart=>exact ⟨0,rfl,fun k hk=>by omega,.inl rfl,rfl⟩
  case round =>
   obtain ⟨k,rfl,hk,hj,rfl⟩:=hrel;have HK:=hid hk;clear hk
   by_cases h1:k+2<n
   ·have g1:(k:Int)<(n:Int) - 2:=by omega
    have y2:w1.cell? ⟨b,off+(k+1),none⟩=some (vI (F (k+1))):=HG.out w1 HB.out (k+1) (by omega)
    have i3:(k:Int)+1<(n:Int):=by omega
    by_cases h2:F (k+1)<=AA
    ·go_wp2_with fail
     go_roundw
     case rel=>exact ⟨k+1,by go_num,fun j hj=>by
      by_cases e:j=k
      ·subst e;exact h2
      ·exact HK.out j (by omega),.inr (by omega),trivial⟩
     case measure=>exact zMs
    ·go_wp2_with fail
     go_meet
     exact ⟨k,rfl,HK.out,hj,.inr (by omega),rfl⟩
   ·have g1:¬ (k:Int)<(n:Int) - 2:=by omega
    go_wp2_with fail
    go_meet
    exact ⟨k,rfl,HK.out,hj,.inl (by omega),rfl⟩
 case rest =>
 obtain ⟨k,rfl,hk,hj,hx,rfl⟩:=hcut;obtain ⟨x1,x2,x3⟩:=HLI.out k hk hj hx
 by_cases n1:n=1
 ·rw [if_pos n1] at x2 x3
  have n2:((n:Int) == 1)=true:=by simp;omega
  have X:=hid (And.intro (show LI=0 by omega) (And.intro x2 x3));clear hk hj hx x1 x2 x3 n1
  go_wp2_with fail
  go_ret3
  exact ⟨Xg (by rw [X.out.1];rfl) X.out.2.1.symm X.out.2.2.symm,HB.out⟩
 rw [if_neg n1] at x2 x3
 have n2:((n:Int) == 1)=false:=by simp;omega
 have X:=hid (And.intro x1 (And.intro x2 x3))
 have j0:(0:Int)<=(k:Int):=by omega
 have j1:(k:Int)<(n:Int):=by omega
 have j2:(k:Int)+1<(n:Int):=by omega
 have t2:=iW ((k:Int)+1)
 have t3:(0:Int)<=(k:Int)+1:=by omega
 have t4:((k:Int)+1).toNat=k+1:=by omega
 have fi:=HBB.out k;have fi1:=HBB.out (k+1);have t5:=iW (AA - F k);have t6:=iW (F (k+1) - F k)
 have K1:k+1<n:=by omega
 clear hk hj hx x1 x2 x3 n1 fi fi1
 go_wp2_with fail
 refine rS (fun W=>Below w.heap.size w W) 20 HB.out.drew (fun hHeld=>?_)
 have FA:=fun W (h:Below w.heap.size w W)=>And.intro (HG.out W h k (by omega)) (HG.out W h (k+1) (by omega))
 iterate 5 refine rQ ?_
 refine rF ?_
 iterate 5 refine rQ ?_
 refine rF ?_
 iterate 3 refine rQ ?_
 refine rF ?_
 iterate 4 refine rQ ?_
 refine rD ?_
 go_wp2_with fail
 go_ret3
 exact ⟨Xg (by rw [X.out.1]) X.out.2.1.symm X.out.2.2.symm,hHeld⟩
theorem WX (u v f c:Int) (hu : -5000<=u∧u<=5000) (hv : -5000<=v∧v<=5000) (hf:0<=f∧f<=c) (hc:1<=c∧c<=40000000) (w:World):Calls Tryz.prog 144 #[vI u,vI v,vI f,vI c] w fun e w'=>e=.returned (vI (Wg.bl u v f c))∧w=w':=by
 have HP:=RY (d:=v - u) (by omega) hf hc
 have HV:=hid (show Wg.bl u v f c=u+(v - u) * f / c by
  unfold Wg.bl
  split
  ·next h=>rw [h];simp
  ·rfl)
 have HF:=hid (fun W=>Td ((v - u) * f) c (by omega) (by omega) (by omega) (by omega) W);have u1:=iW (v - u);have u2:=iW ((v - u) * f);have u3:=iW (u+(v - u) * f / c);clear HP
 go_enter Tryz.func144,Tryz.ntmps144
 go_wp2_with (refine (HF.out _).mono ?_;rintro e' wx ⟨rfl,rfl⟩)
 go_ret
 exact ⟨Af HV.out.symm,rfl⟩
def elP (g:Grd) (p:Int):Int→Int→Int→Int:=if p=1 then elE g else if p=2 then elN g else elD g
theorem Pp (g:Grd) (p x y z:Int) (w:World) (G:GrG g) (hl:g.lies w) (hok:g.ok) (hp:p=1∨p=2∨p=3) (h0:0<=x∧x<g.nx) (h1:0<=y∧y<g.ny) (h2:0<=z∧z<g.sal.n):Calls Tryz.prog 143 #[.agg g.cells.toArray,vI p,vI x,vI y,vI z] w fun e' w'=>e'=.returned (vI (elP g p x y z))∧Below w.heap.size w w':=by
 obtain ⟨k1,k2⟩:=Ny G h0 h1 h2;have HI:=hid (show elE g x y z=(g.wi.getD (elI g x y z) (0,0)).1∧elN g x y z=(g.wi.getD (elI g x y z) (0,0)).2∧elD g x y z=g.de.getD (elI g x y z) 0 from ⟨rfl,rfl,rfl⟩);generalize elI g x y z=K at *
 have hnd:g.swi.n=g.sde.n:=by have:=G.nw;have:=G.nd;omega
 obtain ⟨q,hq⟩:=Am hl.wi.len k1;obtain ⟨d,hd⟩:=Am hl.de.len (show K<g.sde.n by omega)
 rw [Ah hq,Ah hd] at HI
 obtain ⟨b1,o1,hA1,hb1,hc1⟩:=hl.wi.cells (by omega);obtain ⟨b2,o2,hA2,hb2,hc2⟩:=hl.de.cells (by omega)
 have y0:∀ o,(w.alloc o).cell? ⟨b1,o1+K * 2,none⟩=some (vI q.1):=fun o=>by rw [World.cell?_alloc_lt _ _ _ hb1];exact hc1 K q hq 0 _ rfl
 have y1:∀ o,(w.alloc o).cell? ⟨b1,o1+K * 2+1,none⟩=some (vI q.2):=fun o=>by rw [World.cell?_alloc_lt _ _ _ hb1];exact hc1 K q hq 1 _ rfl
 have y2:∀ o,(w.alloc o).cell? ⟨b2,o2+K,none⟩=some (vI d):=fun o=>by rw [World.cell?_alloc_lt _ _ _ hb2];exact hc2 K d hd
 obtain ⟨p0,p1,p2,p3⟩:=Qx G.nx G.ny (n:=(g.sal.n:Int)) (by have:=G.na;omega) h0 h1 h2;have u1:=iW (z * g.ny);have u2:IntKind.i64.wrap (z * g.ny+y)=z * g.ny+y:=IntWalk.i64_in _ (by have:=G.ny;omega);have u3:=iW ((z * g.ny+y) * g.nx)
 have u4:IntKind.i64.wrap ((z * g.ny+y) * g.nx+x)=(K:Int):=by rw [IntWalk.i64_in _ (by have:=G.nx;omega)];exact k2.symm
 have i0:(0:Int)<=(K:Int):=by omega
 have i1:(K:Int)<(g.swi.n:Int):=by omega
 have i2:(K:Int)<(g.sde.n:Int):=by omega
 have lw:=hok.wi
 unfold maxLen at lw
 show Calls _ _ #[.agg #[vI g.cx,vI g.cy,vI g.ce,vI g.nx,vI g.ny,.slice g.sal.A g.sal.n g.sal.c,.slice g.swi.A g.swi.n g.swi.c,.slice g.sde.A g.sde.n g.sde.c,vI g.er],vI p,vI x,vI y,vI z] _ _
 clear hl hok hq hd hc1 hc2 hb1 hb2 p0 p1 p2 p3 k1 k2 G h0 h1 h2 hnd
 rcases hp with rfl | rfl | rfl
 all_goals
  go_enter Tryz.func143,Tryz.ntmps143
  go_wp2_with fail
  go_ret
  exact ⟨Af (by unfold elP;simp [HI.out.1,HI.out.2.1,HI.out.2.2]),Aa _ _⟩
def rwE (E:Int→Int→Int→Int) (x fx c y z:Int):Int:=Wg.bl (E x y z) (E (x+1) y z) fx c
def Jz (E:Int→Int→Int→Int) (x fx y fy c z:Int):Int:=Wg.bl (rwE E x fx c y z) (rwE E x fx c (y+1) z) fy c
theorem bl_0 {u v c:Int}:Wg.bl u v 0 c=u:=if_pos rfl
theorem VD {g:Grd} (G:GrG g) (p x y z:Int) : -5000<=elP g p x y z∧elP g p x y z<=5000:=by
 have h1:=MG G (elI g x y z);have h2:=R7 G (elI g x y z)
 unfold elP
 split
 ·show -5000<=(g.wi.getD (elI g x y z) (0,0)).1∧(g.wi.getD (elI g x y z) (0,0)).1<=5000;omega
 ·split
  ·show -5000<=(g.wi.getD (elI g x y z) (0,0)).2∧(g.wi.getD (elI g x y z) (0,0)).2<=5000;omega
  ·show -5000<=g.de.getD (elI g x y z) 0∧g.de.getD (elI g x y z) 0<=5000;omega
theorem Afj {g:Grd} {px py alt:Int} {w:World} (G:GrG g) (hl:g.lies w) (hab : -200000<=alt∧alt<=6000000):AtK g (Wg.sI g.cx g.ce g.nx px) (Wg.sF g.cx g.ce g.nx px) (Wg.sI g.cy g.ce g.ny py) (Wg.sF g.cy g.ce g.ny py) (Wg.lI g.al alt) (Wg.lF g.al alt) g.ce (Wg.lC g.al alt):=by
 have hne:g.al≠[]:=by intro e;have h1:=hl.al.len;rw [e] at h1;have h2:=G.na;simp at h1;omega
 obtain ⟨z1,z2,z3,z4,z5⟩:=Wu (a:=alt) hne G.asc;have x3:=Wg.sI_bd (corner:=g.cx) (x:=px) G.ce.1 G.nx.1;have y3:=Wg.sI_bd (corner:=g.cy) (x:=py) G.ce.1 G.ny.1;have x4:=Wg.sF_bd (corner:=g.cx) (x:=px) G.ce.1 G.nx.1;have y4:=Wg.sF_bd (corner:=g.cy) (x:=py) G.ce.1 G.ny.1
 have hcz:1<=Wg.lC g.al alt∧Wg.lC g.al alt<=40000000:=⟨z3,by
  unfold Wg.lC;have a:=JK G.al (Wg.lI g.al alt+1);have b:=JK G.al (Wg.lI g.al alt);split <;> omega⟩
 exact ⟨G,⟨x3.1,x3.2.2⟩,fun e=>x4.2.2 (by omega),⟨y3.1,y3.2.2⟩,fun e=>y4.2.2 (by omega),⟨by omega,by have:=hl.al.len;omega⟩,fun e=>by have:=z4 e;have:=hl.al.len;omega,⟨x4.1,x4.2.1⟩,⟨y4.1,y4.2.1⟩,⟨z1,z2⟩,⟨G.ce.1,by have:=G.ce;omega⟩,hcz⟩
def OuR (w:World) (L:List (List Value)) (H:Nat) (PL:Int→Int) (z fz:Int) (t:Value) (wr:World):Prop:=∃ k:Nat,t=vI (k:Int)∧BoxS w 2 L wr∧((k=0∧Has wr H (lz2 0 0))∨(k=1∧Has wr H (lz2 (PL z) 0))∨(k=2∧0<fz∧Has wr H (lz2 (PL z) (PL (z+1)))))
def InR (w:World) (L:List (List Value)) (cs:List Value) (H H8:Nat) (RW:Int→Int) (y fy:Int) (t:Value) (wr:World):Prop:=∃ k:Nat,t=vI (k:Int)∧BoxS w 2 L wr∧Has wr H cs∧((k=0∧Has wr H8 (lz2 0 0))∨(k=1∧Has wr H8 (lz2 (RW y) 0))∨(k=2∧0<fy∧Has wr H8 (lz2 (RW y) (RW (y+1)))))
theorem YH {E:Int→Int→Int→Int} {x y z fx c:Int} (hE:∀ x y z,-5000<=E x y z∧E x y z<=5000) (hf:0<=fx∧fx<=c) : -5000<=rwE E x fx c y z∧rwE E x fx c y z<=5000:=Uo (hE _ _ _) (hE _ _ _) hf
theorem AdH {E:Int→Int→Int→Int} {x y z fx fy c:Int} (hE:∀ x y z,-5000<=E x y z∧E x y z<=5000) (hf:0<=fx∧fx<=c) (hg:0<=fy∧fy<=c) : -5000<=Jz E x fx y fy c z∧Jz E x fx y fy c z<=5000:=Uo (YH hE hf) (YH hE hf) hg
def AvS (w:World) (L:List (List Value)) (H K:Nat) (PL:Int→Int) (z q fz:Int) (Lf:Int→List Value):Prop:=∀ (W:World) (v:Int),Has W H (Lf v)→BoxS w 2 L W→W.cell? ⟨H,K,none⟩=some (vI v)∧(∀ u:Int,Has (W.setCell ⟨H,K,none⟩ (vI u)) H (Lf u)∧BoxS w 2 L (W.setCell ⟨H,K,none⟩ (vI u))∧∀ J l,Has W J l→J≠H→Has (W.setCell ⟨H,K,none⟩ (vI u)) J l)∧(v=PL q→OuR w L H PL z fz (vI ((K+1:Nat):Int)) W)
theorem Afk {w:World} {L:List (List Value)} {H:Nat} {PL:Int→Int} {z q fz:Int} (hH:w.heap.size+2<=H) (hq:q=z):AvS w L H 0 PL z q fz (fun v=>(lz2 v 0)):=fun W v h hb=>⟨h.cell 0 _ rfl,fun u=>⟨h.set 0 (vI u) (by simp),hb.set H 0 hH (vI u),fun J l hJ e=>hJ.other H 0 _ e⟩,fun e=>⟨1,rfl,hb,.inr (.inl ⟨rfl,by subst hq;rw [← e];exact h⟩)⟩⟩
theorem Afl {w:World} {L:List (List Value)} {H:Nat} {PL:Int→Int} {z q fz:Int} (hH:w.heap.size+2<=H) (hz:0<fz) (hq:q=z+1):AvS w L H 1 PL z q fz (fun v=>(lz2 (PL z) v)):=fun W v h hb=>⟨h.cell 1 _ rfl,fun u=>⟨h.set 1 (vI u) (by simp),hb.set H 1 hH (vI u),fun J l hJ e=>hJ.other H 1 _ e⟩,fun e=>⟨2,rfl,hb,.inr (.inr ⟨rfl,hz,by subst hq;rw [← e];exact h⟩)⟩⟩
theorem QX (g:Grd) (part px py alt:Int) (w:World) (G:GrG g) (hl:g.lies w) (hok:g.ok) (hp:part=1∨part=2∨part=3) (hb:(-2000000<=px∧px<=2000000) ∧ -2000000<=py∧py<=2000000) (ha : -200000<=alt∧alt<=6000000):Calls Tryz.prog 77 #[.agg g.cells.toArray,vI part,.agg #[vI px,vI py],vI alt] w fun e' w'=>e'=.returned (vI (gAt g (elP g part) px py alt))∧Below w.heap.size w w':=by
 have HS:=hid (Dt w g.cells.toArray #[vI px,vI py] 31 28);have KK:=Afj (px:=px) (py:=py) G hl ha;have HSX:=hid (fun W=>NU g.cx g.ce g.nx px G.cx G.ce G.nx hb.1 W);have HSY:=hid (fun W=>NU g.cy g.ce g.ny py G.cy G.ce G.ny hb.2 W);have HSZ:=hid (fun W (h:Below w.heap.size w W)=>Pq g.sal.A g.sal.n g.sal.c g.al alt W (hl.below h).al G.na G.al ha);have HEL:=hid (fun W (h:Below w.heap.size w W) x y z h0 h1 h2=>Pp g part x y z W G (hl.below h) hok hp h0 h1 h2);have HEB:=hid (fun x y z=>VD G part x y z);have HV:=hid (show gAt g (elP g part) px py alt=Wg.gv (elP g part) (Wg.sI g.cx g.ce g.nx px) (Wg.sI g.cy g.ce g.ny py) (Wg.lI g.al alt) (Wg.sF g.cx g.ce g.nx px) (Wg.sF g.cy g.ce g.ny py) (Wg.lF g.al alt) g.ce (Wg.lC g.al alt) from rfl)
 show Calls _ _ #[.agg #[vI g.cx,vI g.cy,vI g.ce,vI g.nx,vI g.ny,.slice g.sal.A g.sal.n g.sal.c,.slice g.swi.A g.swi.n g.swi.c,.slice g.sde.A g.sde.n g.sde.c,vI g.er],vI part,.agg #[vI px,vI py],vI alt] _ _
 have hny:=G.ny;have hnx:=G.nx;have hna:=G.na;clear hl hok hp hb ha G;generalize gAt g (elP g part) px py alt=V at *;generalize elP g part=E at *;generalize Wg.sI g.cx g.ce g.nx px=x at *;generalize Wg.sF g.cx g.ce g.nx px=fx at *;generalize Wg.sI g.cy g.ce g.ny py=y at *;generalize Wg.sF g.cy g.ce g.ny py=fy at *;generalize Wg.lI g.al alt=zn at *;generalize Wg.lF g.al alt=fz at *;generalize Wg.lC g.al alt=cz at *;obtain ⟨-,kx,kx1,ky,ky1,kz,kz1,kfx,kfy,kfz,kc,kcz⟩:=KK
 go_enter Tryz.func77,Tryz.ntmps77
 go_wp2_with fail
 refine (HSX.out _).mono ?_;rintro e' wx ⟨rfl,rfl⟩
 go_wp2_with fail
 refine (HSY.out _).mono ?_;rintro e' wx ⟨rfl,rfl⟩
 go_wp2_with fail
 refine (HSZ.out _ HS.out.B).mono ?_;rintro e' w1 ⟨rfl,hB⟩
 replace HS:=hid (HS.out.below hB);clear hB HSX HSY HSZ
 go_upto_block 0 with fail
 have Q:Hid (Has (w1.alloc (.cells #[vI 0,vI 0] 157)) w1.heap.size (lz2 0 0)):=hid (Has.new _ _ _);have r6:w.heap.size+2<=w1.heap.size:=HS.out.sz;replace HS:=hid (HS.out.alloc (.cells #[vI 0,vI 0] 157));generalize w1.alloc (.cells #[vI 0,vI 0] 157)=w2 at *;generalize w1.heap.size=H6 at *;have HGB:=hid (fun W (h:BoxS w 2 [g.cells,(lz2 px py)] W)=>show Has W w.heap.size g.cells from h.has 0 _ rfl);have HBT:=hid (fun u v f c hu hv hf hc W=>WX u v f c hu hv hf hc W);have ux1:=iW (x+1)
 go_cut [] (fun wx=>∃ a1:Int,BoxS w 2 [g.cells,(lz2 px py)] wx∧Has wx H6 (lz2 (Jz E x fx y fy g.ce zn) a1)∧(0<fz→a1=Jz E x fx y fy g.ce (zn+1)))
 case first =>
  go_wp2_with fail
  go_loopw [17] (fun t wr=>OuR w [g.cells,(lz2 px py)] H6 (fun q=>Jz E x fx y fy g.ce q) zn fz t wr) (fun t _=>2 - (intOf t).toNat)
  case atStart=>exact ⟨0,rfl,HS.out,.inl ⟨rfl,Q.out⟩⟩
  case round =>
  clear HS Q;obtain ⟨k,rfl,hs,hk⟩:=hrel;have HS:=hid hs;clear hs
  by_cases hgo:k=0∨(k=1∧0<fz)
  rotate_left
  ·rcases hk with ⟨rfl,h⟩ | ⟨rfl,h⟩ | ⟨rfl,hz,h⟩
   ·exact absurd (.inl rfl) hgo
   ·have hz:¬ 0<fz:=fun h=>hgo (.inr ⟨rfl,h⟩)
    have H:=hid h;clear h hgo
    go_wp2_with fail
    go_meet
    exact ⟨0,HS.out,H.out,fun h=>by omega⟩
   ·have H:=hid h
    clear h hgo
    go_wp2_with fail
    go_meet
    exact ⟨_,HS.out,H.out,fun _=>rfl⟩
  obtain ⟨a0,h6,ha0⟩:∃ a0:Int,Has wr H6 (lz2 a0 0)∧(k=1→a0=Jz E x fx y fy g.ce zn):=by
   rcases hk with ⟨e,h⟩ | ⟨e,h⟩ | ⟨e,hz,h⟩
   ·exact ⟨0,h,fun h=>by omega⟩
   ·exact ⟨_,h,fun _=>rfl⟩
   ·omega
  have Q:=hid h6;clear hk h6;obtain ⟨q,uq,hq⟩:∃ q:Int,IntKind.i64.wrap ((zn:Int)+(k:Int))=q∧q=zn+k:=⟨_,(iW _),rfl⟩
  have kq:0<=q∧q<g.sal.n:=by
   rcases hgo with rfl | ⟨rfl,h⟩
   ·omega
   ·have:=kz1 (by omega);omega
  have HQ:=hid hq;clear hq
  rcases hgo with rfl | ⟨rfl,hz⟩
  have HAV:=hid (fun (W:World) (h:Has W H6 (lz2 a0 0))=>show ∃ Lf c,AvS w [g.cells,(lz2 px py)] H6 0 (fun q=>Jz E x fx y fy g.ce q) zn q fz Lf∧Has W H6 (Lf c) from ⟨_,a0,Afk r6 (by have:=HQ.out;simpa using this),h⟩)
  rotate_left
  have HAV:=hid (fun (W:World) (h:Has W H6 (lz2 a0 0))=>show ∃ Lf c,AvS w [g.cells,(lz2 px py)] H6 1 (fun q=>Jz E x fx y fy g.ce q) zn q fz Lf∧Has W H6 (Lf c) from ⟨_,0,Afl r6 hz HQ.out,by rw [ha0 rfl] at h;exact h⟩)
  all_goals
   simp only [Int.add_zero,Int.natCast_zero,Int.natCast_one,Int.cast_ofNat_Int] at uq
   try simp only [Int.natCast_zero,Int.natCast_one,Int.cast_ofNat_Int]
   go_upto_block 2 with fail
   have Q8:Hid (Has (wr.alloc (.cells #[vI 0,vI 0] 157)) wr.heap.size (lz2 0 0)):=hid (Has.new _ _ _);have r8:w.heap.size+2<=wr.heap.size:=HS.out.sz
   have n8:H6≠wr.heap.size:=by have:=Q.out.lt;omega
   replace HS:=hid (HS.out.alloc (.cells #[vI 0,vI 0] 157));replace Q:=hid (Q.out.alloc (.cells #[vI 0,vI 0] 157));generalize wr.alloc (.cells #[vI 0,vI 0] 157)=w3 at *;generalize wr.heap.size=H8 at *
   go_cut [] (fun wx=>∃ r1:Int,BoxS w 2 [g.cells,(lz2 px py)] wx∧Has wx H6 (lz2 a0 0)∧Has wx H8 (lz2 (rwE E x fx g.ce y q) r1)∧(0<fy→r1=rwE E x fx g.ce (y+1) q))
   case first =>
    go_wp2_with fail
    go_loopw [19] (fun t wr=>InR w [g.cells,(lz2 px py)] (lz2 a0 0) H6 H8 (fun p=>rwE E x fx g.ce p q) y fy t wr) (fun t _=>2 - (intOf t).toNat)
    case atStart=>exact ⟨0,rfl,HS.out,Q.out,.inl ⟨rfl,Q8.out⟩⟩
    case round =>
    clear HS Q Q8;obtain ⟨j,rfl,hs,hq6,hj⟩:=hrel;have HS:=hid hs;have Q:=hid hq6;clear hs hq6
    by_cases hjo:j=0∨(j=1∧0<fy)
    rotate_left
    ·rcases hj with ⟨rfl,h⟩ | ⟨rfl,h⟩ | ⟨rfl,hy,h⟩
     ·exact absurd (.inl rfl) hjo
     ·have hy:¬ 0<fy:=fun h=>hjo (.inr ⟨rfl,h⟩)
      have H:=hid h;clear h hjo
      go_wp2_with fail
      go_meet
      exact ⟨0,HS.out,Q.out,H.out,fun h=>by omega⟩
     ·have H:=hid h
      clear h hjo
      go_wp2_with fail
      go_meet
      exact ⟨_,HS.out,Q.out,H.out,fun _=>rfl⟩
    obtain ⟨c0,h8,hc0⟩:∃ c0:Int,Has wr H8 (lz2 c0 0)∧(j=1→c0=rwE E x fx g.ce y q):=by
     rcases hj with ⟨e,h⟩ | ⟨e,h⟩ | ⟨e,hz,h⟩
     ·exact ⟨0,h,fun h=>by omega⟩
     ·exact ⟨_,h,fun _=>rfl⟩
     ·omega
    have Q8:=hid h8;clear hj h8;obtain ⟨p,up,hp⟩:∃ p:Int,IntKind.i64.wrap (y+(j:Int))=p∧p=y+j:=⟨_,(iW _),rfl⟩
    have kp:0<=p∧p<g.ny:=by
     rcases hjo with rfl | ⟨rfl,h⟩
     ·omega
     ·have:=ky1 (by omega);omega
    have HP:=hid hp;clear hp
    rcases hjo with rfl | ⟨rfl,hy⟩
    ·simp only [Int.add_zero,Int.natCast_zero,Int.natCast_one,Int.cast_ofNat_Int] at up
     obtain ⟨k0,k1,k2,k3,k4,k5,k6,k7,k8⟩:=gd9 (HGB.out _ HS.out)
     go_wp2_with fail
     refine (HEL.out _ HS.out.B _ _ _ kx kp kq).mono ?_;rintro e' w5 ⟨rfl,hB⟩
     replace HS:=hid (HS.out.below hB);replace Q:=hid (Q.out.below hB);replace Q8:=hid (Q8.out.below hB);clear hB k0 k1 k2 k3 k4 k5 k6 k7 k8;have c0':=Q8.out.cell 0 _ rfl;have c1':=Q8.out.cell 1 _ rfl;have f8:=Q8.out.fr
     go_upto_region 13 with fail
     replace HS:=hid (HS.out.set H8 0 r8 (vI (E x p q)));replace Q:=hid (Q.out.other H8 0 (vI (E x p q)) n8);replace Q8:=hid (show Has _ H8 (lz2 (E x p q) 0) from Q8.out.set 0 (vI (E x p q)) (by simp));clear c0' c1' f8;generalize w5.setCell ⟨H8,0,none⟩ (vI (E x p q))=w6 at *
     by_cases hfx:0<fx
     rotate_left
     ·have HR:=hid (show E x p q=rwE E x fx g.ce p q from by unfold rwE;rw [show fx=0 by omega,bl_0])
      have hpy:=HP.out
      rw [HR.out] at Q8
      go_wp2_with fail
      go_roundw
      case rel=>rw [show p=y by omega] at Q8;exact ⟨1,rfl,HS.out,Q.out,.inr (.inl ⟨rfl,Q8.out⟩)⟩
      case measure=>exact zMs
     have ko:=kx1 (by omega)
     go_wp2_with fail
     refine rS (fun W=>BoxS w 2 [g.cells,(lz2 px py)] W∧Has W H6 (lz2 a0 0)) 21 ⟨HS.out.drew,Q.out.drew⟩ (fun hHeld=>?_)
     replace Q8:=hid Q8.out.drew;have FA:=fun W (h:BoxS w 2 [g.cells,(lz2 px py)] W∧Has W H6 (lz2 a0 0))=>gd9 (HGB.out W h.1)
     iterate 3 refine rQx [3] ?_
     refine rFx [3] ?_
     iterate 11 refine rQx [3] ?_
     refine rFx [3] ?_
     refine Be ?_
     intro OPS QQ A0 SS hO hQ hA hSS
     have stB:Hid (∀ (W:World) (q8:Has W H8 (lz2 (E x p q) 0)),SS W→wpAnyH Tryz.prog .any OPS QQ SS 3 #[b1,b1,b1,b1,b1,b1,b1,b1,b1,b1,b1,b1,b1,b1,b1,b1,b1,b1,b0,b0,b0] ((A0.put (some 95) (vI (E x p q))).put (some 106) (vI (E (x+1) p q))) W):=by
      subst hO hQ hA hSS
      refine hid ?_
      intro W q8 hHeld
      (try simp only [Act.put,pa,pb,pc])
      refine rEk ?_
      intro K hK
      refine (HBT.out (E x p q) (E (x+1) p q) fx g.ce (HEB.out _ _ _) (HEB.out _ _ _) kfx kc _).mono ?_;rintro e2 wy ⟨rfl,rfl⟩
      go_wp2_with fail
      refine rEt hK hHeld ?_
      clear hK K
      intro _
      refine rQ ?_
      have fz:=q8.fr;have cz:=q8.cell 0 _ rfl
      refine rEk ?_
      intro K hK
      refine rEt hK ⟨hHeld.1.set H8 0 r8 (vI (Wg.bl (E x p q) (E (x+1) p q) fx g.ce)),hHeld.2.other H8 0 (vI (Wg.bl (E x p q) (E (x+1) p q) fx g.ce)) n8⟩ ?_
      clear hK K
      intro h2
      have HX:=hid (show Has _ H8 (lz2 (Wg.bl (E x p q) (E (x+1) p q) fx g.ce) 0) from q8.set 0 (vI (Wg.bl (E x p q) (E (x+1) p q) fx g.ce)) (by simp));replace HS:=hid h2.1;replace Q:=hid h2.2;generalize W.setCell ⟨H8,0,none⟩ (vI (Wg.bl (E x p q) (E (x+1) p q) fx g.ce))=w9 at *
      rw [show Wg.bl (E x p q) (E (x+1) p q) fx g.ce=rwE E x fx g.ce y q from by rw [show p=y by have:=HP.out;omega];rfl] at HX
      clear h2 hHeld fz cz q8
      refine rD ?_
      go_wp2_with fail
      exact ⟨⟨1,rfl,HS.out,Q.out,.inr (.inl ⟨rfl,HX.out⟩)⟩,by simp only [intOf];omega⟩
     subst hO hQ hA hSS;have d0:=Q8.out.cell 0 _ rfl
     refine wpAnyH_ready (rs:=[3,14]) (by kernel_rfl) (by simp) ?_
     refine aC (fun K hK=>?_) (aC (fun K hK=>?_) AllReadyH.nil)
     ·go_simp
      exact AbB
     ·go_simp
      refine (HEL.out _ hHeld.1.B _ _ _ ⟨by omega,ko⟩ kp kq).mono ?_;rintro e2 W2 ⟨rfl,hB⟩
      go_wp2_with fail
      have q8:=Q8.out.below hB;have d1:=q8.cell 0 _ rfl
      exact AbC
    ·simp only [Int.add_zero,Int.natCast_zero,Int.natCast_one,Int.cast_ofNat_Int] at up
     obtain ⟨k0,k1,k2,k3,k4,k5,k6,k7,k8⟩:=gd9 (HGB.out _ HS.out)
     go_wp2_with fail
     refine (HEL.out _ HS.out.B _ _ _ kx kp kq).mono ?_;rintro e' w5 ⟨rfl,hB⟩
     replace HS:=hid (HS.out.below hB);replace Q:=hid (Q.out.below hB);replace Q8:=hid (Q8.out.below hB);clear hB k0 k1 k2 k3 k4 k5 k6 k7 k8;have c0':=Q8.out.cell 0 _ rfl;have c1':=Q8.out.cell 1 _ rfl;have f8:=Q8.out.fr
     rw [hc0 trivial] at Q8
     go_upto_region 13 with fail
     replace HS:=hid (HS.out.set H8 1 r8 (vI (E x p q)));replace Q:=hid (Q.out.other H8 1 (vI (E x p q)) n8);replace Q8:=hid (show Has _ H8 (lz2 (rwE E x fx g.ce y q) (E x p q)) from Q8.out.set 1 (vI (E x p q)) (by simp));clear c0' c1' f8;generalize w5.setCell ⟨H8,1,none⟩ (vI (E x p q))=w6 at *
     by_cases hfx:0<fx
     rotate_left
     ·have HR:=hid (show E x p q=rwE E x fx g.ce p q from by unfold rwE;rw [show fx=0 by omega,bl_0])
      have hpy:=HP.out
      rw [HR.out] at Q8
      go_wp2_with fail
      go_roundw
      case rel=>rw [show p=y+1 by omega] at Q8;exact ⟨2,rfl,HS.out,Q.out,.inr (.inr ⟨rfl,hy,Q8.out⟩)⟩
      case measure=>exact zMs
     have ko:=kx1 (by omega)
     go_wp2_with fail
     refine rS (fun W=>BoxS w 2 [g.cells,(lz2 px py)] W∧Has W H6 (lz2 a0 0)) 21 ⟨HS.out.drew,Q.out.drew⟩ (fun hHeld=>?_)
     replace Q8:=hid Q8.out.drew;have FA:=fun W (h:BoxS w 2 [g.cells,(lz2 px py)] W∧Has W H6 (lz2 a0 0))=>gd9 (HGB.out W h.1)
     iterate 3 refine rQx [3] ?_
     refine rFx [3] ?_
     iterate 11 refine rQx [3] ?_
     refine rFx [3] ?_
     refine Be ?_
     intro OPS QQ A0 SS hO hQ hA hSS
     have stB:Hid (∀ (W:World) (q8:Has W H8 (lz2 (rwE E x fx g.ce y q) (E x p q))),SS W→wpAnyH Tryz.prog .any OPS QQ SS 3 #[b1,b1,b1,b1,b1,b1,b1,b1,b1,b1,b1,b1,b1,b1,b1,b1,b1,b1,b0,b0,b0] ((A0.put (some 95) (vI (E x p q))).put (some 106) (vI (E (x+1) p q))) W):=by
      subst hO hQ hA hSS
      refine hid ?_
      intro W q8 hHeld
      (try simp only [Act.put,pa,pb,pc])
      refine rEk ?_
      intro K hK
      refine (HBT.out (E x p q) (E (x+1) p q) fx g.ce (HEB.out _ _ _) (HEB.out _ _ _) kfx kc _).mono ?_;rintro e2 wy ⟨rfl,rfl⟩
      go_wp2_with fail
      refine rEt hK hHeld ?_
      clear hK K
      intro _
      refine rQ ?_
      have fz:=q8.fr;have cz:=q8.cell 1 _ rfl
      refine rEk ?_
      intro K hK
      refine rEt hK ⟨hHeld.1.set H8 1 r8 (vI (Wg.bl (E x p q) (E (x+1) p q) fx g.ce)),hHeld.2.other H8 1 (vI (Wg.bl (E x p q) (E (x+1) p q) fx g.ce)) n8⟩ ?_
      clear hK K
      intro h2
      have HX:=hid (show Has _ H8 (lz2 (rwE E x fx g.ce y q) (Wg.bl (E x p q) (E (x+1) p q) fx g.ce)) from q8.set 1 (vI (Wg.bl (E x p q) (E (x+1) p q) fx g.ce)) (by simp));replace HS:=hid h2.1;replace Q:=hid h2.2;generalize W.setCell ⟨H8,1,none⟩ (vI (Wg.bl (E x p q) (E (x+1) p q) fx g.ce))=w9 at *
      rw [show Wg.bl (E x p q) (E (x+1) p q) fx g.ce=rwE E x fx g.ce (y+1) q from by rw [show p=y+1 by have:=HP.out;omega];rfl] at HX
      clear h2 hHeld fz cz q8
      refine rD ?_
      go_wp2_with fail
      exact ⟨⟨2,rfl,HS.out,Q.out,.inr (.inr ⟨rfl,hy,HX.out⟩)⟩,by simp only [intOf];omega⟩
     subst hO hQ hA hSS;have d0:=Q8.out.cell 1 _ rfl
     refine wpAnyH_ready (rs:=[3,14]) (by kernel_rfl) (by simp) ?_
     refine aC (fun K hK=>?_) (aC (fun K hK=>?_) AllReadyH.nil)
     ·go_simp
      exact AbB
     ·go_simp
      refine (HEL.out _ hHeld.1.B _ _ _ ⟨by omega,ko⟩ kp kq).mono ?_;rintro e2 W2 ⟨rfl,hB⟩
      go_wp2_with fail
      have q8:=Q8.out.below hB;have d1:=q8.cell 1 _ rfl
      exact AbC
   case rest =>
   obtain ⟨r1,hs,hq6,h8,hr1⟩:=hcut;replace HS:=hid hs;replace Q:=hid hq6;replace Q8:=hid h8;clear hs hq6 h8;have c0':=Q.out.cell 0 _ rfl;have c1':=Q.out.cell 1 _ rfl;have f6:=Q.out.fr;have d0:=Q8.out.cell 0 _ rfl;obtain ⟨Lf,cv,ha,h6⟩:=HAV.out _ Q.out;replace Q:=hid h6;have HA:=hid ha;have a1:=HA.out _ _ Q.out HS.out;have c0':=a1.1;have f6:=Q.out.fr;have d0:=Q8.out.cell 0 _ rfl;clear h6 ha
   go_upto_region 16 with fail
   obtain ⟨b1,b2,b3⟩:=a1.2.1 (rwE E x fx g.ce y q);replace Q:=hid b1;replace HS:=hid b2;replace Q8:=hid (b3 _ _ Q8.out (Ne.symm n8));clear a1 c0' f6 d0 b1 b2 b3
   by_cases hfy:0<fy
   rotate_left
   ·have hpl:rwE E x fx g.ce y q=Jz E x fx y fy g.ce q:=by unfold Jz;rw [show fy=0 by omega,bl_0]
    have HE:=hid ((HA.out _ _ Q.out HS.out).2.2 hpl);clear hpl
    go_wp2_with fail
    go_roundw
    case rel=>exact HE.out
    case measure=>exact zMs
   have hpl:Wg.bl (rwE E x fx g.ce y q) r1 fy g.ce=Jz E x fx y fy g.ce q:=by rw [hr1 hfy];rfl
   have a2:=HA.out _ _ Q.out HS.out;obtain ⟨b1,b2,-⟩:=a2.2.1 (Wg.bl (rwE E x fx g.ce y q) r1 fy g.ce);have HE:=hid ((HA.out _ _ b1 b2).2.2 hpl);have c0':=a2.1;have f6:=Q.out.fr;have d0:=Q8.out.cell 0 _ rfl;have d1:=Q8.out.cell 1 _ rfl;have g1:=(HGB.out _ HS.out).cell 2 _ rfl;have k5:=YH (c:=g.ce) (y:=y) (z:=q) (x:=x) HEB.out kfx
   have k6 : -5000<=r1∧r1<=5000:=by rw [hr1 hfy];exact YH HEB.out kfx
   clear hpl a2 b1 b2 HS Q Q8 hr1
   go_wp2_with fail
   refine (HBT.out _ r1 fy g.ce k5 k6 kfy kc _).mono ?_;rintro e' wy ⟨rfl,rfl⟩
   go_wp2_with fail
   go_roundw
   case rel=>exact HE.out
   case measure=>exact zMs
 case rest =>
 obtain ⟨a1,hs,h6,h1⟩:=hcut;have HB:=hid hs.B;have d0:=h6.cell 0 _ rfl;have d1:=h6.cell 1 _ rfl;have k5:=AdH (c:=g.ce) (z:=(zn:Int)) (x:=x) (y:=y) HEB.out kfx kfy;clear hs h6
 by_cases hz:0<fz
 rotate_left
 ·have HR:=hid (show Jz E x fx y fy g.ce zn=V by rw [HV.out];exact (show fz=0 by omega) ▸ bl_0.symm)
  go_wp2_with fail
  go_ret
  exact ⟨Af HR.out,HB.out⟩
 have k6 : -5000<=a1∧a1<=5000:=by rw [h1 hz];exact AdH HEB.out kfx kfy
 have HR:=hid (show Wg.bl (Jz E x fx y fy g.ce zn) a1 fz cz=V by rw [HV.out,h1 hz];rfl);clear h1
 go_wp2_with fail
 refine (HBT.out _ a1 fz cz k5 k6 kfz kcz _).mono ?_;rintro e' wy ⟨rfl,rfl⟩
 go_wp2_with fail
 go_ret
 exact ⟨Af HR.out,HB.out⟩
theorem rAt (g:Grd) (px py alt:Int) (w:World) (hl:g.lies w) (hok:g.ok) (hE:gdE g=0) (hp:ptB px py=true) (ha:inB alt (-200000) 6000000=true):Calls Tryz.prog 24 #[.agg g.cells.toArray,.agg #[vI px,vI py],vI alt] w fun e' w'=>e'=.returned (.tuple #[.agg #[vI (gAt g (elE g) px py alt),vI (gAt g (elN g) px py alt)],vI (gAt g (elD g) px py alt),vI 0])∧Below w.heap.size w w':=by
 have HS:=hid ((Dt w g.cells.toArray #[vI px,vI py] 31 28).alloc (.cells #[vI 0,vI 0] 62));have Q:=hid (show Has _ (w.heap.size+1+1) (lz2 0 0) from (OH w g.cells.toArray #[vI px,vI py] #[vI 0,vI 0] 31 28 62).has 2 _ rfl);have HC:=hid (fun W hB=>K8 g W (hl.below (w':=W) hB) hok)
 rw [hE] at HC
 have HP:=hid (fun W=>Tn px py W)
 simp only [show (inB px (-2000000) 2000000 && inB py (-2000000) 2000000)=true from hp] at HP
 have hpb:=Eg.1 hp;have hab:=Al.1 ha;have G:=Ez hE;have HV1:=hid (fun W (h:Below w.heap.size w W)=>(show elP g 1=elE g from if_pos rfl) ▸ QX g 1 px py alt W G (hl.below h) hok (.inl rfl) hpb hab);have HV2:=hid (fun W (h:Below w.heap.size w W)=>(show elP g 2=elN g from by unfold elP;simp) ▸ QX g 2 px py alt W G (hl.below h) hok (.inr (.inl rfl)) hpb hab);have HV3:=hid (fun W (h:Below w.heap.size w W)=>(show elP g 3=elD g from by unfold elP;simp) ▸ QX g 3 px py alt W G (hl.below h) hok (.inr (.inr rfl)) hpb hab);generalize gAt g (elE g) px py alt=v1 at *;generalize gAt g (elN g) px py alt=v2 at *;generalize gAt g (elD g) px py alt=v3 at *;have HGB:=hid (fun W (h:BoxS w 2 [g.cells,(lz2 px py)] W)=>And.intro ((h.has 1 _ rfl).cell 0 _ rfl) (And.intro ((h.has 1 _ rfl).cell 1 _ rfl) (gd9 (show Has W w.heap.size g.cells from h.has 0 _ rfl))))
 show Calls _ _ #[.agg #[vI g.cx,vI g.cy,vI g.ce,vI g.nx,vI g.ny,.slice g.sal.A g.sal.n g.sal.c,.slice g.swi.A g.swi.n g.swi.c,.slice g.sde.A g.sde.n g.sde.c,vI g.er],.agg #[vI px,vI py],vI alt] _ _
 clear hl hok hE hp ha G
 go_enter Tryz.func24,Tryz.ntmps24
 obtain ⟨p0,p1,k0,k1,k2,k3,k4,k5,k6,k7,k8⟩:=HGB.out _ HS.out
 go_wp2_with fail
 refine (HC.out _ HS.out.B).mono ?_;rintro e' w1 ⟨rfl,hB⟩
 replace HS:=hid (HS.out.below hB);replace Q:=hid (Q.out.below hB);clear hB p0 p1 k0 k1 k2 k3 k4 k5 k6 k7 k8;obtain ⟨p0,p1,k0,k1,k2,k3,k4,k5,k6,k7,k8⟩:=HGB.out _ HS.out
 go_wp2_with fail
 refine (HP.out _).mono ?_;rintro e' w2 ⟨rfl,hB⟩
 replace HS:=hid (HS.out.below hB);replace Q:=hid (Q.out.below hB);clear hB p0 p1 k0 k1 k2 k3 k4 k5 k6 k7 k8
 go_wp2_with fail
 refine rS (fun W=>BoxS w 2 [g.cells,(lz2 px py)] W) 16 HS.out.drew (fun hHeld=>?_)
 replace Q:=hid Q.out.drew;have FA:=fun W (h:BoxS w 2 [g.cells,(lz2 px py)] W)=>HGB.out W h
 iterate 3 ((iterate 2 (refine rF ?_));refine rQ ?_)
 refine rEk ?_
 intro K hK
 refine (HV1.out _ hHeld.B).mono ?_;rintro e2 x1 ⟨rfl,hB⟩
 go_wp2_with fail
 replace Q:=hid (Q.out.below hB)
 refine rEt hK (hHeld.below hB) ?_
 clear hK K hHeld hB
 intro hHeld
 refine rEk ?_
 intro K hK
 refine (HV2.out _ hHeld.B).mono ?_;rintro e2 x2 ⟨rfl,hB⟩
 go_wp2_with fail
 replace Q:=hid (Q.out.below hB)
 refine rEt hK (hHeld.below hB) ?_
 clear hK K hHeld hB
 intro hHeld
 refine rQ ?_
 refine rEk ?_
 intro K hK
 refine (HV3.out _ hHeld.B).mono ?_;rintro e2 x3 ⟨rfl,hB⟩
 go_wp2_with fail
 replace Q:=hid (Q.out.below hB)
 refine rEt hK (hHeld.below hB) ?_
 clear hK K hHeld hB
 intro hHeld
 have f0:=Q.out.fr;have c0:=Q.out.cell 0 _ rfl;have c1:=Q.out.cell 1 _ rfl;have hX:=(Q.out.set 0 (vI v1) (by simp)).set 1 (vI v2) (by simp);have q0:=hX.cell 0 _ rfl;have q1:=hX.cell 1 _ rfl;clear hX
 refine rEk ?_
 intro K hK
 refine rEt hK ((hHeld.set (w.heap.size+1+1) 0 (by omega) (vI v1)).set (w.heap.size+1+1) 1 (by omega) (vI v2)) ?_
 clear hK K hHeld
 intro hHeld
 iterate 2 refine rQ ?_
 refine rD ?_
 go_wp2_with fail
 exact bodyPost_ret (v:=.tuple #[.agg #[vI v1,vI v2],vI v3,vI 0]) (by simp [results,Tryz.results24,go_sem,q0,q1]) rfl ⟨rfl,hHeld.B⟩
