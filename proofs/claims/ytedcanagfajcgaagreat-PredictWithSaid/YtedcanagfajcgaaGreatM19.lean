/- M19: Gd2, Gd3 in one text. -/
import Derived.Test.YtedcanagfajcgaaGreatGd1
import Derived.Test.YtedcanagfajcgaaGreatM32
import Derived.Laws.EntriesVeiled
set_option linter.unusedSimpArgs false
set_option linter.unusedVariables false
set_option maxRecDepth 100000
set_option maxHeartbeats 2000000
namespace Go.Proofs
theorem Abk{G:Prop}(h:G:=by
  have n2:(((n - 1:Nat):Int) == 0)=false:=by simp;omega
  have X1:=hid x1;have X2:=hid x2;have X3:=hid x3;have y1:W1.cell? ⟨b,off+i,none⟩=some (vI (F i)):=HY.out i (by omega)
  have j0:(0:Int)<=(i:Int):=by omega
  have j1:(i:Int)<(n:Int):=by omega
  have t2:=iW ((i:Int)+1)
  have t3:(0:Int)<=(i:Int)+1:=by omega
  have t4:((i:Int)+1).toNat=i+1:=by omega
  have t5:=iW (AA - F i);have t6:=iW (F (i+1) - F i);clear x1 x2 x3 n1 fi fi1
  go_wp2_with fail
  go_region_held3 (fun W=>W.cell? ⟨b,off+i,none⟩=some (vI (F i))∧W.cell? ⟨b,off+(i+1),none⟩=some (vI (F (i+1)))) ((refine ⟨?_,?_⟩ <;> ((try simp only [World.cell?_drew]);(repeat rw [World.cell?_setCell_other _ _ _ _ (by intro e;injection e with e;omega)]);assumption))) (fail)
  go_wp2_with fail
  exact bodyPost_ret (v:=.agg #[vI (i:Int),vI (AA - F i),vI (F (i+1) - F i)]) (by simp [results,Tryz.results57,go_sem,r0,r1,r2]) rfl ⟨Px (by rw [X1.out]) X2.out.symm X3.out.symm,(by repeat (first | exact HB.out | apply Below.drew | apply Ag | refine Below.setCell ?_ (by simp) _))⟩):G:=h
end Go.Proofs
namespace Go.Proofs.YtedcanagfajcgaaGreat
open Go.RowKit
open Go.Lib (hid)
theorem JK {l:List Int} (h:∀ x ∈ l,-200000<=x∧x<=6000000) (i:Nat) : -200000<=l.getD i 0∧l.getD i 0<=6000000:=by
 rw [Dp]
 cases hx:l[i]? with
 | none=>exact ⟨by decide,by decide⟩
 | some x=>exact h x (Au hx)
def Adv (F:Nat→Int) (a:Int) (n:Nat) (t:Value):Prop:=∃ i:Nat,i+1<=n∧t=vI i∧(∀ k,k<i→F (k+1)<=a)∧(i=0∨i+2<=n)
theorem RA (A:Option Addr) (n c:Nat) (l:List Int) (alt:Int) (w:World) (hl:Ints w A n l) (hn:1<=n∧n<=8) (hb:∀ x ∈ l,-200000<=x∧x<=6000000) (ha : -200000<=alt∧alt<=6000000):Calls Tryz.prog 57 #[.slice A n c,vI alt] w fun e' w'=>e'=.returned (.agg #[vI (Wg.lI l alt:Nat),vI (Wg.lF l alt),vI (Wg.lC l alt)])∧Below w.heap.size w w':=by
 obtain ⟨b,off,rfl,hb0,hc⟩:=hl.cells (by omega);obtain ⟨F,hF⟩:∃ F:Nat→Int,∀ i,F i=l.getD i 0:=⟨fun i=>l.getD i 0,fun _=>rfl⟩;have HFF:=hid hF
 have HG:=hid (show ∀ (W:World) (_:Below w.heap.size w W) (i:Nat),i<n→W.cell? ⟨b,off+i,none⟩=some (vI (F i)) from fun W hB i hi=>by
  obtain ⟨x,hx⟩:=Am hl.len hi
  rw [hF,Ah hx]
  exact (hB.cell (p:=⟨b,off+i,none⟩) hb0).trans (hc i x hx))
 have hA0:min (max alt (F 0)) (F (n - 1))=Wg.lA l alt:=by rw [hF,hF,← hl.len];rfl
 have b0:=JK hb 0;have b1:=JK hb (n - 1);have HBB:=hid (show ∀ i,-200000<=F i∧F i<=6000000 from fun i=>by rw [hF];exact JK hb i)
 have HLI:=hid (show ∀ j:Nat,(∀ k,k<j→F (k+1)<=Wg.lA l alt)→(j=0∨j+2<=n)→(n<=j+2∨Wg.lA l alt<F (j+1))→Wg.lI l alt=j∧Wg.lF l alt=(if n=1 then 0 else Wg.lA l alt - F j)∧Wg.lC l alt=(if n=1 then 1 else F (j+1) - F j) from fun j h0 h1 h2=>by
  have e:=Wg.lev_eq l (Wg.lA l alt) j (fun k hk=>by rw [← hF];exact h0 k hk) (by rw [hl.len];exact h1) (by rw [hl.len,← hF];exact h2);have e2:Wg.lI l alt=j:=e
  refine ⟨e2,?_,?_⟩
  ·unfold Wg.lF;rw [hl.len,e2,← hF]
  ·unfold Wg.lC;rw [hl.len,e2,← hF,← hF])
 rw [← hF] at b0 b1
 have hA : -200000<=Wg.lA l alt∧Wg.lA l alt<=6000000:=by rw [← hA0];omega
 clear hl hb hc hF;generalize Wg.lA l alt=AA at *;generalize Wg.lI l alt=LI at *;generalize Wg.lF l alt=LF at *;generalize Wg.lC l alt=LC at *;have HA0:=hid hA0;clear hA0
 have s1:IntKind.i64.wrap ((n:Int) - 1)=((n - 1:Nat):Int):=by rw [(iW _)];omega
 have z0:∀ (o:Obj) m,((w.alloc o).drewN m).cell? ⟨b,off,none⟩=some (vI (F 0)):=fun o m=>HG.out _ (Ag (Aa w o) m) 0 (by omega);have z1:∀ (o:Obj) m,((w.alloc o).drewN m).cell? ⟨b,off+(n - 1),none⟩=some (vI (F (n - 1))):=fun o m=>HG.out _ (Ag (Aa w o) m) (n - 1) (by omega)
 have i0:(0:Int)<=((n - 1:Nat):Int):=by omega
 have i1:((n - 1:Nat):Int)<(n:Int):=by omega
 have i2:(0:Int)<(n:Int):=by omega
 go_enter Tryz.func57,Tryz.ntmps57
 go_wp2_with fail
 go_quiet (fail)
 simp only [HA0.out]
 clear z0 z1 i2;have R:Hid (Has ((w.alloc (.cells #[vI 0,vI 0,vI 0] 114)).drewN nq) w.heap.size (lz3 0 0 0)):=hid ((Has.new w _ _).below (Ag (AJ _ _) nq));have HB:=hid (Ag (Aa w (.cells #[vI 0,vI 0,vI 0] 114)) nq);generalize (w.alloc (.cells #[vI 0,vI 0,vI 0] 114)).drewN nq=W1 at *;have r0:W1.cell? ⟨w.heap.size,0,none⟩=some (vI 0):=R.out.cell 0 _ rfl;have r1:W1.cell? ⟨w.heap.size,1,none⟩=some (vI 0):=R.out.cell 1 _ rfl;have r2:W1.cell? ⟨w.heap.size,2,none⟩=some (vI 0):=R.out.cell 2 _ rfl;have rf:∀ o,W1.frozen? ⟨w.heap.size,o,none⟩=false:=R.out.fr
 go_wp2_with fail
 go_loop [6] (fun t=>Adv F AA n t) (fun t=>n - (intOf t).toNat)
 case atStart=>exact ⟨0,by omega,rfl,fun k hk=>by omega,.inl rfl⟩
 case round =>
  obtain ⟨i,hi,rfl,hk,hj⟩:=hrel;have HK:=hid hk;have HJ:=hid hj;clear hk hj;have HY:=hid (fun j (h:j<n)=>HG.out W1 HB.out j h);have t1:=iW (((n - 1:Nat):Int) - 1);have fi:=HBB.out i;have fi1:=HBB.out (i+1)
  by_cases h1:i+2<n
  ·have g1:(i:Int)<((n - 1:Nat):Int) - 1:=by omega
   have y2:W1.cell? ⟨b,off+(i+1),none⟩=some (vI (F (i+1))):=HY.out (i+1) (by omega)
   have i3:(i:Int)+1<(n:Int):=by omega
   by_cases h2:F (i+1)<=AA
   ·go_wp2_with fail
    go_round
    case rel=>exact ⟨i+1,by omega,by go_num,fun k hk=>by
     by_cases e:k=i
     ·subst e;exact h2
     ·exact HK.out k (by omega),.inr (by omega)⟩
    case measure=>exact zMs
   ·obtain ⟨x1,x2,x3⟩:=HLI.out i HK.out HJ.out (.inr (by omega))
    have n1:¬ n=1:=by omega
    rw [if_neg n1] at x2 x3
    exact Abk
  ·have g1:¬ (i:Int)<((n - 1:Nat):Int) - 1:=by omega
   obtain ⟨x1,x2,x3⟩:=HLI.out i HK.out HJ.out (.inl (by omega))
   by_cases n1:n=1
   ·rw [if_pos n1] at x2 x3
    have i00:i=0:=by omega
    have X1:=hid x1;have X2:=hid x2;have X3:=hid x3
    have n2:(((n - 1:Nat):Int) == 0)=true:=by simp;omega
    have I00:=hid i00;clear x1 x2 x3 n1 i00
    go_wp2_with fail
    exact bodyPost_ret (v:=.agg #[vI 0,vI 0,vI 1]) (by simp [results,Tryz.results57,go_sem,r0,r1,r2]) rfl ⟨Px (by rw [X1.out,I00.out];rfl) X2.out.symm X3.out.symm,(by repeat (first | exact HB.out | apply Below.drew | apply Ag | refine Below.setCell ?_ (by simp) _))⟩
   ·rw [if_neg n1] at x2 x3
    have y2:W1.cell? ⟨b,off+(i+1),none⟩=some (vI (F (i+1))):=HY.out (i+1) (by have:=HJ.out;omega)
    have i3:(i:Int)+1<(n:Int):=by have:=HJ.out;omega
    exact Abk
theorem Aa7 {W:World} {b:Nat} {i f c:Int} (h:Has W b (lz3 i f c)):W.cell? ⟨b,0,none⟩=some (vI i)∧W.cell? ⟨b,1,none⟩=some (vI f)∧W.cell? ⟨b,2,none⟩=some (vI c):=⟨h.cell 0 _ rfl,h.cell 1 _ rfl,h.cell 2 _ rfl⟩
theorem RY {d f c:Int} (hd : -10000<=d∧d<=10000) (hf:0<=f∧f<=c) (hc:1<=c∧c<=40000000):(-400000000000<=d * f∧d * f<=400000000000) ∧ -400000000000<=d * f / c∧d * f / c<=400000000000:=by
 have a1:=CR hd.1 hf.1;have a2:=CR hd.2 hf.1;have b1 : -400000000000<=d * f / c:=(Int.le_ediv_iff_mul_le (by omega)).2 (by omega);have b2:d * f / c<400000000001:=(Int.ediv_lt_iff_lt_mul (by omega)).2 (by omega)
 omega
theorem Rt (F:FuncId) (lb:Array Value) (i f c:Int) (E:Int→Int) (w:World) (eg:(∀ args w,(callFunc F args).run Tryz.prog w=.ok (.enter F args) w))
  (hF:∀ (W:World) (k:Int),Below w.heap.size w W→(k=i∨(f≠0∧k=i+1))→Calls Tryz.prog F (#[vI k] ++ lb) W fun e' w'=>e'=.returned (vI (E k))∧Below W.heap.size W w')
  (hE:∀ k,-5000<=E k∧E k<=5000) (hi:0<=i∧i<=2048) (hf:0<=f∧f<=c) (hc:1<=c∧c<=40000000) :
  Calls Tryz.prog 59 #[.agg #[vI i,vI f,vI c],.func (.func F) #[] lb] w fun e' w'=>e'=.returned (vI (Wg.bl (E i) (E (i+1)) f c))∧Below w.heap.size w w':=by
 have HF:=hid hF;obtain ⟨u0,u1⟩:=hE i;obtain ⟨v0,v1⟩:=hE (i+1);clear hF
 by_cases hf0:f=0
 ·have HV:=hid (show Wg.bl (E i) (E (i+1)) f c=E i from if_pos hf0)
  have f0:(f == 0)=true:=by simp [hf0]
  have HF0:=hid (fun W hB=>HF.out W i hB (.inl rfl));generalize E i=U at *;generalize E (i+1)=V at *;clear hE hf0
  go_enter Tryz.func59,Tryz.ntmps59
  go_wp2_with fail
  refine (HF0.out _ (Aa w _)).mono ?_;rintro e' w1 ⟨rfl,hB⟩
  have KS:Hid (Has w1 w.heap.size (lz3 i f c)):=hid ((Has.new w #[vI i,vI f,vI c] 114).below hB);have HB:=hid (Ap hB);clear hB;have k1:w1.cell? ⟨w.heap.size,1,none⟩=some (vI f):=KS.out.cell 1 _ rfl
  go_wp2_with fail
  go_ret
  exact ⟨Af HV.out.symm,HB.out⟩
 have HV:=hid (show Wg.bl (E i) (E (i+1)) f c=E i+(E (i+1) - E i) * f / c from if_neg hf0)
 have f0:(f == 0)=false:=by simp [hf0]
 have HF0:=hid (fun W hB=>HF.out W i hB (.inl rfl));have HF1:=hid (fun W hB=>HF.out W (i+1) hB (.inr ⟨hf0,rfl⟩));generalize E i=U at *;generalize E (i+1)=V at *;clear hE hf0 HF;obtain ⟨⟨p0,p1⟩,q0,q1⟩:=RY (d:=V - U) (f:=f) (c:=c) (by omega) hf hc
 have HFL:=hid (show ∀ W,Calls Tryz.prog 126 #[vI ((V - U) * f),vI c] W fun e' w'=>e'=.returned (.tuple #[vI ((V - U) * f / c),vI 0])∧∃ n,w'=W.drewN n from fun W=>by
  have h:=xFloor ((V - U) * f) c (by unfold I64;omega) (by unfold I64;omega) W
  rw [(AfT ((V - U) * f) c (by omega) (by omega) (by omega)).1,(AfT ((V - U) * f) c (by omega) (by omega) (by omega)).2] at h
  exact h)
 obtain ⟨i0,i1⟩:=hi;have z1:=iW (i+1);have z2:=iW (V - U);have z3:=iW ((V - U) * f);generalize hQ:(V - U) * f / c=Q at *;clear hQ
 go_enter Tryz.func59,Tryz.ntmps59
 go_wp2_with fail
 refine (HF0.out _ (Aa w _)).mono ?_;rintro e' w1 ⟨rfl,hB⟩
 have KS:Hid (Has w1 w.heap.size (lz3 i f c)):=hid ((Has.new w #[vI i,vI f,vI c] 114).below hB);have HB:Hid (Below w.heap.size w w1):=hid (Ap hB);clear hB;have k0:w1.cell? ⟨w.heap.size,0,none⟩=some (vI i):=KS.out.cell 0 _ rfl;have k1:w1.cell? ⟨w.heap.size,1,none⟩=some (vI f):=KS.out.cell 1 _ rfl;have k2:w1.cell? ⟨w.heap.size,2,none⟩=some (vI c):=KS.out.cell 2 _ rfl
 go_wp2_with fail
 clear k0 k1 k2
 go_region_held3 (fun W=>W.cell? ⟨w.heap.size,0,none⟩=some (vI i)∧W.cell? ⟨w.heap.size,1,none⟩=some (vI f)∧W.cell? ⟨w.heap.size,2,none⟩=some (vI c)) ((first | exact Aa7 (Hid.out (by assumption)) | exact Aa7 (Has.drew (Hid.out (by assumption))))) ((first | (go_at_call 126;refine (HFL.out _).mono ?_;rintro e' wx ⟨rfl,qn,rfl⟩;have KS3:=hid (Has.below (Hid.out (by assumption:Hid (Has _ w.heap.size (lz3 i f c)))) (Ag (AJ _ _) qn))) | (refine (HF1.out _ (by first | exact Hid.out (by assumption) | exact Below.drew (Hid.out (by assumption)))).mono ?_;rintro e' wx ⟨rfl,hB⟩;have KS2:Hid (Has wx w.heap.size (lz3 i f c)):=hid (Has.below (by first | exact Hid.out (by assumption) | exact Has.drew (Hid.out (by assumption))) hB);have BB:Hid (Below w.heap.size w wx):=hid (Ae (by first | exact Hid.out (by assumption) | exact Below.drew (Hid.out (by assumption))) hB);clear hB)))
 all_goals (
  go_wp2_with fail
  go_ret
  exact ⟨Af HV.out.symm,Ag BB.out _⟩)
structure AtK (g:Grd) (x fx y fy z fz c cz:Int):Prop where
 G:GrG g
 hx:0<=x∧x<g.nx
 hx1:fx≠0→x+1<g.nx
 hy:0<=y∧y<g.ny
 hy1:fy≠0→y+1<g.ny
 hz:0<=z∧z<g.sal.n
 hz1:fz≠0→z+1<g.sal.n
 fx:0<=fx∧fx<=c
 fy:0<=fy∧fy<=c
 fz:0<=fz∧fz<=cz
 hc:1<=c∧c<=40000000
 hcz:1<=cz∧cz<=40000000
structure AtS (g:Grd) (x fx y fy z fz c cz:Int) (bx by_ bz bg:Nat) (W:World):Prop where
 X:Has W bx (lz3 x fx c)
 Y:Has W by_ (lz3 y fy c)
 Z:Has W bz (lz3 z fz cz)
 G:Has W bg g.cells
 L:g.lies W
theorem AtS.below {g:Grd} {x fx y fy z fz c cz:Int} {bx by_ bz bg:Nat} {W W1:World} (h:AtS g x fx y fy z fz c cz bx by_ bz bg W) (hb:Below W.heap.size W W1):AtS g x fx y fy z fz c cz bx by_ bz bg W1 :=
 ⟨h.X.below hb,h.Y.below hb,h.Z.below hb,h.G.below hb,h.L.below hb⟩
theorem gd9 {W:World} {b:Nat} {g:Grd} (h:Has W b g.cells):W.cell? ⟨b,0,none⟩=some (vI g.cx)∧W.cell? ⟨b,1,none⟩=some (vI g.cy)∧W.cell? ⟨b,2,none⟩=some (vI g.ce)∧W.cell? ⟨b,3,none⟩=some (vI g.nx)∧W.cell? ⟨b,4,none⟩=some (vI g.ny)∧W.cell? ⟨b,5,none⟩=some (.slice g.sal.A g.sal.n g.sal.c)∧W.cell? ⟨b,6,none⟩=some (.slice g.swi.A g.swi.n g.swi.c)∧W.cell? ⟨b,7,none⟩=some (.slice g.sde.A g.sde.n g.sde.c)∧W.cell? ⟨b,8,none⟩=some (vI g.er) :=
 ⟨h.cell 0 _ rfl,h.cell 1 _ rfl,h.cell 2 _ rfl,h.cell 3 _ rfl,h.cell 4 _ rfl,h.cell 5 _ rfl,h.cell 6 _ rfl,h.cell 7 _ rfl,h.cell 8 _ rfl⟩
structure C1S (g:Grd) (x fx y fy z fz c cz:Int) (bx by_ bz bg:Nat) (K:FuncId) (bo b1 b2:Nat) (y1 z1:Int) (W:World):Prop where
 A:AtS g x fx y fy z fz c cz bx by_ bz bg W
 O:Has W bo [.func (.func K) #[] #[.pointer (some ⟨bg,0,none⟩)]]
 Y:Has W b1 [vI y1]
 Z:Has W b2 [vI z1]
section
variable {g:Grd} {x fx y fy z fz c cz:Int} {bx by_ bz bg:Nat} {K:FuncId} {bo b1 b2:Nat} {y1 z1:Int} {W W1:World}
theorem C1S.below (h:C1S g x fx y fy z fz c cz bx by_ bz bg K bo b1 b2 y1 z1 W) (hb:Below W.heap.size W W1):C1S g x fx y fy z fz c cz bx by_ bz bg K bo b1 b2 y1 z1 W1:=⟨h.A.below hb,h.O.below hb,h.Y.below hb,h.Z.below hb⟩
theorem C1S.drew (h:C1S g x fx y fy z fz c cz bx by_ bz bg K bo b1 b2 y1 z1 W):C1S g x fx y fy z fz c cz bx by_ bz bg K bo b1 b2 y1 z1 W.drew:=h.below (AJ _ _).drew
theorem C1S.cells (h:C1S g x fx y fy z fz c cz bx by_ bz bg K bo b1 b2 y1 z1 W):W.cell? ⟨bo,0,none⟩=some (.func (.func K) #[] #[.pointer (some ⟨bg,0,none⟩)])∧W.cell? ⟨b1,0,none⟩=some (vI y1)∧W.cell? ⟨b2,0,none⟩=some (vI z1)∧W.cell? ⟨bg,0,none⟩=some (vI g.cx)∧W.cell? ⟨bg,1,none⟩=some (vI g.cy)∧W.cell? ⟨bg,2,none⟩=some (vI g.ce)∧W.cell? ⟨bg,3,none⟩=some (vI g.nx)∧W.cell? ⟨bg,4,none⟩=some (vI g.ny)∧W.cell? ⟨bg,5,none⟩=some (.slice g.sal.A g.sal.n g.sal.c)∧W.cell? ⟨bg,6,none⟩=some (.slice g.swi.A g.swi.n g.swi.c)∧W.cell? ⟨bg,7,none⟩=some (.slice g.sde.A g.sde.n g.sde.c)∧W.cell? ⟨bg,8,none⟩=some (vI g.er) :=
 ⟨h.O.cell 0 _ rfl,h.Y.cell 0 _ rfl,h.Z.cell 0 _ rfl,gd9 h.A.G⟩
end
theorem Ny {g:Grd} (G:GrG g) {x y z:Int} (h0:0<=x∧x<g.nx) (h1:0<=y∧y<g.ny) (h2:0<=z∧z<g.sal.n):elI g x y z<g.swi.n∧((elI g x y z:Nat):Int)=(z * g.ny+y) * g.nx+x:=by
 obtain ⟨_,_,c0,c1⟩:=Qx G.nx G.ny (n:=(g.sal.n:Int)) (by have:=G.na;omega) h0 h1 h2;have:=G.nw
 unfold elI
 omega
theorem xC1 {g:Grd} {x fx y fy z fz c cz:Int} {bx by_ bz bg:Nat} (K:FuncId) (V:Nat→Int) (kk:AtK g x fx y fy z fz c cz) (eg:(∀ args w,(callFunc K args).run Tryz.prog w=.ok (.enter K args) w)) (hV:∀ k,-5000<=V k∧V k<=5000) (hK:∀ (W:World) (k:Nat),AtS g x fx y fy z fz c cz bx by_ bz bg W→k<g.swi.n→Calls Tryz.prog K #[vI k,.pointer (some ⟨bg,0,none⟩)] W fun e' w'=>e'=.returned (vI (V k))∧Below W.heap.size W w') (x1 y1 z1:Int) (hx:0<=x1∧x1<g.nx) (hy:0<=y1∧y1<g.ny) (hz:0<=z1∧z1<g.sal.n) (bo b1 b2:Nat) (w:World) (hS:C1S g x fx y fy z fz c cz bx by_ bz bg K bo b1 b2 y1 z1 w) :
  Calls Tryz.prog 62 #[vI x1,.pointer (some ⟨bo,0,none⟩),.pointer (some ⟨bg,0,none⟩),.pointer (some ⟨b1,0,none⟩),.pointer (some ⟨b2,0,none⟩)] w fun e' w'=>e'=.returned (vI (V (elI g x1 y1 z1)))∧Below w.heap.size w w':=by
 obtain ⟨l0,l1⟩:=Ny kk.G hx hy hz;have HI:=hid (fun W=>XW g x1 y1 z1 kk.G hx hy hz W)
 rw [← l1] at HI
 have HKK:=hid (fun W (h:C1S g x fx y fy z fz c cz bx by_ bz bg K bo b1 b2 y1 z1 W)=>hK W (elI g x1 y1 z1) h.A l0);have HS:=hid hS;have HB:Hid (Below w.heap.size w w):=hid (AJ _ _);clear kk hV hK hx hy hz hS l1;generalize elI g x1 y1 z1=I at *
 go_enter Tryz.func62,Tryz.ntmps62
 go_wp2_with fail
 go_region_held3 (fun W=>W.cell? ⟨bo,0,none⟩=some (.func (.func K) #[] #[.pointer (some ⟨bg,0,none⟩)])∧W.cell? ⟨b1,0,none⟩=some (vI y1)∧W.cell? ⟨b2,0,none⟩=some (vI z1)∧W.cell? ⟨bg,0,none⟩=some (vI g.cx)∧W.cell? ⟨bg,1,none⟩=some (vI g.cy)∧W.cell? ⟨bg,2,none⟩=some (vI g.ce)∧W.cell? ⟨bg,3,none⟩=some (vI g.nx)∧W.cell? ⟨bg,4,none⟩=some (vI g.ny)∧W.cell? ⟨bg,5,none⟩=some (.slice g.sal.A g.sal.n g.sal.c)∧W.cell? ⟨bg,6,none⟩=some (.slice g.swi.A g.swi.n g.swi.c)∧W.cell? ⟨bg,7,none⟩=some (.slice g.sde.A g.sde.n g.sde.c)∧W.cell? ⟨bg,8,none⟩=some (vI g.er)) ((first | exact C1S.cells (Hid.out (by assumption)) | exact C1S.cells (C1S.drew (Hid.out (by assumption))))) ((first | (go_at_call 63;refine (HI.out _).mono ?_;rintro e' wx ⟨rfl,hB⟩;have KS:Hid (C1S g x fx y fy z fz c cz bx by_ bz bg K bo b1 b2 y1 z1 wx):=hid (C1S.below (by first | exact Hid.out (by assumption) | exact C1S.drew (Hid.out (by assumption))) hB);have BB:Hid (Below w.heap.size w wx):=hid (Ae (by first | exact Hid.out (by assumption) | exact Below.drew (Hid.out (by assumption))) hB);clear hB) | (refine (HKK.out _ (by first | exact Hid.out (by assumption) | exact C1S.drew (Hid.out (by assumption)))).mono ?_;rintro e' wx2 ⟨rfl,hB⟩;have KS2:Hid (C1S g x fx y fy z fz c cz bx by_ bz bg K bo b1 b2 y1 z1 wx2):=hid (C1S.below (by first | exact Hid.out (by assumption) | exact C1S.drew (Hid.out (by assumption))) hB);have BB2:Hid (Below w.heap.size w wx2):=hid (Ae (by first | exact Hid.out (by assumption) | exact Below.drew (Hid.out (by assumption))) hB);clear hB)))
 all_goals (
  go_wp2_with fail
  go_ret
  exact ⟨rfl,BB2.out⟩)
theorem Uo {u v f c:Int} (hu : -5000<=u∧u<=5000) (hv : -5000<=v∧v<=5000) (hf:0<=f∧f<=c) : -5000<=Wg.bl u v f c∧Wg.bl u v f c<=5000:=Wg.bl_bd hu (fun _=>hv) hf.1 hf.2
def rwV (g:Grd) (V:Nat→Int) (x fx c y z:Int):Int:=Wg.bl (V (elI g x y z)) (V (elI g (x+1) y z)) fx c
def plV (g:Grd) (V:Nat→Int) (x fx y fy c z:Int):Int:=Wg.bl (rwV g V x fx c y z) (rwV g V x fx c (y+1) z) fy c
theorem xC2 {g:Grd} {x fx y fy z fz c cz:Int} {bx by_ bz bg:Nat} (K:FuncId) (V:Nat→Int) (kk:AtK g x fx y fy z fz c cz) (eg:(∀ args w,(callFunc K args).run Tryz.prog w=.ok (.enter K args) w)) (hV:∀ k,-5000<=V k∧V k<=5000) (hK:∀ (W:World) (k:Nat),AtS g x fx y fy z fz c cz bx by_ bz bg W→k<g.swi.n→Calls Tryz.prog K #[vI k,.pointer (some ⟨bg,0,none⟩)] W fun e' w'=>e'=.returned (vI (V k))∧Below W.heap.size W w') (y1 z1:Int) (hy:0<=y1∧y1<g.ny) (hz:0<=z1∧z1<g.sal.n) (bo b2:Nat) (w:World) (hA:AtS g x fx y fy z fz c cz bx by_ bz bg w) (hO:Has w bo [.func (.func K) #[] #[.pointer (some ⟨bg,0,none⟩)]]) (hZ:Has w b2 [vI z1]) :
  Calls Tryz.prog 61 #[vI y1,.pointer (some ⟨bx,0,none⟩),.pointer (some ⟨bo,0,none⟩),.pointer (some ⟨bg,0,none⟩),.pointer (some ⟨b2,0,none⟩)] w fun e' w'=>e'=.returned (vI (rwV g V x fx c y1 z1))∧Below w.heap.size w w':=by
 have eg1:=enters_of Tryz.func62 (by kernel_rfl) rfl;have HV:=hid (show rwV g V x fx c y1 z1=Wg.bl (V (elI g x y1 z1)) (V (elI g (x+1) y1 z1)) fx c from rfl);have HBL:=hid (fun W (h:C1S g x fx y fy z fz c cz bx by_ bz bg K bo w.heap.size b2 y1 z1 W)=>Rt 62 #[.pointer (some ⟨bo,0,none⟩),.pointer (some ⟨bg,0,none⟩),.pointer (some ⟨w.heap.size,0,none⟩),.pointer (some ⟨b2,0,none⟩)] x fx c (fun k=>V (elI g k y1 z1)) W eg1 (fun W1 k hB hk=>xC1 K V kk eg hV hK k y1 z1 (by rcases hk with rfl | ⟨h0,rfl⟩;exact kk.hx;have:=kk.hx1 h0;have:=kk.hx;omega) hy hz bo w.heap.size b2 W1 (h.below hB)) (fun k=>hV _) (by have:=kk.hx;have:=kk.G.nx;omega) kk.fx kk.hc);have hS:Hid (C1S g x fx y fy z fz c cz bx by_ bz bg K bo w.heap.size b2 y1 z1 (w.alloc (.cells #[vI y1] 3))):=hid ⟨hA.below (Aa _ _),hO.alloc _,Has.new w _ _,hZ.alloc _⟩;have x0:(w.alloc (.cells #[vI y1] 3)).cell? ⟨bx,0,none⟩=some (vI x):=hS.out.A.X.cell 0 _ rfl;have x1:(w.alloc (.cells #[vI y1] 3)).cell? ⟨bx,1,none⟩=some (vI fx):=hS.out.A.X.cell 1 _ rfl;have x2:(w.alloc (.cells #[vI y1] 3)).cell? ⟨bx,2,none⟩=some (vI c):=hS.out.A.X.cell 2 _ rfl;clear kk hV hK hA hO hZ eg eg1 hy hz;generalize rwV g V x fx c y1 z1=R at *
 go_enter Tryz.func61,Tryz.ntmps61
 go_wp2_with fail
 refine (HBL.out _ hS.out).mono ?_;rintro e' w1 ⟨rfl,hB⟩
 have HB:=hid (Ap hB);clear hB
 go_wp2_with fail
 go_ret
 exact ⟨Af HV.out.symm,HB.out⟩
theorem xC3 {g:Grd} {x fx y fy z fz c cz:Int} {bx by_ bz bg:Nat} (K:FuncId) (V:Nat→Int) (kk:AtK g x fx y fy z fz c cz) (eg:(∀ args w,(callFunc K args).run Tryz.prog w=.ok (.enter K args) w)) (hV:∀ k,-5000<=V k∧V k<=5000) (hK:∀ (W:World) (k:Nat),AtS g x fx y fy z fz c cz bx by_ bz bg W→k<g.swi.n→Calls Tryz.prog K #[vI k,.pointer (some ⟨bg,0,none⟩)] W fun e' w'=>e'=.returned (vI (V k))∧Below W.heap.size W w') (z1:Int) (hz:0<=z1∧z1<g.sal.n) (bo:Nat) (w:World) (hA:AtS g x fx y fy z fz c cz bx by_ bz bg w) (hO:Has w bo [.func (.func K) #[] #[.pointer (some ⟨bg,0,none⟩)]]) :
  Calls Tryz.prog 60 #[vI z1,.pointer (some ⟨by_,0,none⟩),.pointer (some ⟨bx,0,none⟩),.pointer (some ⟨bo,0,none⟩),.pointer (some ⟨bg,0,none⟩)] w fun e' w'=>e'=.returned (vI (plV g V x fx y fy c z1))∧Below w.heap.size w w':=by
 have eg1:=enters_of Tryz.func61 (by kernel_rfl) rfl;have HV:=hid (show plV g V x fx y fy c z1=Wg.bl (rwV g V x fx c y z1) (rwV g V x fx c (y+1) z1) fy c from rfl);have HBL:=hid (fun W (h:AtS g x fx y fy z fz c cz bx by_ bz bg W) (h2:Has W bo [.func (.func K) #[] #[.pointer (some ⟨bg,0,none⟩)]]) (h3:Has W w.heap.size [vI z1])=>Rt 61 #[.pointer (some ⟨bx,0,none⟩),.pointer (some ⟨bo,0,none⟩),.pointer (some ⟨bg,0,none⟩),.pointer (some ⟨w.heap.size,0,none⟩)] y fy c (fun k=>rwV g V x fx c k z1) W eg1 (fun W1 k hB hk=>xC2 K V kk eg hV hK k z1 (by rcases hk with rfl | ⟨h0,rfl⟩;exact kk.hy;have:=kk.hy1 h0;have:=kk.hy;omega) hz bo w.heap.size W1 (h.below hB) (h2.below hB) (h3.below hB)) (fun k=>Uo (hV _) (hV _) kk.fx) (by have:=kk.hy;have:=kk.G.ny;omega) kk.fy kk.hc);have hA2:=hid (hA.below (Aa w (.cells #[vI z1] 3)));have hO2:=hid (hO.alloc (.cells #[vI z1] 3));have hZ2:Hid (Has (w.alloc (.cells #[vI z1] 3)) w.heap.size [vI z1]):=hid (Has.new w _ _);have x0:(w.alloc (.cells #[vI z1] 3)).cell? ⟨by_,0,none⟩=some (vI y):=hA2.out.Y.cell 0 _ rfl;have x1:(w.alloc (.cells #[vI z1] 3)).cell? ⟨by_,1,none⟩=some (vI fy):=hA2.out.Y.cell 1 _ rfl;have x2:(w.alloc (.cells #[vI z1] 3)).cell? ⟨by_,2,none⟩=some (vI c):=hA2.out.Y.cell 2 _ rfl;clear kk hV hK hA hO eg eg1 hz;generalize plV g V x fx y fy c z1=R at *
 go_enter Tryz.func60,Tryz.ntmps60
 go_wp2_with fail
 refine (HBL.out _ hA2.out hO2.out hZ2.out).mono ?_;rintro e' w1 ⟨rfl,hB⟩
 have HB:=hid (Ap hB);clear hB
 go_wp2_with fail
 go_ret
 exact ⟨Af HV.out.symm,HB.out⟩
theorem xC4 {g:Grd} {x fx y fy z fz c cz:Int} {bx by_ bz bg:Nat} (K:FuncId) (V:Nat→Int) (kk:AtK g x fx y fy z fz c cz) (eg:(∀ args w,(callFunc K args).run Tryz.prog w=.ok (.enter K args) w)) (hV:∀ k,-5000<=V k∧V k<=5000) (hK:∀ (W:World) (k:Nat),AtS g x fx y fy z fz c cz bx by_ bz bg W→k<g.swi.n→Calls Tryz.prog K #[vI k,.pointer (some ⟨bg,0,none⟩)] W fun e' w'=>e'=.returned (vI (V k))∧Below W.heap.size W w') (w:World) (hA:AtS g x fx y fy z fz c cz bx by_ bz bg w) :
  Calls Tryz.prog 58 #[.func (.func K) #[] #[.pointer (some ⟨bg,0,none⟩)],.pointer (some ⟨bz,0,none⟩),.pointer (some ⟨by_,0,none⟩),.pointer (some ⟨bx,0,none⟩),.pointer (some ⟨bg,0,none⟩)] w fun e' w'=>e'=.returned (vI (Wg.bl (plV g V x fx y fy c z) (plV g V x fx y fy c (z+1)) fz cz))∧Below w.heap.size w w':=by
 have eg1:=enters_of Tryz.func60 (by kernel_rfl) rfl;have HBL:=hid (fun W (h:AtS g x fx y fy z fz c cz bx by_ bz bg W) (h2:Has W w.heap.size [.func (.func K) #[] #[.pointer (some ⟨bg,0,none⟩)]])=>Rt 60 #[.pointer (some ⟨by_,0,none⟩),.pointer (some ⟨bx,0,none⟩),.pointer (some ⟨w.heap.size,0,none⟩),.pointer (some ⟨bg,0,none⟩)] z fz cz (fun k=>plV g V x fx y fy c k) W eg1 (fun W1 k hB hk=>xC3 K V kk eg hV hK k (by rcases hk with rfl | ⟨h0,rfl⟩;exact kk.hz;have:=kk.hz1 h0;have:=kk.hz;omega) w.heap.size W1 (h.below hB) (h2.below hB)) (fun k=>Uo (Uo (hV _) (hV _) kk.fx) (Uo (hV _) (hV _) kk.fx) kk.fy) (by have:=kk.hz;have:=kk.G.na;omega) kk.fz kk.hcz);have hA2:=hid (hA.below (Aa w (.cells #[.func (.func K) #[] #[.pointer (some ⟨bg,0,none⟩)]] 117)));have hO2:Hid (Has (w.alloc (.cells #[.func (.func K) #[] #[.pointer (some ⟨bg,0,none⟩)]] 117)) w.heap.size [.func (.func K) #[] #[.pointer (some ⟨bg,0,none⟩)]]):=hid (Has.new w _ _);have x0:(w.alloc (.cells #[.func (.func K) #[] #[.pointer (some ⟨bg,0,none⟩)]] 117)).cell? ⟨bz,0,none⟩=some (vI z):=hA2.out.Z.cell 0 _ rfl;have x1:(w.alloc (.cells #[.func (.func K) #[] #[.pointer (some ⟨bg,0,none⟩)]] 117)).cell? ⟨bz,1,none⟩=some (vI fz):=hA2.out.Z.cell 1 _ rfl;have x2:(w.alloc (.cells #[.func (.func K) #[] #[.pointer (some ⟨bg,0,none⟩)]] 117)).cell? ⟨bz,2,none⟩=some (vI cz):=hA2.out.Z.cell 2 _ rfl;clear kk hV hK hA eg eg1;generalize Wg.bl (plV g V x fx y fy c z) (plV g V x fx y fy c (z+1)) fz cz=R at *
 go_enter Tryz.func58,Tryz.ntmps58
 go_wp2_with fail
 refine (HBL.out _ hA2.out hO2.out).mono ?_;rintro e' w1 ⟨rfl,hB⟩
 have HB:=hid (Ap hB);clear hB
 go_wp2_with fail
 go_ret
 exact ⟨rfl,HB.out⟩
