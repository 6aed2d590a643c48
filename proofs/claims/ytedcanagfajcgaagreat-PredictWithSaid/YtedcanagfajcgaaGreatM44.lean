/- M44: RfHu, RfHv, RfPh in one text. -/
import Derived.Test.YtedcanagfajcgaaGreatM43
import Derived.Test.YtedcanagfajcgaaGreatPr3
set_option linter.unusedSimpArgs false
set_option linter.unusedVariables false
set_option maxRecDepth 100000
set_option maxHeartbeats 8000000
namespace Go.Proofs.YtedcanagfajcgaaGreat
open Go.RowKit
open Go.Lib (hid)
def HuR (w:World) (L:List (List Value)) (H:Nat) (E:Int→Int→Int→Int) (x0 y0 z0:Int) (S:Int→Int→Int→Int→Prop) (b e:Int) (t:Value) (wr:World):Prop:=∃ k lo hi:Int,t=vI k∧(b<=k∧k<=e)∧Wg.Seen E x0 y0 z0 (S k) lo hi∧BoxS w 2 L wr∧Has wr H (lz2 lo hi)
def hS1 (x0 x1 y0 y1 z0 k x y z:Int):Prop:=(x0<=x∧x<=x1)∧(y0<=y∧y<=y1)∧z0<=z∧z<k
def hS2 (x0 x1 y0 y1 z0 k j x y z:Int):Prop:=hS1 x0 x1 y0 y1 z0 k x y z∨(x0<=x∧x<=x1)∧(y0<=y∧y<j)∧z=k
def hS3 (x0 x1 y0 y1 z0 k j i x y z:Int):Prop:=hS2 x0 x1 y0 y1 z0 k j x y z∨(x0<=x∧x<i)∧y=j∧z=k
theorem AfB (g:Grd) (p x0 x1 y0 y1 z0 z1:Int) (w:World) (G:GrG g) (hl:g.lies w) (hok:g.ok) (hp:p=1∨p=2∨p=3) (hx:0<=x0∧x0<=x1∧x1<g.nx) (hy:0<=y0∧y0<=y1∧y1<g.ny) (hz:0<=z0∧z0<=z1∧z1<g.sal.n):Calls Tryz.prog 177 #[.agg g.cells.toArray,vI p,vI x0,vI x1,vI y0,vI y1,vI z0,vI z1] w fun e' w'=>e'=.returned (.agg #[vI (Wg.hMn (elP g p) x0 x1 y0 y1 z0 z1),vI (Wg.hMx (elP g p) x0 x1 y0 y1 z0 z1)])∧Below w.heap.size w w':=by
 have HS:=hid (Dt w g.cells.toArray #[vI 0,vI 0] 31 50);have HEL:=hid (fun W (h:Below w.heap.size w W) x y z h0 h1 h2=>Pp g p x y z W G (hl.below h) hok hp h0 h1 h2);have HGB:=hid (fun W (h:BoxS w 2 [g.cells,(lz2 0 0)] W)=>gd9 (show Has W w.heap.size g.cells from h.has 0 _ rfl));have HD:=hid (fun lo hi (h:Wg.Seen (elP g p) x0 y0 z0 (hS1 x0 x1 y0 y1 z0 (z1+1)) lo hi)=>h.done (x1:=x1) (y1:=y1) (z1:=z1) (fun x y z=>by simp only [hS1,hS2,hS3];omega));have nx:=G.nx;have ny:=G.ny;have na:=G.na
 show Calls _ _ #[.agg #[vI g.cx,vI g.cy,vI g.ce,vI g.nx,vI g.ny,.slice g.sal.A g.sal.n g.sal.c,.slice g.swi.A g.swi.n g.swi.c,.slice g.sde.A g.sde.n g.sde.c,vI g.er],vI p,vI x0,vI x1,vI y0,vI y1,vI z0,vI z1] _ _
 clear hl hok hp G;generalize Wg.hMn (elP g p) x0 x1 y0 y1 z0 z1=MN at *;generalize Wg.hMx (elP g p) x0 x1 y0 y1 z0 z1=MX at *;generalize elP g p=E at *
 go_enter Tryz.func177,Tryz.ntmps177
 obtain ⟨k0,k1,k2,k3,k4,k5,k6,k7,k8⟩:=HGB.out _ HS.out
 go_wp2_with fail
 refine (HEL.out _ HS.out.B _ _ _ (by omega) (by omega) (by omega)).mono ?_;rintro e' w1 ⟨rfl,hB⟩
 replace HS:=hid (HS.out.below hB);clear hB k0 k1 k2 k3 k4 k5 k6 k7 k8;have r6:w.heap.size+2<=w1.heap.size:=HS.out.sz;have nQ:=Has.new w1 #[vI 0,vI 0] 50;have d0:=nQ.cell 0 _ rfl;have d1:=nQ.cell 1 _ rfl;have f0:=nQ.fr
 go_upto_region 3 with fail
 have Q:=hid (show Has (w1.alloc (.cells #[vI (E x0 y0 z0),vI (E x0 y0 z0)] 50)) w1.heap.size (lz2 (E x0 y0 z0) (E x0 y0 z0)) from Has.new _ _ _);replace HS:=hid (HS.out.alloc (.cells #[vI (E x0 y0 z0),vI (E x0 y0 z0)] 50));clear d0 d1 f0 nQ;generalize w1.alloc (.cells #[vI (E x0 y0 z0),vI (E x0 y0 z0)] 50)=w2 at *;generalize w1.heap.size=H at *
 go_wp2_with fail
 go_loopw [19] (fun t wr=>HuR w [g.cells,(lz2 0 0)] H E x0 y0 z0 (hS1 x0 x1 y0 y1 z0) z0 (z1+1) t wr) (fun t _=>(z1+1 - intOf t).toNat)
 case atStart=>exact ⟨z0,_,_,rfl,by omega,(Wg.Seen.start E x0 y0 z0).cong (fun x y z=>⟨fun h=>by unfold hS1 at h;omega,fun h=>h.elim⟩),HS.out,Q.out⟩
 case round =>
 clear HS Q;obtain ⟨k,lo,hi,rfl,hk,hs,hb,hq⟩:=hrel;have HE:=hid hs;have HS:=hid hb;have Q:=hid hq;clear hs hb hq
 by_cases hgo:k<=z1
 rotate_left
 ·have HR:=hid (HD.out lo hi (by rw [show z1+1=k by omega];exact HE.out))
  have c0:=Q.out.cell 0 _ rfl;have c1:=Q.out.cell 1 _ rfl;have hR:=show Has wr (w.heap.size+1) (lz2 0 0) from HS.out.has 1 _ rfl;have e0:=hR.cell 0 _ rfl;have e1:=hR.cell 1 _ rfl;have ef:=hR.fr;obtain ⟨rfl,rfl⟩:=HR.out;have hW:=(hR.set 0 (vI lo) (by simp)).set 1 (vI hi) (by simp);have q0:=hW.cell 0 _ rfl;have q1:=hW.cell 1 _ rfl;clear hR hW
  go_wp2_with fail
  exact bodyPost_ret (v:=.agg #[vI lo,vI hi]) (by simp [results,Tryz.results177,go_sem,q0,q1]) rfl ⟨rfl,(HS.out.B.setCell (p:=⟨w.heap.size+1,0,none⟩) (by show w.heap.size<=w.heap.size+1;omega) _).setCell (p:=⟨w.heap.size+1,1,none⟩) (by show w.heap.size<=w.heap.size+1;omega) _⟩
 have u1:=iW (k+1)
 go_wp2_with fail
 go_loopw [20] (fun t wr=>HuR w [g.cells,(lz2 0 0)] H E x0 y0 z0 (hS2 x0 x1 y0 y1 z0 k) y0 (y1+1) t wr) (fun t _=>(y1+1 - intOf t).toNat)
 case atStart=>exact ⟨y0,lo,hi,rfl,by omega,HE.out.cong (fun x y z=>by simp only [hS1,hS2,hS3];omega),HS.out,Q.out⟩
 case round =>
 clear HE HS Q lo hi;obtain ⟨j,lo,hi,rfl,hj,hs,hb,hq⟩:=hrel;have HE:=hid hs;have HS:=hid hb;have Q:=hid hq;clear hs hb hq
 by_cases hgj:j<=y1
 rotate_left
 ·have HN:=hid (HE.out.cong (T:=hS1 x0 x1 y0 y1 z0 (k+1)) (fun x y z=>by simp only [hS1,hS2,hS3];omega))
  go_wp2_with fail
  go_roundw
  case rel=>exact ⟨k+1,lo,hi,rfl,by omega,HN.out,HS.out,Q.out⟩
  case measure=>exact zMs
 have u2:=iW (j+1)
 go_wp2_with fail
 go_loopw [21] (fun t wr=>HuR w [g.cells,(lz2 0 0)] H E x0 y0 z0 (hS3 x0 x1 y0 y1 z0 k j) x0 (x1+1) t wr) (fun t _=>(x1+1 - intOf t).toNat)
 case atStart=>exact ⟨x0,lo,hi,rfl,by omega,HE.out.cong (fun x y z=>by simp only [hS1,hS2,hS3];omega),HS.out,Q.out⟩
 case round =>
 clear HE HS Q lo hi;obtain ⟨i,lo,hi,rfl,hi',hs,hb,hq⟩:=hrel;have HE:=hid hs;have HS:=hid hb;have Q:=hid hq;clear hs hb hq
 by_cases hgi:i<=x1
 rotate_left
 ·have HN:=hid (HE.out.cong (T:=hS2 x0 x1 y0 y1 z0 k (j+1)) (fun x y z=>by simp only [hS1,hS2,hS3];omega))
  go_wp2_with fail
  go_roundw
  case rel=>exact ⟨j+1,lo,hi,rfl,by omega,HN.out,HS.out,Q.out⟩
  case measure=>exact zMs
 have u3:=iW (i+1);have HN:=hid (HE.out.step (T:=hS3 x0 x1 y0 y1 z0 k j (i+1)) (a:=i) (b:=j) (c:=k) (fun x y z=>by simp only [hS1,hS2,hS3];omega));obtain ⟨k0,k1,k2,k3,k4,k5,k6,k7,k8⟩:=HGB.out _ HS.out
 go_wp2_with fail
 refine (HEL.out _ HS.out.B _ _ _ (by omega) (by omega) (by omega)).mono ?_;rintro e' w3 ⟨rfl,hB⟩
 replace HS:=hid (HS.out.below hB);replace Q:=hid (Q.out.below hB);clear hB k0 k1 k2 k3 k4 k5 k6 k7 k8;generalize E i j k=V at *;have c0:=Q.out.cell 0 _ rfl;have c1:=Q.out.cell 1 _ rfl;have f6:=Q.out.fr
 go_wp2_with fail
 exact ⟨⟨i+1,_,_,rfl,by omega,HN.out,(HS.out.set H 0 r6 _).set H 1 r6 _,(Q.out.set 0 _ (by simp)).set 1 _ (by simp)⟩,by simp only [intOf];omega⟩
theorem Ach {E:Int→Int→Int→Int} {B:Int} (h:∀ x y z,-B<=E x y z∧E x y z<=B) (x0 x1 y0 y1 z0 z1:Int):(-B<=Wg.hMn E x0 x1 y0 y1 z0 z1∧Wg.hMn E x0 x1 y0 y1 z0 z1<=B) ∧ -B<=Wg.hMx E x0 x1 y0 y1 z0 z1∧Wg.hMx E x0 x1 y0 y1 z0 z1<=B:=by
 obtain ⟨a1,a2,a3⟩:=Wg.mnL_le (Wg.boxL E x0 x1 y0 y1 z0 z1) (E x0 y0 z0);obtain ⟨b1,b2,b3⟩:=Wg.mxL_ge (Wg.boxL E x0 x1 y0 y1 z0 z1) (E x0 y0 z0)
 constructor
 ·show -B<=Wg.mnL _ _∧Wg.mnL _ _<=B
  rcases a3 with a3 | a3
  ·rw [a3];exact h _ _ _
  ·obtain ⟨x,y,z,-,-,-,e⟩:=Wg.mem_boxL.1 a3
   rw [← e];exact h _ _ _
 ·show -B<=Wg.mxL _ _∧Wg.mxL _ _<=B
  rcases b3 with a3 | a3
  ·rw [a3];exact h _ _ _
  ·obtain ⟨x,y,z,-,-,-,e⟩:=Wg.mem_boxL.1 a3
   rw [← e];exact h _ _ _
def huL (g:Grd) (ax ay bx by_ lo hi:Int):List (List Value):=[g.cells,(lz2 ax ay),(lz2 bx by_),(lz2 lo hi),(lz4 0 0 0 0),(lz2 0 0)]
theorem GI {w W:World} {H b:Nat} {L M:List Value} (h:Below w.heap.size w W∧Has W w.heap.size L∧Has W H M) (hb:w.heap.size<b) (hn:H≠b) (i:Nat) (v:Value):Below w.heap.size w (W.setCell ⟨b,i,none⟩ v)∧Has (W.setCell ⟨b,i,none⟩ v) w.heap.size L∧Has (W.setCell ⟨b,i,none⟩ v) H M :=
 ⟨h.1.setCell (p:=⟨b,i,none⟩) (by show w.heap.size<=b;omega) v,h.2.1.other b i v (by omega),h.2.2.other b i v hn⟩
theorem AfC (g:Grd) (SX SY SFX SFY:Int→Int) (LI:Int→Nat) (LF LC MN MX:Int→Int) (ax ay bx by_ lo hi:Int) (w:World) (h0 : -200000<=lo) (h1:lo<=hi) (h2:hi<=6000000)
  (HC:Hid (∀ W,Below w.heap.size w W→Calls Tryz.prog 74 #[.agg g.cells.toArray] W fun e' w'=>e'=.returned (vI 0)∧Below W.heap.size W w'))
  (HPA:Hid (∀ W,Calls Tryz.prog 76 #[.agg #[vI ax,vI ay]] W fun e' w'=>e'=.returned (.bool true)∧Below W.heap.size W w'))
  (HPB:Hid (∀ W,Calls Tryz.prog 76 #[.agg #[vI bx,vI by_]] W fun e' w'=>e'=.returned (.bool true)∧Below W.heap.size W w'))
  (HX:Hid (∀ x W,(-2000000<=x∧x<=2000000)→Calls Tryz.prog 141 #[vI g.cx,vI g.ce,vI g.nx,vI x] W fun e w'=>e=.returned (.tuple #[vI (SX x),vI (SFX x)])∧W=w'))
  (HY:Hid (∀ x W,(-2000000<=x∧x<=2000000)→Calls Tryz.prog 141 #[vI g.cy,vI g.ce,vI g.ny,vI x] W fun e w'=>e=.returned (.tuple #[vI (SY x),vI (SFY x)])∧W=w'))
  (HZ:Hid (∀ a W,Below w.heap.size w W→(-200000<=a∧a<=6000000)→Calls Tryz.prog 142 #[.slice g.sal.A g.sal.n g.sal.c,vI a] W fun e' w'=>e'=.returned (.tuple #[vI (LI a:Nat),vI (LF a),vI (LC a)])∧Below W.heap.size W w'))
  (HU:Hid (∀ p W,(p=1∨p=2∨p=3)→Below w.heap.size w W→Calls Tryz.prog 177 #[.agg #[vI g.cx,vI g.cy,vI g.ce,vI g.nx,vI g.ny,.slice g.sal.A g.sal.n g.sal.c,.slice g.swi.A g.swi.n g.swi.c,.slice g.sde.A g.sde.n g.sde.c,vI g.er],vI p,vI (SX (min ax bx)),vI (min (SX (max ax bx)+1) (g.nx - 1)),vI (SY (min ay by_)),vI (min (SY (max ay by_)+1) (g.ny - 1)),vI (LI lo),vI (min ((LI hi:Int)+1) (g.sal.n - 1))] W fun e' w'=>e'=.returned (.agg #[vI (MN p),vI (MX p)])∧Below W.heap.size W w'))
  (HM:Hid (∀ p,(-5000<=MN p∧MN p<=5000) ∧ -5000<=MX p∧MX p<=5000)) (her:0<=g.er∧g.er<=60)
  (HSX:Hid (∀ x,0<=SX x∧SX x<g.nx)) (HSY:Hid (∀ x,0<=SY x∧SY x<g.ny)) (HLI:Hid (∀ a,LI a<g.sal.n)) (nx:1<=g.nx∧g.nx<=16) (ny:1<=g.ny∧g.ny<=16) (na:1<=g.sal.n∧g.sal.n<=8)
  (ha:(-2000000<=ax∧ax<=2000000) ∧ -2000000<=ay∧ay<=2000000) (hb:(-2000000<=bx∧bx<=2000000) ∧ -2000000<=by_∧by_<=2000000) :
  Calls Tryz.prog 107 #[.agg #[vI g.cx,vI g.cy,vI g.ce,vI g.nx,vI g.ny,.slice g.sal.A g.sal.n g.sal.c,.slice g.swi.A g.swi.n g.swi.c,.slice g.sde.A g.sde.n g.sde.c,vI g.er],.agg #[vI ax,vI ay],.agg #[vI bx,vI by_],.agg #[vI lo,vI hi]] w fun e' w'=>e'=.returned (.tuple #[.agg #[vI (MN 1 - g.er),vI (MX 1+g.er),vI (MN 2 - g.er),vI (MX 2+g.er)],.agg #[vI (MN 3),vI (MX 3)],vI 0])∧Below w.heap.size w w':=by
 have HS:=hid (show BoxS w 6 (huL g ax ay bx by_ lo hi) _ from ((((OH w g.cells.toArray #[vI ax,vI ay] #[vI bx,vI by_] 31 28 28).more rfl (by simp) #[vI lo,vI hi] 65).1.more rfl (by simp) #[vI 0,vI 0,vI 0,vI 0] 73).1.more rfl (by simp) #[vI 0,vI 0] 50).1);have HGB:=hid (fun W (h:BoxS w 6 (huL g ax ay bx by_ lo hi) W)=>And.intro (And.intro ((h.has 1 _ rfl).cell 0 _ rfl) ((h.has 1 _ rfl).cell 1 _ rfl)) (And.intro (And.intro ((h.has 2 _ rfl).cell 0 _ rfl) ((h.has 2 _ rfl).cell 1 _ rfl)) (And.intro (And.intro ((h.has 3 _ rfl).cell 0 _ rfl) ((h.has 3 _ rfl).cell 1 _ rfl)) (gd9 (show Has W w.heap.size g.cells from h.has 0 _ rfl)))));have HRR:=hid (fun W (h:BoxS w 6 (huL g ax ay bx by_ lo hi) W)=>And.intro (show Has W w.heap.size g.cells from h.has 0 _ rfl) (And.intro (show Has W (w.heap.size+1+1+1+1) (lz4 0 0 0 0) from h.has 4 _ rfl) (show Has W (w.heap.size+1+1+1+1+1) (lz2 0 0) from h.has 5 _ rfl)));have CA:=hid (fun W (h:BoxS w 6 (huL g ax ay bx by_ lo hi) W)=>HU.out 1 W (.inl rfl) h.B);have CB:=hid (fun W (h:BoxS w 6 (huL g ax ay bx by_ lo hi) W)=>HU.out 2 W (.inr (.inl rfl)) h.B);have CC:=hid (fun W (h:Below w.heap.size w W)=>HU.out 3 W (.inr (.inr rfl)) h);have ⟨⟨e0,e1⟩,e2,e3⟩:=HM.out 1;have ⟨⟨n0,n1⟩,n2,n3⟩:=HM.out 2;clear HM HU;generalize MN 1=m1 at *;generalize MX 1=m2 at *;generalize MN 2=m3 at *;generalize MX 2=m4 at *;generalize MN 3=m5 at *;generalize MX 3=m6 at *
 go_enter Tryz.func107,Tryz.ntmps107
 obtain ⟨⟨a0,a1⟩,⟨b0,b1⟩,⟨c0,c1⟩,k0,k1,k2,k3,k4,k5,k6,k7,k8⟩:=HGB.out _ HS.out
 go_wp2_with fail
 refine (HC.out _ HS.out.B).mono ?_;rintro e' w1 ⟨rfl,hB⟩
 replace HS:=hid (HS.out.below hB);clear hB a0 a1 b0 b1 c0 c1 k0 k1 k2 k3 k4 k5 k6 k7 k8;obtain ⟨⟨a0,a1⟩,⟨b0,b1⟩,⟨c0,c1⟩,k0,k1,k2,k3,k4,k5,k6,k7,k8⟩:=HGB.out _ HS.out
 go_wp2_with fail
 refine (HPA.out _).mono ?_;rintro e' w2 ⟨rfl,hB⟩
 replace HS:=hid (HS.out.below hB);clear hB a0 a1 b0 b1 c0 c1 k0 k1 k2 k3 k4 k5 k6 k7 k8;obtain ⟨⟨a0,a1⟩,⟨b0,b1⟩,⟨c0,c1⟩,k0,k1,k2,k3,k4,k5,k6,k7,k8⟩:=HGB.out _ HS.out
 go_wp2_with fail
 refine (HPB.out _).mono ?_;rintro e' w3 ⟨rfl,hB⟩
 replace HS:=hid (HS.out.below hB);clear hB a0 a1 b0 b1 c0 c1 k0 k1 k2 k3 k4 k5 k6 k7 k8;obtain ⟨⟨a0,a1⟩,⟨b0,b1⟩,⟨c0,c1⟩,k0,k1,k2,k3,k4,k5,k6,k7,k8⟩:=HGB.out _ HS.out
 go_wp2_with fail
 refine (HX.out _ _ (by omega)).mono ?_;rintro e' wx ⟨rfl,rfl⟩
 go_wp2_with fail
 refine (HX.out _ _ (by omega)).mono ?_;rintro e' wx ⟨rfl,rfl⟩
 go_wp2_with fail
 refine (HY.out _ _ (by omega)).mono ?_;rintro e' wx ⟨rfl,rfl⟩
 go_wp2_with fail
 refine (HY.out _ _ (by omega)).mono ?_;rintro e' wx ⟨rfl,rfl⟩
 go_wp2_with fail
 refine (HZ.out _ _ HS.out.B (by omega)).mono ?_;rintro e' w4 ⟨rfl,hB⟩
 replace HS:=hid (HS.out.below hB);clear hB a0 a1 b0 b1 c0 c1 k0 k1 k2 k3 k4 k5 k6 k7 k8;obtain ⟨⟨a0,a1⟩,⟨b0,b1⟩,⟨c0,c1⟩,k0,k1,k2,k3,k4,k5,k6,k7,k8⟩:=HGB.out _ HS.out
 go_wp2_with fail
 refine (HZ.out _ _ HS.out.B (by omega)).mono ?_;rintro e' w5 ⟨rfl,hB⟩
 replace HS:=hid (HS.out.below hB);clear hB a0 a1 b0 b1 c0 c1 k0 k1 k2 k3 k4 k5 k6 k7 k8;have s1:=HSX.out (max ax bx);have s2:=HSY.out (max ay by_);have s3:=HLI.out hi;clear HC HX HY HZ HPA HPB HSX HSY HLI;generalize SX (max ax bx)=sx1 at *;generalize SY (max ay by_)=sy1 at *;generalize LI hi=lz1 at *;have v1:=iW (sx1+1);have v2:=iW (sy1+1);have v3:=iW ((lz1:Int)+1);have v4:=iW (g.nx - 1);have v5:=iW (g.ny - 1);have v6:=iW ((g.sal.n:Int) - 1)
 go_wp2_with fail
 refine rS (fun W=>BoxS w 6 (huL g ax ay bx by_ lo hi) W) 22 HS.out.drew (fun hHeld=>?_)
 have FA:=fun W (h:BoxS w 6 (huL g ax ay bx by_ lo hi) W)=>(HGB.out W h).2.2.2;generalize w5.drew=w6 at *
 repeat (first | refine rQ ?_ | refine rF ?_)
 refine rD ?_
 clear v1 v2 v3 v4 v5 v6 s1 s2 s3 HS
 go_upto_region 13 with fail
 refine rS (fun W=>BoxS w 6 (huL g ax ay bx by_ lo hi) W) 20 hHeld.drew (fun hHeld=>?_)
 generalize w6.drew=w6 at *
 repeat (first | refine rQ ?_ | refine rF ?_)
 refine Be ?_
 intro OPS QQ A0 SS hO hQ hA hSS
 have TAIL:Hid (∀ (H26 H27:Nat) (W:World),Has W H26 (lz2 0 0)→Has W H27 (lz2 0 0)→w.heap.size+6<=H26→w.heap.size+6<=H27→H26≠H27→BoxS w 6 (huL g ax ay bx by_ lo hi) W→wpAnyH Tryz.prog .any OPS QQ (fun W=>BoxS w 6 (huL g ax ay bx by_ lo hi) W) 2 #[b1,b1,b1,b1,b1,b1,b1,b1,b1,b1,b1,b1,b1,b1,b1,b1,b1,b1,b0,b0] ((((A0.put (some 171) (.agg #[vI m1,vI m2])).put (some 179) (.agg #[vI m3,vI m4])).put (some 26) (.pointer (some ⟨H26,0,none⟩))).put (some 27) (.pointer (some ⟨H27,0,none⟩))) W):=by
  subst hO hQ hA hSS
  refine hid ?_
  intro H26 H27 W q26 q27 r26 r27 n67 hHeld
  (try simp only [Act.put,pa,pb,pc])
  have f0:=q26.fr;have c0:=q26.cell 0 _ rfl;have c1:=q26.cell 1 _ rfl
  refine rEk ?_
  intro K hK
  refine rEt hK ((hHeld.set H26 0 r26 (vI m1)).set H26 1 r26 (vI m2)) ?_
  clear hK K hHeld f0 c0 c1
  intro hHeld
  replace q26:=(q26.set 0 (vI m1) (by simp)).set 1 (vI m2) (by simp);replace q27:=(q27.other H26 0 (vI m1) n67.symm).other H26 1 (vI m2) n67.symm;generalize (W.setCell ⟨H26,0,none⟩ (vI m1)).setCell ⟨H26,1,none⟩ (vI m2)=W1 at *;have f0:=q27.fr;have c0:=q27.cell 0 _ rfl;have c1:=q27.cell 1 _ rfl
  refine rEk ?_
  intro K hK
  refine rEt hK ((hHeld.set H27 0 r27 (vI m3)).set H27 1 r27 (vI m4)) ?_
  clear hK K hHeld f0 c0 c1
  intro hHeld
  replace q27:=(q27.set 0 (vI m3) (by simp)).set 1 (vI m4) (by simp);replace q26:=(q26.other H27 0 (vI m3) n67).other H27 1 (vI m4) n67;generalize (W1.setCell ⟨H27,0,none⟩ (vI m3)).setCell ⟨H27,1,none⟩ (vI m4)=W2 at *
  refine rD ?_
  have x0:=q26.cell 0 _ rfl;have x1:=q26.cell 1 _ rfl;have y0:=q27.cell 0 _ rfl;have y1:=q27.cell 1 _ rfl;obtain ⟨-,-,-,k0,k1,k2,k3,k4,k5,k6,k7,k8⟩:=HGB.out _ hHeld;have v1:=iW (m1 - g.er);have v2:=iW (m2+g.er);have v3:=iW (m3 - g.er);have v4:=iW (m4+g.er)
  go_wp2_with fail
  clear x0 x1 y0 y1 v1 v2 v3 v4 k0 k1 k2 k3 k4 k5 k6 k7 k8 q26 q27;obtain ⟨QG,Q8,Q9⟩:=HRR.out _ (hHeld.alloc (.cells #[vI (m1 - g.er),vI (m2+g.er),vI (m3 - g.er),vI (m4+g.er)] 73));have Q28:=Has.new W2 #[vI (m1 - g.er),vI (m2+g.er),vI (m3 - g.er),vI (m4+g.er)] 73;have HB:=Bh hHeld.B (.cells #[vI (m1 - g.er),vI (m2+g.er),vI (m3 - g.er),vI (m4+g.er)] 73);have r28:=hHeld.sz;clear hHeld;generalize W2.alloc (.cells #[vI (m1 - g.er),vI (m2+g.er),vI (m3 - g.er),vI (m4+g.er)] 73)=W3 at *;generalize W2.heap.size=H28 at *
  refine rS (fun W=>Below w.heap.size w W∧Has W w.heap.size g.cells∧Has W H28 (lz4 (m1 - g.er) (m2+g.er) (m3 - g.er) (m4+g.er))) 12 ⟨HB.drew,QG.drew,Q28.drew⟩ (fun hHeld=>?_)
  have FA:=fun W (h:Below w.heap.size w W∧Has W w.heap.size g.cells∧Has W H28 (lz4 (m1 - g.er) (m2+g.er) (m3 - g.er) (m4+g.er)))=>And.intro (gd9 h.2.1) (And.intro (And.intro (h.2.2.cell 0 _ rfl) (h.2.2.cell 1 _ rfl)) (And.intro (h.2.2.cell 2 _ rfl) (h.2.2.cell 3 _ rfl)));replace Q8:=Q8.drew;replace Q9:=Q9.drew;clear QG Q28 HB;generalize W3.drew=W4 at *
  repeat (first | refine rQ ?_ | refine rF ?_)
  refine rEk ?_
  intro K hK
  refine (CC.out _ hHeld.1).mono ?_;rintro e2 W5 ⟨rfl,hB⟩
  go_wp2_with fail
  replace Q8:=Q8.below hB;replace Q9:=Q9.below hB
  refine rEt hK ⟨Ae hHeld.1 hB,hHeld.2.1.below hB,hHeld.2.2.below hB⟩ ?_
  clear hK K hHeld hB
  intro hHeld
  repeat (first | refine rQ ?_ | refine rF ?_)
  have f0:=Q8.fr;have c0:=Q8.cell 0 _ rfl;have c1:=Q8.cell 1 _ rfl;have c2:=Q8.cell 2 _ rfl;have c3:=Q8.cell 3 _ rfl
  have hne:H28≠w.heap.size+1+1+1+1:=by omega
  have hne2:H28≠w.heap.size+1+1+1+1+1:=by omega
  refine rEk ?_
  intro K hK
  refine rEt hK (GI (GI (GI (GI hHeld (by omega) hne 0 (vI (m1 - g.er))) (by omega) hne 1 (vI (m2+g.er))) (by omega) hne 2 (vI (m3 - g.er))) (by omega) hne 3 (vI (m4+g.er))) ?_
  clear hK K hHeld f0 c0 c1 c2 c3
  intro hHeld
  replace Q8:=(((Q8.set 0 (vI (m1 - g.er)) (by simp)).set 1 (vI (m2+g.er)) (by simp)).set 2 (vI (m3 - g.er)) (by simp)).set 3 (vI (m4+g.er)) (by simp);replace Q9:=(((Q9.other (w.heap.size+1+1+1+1) 0 (vI (m1 - g.er)) (by omega)).other (w.heap.size+1+1+1+1) 1 (vI (m2+g.er)) (by omega)).other (w.heap.size+1+1+1+1) 2 (vI (m3 - g.er)) (by omega)).other (w.heap.size+1+1+1+1) 3 (vI (m4+g.er)) (by omega);generalize (((W5.setCell ⟨w.heap.size+1+1+1+1,0,none⟩ (vI (m1 - g.er))).setCell ⟨w.heap.size+1+1+1+1,1,none⟩ (vI (m2+g.er))).setCell ⟨w.heap.size+1+1+1+1,2,none⟩ (vI (m3 - g.er))).setCell ⟨w.heap.size+1+1+1+1,3,none⟩ (vI (m4+g.er))=W6 at *;have f0:=Q9.fr;have c0:=Q9.cell 0 _ rfl;have c1:=Q9.cell 1 _ rfl
  refine rEk ?_
  intro K hK
  refine rEt hK (GI (GI hHeld (by omega) hne2 0 (vI m5)) (by omega) hne2 1 (vI m6)) ?_
  clear hK K hHeld f0 c0 c1
  intro hHeld
  replace Q9:=(Q9.set 0 (vI m5) (by simp)).set 1 (vI m6) (by simp);replace Q8:=(Q8.other (w.heap.size+1+1+1+1+1) 0 (vI m5) (by omega)).other (w.heap.size+1+1+1+1+1) 1 (vI m6) (by omega);have q0:=Q8.cell 0 _ rfl;have q1:=Q8.cell 1 _ rfl;have q2:=Q8.cell 2 _ rfl;have q3:=Q8.cell 3 _ rfl;have p0:=Q9.cell 0 _ rfl;have p1:=Q9.cell 1 _ rfl
  refine rQ ?_
  refine rD ?_
  go_wp2_with fail
  exact bodyPost_ret (v:=.tuple #[.agg #[vI (m1 - g.er),vI (m2+g.er),vI (m3 - g.er),vI (m4+g.er)],.agg #[vI m5,vI m6],vI 0]) (by simp [results,Tryz.results107,go_sem,q0,q1,q2,q3,p0,p1]) rfl ⟨rfl,hHeld.1⟩
 subst hO hQ hA hSS
 (try simp only [Act.put,pa,pb,pc] at TAIL)
 exact mR
theorem Aeo (g:Grd) (ax ay bx by_ lo hi:Int) (w:World) (hl:g.lies w) (hok:g.ok) (hE:gdE g=0) (ha:ptB ax ay=true) (hb:ptB bx by_=true) (h0 : -200000<=lo) (h1:lo<=hi) (h2:hi<=6000000) :
  Calls Tryz.prog 107 #[.agg #[vI g.cx,vI g.cy,vI g.ce,vI g.nx,vI g.ny,.slice g.sal.A g.sal.n g.sal.c,.slice g.swi.A g.swi.n g.swi.c,.slice g.sde.A g.sde.n g.sde.c,vI g.er],.agg #[vI ax,vI ay],.agg #[vI bx,vI by_],.agg #[vI lo,vI hi]] w fun e' w'=>e'=.returned (.tuple #[.agg #[vI (G6 g ax ay bx by_ lo hi).e0,vI (G6 g ax ay bx by_ lo hi).e1,vI (G6 g ax ay bx by_ lo hi).n0,vI (G6 g ax ay bx by_ lo hi).n1],.agg #[vI (G6 g ax ay bx by_ lo hi).d0,vI (G6 g ax ay bx by_ lo hi).d1],vI 0])∧Below w.heap.size w w':=by
 have G:=Ez hE;have pa:=Eg.1 ha;have pb:=Eg.1 hb;have hal:=hl.al.len;have hna:=G.na
 have hne:g.al≠[]:=by intro e;rw [e] at hal;simp at hal;omega
 have sx:=fun x=>Wg.sI_bd (corner:=g.cx) (x:=x) G.ce.1 G.nx.1;have sy:=fun x=>Wg.sI_bd (corner:=g.cy) (x:=x) G.ce.1 G.ny.1
 have sz:∀ a,Wg.lI g.al a<g.sal.n:=fun a=>by have:=(Wg.lev_lt g.al (Wg.lA g.al a) hne).1;unfold Wg.lI;omega
 have mx:=EA (corner:=g.cx) (n:=g.nx) (x:=min ax bx) (y:=max ax bx) G.ce.1 (by omega);have my:=EA (corner:=g.cy) (n:=g.ny) (x:=min ay by_) (y:=max ay by_) G.ce.1 (by omega);have mz:=J9 (l:=g.al) h1;have q0:=sx (min ax bx);have q1:=sy (min ay by_);have q2:=sz lo;have q3:=sx (max ax bx);have q4:=sy (max ay by_);have q5:=sz hi
 refine AfC g (Wg.sI g.cx g.ce g.nx) (Wg.sI g.cy g.ce g.ny) (Wg.sF g.cx g.ce g.nx) (Wg.sF g.cy g.ce g.ny) (Wg.lI g.al) (Wg.lF g.al) (Wg.lC g.al) (fun p=>hLo (elP g p) (hbx g ax ay bx by_ lo hi)) (fun p=>hHi (elP g p) (hbx g ax ay bx by_ lo hi)) ax ay bx by_ lo hi w h0 h1 h2
  (hid fun W hB=>hE ▸ K8 g W (hl.below hB) hok)
  (hid fun W=>(Tn ax ay W).mono fun e w' h=>⟨h.1.trans (Ao ha),h.2⟩)
  (hid fun W=>(Tn bx by_ W).mono fun e w' h=>⟨h.1.trans (Ao hb),h.2⟩)
  (hid fun x W hx=>NU g.cx g.ce g.nx x G.cx G.ce G.nx hx W)
  (hid fun x W hx=>NU g.cy g.ce g.ny x G.cy G.ce G.ny hx W)
  (hid fun a W hB hx=>Pq g.sal.A g.sal.n g.sal.c g.al a W (hl.below hB).al G.na G.al hx)
  (hid fun p W hp hB=>AfB g p _ _ _ _ _ _ W G (hl.below hB) hok hp (by omega) (by omega) (by omega))
  (hid fun p=>Ach (VD G p) _ _ _ _ _ _) G.er (hid fun x=>by have:=sx x;omega) (hid fun x=>by have:=sy x;omega) (hid sz) G.nx G.ny G.na pa pb
theorem QT (s:Stp) (k m:Nat) (hm:m=k+1) (w:World) (hl:s.lies w) (hok:s.ok) (G:StG s) (hk:m<s.no.length) :
  Calls Tryz.prog 44 #[.agg s.cells.toArray,vI m] w fun e' w'=>e'=.returned (.tuple #[.agg #[vI (suH s k).e0,vI (suH s k).e1,vI (suH s k).n0,vI (suH s k).n1],.agg #[vI (suH s k).d0,vI (suH s k).d1]])∧Below w.heap.size w w':=by
 have N:=StN.of hl;have hno:=N.no;have hmx:=hok.no
 unfold maxLen at hmx
 obtain ⟨b,off,hA⟩:=FC hl (by omega);have HS:=hid (OH w s.cells.toArray #[vI 0,vI 0,vI 0,vI 0] #[vI 0,vI 0] 35 73 50)
 have HKK:=hid (fun W (h:BoxS w 3 [s.cells,(lz4 0 0 0 0),(lz2 0 0)] W)=>show (W.cell? ⟨w.heap.size,0,none⟩=some (.slice (some ⟨b,off,none⟩) s.sno.n s.sno.c)∧W.cell? ⟨w.heap.size,29,none⟩=some (vI s.lv))∧(W.cell? ⟨b,off+k * 7,none⟩=some (vI (Ac s k).px)∧W.cell? ⟨b,off+k * 7+1,none⟩=some (vI (Ac s k).py))∧(W.cell? ⟨b,off+m * 7,none⟩=some (vI (Ac s m).px)∧W.cell? ⟨b,off+m * 7+1,none⟩=some (vI (Ac s m).py)) from
  have n1:=Ce (hl.below h.B) hA (k:=k) (by omega);have n2:=Ce (hl.below h.B) hA (k:=m) hk
  ⟨⟨Dk (h.has 0 _ rfl) hA,FP (h.has 0 _ rfl)⟩,⟨n1.1,n1.2.1⟩,n2.1,n2.2.1⟩)
 have HW:=hid (fun W (h:BoxS w 3 [s.cells,(lz4 0 0 0 0),(lz2 0 0)] W)=>show Has W w.heap.size s.cells from h.has 0 _ rfl);have g1:=AR G N (k:=k) (by omega);have g2:=AR G N (k:=m) hk
 have HC:=hid (fun W (h:BoxS w 3 [s.cells,(lz4 0 0 0 0),(lz2 0 0)] W)=>show Calls Tryz.prog 107 #[.agg s.gr.cells.toArray,.agg #[vI (Ac s k).px,vI (Ac s k).py],.agg #[vI (Ac s m).px,vI (Ac s m).py],.agg #[vI (-200000),vI s.lv]] W fun e' w'=>e'=.returned (.tuple #[.agg #[vI (suH s k).e0,vI (suH s k).e1,vI (suH s k).n0,vI (suH s k).n1],.agg #[vI (suH s k).d0,vI (suH s k).d1],vI 0])∧Below W.heap.size W w' from by
  subst hm
  exact Aeo s.gr (Ac s k).px (Ac s k).py (Ac s (k+1)).px (Ac s (k+1)).py (-200000) s.lv W (hl.below h.B).gr hok.gr G.gr (Gj g1.px g1.py) (Gj g2.px g2.py) (by omega) G.lv.1 G.lv.2)
 have w1:IntKind.i64.wrap ((m:Int) - 1)=(k:Int):=by rw [(iW _)];omega
 have i0:(0:Int)<=(k:Int):=by omega
 have i1:(k:Int)<(s.sno.n:Int):=by omega
 have i2:(0:Int)<=(m:Int):=by omega
 have i3:(m:Int)<(s.sno.n:Int):=by omega
 clear hl hok G N hno g1 g2 hA hm hk hmx;generalize suH s k=HV at *
 go_enter Tryz.func44,Tryz.ntmps44
 exact phZ
