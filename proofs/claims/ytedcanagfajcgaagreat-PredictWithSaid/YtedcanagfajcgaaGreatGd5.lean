
/- Layer 36: forecasts, the program's functions: stretch. -/
import Derived.Test.YtedcanagfajcgaaGreatM19
set_option linter.unusedSimpArgs false
set_option linter.unusedVariables false
set_option maxRecDepth 100000
set_option maxHeartbeats 16000000
namespace Go.Proofs.YtedcanagfajcgaaGreat
open Go.RowKit
open Go.Lib (hid)
theorem LG (b o:Nat) (lo hi n:Int) (w:World) (k0:w.cell? ⟨b,o,none⟩=some (vI lo)) (k1:w.cell? ⟨b,o+1,none⟩=some (vI hi)) (f0:w.frozen? ⟨b,o,none⟩=false) (f1:w.frozen? ⟨b,o+1,none⟩=false) :
  Calls Tryz.prog 166 #[.pointer (some ⟨b,o,none⟩),vI n] w fun e' w'=>e'=.returned (.tuple #[])∧w'=((w.setCell ⟨b,o,none⟩ (vI (min lo n))).setCell ⟨b,o+1,none⟩ (vI (max hi n))).drew:=by
 go_enter Tryz.func166,Tryz.ntmps166
 go_wp2_with fail
 go_region
 all_goals (
  go_wp2_with fail
  go_end0
  exact ⟨rfl,rfl⟩)
structure HuS (g:Grd) (ax ay bx by_ lo hi:Int) (w W:World):Prop where
 G:Has W (w.heap.size) g.cells
 A:Has W (w.heap.size+1) (lz2 ax ay)
 D:Has W (w.heap.size+1+1) (lz2 bx by_)
 C:Has W (w.heap.size+1+1+1) (lz2 lo hi)
 R:Has W (w.heap.size+1+1+1+1) (lz4 0 0 0 0)
 Q:Has W (w.heap.size+1+1+1+1+1) (lz2 0 0)
 L:g.lies w
 B:Below w.heap.size w W
 sz:w.heap.size+6<=W.heap.size
section
variable {g:Grd} {ax ay bx by_ lo hi:Int} {w W W1:World}
theorem HuS.below (h:HuS g ax ay bx by_ lo hi w W) (hb:Below W.heap.size W W1):HuS g ax ay bx by_ lo hi w W1:=⟨h.G.below hb,h.A.below hb,h.D.below hb,h.C.below hb,h.R.below hb,h.Q.below hb,h.L,Ae h.B hb,Nat.le_trans h.sz hb.size⟩
theorem HuS.drew (h:HuS g ax ay bx by_ lo hi w W):HuS g ax ay bx by_ lo hi w W.drew:=h.below (AJ _ _).drew
theorem HuS.alloc (h:HuS g ax ay bx by_ lo hi w W) (o:Obj):HuS g ax ay bx by_ lo hi w (W.alloc o):=h.below (Aa _ _)
theorem HuS.set (h:HuS g ax ay bx by_ lo hi w W) (b i:Nat) (hb:w.heap.size+6<=b) (v:Value):HuS g ax ay bx by_ lo hi w (W.setCell ⟨b,i,none⟩ v) :=
 ⟨h.G.other b i v (by omega),h.A.other b i v (by omega),h.D.other b i v (by omega),h.C.other b i v (by omega),h.R.other b i v (by omega),h.Q.other b i v (by omega),h.L,h.B.setCell (p:=⟨b,i,none⟩) (by show w.heap.size<=b;omega) _,by simpa [World.setCell] using h.sz⟩
theorem HuS.cells (h:HuS g ax ay bx by_ lo hi w W):(W.cell? ⟨w.heap.size,0,none⟩=some (vI g.cx)∧W.cell? ⟨w.heap.size,1,none⟩=some (vI g.cy)∧W.cell? ⟨w.heap.size,2,none⟩=some (vI g.ce)∧W.cell? ⟨w.heap.size,3,none⟩=some (vI g.nx)∧W.cell? ⟨w.heap.size,4,none⟩=some (vI g.ny)∧W.cell? ⟨w.heap.size,5,none⟩=some (.slice g.sal.A g.sal.n g.sal.c)∧W.cell? ⟨w.heap.size,6,none⟩=some (.slice g.swi.A g.swi.n g.swi.c)∧W.cell? ⟨w.heap.size,7,none⟩=some (.slice g.sde.A g.sde.n g.sde.c)∧W.cell? ⟨w.heap.size,8,none⟩=some (vI g.er))∧(W.cell? ⟨w.heap.size+1,0,none⟩=some (vI ax)∧W.cell? ⟨w.heap.size+1,1,none⟩=some (vI ay)∧W.cell? ⟨w.heap.size+1+1,0,none⟩=some (vI bx)∧W.cell? ⟨w.heap.size+1+1,1,none⟩=some (vI by_)∧W.cell? ⟨w.heap.size+1+1+1,0,none⟩=some (vI lo)∧W.cell? ⟨w.heap.size+1+1+1,1,none⟩=some (vI hi)) :=
 ⟨⟨h.G.cell 0 _ rfl,h.G.cell 1 _ rfl,h.G.cell 2 _ rfl,h.G.cell 3 _ rfl,h.G.cell 4 _ rfl,h.G.cell 5 _ rfl,h.G.cell 6 _ rfl,h.G.cell 7 _ rfl,h.G.cell 8 _ rfl⟩,h.A.cell 0 _ rfl,h.A.cell 1 _ rfl,h.D.cell 0 _ rfl,h.D.cell 1 _ rfl,h.C.cell 0 _ rfl,h.C.cell 1 _ rfl⟩
theorem HuS.li (h:HuS g ax ay bx by_ lo hi w W):g.lies W:=h.L.below h.B
end
theorem Wo (g:Grd) (ax ay bx by_ lo hi:Int) (w:World) (hl:g.lies w):HuS g ax ay bx by_ lo hi w ((((((w.alloc (.cells #[vI g.cx,vI g.cy,vI g.ce,vI g.nx,vI g.ny,.slice g.sal.A g.sal.n g.sal.c,.slice g.swi.A g.swi.n g.swi.c,.slice g.sde.A g.sde.n g.sde.c,vI g.er] 31)).alloc (.cells #[vI ax,vI ay] 28)).alloc (.cells #[vI bx,vI by_] 28)).alloc (.cells #[vI lo,vI hi] 65)).alloc (.cells #[vI 0,vI 0,vI 0,vI 0] 73)).alloc (.cells #[vI 0,vI 0] 50)) :=
 ⟨(((((Has.new w _ _).alloc _).alloc _).alloc _).alloc _).alloc _,((((Has.newAt (w.alloc _) _ _ (w.heap.size+1) (by simp)).alloc _).alloc _).alloc _).alloc _,(((Has.newAt ((w.alloc _).alloc _) _ _ (w.heap.size+1+1) (by simp)).alloc _).alloc _).alloc _,((Has.newAt (((w.alloc _).alloc _).alloc _) _ _ (w.heap.size+1+1+1) (by simp)).alloc _).alloc _,(Has.newAt ((((w.alloc _).alloc _).alloc _).alloc _) _ _ (w.heap.size+1+1+1+1) (by simp)).alloc _,Has.newAt (((((w.alloc _).alloc _).alloc _).alloc _).alloc _) _ _ (w.heap.size+1+1+1+1+1) (by simp),hl,(Db _ _ _ _ _ |>.alloc (by simp;omega) _).alloc (by simp;omega) _,by simp⟩
structure HqV (g:Grd) (ax ay bx by_ lo hi:Int) (w:World) (NX NY:Nat) (e0 e1 n0 n1 d0 d1:Int) (W:World):Prop where
 H:HuS g ax ay bx by_ lo hi w W
 X:Has W NX (lz4 e0 e1 n0 n1)
 Y:Has W NY (lz2 d0 d1)
 hx:w.heap.size+6<=NX
 hy:w.heap.size+6<=NY
 ne:NX≠NY
section
variable {g:Grd} {ax ay bx by_ lo hi e0 e1 n0 n1 d0 d1:Int} {w W W1:World} {NX NY:Nat}
theorem HqV.below (h:HqV g ax ay bx by_ lo hi w NX NY e0 e1 n0 n1 d0 d1 W) (hb:Below W.heap.size W W1):HqV g ax ay bx by_ lo hi w NX NY e0 e1 n0 n1 d0 d1 W1:=⟨h.H.below hb,h.X.below hb,h.Y.below hb,h.hx,h.hy,h.ne⟩
theorem HqV.drew (h:HqV g ax ay bx by_ lo hi w NX NY e0 e1 n0 n1 d0 d1 W):HqV g ax ay bx by_ lo hi w NX NY e0 e1 n0 n1 d0 d1 W.drew:=h.below (AJ _ _).drew
theorem HqV.sE (h:HqV g ax ay bx by_ lo hi w NX NY e0 e1 n0 n1 d0 d1 W) (a b:Int):HqV g ax ay bx by_ lo hi w NX NY a b n0 n1 d0 d1 ((W.setCell ⟨NX,0,none⟩ (vI a)).setCell ⟨NX,1,none⟩ (vI b)) :=
 ⟨(h.H.set NX 0 h.hx _).set NX 1 h.hx _,(h.X.set 0 (vI a) (by simp)).set 1 (vI b) (by simp),(h.Y.other NX 0 _ h.ne.symm).other NX 1 _ h.ne.symm,h.hx,h.hy,h.ne⟩
theorem HqV.sN (h:HqV g ax ay bx by_ lo hi w NX NY e0 e1 n0 n1 d0 d1 W) (a b:Int):HqV g ax ay bx by_ lo hi w NX NY e0 e1 a b d0 d1 ((W.setCell ⟨NX,2,none⟩ (vI a)).setCell ⟨NX,3,none⟩ (vI b)) :=
 ⟨(h.H.set NX 2 h.hx _).set NX 3 h.hx _,(h.X.set 2 (vI a) (by simp)).set 3 (vI b) (by simp),(h.Y.other NX 2 _ h.ne.symm).other NX 3 _ h.ne.symm,h.hx,h.hy,h.ne⟩
theorem HqV.sD (h:HqV g ax ay bx by_ lo hi w NX NY e0 e1 n0 n1 d0 d1 W) (a b:Int):HqV g ax ay bx by_ lo hi w NX NY e0 e1 n0 n1 a b ((W.setCell ⟨NY,0,none⟩ (vI a)).setCell ⟨NY,1,none⟩ (vI b)) :=
 ⟨(h.H.set NY 0 h.hy _).set NY 1 h.hy _,(h.X.other NY 0 _ h.ne).other NY 1 _ h.ne,(h.Y.set 0 (vI a) (by simp)).set 1 (vI b) (by simp),h.hx,h.hy,h.ne⟩
theorem HqV.x0 (h:HqV g ax ay bx by_ lo hi w NX NY e0 e1 n0 n1 d0 d1 W) (a:Int):HqV g ax ay bx by_ lo hi w NX NY a e1 n0 n1 d0 d1 (W.setCell ⟨NX,0,none⟩ (vI a)):=⟨h.H.set NX 0 h.hx _,h.X.set 0 (vI a) (by simp),h.Y.other NX 0 _ h.ne.symm,h.hx,h.hy,h.ne⟩
theorem HqV.x1 (h:HqV g ax ay bx by_ lo hi w NX NY e0 e1 n0 n1 d0 d1 W) (a:Int):HqV g ax ay bx by_ lo hi w NX NY e0 a n0 n1 d0 d1 (W.setCell ⟨NX,1,none⟩ (vI a)):=⟨h.H.set NX 1 h.hx _,h.X.set 1 (vI a) (by simp),h.Y.other NX 1 _ h.ne.symm,h.hx,h.hy,h.ne⟩
theorem HqV.x2 (h:HqV g ax ay bx by_ lo hi w NX NY e0 e1 n0 n1 d0 d1 W) (a:Int):HqV g ax ay bx by_ lo hi w NX NY e0 e1 a n1 d0 d1 (W.setCell ⟨NX,2,none⟩ (vI a)):=⟨h.H.set NX 2 h.hx _,h.X.set 2 (vI a) (by simp),h.Y.other NX 2 _ h.ne.symm,h.hx,h.hy,h.ne⟩
theorem HqV.x3 (h:HqV g ax ay bx by_ lo hi w NX NY e0 e1 n0 n1 d0 d1 W) (a:Int):HqV g ax ay bx by_ lo hi w NX NY e0 e1 n0 a d0 d1 (W.setCell ⟨NX,3,none⟩ (vI a)):=⟨h.H.set NX 3 h.hx _,h.X.set 3 (vI a) (by simp),h.Y.other NX 3 _ h.ne.symm,h.hx,h.hy,h.ne⟩
end
def HqS (g:Grd) (ax ay bx by_ lo hi:Int) (w:World) (NX NY:Nat) (x0 y0 z0:Int) (S:Int→Int→Int→Prop) (W:World):Prop :=
 ∃ e0 e1 n0 n1 d0 d1:Int,HqV g ax ay bx by_ lo hi w NX NY e0 e1 n0 n1 d0 d1 W∧Wg.Seen (elE g) x0 y0 z0 S e0 e1∧Wg.Seen (elN g) x0 y0 z0 S n0 n1∧Wg.Seen (elD g) x0 y0 z0 S d0 d1
theorem HqS.cong {g:Grd} {ax ay bx by_ lo hi:Int} {w W:World} {NX NY:Nat} {x0 y0 z0:Int} {S T:Int→Int→Int→Prop} (h:HqS g ax ay bx by_ lo hi w NX NY x0 y0 z0 S W) (hT:∀ x y z,T x y z ↔ S x y z):HqS g ax ay bx by_ lo hi w NX NY x0 y0 z0 T W:=by
 obtain ⟨e0,e1,n0,n1,d0,d1,h1,h2,h3,h4⟩:=h
 exact ⟨e0,e1,n0,n1,d0,d1,h1,h2.cong hT,h3.cong hT,h4.cong hT⟩
def Bz (x0 x1 y0 y1 z0 z:Int) (a b c:Int):Prop:=(x0<=a∧a<=x1)∧(y0<=b∧b<=y1)∧z0<=c∧c<z
def By (x0 x1 y0 y1 z0 z y:Int) (a b c:Int):Prop:=Bz x0 x1 y0 y1 z0 z a b c∨((x0<=a∧a<=x1)∧(y0<=b∧b<y)∧c=z)
def Bx (x0 x1 y0 y1 z0 z y x:Int) (a b c:Int):Prop:=By x0 x1 y0 y1 z0 z y a b c∨((x0<=a∧a<x)∧b=y∧c=z)
def Afg (g:Grd) (ax ay bx by_ lo hi:Int) (w:World) (NX NY:Nat) (x0 x1 y0 y1 z0 z1:Int) (t:Value) (W:World):Prop:=∃ z:Int,(z0<=z∧z<=z1+1)∧t=vI z∧HqS g ax ay bx by_ lo hi w NX NY x0 y0 z0 (Bz x0 x1 y0 y1 z0 z) W
def Aff (g:Grd) (ax ay bx by_ lo hi:Int) (w:World) (NX NY:Nat) (x0 x1 y0 y1 z0 z:Int) (t:Value) (W:World):Prop:=∃ y:Int,(y0<=y∧y<=y1+1)∧t=vI y∧HqS g ax ay bx by_ lo hi w NX NY x0 y0 z0 (By x0 x1 y0 y1 z0 z y) W
def Afe (g:Grd) (ax ay bx by_ lo hi:Int) (w:World) (NX NY:Nat) (x0 x1 y0 y1 z0 z y:Int) (t:Value) (W:World):Prop:=∃ x:Int,(x0<=x∧x<=x1+1)∧t=vI x∧HqS g ax ay bx by_ lo hi w NX NY x0 y0 z0 (Bx x0 x1 y0 y1 z0 z y x) W
theorem AeJ (g:Grd) (ax ay bx by_ lo hi:Int) (w:World) (hl:g.lies w) (hok:g.ok) (hE:gdE g=0) (ha:ptB ax ay=true) (hb:ptB bx by_=true) (h0 : -200000<=lo) (h1:lo<=hi) (h2:hi<=6000000) :
  Calls Tryz.prog 99 #[.agg #[vI g.cx,vI g.cy,vI g.ce,vI g.nx,vI g.ny,.slice g.sal.A g.sal.n g.sal.c,.slice g.swi.A g.swi.n g.swi.c,.slice g.sde.A g.sde.n g.sde.c,vI g.er],.agg #[vI ax,vI ay],.agg #[vI bx,vI by_],.agg #[vI lo,vI hi]] w fun e' w'=>e'=.returned (.tuple #[.agg #[vI (G6 g ax ay bx by_ lo hi).e0,vI (G6 g ax ay bx by_ lo hi).e1,vI (G6 g ax ay bx by_ lo hi).n0,vI (G6 g ax ay bx by_ lo hi).n1],.agg #[vI (G6 g ax ay bx by_ lo hi).d0,vI (G6 g ax ay bx by_ lo hi).d1],vI 0])∧Below w.heap.size w w':=by
 have HS:=hid (Wo g ax ay bx by_ lo hi w hl);have HC:=hid (fun W hB=>Lv g W (hl.below (w':=W) hB) hok)
 rw [hE] at HC
 have G:=Ez hE;have pa:=Eg.1 ha;have pb:=Eg.1 hb;have HPA:=hid (fun W=>Jh ax ay W);have HPB:=hid (fun W=>Jh bx by_ W)
 rw [ha] at HPA
 rw [hb] at HPB
 have X0:=hid (fun W=>MJ g.cx g.ce g.nx (min ax bx) G.cx G.ce G.nx (by omega) W);have X1:=hid (fun W=>MJ g.cx g.ce g.nx (max ax bx) G.cx G.ce G.nx (by omega) W);have Y0:=hid (fun W=>MJ g.cy g.ce g.ny (min ay by_) G.cy G.ce G.ny (by omega) W);have Y1:=hid (fun W=>MJ g.cy g.ce g.ny (max ay by_) G.cy G.ce G.ny (by omega) W);have Z0:=hid (fun W (h:HuS g ax ay bx by_ lo hi w W)=>RA g.sal.A g.sal.n g.sal.c g.al lo W h.li.al G.na G.al (by omega));have Z1:=hid (fun W (h:HuS g ax ay bx by_ lo hi w W)=>RA g.sal.A g.sal.n g.sal.c g.al hi W h.li.al G.na G.al (by omega));have bx0:=Wg.sI_bd (corner:=g.cx) (x:=min ax bx) G.ce.1 G.nx.1;have bx1:=Wg.sI_bd (corner:=g.cx) (x:=max ax bx) G.ce.1 G.nx.1;have by0:=Wg.sI_bd (corner:=g.cy) (x:=min ay by_) G.ce.1 G.ny.1;have by1:=Wg.sI_bd (corner:=g.cy) (x:=max ay by_) G.ce.1 G.ny.1
 have hne:g.al≠[]:=by intro e;have h1:=hl.al.len;rw [e] at h1;have h2:=G.na;simp at h1;omega
 have bz0:Wg.lI g.al lo<g.sal.n:=by have:=(Wg.lev_lt g.al (Wg.lA g.al lo) hne).1;have:=hl.al.len;unfold Wg.lI;omega
 have bz1:Wg.lI g.al hi<g.sal.n:=by have:=(Wg.lev_lt g.al (Wg.lA g.al hi) hne).1;have:=hl.al.len;unfold Wg.lI;omega
 have mx:=EA (corner:=g.cx) (n:=g.nx) (x:=min ax bx) (y:=max ax bx) G.ce.1 (by omega);have my:=EA (corner:=g.cy) (n:=g.ny) (x:=min ay by_) (y:=max ay by_) G.ce.1 (by omega);have mz:=J9 (l:=g.al) h1;have HV:=hid (show G6 g ax ay bx by_ lo hi=G5 g ⟨Wg.sI g.cx g.ce g.nx (min ax bx),min (Wg.sI g.cx g.ce g.nx (max ax bx)+1) (g.nx - 1),Wg.sI g.cy g.ce g.ny (min ay by_),min (Wg.sI g.cy g.ce g.ny (max ay by_)+1) (g.ny - 1),(Wg.lI g.al lo:Nat),min ((Wg.lI g.al hi:Nat)+1) ((g.sal.n:Int) - 1)⟩ from rfl)
 have i4:¬ lo < -200000:=by omega
 have i5:¬ hi<lo:=by omega
 have i6:¬ 6000000<hi:=by omega
 obtain ⟨gnx0,gnx1⟩:=G.nx;obtain ⟨gny0,gny1⟩:=G.ny;obtain ⟨gna0,gna1⟩:=G.na;have HG:=hid G
 have HIX:=hid (fun x y z (h0:0<=x∧x<g.nx) (h1:0<=y∧y<g.ny) (h2:0<=z∧z<(g.sal.n:Int)) W=>show Calls Tryz.prog 63 #[.agg #[vI g.cx,vI g.cy,vI g.ce,vI g.nx,vI g.ny,.slice g.sal.A g.sal.n g.sal.c,.slice g.swi.A g.swi.n g.swi.c,.slice g.sde.A g.sde.n g.sde.c,vI g.er],vI x,vI y,vI z] W fun e' w'=>e'=.returned (vI (elI g x y z:Nat))∧Below W.heap.size W w' from by
  have:=XW g x y z G h0 h1 h2 W
  rwa [← (Ny G h0 h1 h2).2] at this)
 have HIL:=hid (fun x y z (h0:0<=x∧x<g.nx) (h1:0<=y∧y<g.ny) (h2:0<=z∧z<(g.sal.n:Int))=>(show elI g x y z<g.swi.n∧elI g x y z<g.sde.n from by have h:=(Ny G h0 h1 h2).1;have:=G.nw;have:=G.nd;omega));obtain ⟨bw,ow,hAw,_,_⟩:=hl.wi.cells (by have:=G.nw;have:=(NK (x:=g.nx) (y:=g.ny) (n:=(g.sal.n:Int)) G.nx G.ny (by have:=G.na;omega)).2;omega);obtain ⟨bd,od,hAd,_,_⟩:=hl.de.cells (by have:=G.nd;have:=(NK (x:=g.nx) (y:=g.ny) (n:=(g.sal.n:Int)) G.nx G.ny (by have:=G.na;omega)).2;omega);obtain ⟨FE,hFE⟩:∃ FE:Nat→Int,∀ i,FE i=(g.wi.getD i (0,0)).1:=⟨_,fun _=>rfl⟩;obtain ⟨FN,hFN⟩:∃ FN:Nat→Int,∀ i,FN i=(g.wi.getD i (0,0)).2:=⟨_,fun _=>rfl⟩;obtain ⟨FD,hFD⟩:∃ FD:Nat→Int,∀ i,FD i=g.de.getD i 0:=⟨_,fun _=>rfl⟩;have HEL:=hid (show ∀ x y z,elE g x y z=FE (elI g x y z)∧elN g x y z=FN (elI g x y z)∧elD g x y z=FD (elI g x y z) from fun x y z=>⟨(hFE _).symm,(hFN _).symm,(hFD _).symm⟩);have HFB:=hid (show ∀ i,(-340<=FE i∧FE i<=340)∧(-340<=FN i∧FN i<=340) ∧ -4000<=FD i∧FD i<=4000 from fun i=>by rw [hFE,hFN,hFD];exact ⟨(MG G i).1,(MG G i).2,R7 G i⟩)
 have HWC:=hid (fun W (h:HuS g ax ay bx by_ lo hi w W) (i:Nat) (hi:i<g.swi.n)=>show W.cell? ⟨bw,ow+i * 2,none⟩=some (vI (FE i))∧W.cell? ⟨bw,ow+i * 2+1,none⟩=some (vI (FN i))∧W.cell? ⟨w.heap.size,6,none⟩=some (.slice (some ⟨bw,ow,none⟩) g.swi.n g.swi.c) from by
  obtain ⟨p,hp⟩:=Am h.li.wi.len hi;obtain ⟨b',o',h1,_,h3⟩:=h.li.wi.cells (by omega)
  rw [hAw] at h1;injection h1 with h1;injection h1 with h1 h2;subst h1;subst h2
  have e1:g.wi.getD i (0,0)=p:=by rw [Dp,hp];rfl
  rw [hFE,hFN,e1]
  exact ⟨h3 i p hp 0 _ rfl,h3 i p hp 1 _ rfl,by rw [← hAw];exact h.G.cell 6 _ rfl⟩)
 have HDC:=hid (fun W (h:HuS g ax ay bx by_ lo hi w W) (i:Nat) (hi:i<g.sde.n)=>show W.cell? ⟨bd,od+i,none⟩=some (vI (FD i))∧W.cell? ⟨w.heap.size,7,none⟩=some (.slice (some ⟨bd,od,none⟩) g.sde.n g.sde.c) from by
  obtain ⟨p,hp⟩:=Am h.li.de.len hi;obtain ⟨b',o',h1,_,h3⟩:=h.li.de.cells (by omega)
  rw [hAd] at h1;injection h1 with h1;injection h1 with h1 h2;subst h1;subst h2
  have e1:g.de.getD i 0=p:=by rw [Dp,hp];rfl
  rw [hFD,e1]
  exact ⟨h3 i p hp,by rw [← hAd];exact h.G.cell 7 _ rfl⟩)
 clear hAw hAd hFE hFN hFD;have lw:=hok.wi;have ld:=hok.de
 unfold maxLen at lw ld
 clear hE ha hb hok hl pa pb hne G h0 h1 h2;generalize Wg.sI g.cx g.ce g.nx (min ax bx)=x0 at *;generalize Wg.sI g.cx g.ce g.nx (max ax bx)=xm at *;generalize Wg.sI g.cy g.ce g.ny (min ay by_)=y0 at *;generalize Wg.sI g.cy g.ce g.ny (max ay by_)=ym at *;generalize Wg.lI g.al lo=z0 at *;generalize Wg.lI g.al hi=zm at *;generalize G6 g ax ay bx by_ lo hi=HV6 at *
 go_enter Tryz.func99,Tryz.ntmps99
 go_wp2_with fail
 refine (HC.out _ HS.out.B).mono ?_;rintro e' w1 ⟨rfl,hB⟩
 replace HS:=hid (HS.out.below hB);clear hB HC;obtain ⟨_,c10,c11,c12,c13,c14,c15⟩:=HS.out.cells
 go_wp2_with fail
 refine (HPA.out _).mono ?_;rintro e' w2 ⟨rfl,hB⟩
 replace HS:=hid (HS.out.below hB);clear hB c10 c11 c12 c13 c14 c15;obtain ⟨_,c10,c11,c12,c13,c14,c15⟩:=HS.out.cells
 go_wp2_with fail
 refine (HPB.out _).mono ?_;rintro e' w3 ⟨rfl,hB⟩
 replace HS:=hid (HS.out.below hB);clear hB c10 c11 c12 c13 c14 c15;obtain ⟨_,c10,c11,c12,c13,c14,c15⟩:=HS.out.cells
 go_wp2_with fail
 clear c10 c11 c12 c13 c14 c15
 have hfd:∀ (a b c:Int) W,(Instr.field 114 (.agg #[vI a,vI b,vI c]) 0).run Tryz.prog W=.ok (vI a) W:=fun _ _ _ _=>by kernel_rfl
 have v1:=iW (xm+1);have v2:=iW (g.nx - 1)
 refine rS (HuS g ax ay bx by_ lo hi w) 35 (HS.out.drew) (fun hHeld=>?_)
 iterate 2 refine rQ ?_
 refine rT (fun W hW=>HuS.cells hW) ?_
 refine rQ ?_
 refine rT (fun W hW=>HuS.cells hW) ?_
 refine rQ ?_
 refine rT (fun W hW=>HuS.cells hW) ?_
 refine rQ ?_
 refine rT (fun W hW=>HuS.cells hW) ?_
 refine rQ ?_
 refine rT (fun W hW=>HuS.cells hW) ?_
 iterate 3 refine rQ ?_
 refine rT (fun W hW=>HuS.cells hW) ?_
 refine rQ ?_
 refine rT (fun W hW=>HuS.cells hW) ?_
 refine rQ ?_
 refine rT (fun W hW=>HuS.cells hW) ?_
 refine rQ ?_
 refine rT (fun W hW=>HuS.cells hW) ?_
 refine rQ ?_
 refine rT (fun W hW=>HuS.cells hW) ?_
 iterate 2 refine rQ ?_
 refine rT (fun W hW=>HuS.cells hW) ?_
 refine rQ ?_
 refine rEk ?_
 intro K hK
 refine (X0.out _).mono ?_;rintro e2 w4 ⟨rfl,hB⟩
 go_wp2_with fail
 have hNew:=hHeld.below hB;clear hB
 refine rEt hK hNew ?_
 clear hK K hNew hHeld
 intro hHeld
 refine rQ ?_
 refine rEk ?_
 intro K hK
 refine (X1.out _).mono ?_;rintro e2 w4 ⟨rfl,hB⟩
 go_wp2_with fail
 have hNew:=hHeld.below hB;clear hB
 refine rEt hK hNew ?_
 clear hK K hNew hHeld
 intro hHeld
 iterate 5 refine rQ ?_
 refine rD ?_
 replace HS:=hid hHeld;clear hHeld v1 v2;have v1:=iW (ym+1);have v2:=iW (g.ny - 1)
 go_wp2_with fail
 refine rS (HuS g ax ay bx by_ lo hi w) 35 (HS.out.drew) (fun hHeld=>?_)
 iterate 2 refine rQ ?_
 refine rT (fun W hW=>HuS.cells hW) ?_
 refine rQ ?_
 refine rT (fun W hW=>HuS.cells hW) ?_
 refine rQ ?_
 refine rT (fun W hW=>HuS.cells hW) ?_
 refine rQ ?_
 refine rT (fun W hW=>HuS.cells hW) ?_
 refine rQ ?_
 refine rT (fun W hW=>HuS.cells hW) ?_
 iterate 3 refine rQ ?_
 refine rT (fun W hW=>HuS.cells hW) ?_
 refine rQ ?_
 refine rT (fun W hW=>HuS.cells hW) ?_
 refine rQ ?_
 refine rT (fun W hW=>HuS.cells hW) ?_
 refine rQ ?_
 refine rT (fun W hW=>HuS.cells hW) ?_
 refine rQ ?_
 refine rT (fun W hW=>HuS.cells hW) ?_
 iterate 2 refine rQ ?_
 refine rT (fun W hW=>HuS.cells hW) ?_
 refine rQ ?_
 refine rEk ?_
 intro K hK
 refine (Y0.out _).mono ?_;rintro e2 w4 ⟨rfl,hB⟩
 go_wp2_with fail
 have hNew:=hHeld.below hB;clear hB
 refine rEt hK hNew ?_
 clear hK K hNew hHeld
 intro hHeld
 refine rQ ?_
 refine rEk ?_
 intro K hK
 refine (Y1.out _).mono ?_;rintro e2 w4 ⟨rfl,hB⟩
 go_wp2_with fail
 have hNew:=hHeld.below hB;clear hB
 refine rEt hK hNew ?_
 clear hK K hNew hHeld
 intro hHeld
 iterate 5 refine rQ ?_
 refine rD ?_
 replace HS:=hid hHeld;clear hHeld v1 v2;have v1:=iW ((zm:Int)+1);have v2:=iW ((g.sal.n:Int) - 1)
 go_wp2_with fail
 refine rS (HuS g ax ay bx by_ lo hi w) 20 (HS.out.drew) (fun hHeld=>?_)
 refine rQ ?_
 refine rT (fun W hW=>HuS.cells hW) ?_
 refine rQ ?_
 refine rT (fun W hW=>HuS.cells hW) ?_
 refine rQ ?_
 refine rT (fun W hW=>HuS.cells hW) ?_
 refine rQ ?_
 refine rT (fun W hW=>HuS.cells hW) ?_
 refine rQ ?_
 refine rT (fun W hW=>HuS.cells hW) ?_
 iterate 2 refine rQ ?_
 refine rEk ?_
 intro K hK
 refine (Z0.out _ hHeld).mono ?_;rintro e2 w4 ⟨rfl,hB⟩
 go_wp2_with fail
 have hNew:=hHeld.below hB;clear hB
 refine rEt hK hNew ?_
 clear hK K hNew hHeld
 intro hHeld
 refine rQ ?_
 refine rEk ?_
 intro K hK
 refine (Z1.out _ hHeld).mono ?_;rintro e2 w4 ⟨rfl,hB⟩
 go_wp2_with fail
 have hNew:=hHeld.below hB;clear hB
 refine rEt hK hNew ?_
 clear hK K hNew hHeld
 intro hHeld
 iterate 5 refine rQ ?_
 refine rD ?_
 replace HS:=hid hHeld;clear hHeld v1 v2;generalize hx1:min (xm+1) (g.nx - 1)=x1 at *;generalize hy1:min (ym+1) (g.ny - 1)=y1 at *;generalize hz1:min ((zm:Int)+1) ((g.sal.n:Int) - 1)=z1 at *
 have rx:0<=x0∧x0<=x1∧x1<g.nx:=by omega
 have ry:0<=y0∧y0<=y1∧y1<g.ny:=by omega
 have rz:(z0:Int)<=z1∧z1<(g.sal.n:Int):=by omega
 clear hx1 hy1 hz1 mx my mz bx0 bx1 by0 by1 bz1 X0 X1 Y0 Y1 Z0 Z1 HPA HPB;obtain ⟨⟨g0,g1,g2,g3,g4,g5,g6,g7,g8⟩,_⟩:=HS.out.cells
 go_wp2_with fail
 refine (HIX.out x0 y0 z0 (by omega) (by omega) (by omega) _).mono ?_;rintro e2 w5 ⟨rfl,hB⟩
 replace HS:=hid (HS.out.below hB);clear hB g0 g1 g2 g3 g4 g5 g6 g7 g8;obtain ⟨il,jl⟩:=HIL.out x0 y0 z0 (by omega) (by omega) (by omega);have V0:=hid (HEL.out x0 y0 z0);generalize elI g x0 y0 (z0:Int)=I0 at *
 have i0:(0:Int)<=(I0:Int):=by omega
 have i1:(I0:Int)<(g.swi.n:Int):=by omega
 have i2:(I0:Int)<(g.sde.n:Int):=by omega
 go_wp2_with fail
 refine rS (HuS g ax ay bx by_ lo hi w) 29 (HS.out.drew) (fun hHeld=>?_)
 refine rQ ?_
 refine rT (fun W hW=>HWC.out _ hW I0 il) ?_
 iterate 3 refine rQ ?_
 refine rT (fun W hW=>HWC.out _ hW I0 il) ?_
 refine rQ ?_
 refine rT (fun W hW=>HWC.out _ hW I0 il) ?_
 iterate 3 refine rQ ?_
 refine rT (fun W hW=>HWC.out _ hW I0 il) ?_
 iterate 2 refine rQ ?_
 refine rT (fun W hW=>HWC.out _ hW I0 il) ?_
 iterate 3 refine rQ ?_
 refine rT (fun W hW=>HWC.out _ hW I0 il) ?_
 refine rQ ?_
 refine rT (fun W hW=>HWC.out _ hW I0 il) ?_
 iterate 3 refine rQ ?_
 refine rT (fun W hW=>HWC.out _ hW I0 il) ?_
 iterate 2 refine rQ ?_
 refine rEk ?_
 intro K hK
 have hBase:=hHeld;have hNew:=hHeld.alloc (.cells #[vI 0,vI 0,vI 0,vI 0] 73)
 refine rEt hK hNew ?_
 clear hK K hNew hHeld
 intro hHeld
 refine rEk ?_
 intro K hK
 have hNew:=hBase.alloc (.cells #[vI (FE I0),vI (FE I0),vI (FN I0),vI (FN I0)] 73)
 refine rEt hK hNew ?_
 clear hK K hNew hHeld
 intro hHeld
 refine rD ?_
 have HX:Hid (Has (w5.alloc (.cells #[vI (FE I0),vI (FE I0),vI (FN I0),vI (FN I0)] 73)).drew w5.heap.size (lz4 (FE I0) (FE I0) (FN I0) (FN I0))):=hid (Has.new w5 _ _).drew;have hNX:w.heap.size+6<=w5.heap.size:=hBase.sz
 have hNX2:w5.heap.size<(w5.alloc (.cells #[vI (FE I0),vI (FE I0),vI (FN I0),vI (FN I0)] 73)).drew.heap.size:=by have:=HX.out.lt;exact this
 replace HS:=hid hHeld;clear hHeld hBase;generalize (w5.alloc (.cells #[vI (FE I0),vI (FE I0),vI (FN I0),vI (FN I0)] 73)).drew=w6 at *;generalize w5.heap.size=NX at *
 go_wp2_with fail
 refine rS (HuS g ax ay bx by_ lo hi w) 13 (HS.out.drew) (fun hHeld=>?_)
 refine rQ ?_
 refine rT (fun W hW=>HDC.out _ hW I0 jl) ?_
 iterate 2 refine rQ ?_
 refine rT (fun W hW=>HDC.out _ hW I0 jl) ?_
 refine rQ ?_
 refine rT (fun W hW=>HDC.out _ hW I0 jl) ?_
 iterate 2 refine rQ ?_
 refine rT (fun W hW=>HDC.out _ hW I0 jl) ?_
 refine rQ ?_
 refine rEk ?_
 intro K hK
 have hBase:=hHeld;have hNew:=hHeld.alloc (.cells #[vI 0,vI 0] 50)
 refine rEt hK hNew ?_
 clear hK K hNew hHeld
 intro hHeld
 refine rEk ?_
 intro K hK
 have hNew:=hBase.alloc (.cells #[vI (FD I0),vI (FD I0)] 50)
 refine rEt hK hNew ?_
 clear hK K hNew hHeld
 intro hHeld
 refine rD ?_
 have HY:Hid (Has (w6.alloc (.cells #[vI (FD I0),vI (FD I0)] 50)).drew w6.heap.size (lz2 (FD I0) (FD I0))):=hid (Has.new w6 _ _).drew;replace HX:=hid (HX.out.alloc (.cells #[vI (FD I0),vI (FD I0)] 50)).drew;have hNY:w.heap.size+6<=w6.heap.size:=hBase.sz
 have hXY:NX≠w6.heap.size:=by omega
 have HQ:Hid (HqV g ax ay bx by_ lo hi w NX w6.heap.size (FE I0) (FE I0) (FN I0) (FN I0) (FD I0) (FD I0) (w6.alloc (.cells #[vI (FD I0),vI (FD I0)] 50)).drew):=hid ⟨hHeld,HX.out,HY.out,hNX,hNY,hXY⟩;clear hHeld hBase HX HY HS hNX2;generalize (w6.alloc (.cells #[vI (FD I0),vI (FD I0)] 50)).drew=w7 at *;generalize w6.heap.size=NY at *;have HZ:Hid (HqS g ax ay bx by_ lo hi w NX NY x0 y0 z0 (fun _ _ _=>False) w7):=hid ⟨_,_,_,_,_,_,HQ.out,V0.out.1 ▸ Wg.Seen.start _ _ _ _,V0.out.2.1 ▸ Wg.Seen.start _ _ _ _,V0.out.2.2 ▸ Wg.Seen.start _ _ _ _⟩;clear HQ V0 il jl i0 i1 i2
 go_wp2_with fail
 go_loopw [21] (fun t W=>Afg g ax ay bx by_ lo hi w NX NY x0 x1 y0 y1 z0 z1 t W) (fun t _=>(z1+1 - intOf t).toNat)
 case atStart=>exact ⟨z0,by omega,rfl,HZ.out.cong fun a b c=>by simp only [Bx,By,Bz];constructor <;> intro h <;> first | omega | exact h.elim⟩
 case round =>
  obtain ⟨z,hz,rfl,hs⟩:=hrel;replace HZ:=hid hs;clear hs
  by_cases hlt:z<=z1
  rotate_left
  ·have hze:z=z1+1:=by omega
   subst hze;obtain ⟨e0,e1,n0,n1,d0,d1,hq,se,sn,sd⟩:=HZ.out
   have ce:=se.done (x1:=x1) (y1:=y1) (z1:=z1) (fun a b c=>by simp only [Bz];constructor <;> intro h <;> omega)
   have cn:=sn.done (x1:=x1) (y1:=y1) (z1:=z1) (fun a b c=>by simp only [Bz];constructor <;> intro h <;> omega)
   have cd:=sd.done (x1:=x1) (y1:=y1) (z1:=z1) (fun a b c=>by simp only [Bz];constructor <;> intro h <;> omega)
   have be:=Jr (h:=⟨x0,x1,y0,y1,(z0:Int),z1⟩) (VB HG.out);have bn:=Jr (h:=⟨x0,x1,y0,y1,(z0:Int),z1⟩) (VC HG.out)
   have be2 : -340<=e0∧e0<=e1∧e1<=340:=by rw [ce.1,ce.2];exact be
   have bn2 : -340<=n0∧n0<=n1∧n1<=340:=by rw [cn.1,cn.2];exact bn
   have her:=HG.out.er
   have HR:=hid (show HV6.e0=e0 - g.er∧HV6.e1=e1+g.er∧HV6.n0=n0 - g.er∧HV6.n1=n1+g.er∧HV6.d0=d0∧HV6.d1=d1 from by
    rw [HV.out,ce.1,ce.2,cn.1,cn.2,cd.1,cd.2];exact ⟨rfl,rfl,rfl,rfl,rfl,rfl⟩)
   have HQ:=hid hq;clear hq se sn sd ce cn cd be bn HZ HV HIX HIL HEL HFB HWC HDC HG
   have ip0:∀ W,(Instr.index 180 (.agg #[.pointer (some ⟨NX,0,none⟩),.pointer (some ⟨NX,2,none⟩)]) (vI 0)).run Tryz.prog W=.ok (.pointer (some ⟨NX,0,none⟩)) W:=fun _=>by kernel_rfl
   have ip1:∀ W,(Instr.index 180 (.agg #[.pointer (some ⟨NX,0,none⟩),.pointer (some ⟨NX,2,none⟩)]) (vI 1)).run Tryz.prog W=.ok (.pointer (some ⟨NX,2,none⟩)) W:=fun _=>by kernel_rfl
   go_wp2_with fail
   refine wp_loop_rounds 3 ?_
   rw [rounds_succ]
   go_wp2_with fail
   have q0:=HQ.out.X.cell 0 _ rfl;have q1:=HQ.out.X.fr 0;have q2:=HQ.out.H.G.cell 8 (vI g.er) rfl;have q3:=iW (e0 - g.er)
   go_region
   replace HQ:=hid (HqV.drew (HQ.out.x0 (e0 - g.er)));generalize (wr.setCell ⟨NX,0,none⟩ (vI (e0 - g.er))).drew=v0 at *;clear q0 q1 q2 q3
   go_wp2_with fail
   have q0:=HQ.out.X.cell 1 _ rfl;have q1:=HQ.out.X.fr 1;have q2:=HQ.out.H.G.cell 8 (vI g.er) rfl;have q3:=iW (e1+g.er)
   go_region
   replace HQ:=hid (HqV.drew (HQ.out.x1 (e1+g.er)));generalize (v0.setCell ⟨NX,1,none⟩ (vI (e1+g.er))).drew=v1 at *;clear q0 q1 q2 q3
   go_wp2_with fail
   rw [rounds_succ]
   go_wp2_with fail
   have q0:=HQ.out.X.cell 2 _ rfl;have q1:=HQ.out.X.fr 2;have q2:=HQ.out.H.G.cell 8 (vI g.er) rfl;have q3:=iW (n0 - g.er)
   go_region
   replace HQ:=hid (HqV.drew (HQ.out.x2 (n0 - g.er)));generalize (v1.setCell ⟨NX,2,none⟩ (vI (n0 - g.er))).drew=v2 at *;clear q0 q1 q2 q3
   go_wp2_with fail
   have q0:=HQ.out.X.cell 3 _ rfl;have q1:=HQ.out.X.fr 3;have q2:=HQ.out.H.G.cell 8 (vI g.er) rfl;have q3:=iW (n1+g.er)
   go_region
   replace HQ:=hid (HqV.drew (HQ.out.x3 (n1+g.er)));generalize (v2.setCell ⟨NX,3,none⟩ (vI (n1+g.er))).drew=v3 at *;clear q0 q1 q2 q3
   go_wp2_with fail
   rw [rounds_succ]
   go_wp2_with fail
   have q0:=HQ.out.X.cell 0 _ rfl;have q1:=HQ.out.X.cell 1 _ rfl;have q2:=HQ.out.X.cell 2 _ rfl;have q3:=HQ.out.X.cell 3 _ rfl;have p0:=HQ.out.Y.cell 0 _ rfl;have p1:=HQ.out.Y.cell 1 _ rfl;have r0:=HQ.out.H.R.cell 0 _ rfl;have r1:=HQ.out.H.R.cell 1 _ rfl;have r2:=HQ.out.H.R.cell 2 _ rfl;have r3:=HQ.out.H.R.cell 3 _ rfl;have rf:=HQ.out.H.R.fr;have t0:=HQ.out.H.Q.cell 0 _ rfl;have t1:=HQ.out.H.Q.cell 1 _ rfl;have tf:=HQ.out.H.Q.fr
   go_region
   all_goals (
    go_wp2_with fail
    exact bodyPost_ret (v:=.tuple #[.agg #[vI (e0 - g.er),vI (e1+g.er),vI (n0 - g.er),vI (n1+g.er)],.agg #[vI d0,vI d1],vI 0]) (by simp [results,Tryz.results99,go_sem,r0,r1,r2,r3,t0,t1]) rfl ⟨by obtain ⟨a1,a2,a3,a4,a5,a6⟩:=HR.out;rw [a1,a2,a3,a4,a5,a6],by repeat (first | exact HQ.out.H.B | apply Below.drew | refine Below.setCell ?_ (by first | (show w.heap.size<=w.heap.size+1+1+1+1;omega) | (show w.heap.size<=w.heap.size+1+1+1+1+1;omega)) _)⟩)
  go_wp2_with fail
  obtain ⟨wo,rfl⟩:∃ wo:World,wo=wr:=⟨_,rfl⟩
  go_loopw [22] (fun t W=>Aff g ax ay bx by_ lo hi w NX NY x0 x1 y0 y1 z0 z t W) (fun t _=>(y1+1 - intOf t).toNat)
  case atStart=>exact ⟨y0,by omega,rfl,HZ.out.cong fun a b c=>by simp only [Bx,By,Bz];constructor <;> intro h <;> first | omega | exact h.elim⟩
  case round =>
   obtain ⟨y,hy,rfl,hs⟩:=hrel;replace HZ:=hid hs;clear hs
   by_cases hlty:y<=y1
   rotate_left
   ·have hye:y=y1+1:=by omega
    subst hye;have sz1:=iW (z+1)
    go_wp2_with fail
    go_roundw
    case rel=>exact ⟨z+1,by omega,rfl,HZ.out.cong fun a b c=>by simp only [Bx,By,Bz];constructor <;> intro h <;> first | omega | exact h.elim⟩
    case measure=>exact zMs
   go_wp2_with fail
   obtain ⟨wo2,rfl⟩:∃ wo:World,wo=wr:=⟨_,rfl⟩
   go_loopw [23] (fun t W=>Afe g ax ay bx by_ lo hi w NX NY x0 x1 y0 y1 z0 z y t W) (fun t _=>(x1+1 - intOf t).toNat)
   case atStart=>exact ⟨x0,by omega,rfl,HZ.out.cong fun a b c=>by simp only [Bx,By,Bz];constructor <;> intro h <;> first | omega | exact h.elim⟩
   case round =>
    obtain ⟨x,hx,rfl,hs⟩:=hrel;replace HZ:=hid hs;clear hs
    by_cases hltx:x<=x1
    rotate_left
    ·have hxe:x=x1+1:=by omega
     subst hxe;have sy1:=iW (y+1)
     go_wp2_with fail
     go_roundw
     case rel=>exact ⟨y+1,by omega,rfl,HZ.out.cong fun a b c=>by simp only [Bx,By,Bz];constructor <;> intro h <;> first | omega | exact h.elim⟩
     case measure=>exact zMs
    obtain ⟨e0,e1,n0,n1,d0,d1,hq,se,sn,sd⟩:=HZ.out;have HQ:=hid hq;have HSE:=hid se;have HSN:=hid sn;have HSD:=hid sd;clear hq se sn sd HZ;obtain ⟨⟨g0,g1,g2,g3,g4,g5,g6,g7,g8⟩,_⟩:=HQ.out.H.cells
    go_wp2_with fail
    refine (HIX.out x y z (by omega) (by omega) (by omega) _).mono ?_;rintro e2 w8 ⟨rfl,hB⟩
    replace HQ:=hid (HQ.out.below hB);clear hB g0 g1 g2 g3 g4 g5 g6 g7 g8;obtain ⟨il,jl⟩:=HIL.out x y z (by omega) (by omega) (by omega);have HVV:=hid (HEL.out x y z);generalize elI g x y z=I0 at *
    have i0:(0:Int)<=(I0:Int):=by omega
    have i1:(I0:Int)<(g.swi.n:Int):=by omega
    have i2:(I0:Int)<(g.sde.n:Int):=by omega
    obtain ⟨y0',_,k6⟩:=HWC.out _ HQ.out.H I0 il
    go_wp2_with fail
    refine (LG NX 0 e0 e1 (FE I0) _ (HQ.out.X.cell 0 _ rfl) (HQ.out.X.cell 1 _ rfl) (HQ.out.X.fr 0) (HQ.out.X.fr 1)).mono ?_;rintro e2 w9 ⟨rfl,hw9⟩
    replace HQ:=hid (show HqV g ax ay bx by_ lo hi w NX NY (min e0 (FE I0)) (max e1 (FE I0)) n0 n1 d0 d1 w9 from by rw [hw9];exact (HQ.out.sE _ _).drew);clear hw9 y0' k6;obtain ⟨_,y1',k6⟩:=HWC.out _ HQ.out.H I0 il
    go_wp2_with fail
    refine (LG NX 2 n0 n1 (FN I0) _ (HQ.out.X.cell 2 _ rfl) (HQ.out.X.cell 3 _ rfl) (HQ.out.X.fr 2) (HQ.out.X.fr 3)).mono ?_;rintro e2 w10 ⟨rfl,hw9⟩
    replace HQ:=hid (show HqV g ax ay bx by_ lo hi w NX NY (min e0 (FE I0)) (max e1 (FE I0)) (min n0 (FN I0)) (max n1 (FN I0)) d0 d1 w10 from by rw [hw9];exact (HQ.out.sN _ _).drew);clear hw9 y1' k6;obtain ⟨y2',k7⟩:=HDC.out _ HQ.out.H I0 jl
    go_wp2_with fail
    refine (LG NY 0 d0 d1 (FD I0) _ (HQ.out.Y.cell 0 _ rfl) (HQ.out.Y.cell 1 _ rfl) (HQ.out.Y.fr 0) (HQ.out.Y.fr 1)).mono ?_;rintro e2 w11 ⟨rfl,hw9⟩
    replace HQ:=hid (show HqV g ax ay bx by_ lo hi w NX NY (min e0 (FE I0)) (max e1 (FE I0)) (min n0 (FN I0)) (max n1 (FN I0)) (min d0 (FD I0)) (max d1 (FD I0)) w11 from by rw [hw9];exact (HQ.out.sD _ _).drew);clear hw9 y2' k7;have sx1:=iW (x+1)
    go_wp2_with fail
    go_roundw
    case rel=>exact ⟨x+1,by omega,rfl,_,_,_,_,_,_,HQ.out,by rw [← HVV.out.1];exact HSE.out.step (fun a b c=>by simp only [Bx,By,Bz];constructor <;> intro h <;> first | omega | exact h.elim),by rw [← HVV.out.2.1];exact HSN.out.step (fun a b c=>by simp only [Bx,By,Bz];constructor <;> intro h <;> first | omega | exact h.elim),by rw [← HVV.out.2.2];exact HSD.out.step (fun a b c=>by simp only [Bx,By,Bz];constructor <;> intro h <;> first | omega | exact h.elim)⟩
    case measure=>exact zMs
