
/- Layer 36: forecasts, the program's functions: At. -/
import Derived.Test.YtedcanagfajcgaaGreatM19
set_option linter.unusedSimpArgs false
set_option linter.unusedVariables false
set_option maxRecDepth 100000
set_option maxHeartbeats 8000000
namespace Go.Proofs
theorem Yf{G:Prop}(h:G:=by
  refine aD rfl (fun K hK=>mA st_9_19_23_24_25_26.out) ?_
  exact AllReadyH.nil):G:=h
theorem Yg{G:Prop}(h:G:=by
  refine aD rfl (fun K hK=>mA st_9_19_24_25_26.out) ?_
  exact AllReadyH.nil):G:=h
theorem Yh{G:Prop}(h:G:=by
  refine aD rfl (fun K hK=>mA st_9_24_25_26.out) ?_
  exact AllReadyH.nil):G:=h
theorem Yi{G:Prop}(h:G:=by
  refine aD rfl (fun K hK=>mA st_24_25_26.out) ?_
  exact AllReadyH.nil):G:=h
theorem Yj{G:Prop}(h:G:=by
  go_wp2_with fail
  go_ret
  exact ⟨Af HV.out.symm,AJ _ _⟩):G:=h
end Go.Proofs
namespace Go.Proofs.YtedcanagfajcgaaGreat
open Go.RowKit
open Go.Lib (hid)
structure GpS (g:Grd) (px py:Int) (w W:World):Prop where
 G:Has W w.heap.size g.cells
 P:Has W (w.heap.size+1) (lz2 px py)
 R:Has W (w.heap.size+1+1) (lz2 0 0)
 L:g.lies w
 B:Below w.heap.size w W
 sz:w.heap.size+3<=W.heap.size
section
variable {g:Grd} {px py:Int} {w W W1:World}
theorem GpS.below (h:GpS g px py w W) (hb:Below W.heap.size W W1):GpS g px py w W1:=⟨h.G.below hb,h.P.below hb,h.R.below hb,h.L,Ae h.B hb,Nat.le_trans h.sz hb.size⟩
theorem GpS.drew (h:GpS g px py w W):GpS g px py w W.drew:=h.below (AJ _ _).drew
theorem GpS.alloc (h:GpS g px py w W) (o:Obj):GpS g px py w (W.alloc o):=h.below (Aa _ _)
theorem GpS.cells (h:GpS g px py w W):(W.cell? ⟨w.heap.size,0,none⟩=some (vI g.cx)∧W.cell? ⟨w.heap.size,1,none⟩=some (vI g.cy)∧W.cell? ⟨w.heap.size,2,none⟩=some (vI g.ce)∧W.cell? ⟨w.heap.size,3,none⟩=some (vI g.nx)∧W.cell? ⟨w.heap.size,4,none⟩=some (vI g.ny)∧W.cell? ⟨w.heap.size,5,none⟩=some (.slice g.sal.A g.sal.n g.sal.c))∧W.cell? ⟨w.heap.size+1,0,none⟩=some (vI px)∧W.cell? ⟨w.heap.size+1,1,none⟩=some (vI py) :=
 ⟨⟨h.G.cell 0 _ rfl,h.G.cell 1 _ rfl,h.G.cell 2 _ rfl,h.G.cell 3 _ rfl,h.G.cell 4 _ rfl,h.G.cell 5 _ rfl⟩,h.P.cell 0 _ rfl,h.P.cell 1 _ rfl⟩
end
theorem KR {W:World} {H:Nat} {x y z:Value} (h:Has W H [x,y,z]) (v0 v1 v2:Value):Has (((W.setCell ⟨H,0,none⟩ v0).setCell ⟨H,1,none⟩ v1).setCell ⟨H,2,none⟩ v2) H [v0,v1,v2] :=
 ((h.set 0 v0 (by simp)).set 1 v1 (by simp)).set 2 v2 (by simp)
theorem Dc {W:World} {b H:Nat} {cs:List Value} (h:Has W b cs) (hne:b≠H) (v0 v1 v2:Value):Has (((W.setCell ⟨H,0,none⟩ v0).setCell ⟨H,1,none⟩ v1).setCell ⟨H,2,none⟩ v2) b cs :=
 ((h.other H 0 v0 hne).other H 1 v1 hne).other H 2 v2 hne
theorem GpS.set3 {g:Grd} {px py:Int} {w W:World} (h:GpS g px py w W) {H:Nat} (hH:w.heap.size+3<=H) (v0 v1 v2:Value):GpS g px py w (((W.setCell ⟨H,0,none⟩ v0).setCell ⟨H,1,none⟩ v1).setCell ⟨H,2,none⟩ v2) :=
 ⟨Dc h.G (by omega) _ _ _,Dc h.P (by omega) _ _ _,Dc h.R (by omega) _ _ _,h.L,((h.B.setCell (p:=⟨H,0,none⟩) (by show w.heap.size<=H;omega) _).setCell (p:=⟨H,1,none⟩) (by show w.heap.size<=H;omega) _).setCell (p:=⟨H,2,none⟩) (by show w.heap.size<=H;omega) _,by simpa [World.setCell] using h.sz⟩
theorem VZ (g:Grd) (px py:Int) (w:World) (hl:g.lies w):GpS g px py w (((w.alloc (.cells #[vI g.cx,vI g.cy,vI g.ce,vI g.nx,vI g.ny,.slice g.sal.A g.sal.n g.sal.c,.slice g.swi.A g.swi.n g.swi.c,.slice g.sde.A g.sde.n g.sde.c,vI g.er] 31)).alloc (.cells #[vI px,vI py] 28)).alloc (.cells #[vI 0,vI 0] 62)) :=
 ⟨((Has.new w _ _).alloc _).alloc _,(Has.newAt (w.alloc _) _ _ (w.heap.size+1) (by simp)).alloc _,Has.newAt ((w.alloc _).alloc _) _ _ (w.heap.size+1+1) (by simp),hl,Da _ _ _ _,by simp⟩
theorem AfN (g:Grd) (bg:Nat) (w:World) (k:Nat) (hG:Has w bg g.cells) (hL:g.lies w) (hk:k<g.swi.n) (hm:g.swi.n<=maxLen):Calls Tryz.prog 64 #[vI k,.pointer (some ⟨bg,0,none⟩)] w fun e' w'=>e'=.returned (vI ((g.wi.getD k (0,0)).1))∧Below w.heap.size w w':=by
 unfold maxLen at hm
 obtain ⟨p,hp⟩:=Am hL.wi.len hk;obtain ⟨b,off,hA,hb,hc⟩:=hL.wi.cells (by omega);have y0:w.cell? ⟨b,off+k * 2,none⟩=some (vI p.1):=hc k p hp 0 _ rfl;have k6:w.cell? ⟨bg,6,none⟩=some (.slice g.swi.A g.swi.n g.swi.c):=hG.cell 6 _ rfl;have HV:=hid (show (g.wi.getD k (0,0)).1=p.1 by rw [Dp,hp];rfl)
 rw [hA] at k6
 have i0:(0:Int)<=(k:Int):=by omega
 have i1:(k:Int)<(g.swi.n:Int):=by omega
 clear hG hL hp hA hc
 go_enter Tryz.func64,Tryz.ntmps64
 exact Yj
theorem AfO (g:Grd) (bg:Nat) (w:World) (k:Nat) (hG:Has w bg g.cells) (hL:g.lies w) (hk:k<g.swi.n) (hm:g.swi.n<=maxLen):Calls Tryz.prog 65 #[vI k,.pointer (some ⟨bg,0,none⟩)] w fun e' w'=>e'=.returned (vI ((g.wi.getD k (0,0)).2))∧Below w.heap.size w w':=by
 unfold maxLen at hm
 obtain ⟨p,hp⟩:=Am hL.wi.len hk;obtain ⟨b,off,hA,hb,hc⟩:=hL.wi.cells (by omega);have y0:w.cell? ⟨b,off+k * 2+1,none⟩=some (vI p.2):=hc k p hp 1 _ rfl;have k6:w.cell? ⟨bg,6,none⟩=some (.slice g.swi.A g.swi.n g.swi.c):=hG.cell 6 _ rfl;have HV:=hid (show (g.wi.getD k (0,0)).2=p.2 by rw [Dp,hp];rfl)
 rw [hA] at k6
 have i0:(0:Int)<=(k:Int):=by omega
 have i1:(k:Int)<(g.swi.n:Int):=by omega
 clear hG hL hp hA hc
 go_enter Tryz.func65,Tryz.ntmps65
 exact Yj
theorem AfP (g:Grd) (bg:Nat) (w:World) (k:Nat) (hG:Has w bg g.cells) (hL:g.lies w) (hk:k<g.sde.n) (hm:g.sde.n<=maxLen):Calls Tryz.prog 66 #[vI k,.pointer (some ⟨bg,0,none⟩)] w fun e' w'=>e'=.returned (vI (g.de.getD k 0))∧Below w.heap.size w w':=by
 unfold maxLen at hm
 obtain ⟨p,hp⟩:=Am hL.de.len hk;obtain ⟨b,off,hA,hb,hc⟩:=hL.de.cells (by omega);have y0:w.cell? ⟨b,off+k,none⟩=some (vI p):=hc k p hp;have k7:w.cell? ⟨bg,7,none⟩=some (.slice g.sde.A g.sde.n g.sde.c):=hG.cell 7 _ rfl;have HV:=hid (show g.de.getD k 0=p by rw [Dp,hp];rfl)
 rw [hA] at k7
 have i0:(0:Int)<=(k:Int):=by omega
 have i1:(k:Int)<(g.sde.n:Int):=by omega
 clear hG hL hp hA hc
 go_enter Tryz.func66,Tryz.ntmps66
 exact Yj
theorem AeI (g:Grd) (px py alt:Int) (w:World) (hl:g.lies w) (hok:g.ok) (hE:gdE g=0) (hp:ptB px py=true) (ha:inB alt (-200000) 6000000=true) :
  Calls Tryz.prog 18 #[.agg #[vI g.cx,vI g.cy,vI g.ce,vI g.nx,vI g.ny,.slice g.sal.A g.sal.n g.sal.c,.slice g.swi.A g.swi.n g.swi.c,.slice g.sde.A g.sde.n g.sde.c,vI g.er],.agg #[vI px,vI py],vI alt] w fun e' w'=>e'=.returned (.tuple #[.agg #[vI (gAt g (elE g) px py alt),vI (gAt g (elN g) px py alt)],vI (gAt g (elD g) px py alt),vI 0])∧Below w.heap.size w w':=by
 have HS:=hid (VZ g px py w hl);have HC:=hid (fun W hB=>Lv g W (hl.below (w':=W) hB) hok)
 rw [hE] at HC
 have HP:=hid (fun W=>Jh px py W)
 rw [hp] at HP
 have G:=Ez hE;have hpb:=Eg.1 hp;have hab:=Al.1 ha;have HSX:=hid (fun W=>MJ g.cx g.ce g.nx px G.cx G.ce G.nx hpb.1 W);have HSY:=hid (fun W=>MJ g.cy g.ce g.ny py G.cy G.ce G.ny hpb.2 W);have HSZ:=hid (fun W (h:GpS g px py w W)=>RA g.sal.A g.sal.n g.sal.c g.al alt W (h.L.below h.B).al G.na G.al hab)
 have hne:g.al≠[]:=by intro e;have h1:=hl.al.len;rw [e] at h1;have h2:=G.na;simp at h1;omega
 obtain ⟨z1,z2,z3,z4,z5⟩:=Wu (a:=alt) hne G.asc;have x3:=Wg.sI_bd (corner:=g.cx) (x:=px) G.ce.1 G.nx.1;have y3:=Wg.sI_bd (corner:=g.cy) (x:=py) G.ce.1 G.ny.1;have x4:=Wg.sF_bd (corner:=g.cx) (x:=px) G.ce.1 G.nx.1;have y4:=Wg.sF_bd (corner:=g.cy) (x:=py) G.ce.1 G.ny.1
 have hcz:1<=Wg.lC g.al alt∧Wg.lC g.al alt<=40000000:=⟨z3,by
  unfold Wg.lC;have a:=JK G.al (Wg.lI g.al alt+1);have b:=JK G.al (Wg.lI g.al alt);split <;> omega⟩
 have kk:AtK g (Wg.sI g.cx g.ce g.nx px) (Wg.sF g.cx g.ce g.nx px) (Wg.sI g.cy g.ce g.ny py) (Wg.sF g.cy g.ce g.ny py) (Wg.lI g.al alt) (Wg.lF g.al alt) g.ce (Wg.lC g.al alt) :=
  ⟨G,⟨x3.1,x3.2.2⟩,fun e=>x4.2.2 (by omega),⟨y3.1,y3.2.2⟩,fun e=>y4.2.2 (by omega),⟨by omega,by have:=hl.al.len;omega⟩,fun e=>by have:=z4 e;have:=hl.al.len;omega,⟨x4.1,x4.2.1⟩,⟨y4.1,y4.2.1⟩,⟨z1,z2⟩,⟨G.ce.1,by have:=G.ce;omega⟩,hcz⟩
 have KK:=hid kk;have HVE:=hid (show Wg.bl (plV g (fun k=>(g.wi.getD k (0,0)).1) (Wg.sI g.cx g.ce g.nx px) (Wg.sF g.cx g.ce g.nx px) (Wg.sI g.cy g.ce g.ny py) (Wg.sF g.cy g.ce g.ny py) g.ce (Wg.lI g.al alt)) (plV g (fun k=>(g.wi.getD k (0,0)).1) (Wg.sI g.cx g.ce g.nx px) (Wg.sF g.cx g.ce g.nx px) (Wg.sI g.cy g.ce g.ny py) (Wg.sF g.cy g.ce g.ny py) g.ce ((Wg.lI g.al alt:Nat)+1)) (Wg.lF g.al alt) (Wg.lC g.al alt)=gAt g (elE g) px py alt from rfl);have HVN:=hid (show Wg.bl (plV g (fun k=>(g.wi.getD k (0,0)).2) (Wg.sI g.cx g.ce g.nx px) (Wg.sF g.cx g.ce g.nx px) (Wg.sI g.cy g.ce g.ny py) (Wg.sF g.cy g.ce g.ny py) g.ce (Wg.lI g.al alt)) (plV g (fun k=>(g.wi.getD k (0,0)).2) (Wg.sI g.cx g.ce g.nx px) (Wg.sF g.cx g.ce g.nx px) (Wg.sI g.cy g.ce g.ny py) (Wg.sF g.cy g.ce g.ny py) g.ce ((Wg.lI g.al alt:Nat)+1)) (Wg.lF g.al alt) (Wg.lC g.al alt)=gAt g (elN g) px py alt from rfl);have HVD:=hid (show Wg.bl (plV g (fun k=>g.de.getD k 0) (Wg.sI g.cx g.ce g.nx px) (Wg.sF g.cx g.ce g.nx px) (Wg.sI g.cy g.ce g.ny py) (Wg.sF g.cy g.ce g.ny py) g.ce (Wg.lI g.al alt)) (plV g (fun k=>g.de.getD k 0) (Wg.sI g.cx g.ce g.nx px) (Wg.sF g.cx g.ce g.nx px) (Wg.sI g.cy g.ce g.ny py) (Wg.sF g.cy g.ce g.ny py) g.ce ((Wg.lI g.al alt:Nat)+1)) (Wg.lF g.al alt) (Wg.lC g.al alt)=gAt g (elD g) px py alt from rfl);have HMW:=hid hok.wi;have HMD:=hid (show g.sde.n=g.swi.n∧g.sde.n<=maxLen from ⟨by have:=G.nw;have:=G.nd;omega,hok.de⟩);have HBW:=hid (fun k=>MG G k);have HBD:=hid (fun k=>R7 G k);clear z1 z2 z3 z4 z5 x3 y3 x4 y4 hcz kk hne;have HA:=hid ha;have HG:=hid G;clear hE hp ha hok hl hpb hab G;generalize gAt g (elE g) px py alt=vE at *;generalize gAt g (elN g) px py alt=vN at *;generalize gAt g (elD g) px py alt=vD at *;generalize hsx:Wg.sI g.cx g.ce g.nx px=sx at *;generalize hfx:Wg.sF g.cx g.ce g.nx px=fx at *;generalize hsy:Wg.sI g.cy g.ce g.ny py=sy at *;generalize hfy:Wg.sF g.cy g.ce g.ny py=fy at *;generalize hsz:Wg.lI g.al alt=sz at *;generalize hfz:Wg.lF g.al alt=fz at *;generalize hcz:Wg.lC g.al alt=cz at *
 have QSX:=hid hsx;have QFX:=hid hfx;have QSY:=hid hsy;have QFY:=hid hfy;have QSZ:=hid hsz;have QFZ:=hid hfz;have QCZ:=hid hcz;clear hsx hfx hsy hfy hsz hfz hcz
 go_enter Tryz.func18,Tryz.ntmps18
 go_wp2_with fail
 refine (HC.out _ HS.out.B).mono ?_;rintro e' w1 ⟨rfl,hB⟩
 replace HS:=hid (HS.out.below hB);clear hB;have p0:=HS.out.P.cell 0 (vI px) rfl;have p1:=HS.out.P.cell 1 (vI py) rfl
 go_wp2_with fail
 refine (HP.out _).mono ?_;rintro e' w2 ⟨rfl,hB⟩
 replace HS:=hid (HS.out.below hB);clear hB p0 p1
 go_wp2_with fail
 refine (CZ _ _ _ _).mono ?_;rintro e' wx ⟨rfl,rfl⟩
 rw [HA.out]
 go_wp2_with fail
 refine rS (GpS g px py w) 30 (HS.out.drew) (fun hHeld=>?_)
 iterate 2 refine rQ ?_
 refine rT (fun W hW=>GpS.cells hW) ?_
 refine rQ ?_
 refine rT (fun W hW=>GpS.cells hW) ?_
 refine rQ ?_
 refine rT (fun W hW=>GpS.cells hW) ?_
 refine rQ ?_
 refine rT (fun W hW=>GpS.cells hW) ?_
 iterate 2 refine rQ ?_
 refine rT (fun W hW=>GpS.cells hW) ?_
 refine rQ ?_
 refine rT (fun W hW=>GpS.cells hW) ?_
 refine rQ ?_
 refine rT (fun W hW=>GpS.cells hW) ?_
 refine rQ ?_
 refine rT (fun W hW=>GpS.cells hW) ?_
 refine rQ ?_
 refine rT (fun W hW=>GpS.cells hW) ?_
 refine rQ ?_
 refine Be ?_
 intro OPS QQ A0 SS hO hQ hA hSS
 have st_9_19_23_24_25_26:Hid (∀ (H0 H1 H2:Nat) (W:World) (qH0:Has W H0 (lz3 0 0 0)) (rH0:w.heap.size+3<=H0) (qH1:Has W H1 (lz3 0 0 0)) (rH1:w.heap.size+3<=H1) (qH2:Has W H2 (lz3 0 0 0)) (rH2:w.heap.size+3<=H2) (nH0H1:H0≠H1) (nH0H2:H0≠H2) (nH1H2:H1≠H2),SS W→wpAnyH Tryz.prog .any OPS QQ SS 3 #[b1,b1,b1,b1,b1,b1,b1,b1,b1,b1,b1,b1,b1,b1,b1,b1,b1,b1,b1,b1,b1,b1,b1,b1,b1,b1,b1,b0,b0,b0] ((((((A0.put (some 39) (.agg #[vI sx,vI fx,vI g.ce])).put (some 49) (.agg #[vI sy,vI fy,vI g.ce])).put (some 53) (.agg #[vI (sz:Int),vI fz,vI cz])).put (some 10) (.pointer (some ⟨H0,0,none⟩))).put (some 11) (.pointer (some ⟨H1,0,none⟩))).put (some 12) (.pointer (some ⟨H2,0,none⟩))) W):=by
  subst hO hQ hA hSS
  refine hid ?_
  intro H0 H1 H2 W qH0 rH0 qH1 rH1 qH2 rH2 nH0H1 nH0H2 nH1H2 hHeld
  (try simp only [Act.put,pa,pb,pc])
  have a0:=qH0.cell 0 _ rfl;have a1:=qH0.cell 1 _ rfl;have a2:=qH0.cell 2 _ rfl;have af:=qH0.fr
  refine rEk ?_
  intro K hK
  have hN:=hHeld.set3 rH0 (vI sx) (vI fx) (vI g.ce);have pH0:=KR qH0 (vI sx) (vI fx) (vI g.ce);have pH1:=Dc qH1 nH0H1.symm (vI sx) (vI fx) (vI g.ce);have pH2:=Dc qH2 nH0H2.symm (vI sx) (vI fx) (vI g.ce)
  refine hK.out _ _ hN (fun hHeld3=>?_)
  clear hK K a0 a1 a2 af hN qH0 qH1 qH2;have qH0:=pH0;have qH1:=pH1;have qH2:=pH2;clear pH0 pH1 pH2;clear hHeld;have hHeld:=hHeld3;clear hHeld3
  (try simp only [Act.put,pa,pb,pc])
  generalize (((W.setCell ⟨H0,0,none⟩ (vI sx)).setCell ⟨H0,1,none⟩ (vI fx)).setCell ⟨H0,2,none⟩ (vI g.ce))=W0 at *;have a0:=qH1.cell 0 _ rfl;have a1:=qH1.cell 1 _ rfl;have a2:=qH1.cell 2 _ rfl;have af:=qH1.fr
  refine rEk ?_
  intro K hK
  have hN:=hHeld.set3 rH1 (vI sy) (vI fy) (vI g.ce);have pH0:=Dc qH0 nH0H1 (vI sy) (vI fy) (vI g.ce);have pH1:=KR qH1 (vI sy) (vI fy) (vI g.ce);have pH2:=Dc qH2 nH1H2.symm (vI sy) (vI fy) (vI g.ce)
  refine hK.out _ _ hN (fun hHeld3=>?_)
  clear hK K a0 a1 a2 af hN qH0 qH1 qH2;have qH0:=pH0;have qH1:=pH1;have qH2:=pH2;clear pH0 pH1 pH2;clear hHeld;have hHeld:=hHeld3;clear hHeld3
  (try simp only [Act.put,pa,pb,pc])
  generalize (((W0.setCell ⟨H1,0,none⟩ (vI sy)).setCell ⟨H1,1,none⟩ (vI fy)).setCell ⟨H1,2,none⟩ (vI g.ce))=W1 at *;have a0:=qH2.cell 0 _ rfl;have a1:=qH2.cell 1 _ rfl;have a2:=qH2.cell 2 _ rfl;have af:=qH2.fr
  refine rEk ?_
  intro K hK
  have hN:=hHeld.set3 rH2 (vI (sz:Int)) (vI fz) (vI cz);have pH0:=Dc qH0 nH0H2 (vI (sz:Int)) (vI fz) (vI cz);have pH1:=Dc qH1 nH1H2 (vI (sz:Int)) (vI fz) (vI cz);have pH2:=KR qH2 (vI (sz:Int)) (vI fz) (vI cz)
  refine hK.out _ _ hN (fun hHeld3=>?_)
  clear hK K a0 a1 a2 af hN qH0 qH1 qH2;have qH0:=pH0;have qH1:=pH1;have qH2:=pH2;clear pH0 pH1 pH2;clear hHeld;have hHeld:=hHeld3;clear hHeld3
  (try simp only [Act.put,pa,pb,pc])
  generalize (((W1.setCell ⟨H2,0,none⟩ (vI (sz:Int))).setCell ⟨H2,1,none⟩ (vI fz)).setCell ⟨H2,2,none⟩ (vI cz))=W2 at *
  refine rD ?_
  have HA2:=hid (show AtS g sx fx sy fy sz fz g.ce cz H0 H1 H2 w.heap.size W2 from ⟨qH0,qH1,qH2,hHeld.G,hHeld.L.below hHeld.B⟩);have HS:=hid hHeld;clear qH0 qH1 qH2 rH0 rH1 rH2 nH0H1 nH0H2 nH1H2 hHeld;have HCE:=hid (fun W (h:AtS g sx fx sy fy sz fz g.ce cz H0 H1 H2 w.heap.size W)=>xC4 64 (fun k=>(g.wi.getD k (0,0)).1) KK.out (enters_of Tryz.func64 (by kernel_rfl) rfl) (fun k=>by have:=(HBW.out k).1;omega) (fun W k h hk=>AfN g w.heap.size W k h.G h.L hk HMW.out) W h);have HCN:=hid (fun W (h:AtS g sx fx sy fy sz fz g.ce cz H0 H1 H2 w.heap.size W)=>xC4 65 (fun k=>(g.wi.getD k (0,0)).2) KK.out (enters_of Tryz.func65 (by kernel_rfl) rfl) (fun k=>by have:=(HBW.out k).2;omega) (fun W k h hk=>AfO g w.heap.size W k h.G h.L hk HMW.out) W h);have HCD:=hid (fun W (h:AtS g sx fx sy fy sz fz g.ce cz H0 H1 H2 w.heap.size W)=>xC4 66 (fun k=>g.de.getD k 0) KK.out (enters_of Tryz.func66 (by kernel_rfl) rfl) (fun k=>by have:=HBD.out k;omega) (fun W k h hk=>AfP g w.heap.size W k h.G h.L (by rw [HMD.out.1];exact hk) HMD.out.2) W h)
  rw [HVE.out] at HCE
  rw [HVN.out] at HCN
  rw [HVD.out] at HCD
  go_wp2_with fail
  refine (HCE.out _ HA2.out).mono ?_;rintro e2 w3 ⟨rfl,hB⟩
  replace HS:=hid (HS.out.below hB);replace HA2:=hid (HA2.out.below hB);clear hB
  go_wp2_with fail
  refine (HCN.out _ HA2.out).mono ?_;rintro e2 w4 ⟨rfl,hB⟩
  replace HS:=hid (HS.out.below hB);replace HA2:=hid (HA2.out.below hB);clear hB HCE HCN
  go_wp2_with fail
  have HT:Hid (Has (w4.alloc (.cells #[vI vE,vI vN] 62)) w4.heap.size (lz2 vE vN)):=hid (Has.new _ _ _);have HNN:=hid HS.out.sz;replace HS:=hid (HS.out.alloc (.cells #[vI vE,vI vN] 62));replace HA2:=hid (HA2.out.below (Aa w4 (.cells #[vI vE,vI vN] 62)));generalize w4.alloc (.cells #[vI vE,vI vN] 62)=w5 at *;generalize w4.heap.size=NT at *
  refine rS (fun W=>Has W NT (lz2 vE vN)) 7 (HT.out.drew) (fun hHeld=>?_)
  refine hL 0 62 (v:=?_) rfl rfl ?_ ?_
  rotate_left
  ·intro W hW
   have kk:=(show Has W NT (lz2 vE vN) from hW);have kk0:=kk.cell 0 _ rfl;have kk1:=kk.cell 1 _ rfl;clear kk hW;go_simp;try with_reducible rfl
  (try simp only [Act.put,pa,pb,pc])
  iterate 2 refine rQ ?_
  refine rEk ?_
  intro K hK
  refine (HCD.out _ (HA2.out.below (AJ _ _).drew)).mono ?_;rintro e2 w6 ⟨rfl,hB⟩
  go_wp2_with fail
  have HS6:=hid (HS.out.drew.below hB)
  refine hK.out _ _ (Has.below hHeld hB) (fun hHeld2=>?_)
  clear hK K hB hHeld
  (try simp only [Act.put,pa,pb,pc])
  have z0:=HS6.out.R.cell 0 _ rfl;have z1:=HS6.out.R.cell 1 _ rfl;have zf:=HS6.out.R.fr
  refine rEk ?_
  intro K hK
  refine hK.out _ _ ((Has.other (Has.other hHeld2 (w.heap.size+1+1) 0 _ (by have:=HNN.out;omega)) (w.heap.size+1+1) 1 _ (by have:=HNN.out;omega))) (fun hHeld3=>?_)
  clear hK K
  (try simp only [Act.put,pa,pb,pc])
  iterate 2 refine rQ ?_
  refine rD ?_
  go_wp2_with fail
  exact bodyPost_ret (v:=.tuple #[.agg #[vI vE,vI vN],vI vD,vI 0]) (by simp [results,Tryz.results18,go_sem,z0,z1]) rfl ⟨rfl,((HS6.out.B.setCell (p:=⟨w.heap.size+1+1,0,none⟩) (by show w.heap.size<=w.heap.size+1+1;omega) _).setCell (p:=⟨w.heap.size+1+1,1,none⟩) (by show w.heap.size<=w.heap.size+1+1;omega) _)⟩
 have st_9_19_23_25_26:Hid (∀ (H1 H2:Nat) (W:World) (qH1:Has W H1 (lz3 0 0 0)) (rH1:w.heap.size+3<=H1) (qH2:Has W H2 (lz3 0 0 0)) (rH2:w.heap.size+3<=H2) (nH1H2:H1≠H2),SS W→wpAnyH Tryz.prog .any OPS QQ SS 4 #[b1,b1,b1,b1,b1,b1,b1,b1,b1,b1,b1,b1,b1,b1,b1,b1,b1,b1,b1,b1,b1,b1,b1,b1,b0,b1,b1,b0,b0,b0] (((((A0.put (some 39) (.agg #[vI sx,vI fx,vI g.ce])).put (some 49) (.agg #[vI sy,vI fy,vI g.ce])).put (some 53) (.agg #[vI (sz:Int),vI fz,vI cz])).put (some 11) (.pointer (some ⟨H1,0,none⟩))).put (some 12) (.pointer (some ⟨H2,0,none⟩))) W):=by
  subst hO hQ hA hSS
  refine hid ?_
  intro H1 H2 W qH1 rH1 qH2 rH2 nH1H2 hHeld
  (try simp only [Act.put,pa,pb,pc])
  refine wpAnyH_ready (rs:=[24]) (by kernel_rfl) (by simp) ?_
  exact Yf
 have st_9_19_23_24_25:Hid (∀ (H0 H1:Nat) (W:World) (qH0:Has W H0 (lz3 0 0 0)) (rH0:w.heap.size+3<=H0) (qH1:Has W H1 (lz3 0 0 0)) (rH1:w.heap.size+3<=H1) (nH0H1:H0≠H1),SS W→wpAnyH Tryz.prog .any OPS QQ SS 4 #[b1,b1,b1,b1,b1,b1,b1,b1,b1,b1,b1,b1,b1,b1,b1,b1,b1,b1,b1,b1,b1,b1,b1,b1,b1,b1,b0,b0,b0,b0] (((((A0.put (some 39) (.agg #[vI sx,vI fx,vI g.ce])).put (some 49) (.agg #[vI sy,vI fy,vI g.ce])).put (some 53) (.agg #[vI (sz:Int),vI fz,vI cz])).put (some 10) (.pointer (some ⟨H0,0,none⟩))).put (some 11) (.pointer (some ⟨H1,0,none⟩))) W):=by
  subst hO hQ hA hSS
  refine hid ?_
  intro H0 H1 W qH0 rH0 qH1 rH1 nH0H1 hHeld
  (try simp only [Act.put,pa,pb,pc])
  refine wpAnyH_ready (rs:=[26]) (by kernel_rfl) (by simp) ?_
  exact Yf
 have st_9_19_23_24_26:Hid (∀ (H0 H2:Nat) (W:World) (qH0:Has W H0 (lz3 0 0 0)) (rH0:w.heap.size+3<=H0) (qH2:Has W H2 (lz3 0 0 0)) (rH2:w.heap.size+3<=H2) (nH0H2:H0≠H2),SS W→wpAnyH Tryz.prog .any OPS QQ SS 4 #[b1,b1,b1,b1,b1,b1,b1,b1,b1,b1,b1,b1,b1,b1,b1,b1,b1,b1,b1,b1,b1,b1,b1,b1,b1,b0,b1,b0,b0,b0] (((((A0.put (some 39) (.agg #[vI sx,vI fx,vI g.ce])).put (some 49) (.agg #[vI sy,vI fy,vI g.ce])).put (some 53) (.agg #[vI (sz:Int),vI fz,vI cz])).put (some 10) (.pointer (some ⟨H0,0,none⟩))).put (some 12) (.pointer (some ⟨H2,0,none⟩))) W):=by
  subst hO hQ hA hSS
  refine hid ?_
  intro H0 H2 W qH0 rH0 qH2 rH2 nH0H2 hHeld
  (try simp only [Act.put,pa,pb,pc])
  refine wpAnyH_ready (rs:=[25]) (by kernel_rfl) (by simp) ?_
  exact Yf
 have st_9_19_24_25_26:Hid (∀ (H0 H1 H2:Nat) (W:World) (qH0:Has W H0 (lz3 0 0 0)) (rH0:w.heap.size+3<=H0) (qH1:Has W H1 (lz3 0 0 0)) (rH1:w.heap.size+3<=H1) (qH2:Has W H2 (lz3 0 0 0)) (rH2:w.heap.size+3<=H2) (nH0H1:H0≠H1) (nH0H2:H0≠H2) (nH1H2:H1≠H2),SS W→wpAnyH Tryz.prog .any OPS QQ SS 4 #[b1,b1,b1,b1,b1,b1,b1,b1,b1,b1,b1,b1,b1,b1,b1,b1,b1,b1,b1,b1,b1,b1,b1,b0,b1,b1,b1,b0,b0,b0] (((((A0.put (some 39) (.agg #[vI sx,vI fx,vI g.ce])).put (some 49) (.agg #[vI sy,vI fy,vI g.ce])).put (some 10) (.pointer (some ⟨H0,0,none⟩))).put (some 11) (.pointer (some ⟨H1,0,none⟩))).put (some 12) (.pointer (some ⟨H2,0,none⟩))) W):=by
  subst hO hQ hA hSS
  refine hid ?_
  intro H0 H1 H2 W qH0 rH0 qH1 rH1 qH2 rH2 nH0H1 nH0H2 nH1H2 hHeld
  (try simp only [Act.put,pa,pb,pc])
  refine wpAnyH_ready (rs:=[23]) (by kernel_rfl) (by simp) ?_
  refine aD rfl (fun K hK=>mK (HSZ.out W hHeld) st_9_19_23_24_25_26.out) ?_
  exact AllReadyH.nil
 have st_9_19_23_26:Hid (∀ (H2:Nat) (W:World) (qH2:Has W H2 (lz3 0 0 0)) (rH2:w.heap.size+3<=H2),SS W→wpAnyH Tryz.prog .any OPS QQ SS 5 #[b1,b1,b1,b1,b1,b1,b1,b1,b1,b1,b1,b1,b1,b1,b1,b1,b1,b1,b1,b1,b1,b1,b1,b1,b0,b0,b1,b0,b0,b0] ((((A0.put (some 39) (.agg #[vI sx,vI fx,vI g.ce])).put (some 49) (.agg #[vI sy,vI fy,vI g.ce])).put (some 53) (.agg #[vI (sz:Int),vI fz,vI cz])).put (some 12) (.pointer (some ⟨H2,0,none⟩))) W):=by
  subst hO hQ hA hSS
  refine hid ?_
  intro H2 W qH2 rH2 hHeld
  (try simp only [Act.put,pa,pb,pc])
  refine wpAnyH_ready (rs:=[24,25]) (by kernel_rfl) (by simp) ?_
  refine aD rfl (fun K hK=>mA st_9_19_23_24_26.out) ?_
  refine aD rfl (fun K hK=>mA st_9_19_23_25_26.out) ?_
  exact AllReadyH.nil
 have st_9_19_24_26:Hid (∀ (H0 H2:Nat) (W:World) (qH0:Has W H0 (lz3 0 0 0)) (rH0:w.heap.size+3<=H0) (qH2:Has W H2 (lz3 0 0 0)) (rH2:w.heap.size+3<=H2) (nH0H2:H0≠H2),SS W→wpAnyH Tryz.prog .any OPS QQ SS 5 #[b1,b1,b1,b1,b1,b1,b1,b1,b1,b1,b1,b1,b1,b1,b1,b1,b1,b1,b1,b1,b1,b1,b1,b0,b1,b0,b1,b0,b0,b0] ((((A0.put (some 39) (.agg #[vI sx,vI fx,vI g.ce])).put (some 49) (.agg #[vI sy,vI fy,vI g.ce])).put (some 10) (.pointer (some ⟨H0,0,none⟩))).put (some 12) (.pointer (some ⟨H2,0,none⟩))) W):=by
  subst hO hQ hA hSS
  refine hid ?_
  intro H0 H2 W qH0 rH0 qH2 rH2 nH0H2 hHeld
  (try simp only [Act.put,pa,pb,pc])
  refine wpAnyH_ready (rs:=[23,25]) (by kernel_rfl) (by simp) ?_
  refine aD rfl (fun K hK=>mK (HSZ.out W hHeld) st_9_19_23_24_26.out) ?_
  exact Yg
 have st_9_19_25_26:Hid (∀ (H1 H2:Nat) (W:World) (qH1:Has W H1 (lz3 0 0 0)) (rH1:w.heap.size+3<=H1) (qH2:Has W H2 (lz3 0 0 0)) (rH2:w.heap.size+3<=H2) (nH1H2:H1≠H2),SS W→wpAnyH Tryz.prog .any OPS QQ SS 5 #[b1,b1,b1,b1,b1,b1,b1,b1,b1,b1,b1,b1,b1,b1,b1,b1,b1,b1,b1,b1,b1,b1,b1,b0,b0,b1,b1,b0,b0,b0] ((((A0.put (some 39) (.agg #[vI sx,vI fx,vI g.ce])).put (some 49) (.agg #[vI sy,vI fy,vI g.ce])).put (some 11) (.pointer (some ⟨H1,0,none⟩))).put (some 12) (.pointer (some ⟨H2,0,none⟩))) W):=by
  subst hO hQ hA hSS
  refine hid ?_
  intro H1 H2 W qH1 rH1 qH2 rH2 nH1H2 hHeld
  (try simp only [Act.put,pa,pb,pc])
  refine wpAnyH_ready (rs:=[23,24]) (by kernel_rfl) (by simp) ?_
  refine aD rfl (fun K hK=>mK (HSZ.out W hHeld) st_9_19_23_25_26.out) ?_
  exact Yg
 have st_9_19_23_25:Hid (∀ (H1:Nat) (W:World) (qH1:Has W H1 (lz3 0 0 0)) (rH1:w.heap.size+3<=H1),SS W→wpAnyH Tryz.prog .any OPS QQ SS 5 #[b1,b1,b1,b1,b1,b1,b1,b1,b1,b1,b1,b1,b1,b1,b1,b1,b1,b1,b1,b1,b1,b1,b1,b1,b0,b1,b0,b0,b0,b0] ((((A0.put (some 39) (.agg #[vI sx,vI fx,vI g.ce])).put (some 49) (.agg #[vI sy,vI fy,vI g.ce])).put (some 53) (.agg #[vI (sz:Int),vI fz,vI cz])).put (some 11) (.pointer (some ⟨H1,0,none⟩))) W):=by
  subst hO hQ hA hSS
  refine hid ?_
  intro H1 W qH1 rH1 hHeld
  (try simp only [Act.put,pa,pb,pc])
  refine wpAnyH_ready (rs:=[24,26]) (by kernel_rfl) (by simp) ?_
  refine aD rfl (fun K hK=>mA st_9_19_23_24_25.out) ?_
  refine aD rfl (fun K hK=>mA st_9_19_23_25_26.out) ?_
  exact AllReadyH.nil
 have st_9_19_23_24:Hid (∀ (H0:Nat) (W:World) (qH0:Has W H0 (lz3 0 0 0)) (rH0:w.heap.size+3<=H0),SS W→wpAnyH Tryz.prog .any OPS QQ SS 5 #[b1,b1,b1,b1,b1,b1,b1,b1,b1,b1,b1,b1,b1,b1,b1,b1,b1,b1,b1,b1,b1,b1,b1,b1,b1,b0,b0,b0,b0,b0] ((((A0.put (some 39) (.agg #[vI sx,vI fx,vI g.ce])).put (some 49) (.agg #[vI sy,vI fy,vI g.ce])).put (some 53) (.agg #[vI (sz:Int),vI fz,vI cz])).put (some 10) (.pointer (some ⟨H0,0,none⟩))) W):=by
  subst hO hQ hA hSS
  refine hid ?_
  intro H0 W qH0 rH0 hHeld
  (try simp only [Act.put,pa,pb,pc])
  refine wpAnyH_ready (rs:=[25,26]) (by kernel_rfl) (by simp) ?_
  refine aD rfl (fun K hK=>mA st_9_19_23_24_25.out) ?_
  refine aD rfl (fun K hK=>mA st_9_19_23_24_26.out) ?_
  exact AllReadyH.nil
 have st_9_19_24_25:Hid (∀ (H0 H1:Nat) (W:World) (qH0:Has W H0 (lz3 0 0 0)) (rH0:w.heap.size+3<=H0) (qH1:Has W H1 (lz3 0 0 0)) (rH1:w.heap.size+3<=H1) (nH0H1:H0≠H1),SS W→wpAnyH Tryz.prog .any OPS QQ SS 5 #[b1,b1,b1,b1,b1,b1,b1,b1,b1,b1,b1,b1,b1,b1,b1,b1,b1,b1,b1,b1,b1,b1,b1,b0,b1,b1,b0,b0,b0,b0] ((((A0.put (some 39) (.agg #[vI sx,vI fx,vI g.ce])).put (some 49) (.agg #[vI sy,vI fy,vI g.ce])).put (some 10) (.pointer (some ⟨H0,0,none⟩))).put (some 11) (.pointer (some ⟨H1,0,none⟩))) W):=by
  subst hO hQ hA hSS
  refine hid ?_
  intro H0 H1 W qH0 rH0 qH1 rH1 nH0H1 hHeld
  (try simp only [Act.put,pa,pb,pc])
  refine wpAnyH_ready (rs:=[23,26]) (by kernel_rfl) (by simp) ?_
  refine aD rfl (fun K hK=>mK (HSZ.out W hHeld) st_9_19_23_24_25.out) ?_
  exact Yg
 have st_9_24_25_26:Hid (∀ (H0 H1 H2:Nat) (W:World) (qH0:Has W H0 (lz3 0 0 0)) (rH0:w.heap.size+3<=H0) (qH1:Has W H1 (lz3 0 0 0)) (rH1:w.heap.size+3<=H1) (qH2:Has W H2 (lz3 0 0 0)) (rH2:w.heap.size+3<=H2) (nH0H1:H0≠H1) (nH0H2:H0≠H2) (nH1H2:H1≠H2),SS W→wpAnyH Tryz.prog .any OPS QQ SS 5 #[b1,b1,b1,b1,b1,b1,b1,b1,b1,b1,b1,b1,b1,b1,b1,b1,b1,b1,b1,b0,b1,b1,b1,b0,b1,b1,b1,b0,b0,b0] ((((A0.put (some 39) (.agg #[vI sx,vI fx,vI g.ce])).put (some 10) (.pointer (some ⟨H0,0,none⟩))).put (some 11) (.pointer (some ⟨H1,0,none⟩))).put (some 12) (.pointer (some ⟨H2,0,none⟩))) W):=by
  subst hO hQ hA hSS
  refine hid ?_
  intro H0 H1 H2 W qH0 rH0 qH1 rH1 qH2 rH2 nH0H1 nH0H2 nH1H2 hHeld
  (try simp only [Act.put,pa,pb,pc])
  refine wpAnyH_ready (rs:=[19]) (by kernel_rfl) (by simp) ?_
  refine aD rfl (fun K hK=>mK (HSY.out W) st_9_19_24_25_26.out) ?_
  exact AllReadyH.nil
 have st_24_25_26:Hid (∀ (H0 H1 H2:Nat) (W:World) (qH0:Has W H0 (lz3 0 0 0)) (rH0:w.heap.size+3<=H0) (qH1:Has W H1 (lz3 0 0 0)) (rH1:w.heap.size+3<=H1) (qH2:Has W H2 (lz3 0 0 0)) (rH2:w.heap.size+3<=H2) (nH0H1:H0≠H1) (nH0H2:H0≠H2) (nH1H2:H1≠H2),SS W→wpAnyH Tryz.prog .any OPS QQ SS 6 #[b1,b1,b1,b1,b1,b1,b1,b1,b1,b0,b1,b1,b1,b1,b1,b1,b1,b1,b1,b0,b1,b1,b1,b0,b1,b1,b1,b0,b0,b0] (((A0.put (some 10) (.pointer (some ⟨H0,0,none⟩))).put (some 11) (.pointer (some ⟨H1,0,none⟩))).put (some 12) (.pointer (some ⟨H2,0,none⟩))) W):=by
  subst hO hQ hA hSS
  refine hid ?_
  intro H0 H1 H2 W qH0 rH0 qH1 rH1 qH2 rH2 nH0H1 nH0H2 nH1H2 hHeld
  (try simp only [Act.put,pa,pb,pc])
  refine wpAnyH_ready (rs:=[9]) (by kernel_rfl) (by simp) ?_
  refine aD rfl (fun K hK=>mK (HSX.out W) st_9_24_25_26.out) ?_
  exact AllReadyH.nil
 have st_9_19_25:Hid (∀ (H1:Nat) (W:World) (qH1:Has W H1 (lz3 0 0 0)) (rH1:w.heap.size+3<=H1),SS W→wpAnyH Tryz.prog .any OPS QQ SS 6 #[b1,b1,b1,b1,b1,b1,b1,b1,b1,b1,b1,b1,b1,b1,b1,b1,b1,b1,b1,b1,b1,b1,b1,b0,b0,b1,b0,b0,b0,b0] (((A0.put (some 39) (.agg #[vI sx,vI fx,vI g.ce])).put (some 49) (.agg #[vI sy,vI fy,vI g.ce])).put (some 11) (.pointer (some ⟨H1,0,none⟩))) W):=by
  subst hO hQ hA hSS
  refine hid ?_
  intro H1 W qH1 rH1 hHeld
  (try simp only [Act.put,pa,pb,pc])
  refine wpAnyH_ready (rs:=[23,24,26]) (by kernel_rfl) (by simp) ?_
  refine aD rfl (fun K hK=>mK (HSZ.out W hHeld) st_9_19_23_25.out) ?_
  refine aD rfl (fun K hK=>mA st_9_19_24_25.out) ?_
  refine aD rfl (fun K hK=>mA st_9_19_25_26.out) ?_
  exact AllReadyH.nil
 have st_9_24_25:Hid (∀ (H0 H1:Nat) (W:World) (qH0:Has W H0 (lz3 0 0 0)) (rH0:w.heap.size+3<=H0) (qH1:Has W H1 (lz3 0 0 0)) (rH1:w.heap.size+3<=H1) (nH0H1:H0≠H1),SS W→wpAnyH Tryz.prog .any OPS QQ SS 6 #[b1,b1,b1,b1,b1,b1,b1,b1,b1,b1,b1,b1,b1,b1,b1,b1,b1,b1,b1,b0,b1,b1,b1,b0,b1,b1,b0,b0,b0,b0] (((A0.put (some 39) (.agg #[vI sx,vI fx,vI g.ce])).put (some 10) (.pointer (some ⟨H0,0,none⟩))).put (some 11) (.pointer (some ⟨H1,0,none⟩))) W):=by
  subst hO hQ hA hSS
  refine hid ?_
  intro H0 H1 W qH0 rH0 qH1 rH1 nH0H1 hHeld
  (try simp only [Act.put,pa,pb,pc])
  refine wpAnyH_ready (rs:=[19,26]) (by kernel_rfl) (by simp) ?_
  refine aD rfl (fun K hK=>mK (HSY.out W) st_9_19_24_25.out) ?_
  exact Yh
 have st_9_19_26:Hid (∀ (H2:Nat) (W:World) (qH2:Has W H2 (lz3 0 0 0)) (rH2:w.heap.size+3<=H2),SS W→wpAnyH Tryz.prog .any OPS QQ SS 6 #[b1,b1,b1,b1,b1,b1,b1,b1,b1,b1,b1,b1,b1,b1,b1,b1,b1,b1,b1,b1,b1,b1,b1,b0,b0,b0,b1,b0,b0,b0] (((A0.put (some 39) (.agg #[vI sx,vI fx,vI g.ce])).put (some 49) (.agg #[vI sy,vI fy,vI g.ce])).put (some 12) (.pointer (some ⟨H2,0,none⟩))) W):=by
  subst hO hQ hA hSS
  refine hid ?_
  intro H2 W qH2 rH2 hHeld
  (try simp only [Act.put,pa,pb,pc])
  refine wpAnyH_ready (rs:=[23,24,25]) (by kernel_rfl) (by simp) ?_
  refine aD rfl (fun K hK=>mK (HSZ.out W hHeld) st_9_19_23_26.out) ?_
  refine aD rfl (fun K hK=>mA st_9_19_24_26.out) ?_
  refine aD rfl (fun K hK=>mA st_9_19_25_26.out) ?_
  exact AllReadyH.nil
 have st_9_19_24:Hid (∀ (H0:Nat) (W:World) (qH0:Has W H0 (lz3 0 0 0)) (rH0:w.heap.size+3<=H0),SS W→wpAnyH Tryz.prog .any OPS QQ SS 6 #[b1,b1,b1,b1,b1,b1,b1,b1,b1,b1,b1,b1,b1,b1,b1,b1,b1,b1,b1,b1,b1,b1,b1,b0,b1,b0,b0,b0,b0,b0] (((A0.put (some 39) (.agg #[vI sx,vI fx,vI g.ce])).put (some 49) (.agg #[vI sy,vI fy,vI g.ce])).put (some 10) (.pointer (some ⟨H0,0,none⟩))) W):=by
  subst hO hQ hA hSS
  refine hid ?_
  intro H0 W qH0 rH0 hHeld
  (try simp only [Act.put,pa,pb,pc])
  refine wpAnyH_ready (rs:=[23,25,26]) (by kernel_rfl) (by simp) ?_
  refine aD rfl (fun K hK=>mK (HSZ.out W hHeld) st_9_19_23_24.out) ?_
  refine aD rfl (fun K hK=>mA st_9_19_24_25.out) ?_
  refine aD rfl (fun K hK=>mA st_9_19_24_26.out) ?_
  exact AllReadyH.nil
 have st_9_25_26:Hid (∀ (H1 H2:Nat) (W:World) (qH1:Has W H1 (lz3 0 0 0)) (rH1:w.heap.size+3<=H1) (qH2:Has W H2 (lz3 0 0 0)) (rH2:w.heap.size+3<=H2) (nH1H2:H1≠H2),SS W→wpAnyH Tryz.prog .any OPS QQ SS 6 #[b1,b1,b1,b1,b1,b1,b1,b1,b1,b1,b1,b1,b1,b1,b1,b1,b1,b1,b1,b0,b1,b1,b1,b0,b0,b1,b1,b0,b0,b0] (((A0.put (some 39) (.agg #[vI sx,vI fx,vI g.ce])).put (some 11) (.pointer (some ⟨H1,0,none⟩))).put (some 12) (.pointer (some ⟨H2,0,none⟩))) W):=by
  subst hO hQ hA hSS
  refine hid ?_
  intro H1 H2 W qH1 rH1 qH2 rH2 nH1H2 hHeld
  (try simp only [Act.put,pa,pb,pc])
  refine wpAnyH_ready (rs:=[19,24]) (by kernel_rfl) (by simp) ?_
  refine aD rfl (fun K hK=>mK (HSY.out W) st_9_19_25_26.out) ?_
  exact Yh
 have st_9_19_23:Hid (∀ (W:World),SS W→wpAnyH Tryz.prog .any OPS QQ SS 6 #[b1,b1,b1,b1,b1,b1,b1,b1,b1,b1,b1,b1,b1,b1,b1,b1,b1,b1,b1,b1,b1,b1,b1,b1,b0,b0,b0,b0,b0,b0] (((A0.put (some 39) (.agg #[vI sx,vI fx,vI g.ce])).put (some 49) (.agg #[vI sy,vI fy,vI g.ce])).put (some 53) (.agg #[vI (sz:Int),vI fz,vI cz])) W):=by
  subst hO hQ hA hSS
  refine hid ?_
  intro W hHeld
  (try simp only [Act.put,pa,pb,pc])
  refine wpAnyH_ready (rs:=[24,25,26]) (by kernel_rfl) (by simp) ?_
  refine aD rfl (fun K hK=>mA st_9_19_23_24.out) ?_
  refine aD rfl (fun K hK=>mA st_9_19_23_25.out) ?_
  refine aD rfl (fun K hK=>mA st_9_19_23_26.out) ?_
  exact AllReadyH.nil
 have st_9_24_26:Hid (∀ (H0 H2:Nat) (W:World) (qH0:Has W H0 (lz3 0 0 0)) (rH0:w.heap.size+3<=H0) (qH2:Has W H2 (lz3 0 0 0)) (rH2:w.heap.size+3<=H2) (nH0H2:H0≠H2),SS W→wpAnyH Tryz.prog .any OPS QQ SS 6 #[b1,b1,b1,b1,b1,b1,b1,b1,b1,b1,b1,b1,b1,b1,b1,b1,b1,b1,b1,b0,b1,b1,b1,b0,b1,b0,b1,b0,b0,b0] (((A0.put (some 39) (.agg #[vI sx,vI fx,vI g.ce])).put (some 10) (.pointer (some ⟨H0,0,none⟩))).put (some 12) (.pointer (some ⟨H2,0,none⟩))) W):=by
  subst hO hQ hA hSS
  refine hid ?_
  intro H0 H2 W qH0 rH0 qH2 rH2 nH0H2 hHeld
  (try simp only [Act.put,pa,pb,pc])
  refine wpAnyH_ready (rs:=[19,25]) (by kernel_rfl) (by simp) ?_
  refine aD rfl (fun K hK=>mK (HSY.out W) st_9_19_24_26.out) ?_
  exact Yh
 have st_9_26:Hid (∀ (H2:Nat) (W:World) (qH2:Has W H2 (lz3 0 0 0)) (rH2:w.heap.size+3<=H2),SS W→wpAnyH Tryz.prog .any OPS QQ SS 7 #[b1,b1,b1,b1,b1,b1,b1,b1,b1,b1,b1,b1,b1,b1,b1,b1,b1,b1,b1,b0,b1,b1,b1,b0,b0,b0,b1,b0,b0,b0] ((A0.put (some 39) (.agg #[vI sx,vI fx,vI g.ce])).put (some 12) (.pointer (some ⟨H2,0,none⟩))) W):=by
  subst hO hQ hA hSS
  refine hid ?_
  intro H2 W qH2 rH2 hHeld
  (try simp only [Act.put,pa,pb,pc])
  refine wpAnyH_ready (rs:=[19,24,25]) (by kernel_rfl) (by simp) ?_
  refine aD rfl (fun K hK=>mK (HSY.out W) st_9_19_26.out) ?_
  refine aD rfl (fun K hK=>mA st_9_24_26.out) ?_
  refine aD rfl (fun K hK=>mA st_9_25_26.out) ?_
  exact AllReadyH.nil
 have st_24_25:Hid (∀ (H0 H1:Nat) (W:World) (qH0:Has W H0 (lz3 0 0 0)) (rH0:w.heap.size+3<=H0) (qH1:Has W H1 (lz3 0 0 0)) (rH1:w.heap.size+3<=H1) (nH0H1:H0≠H1),SS W→wpAnyH Tryz.prog .any OPS QQ SS 7 #[b1,b1,b1,b1,b1,b1,b1,b1,b1,b0,b1,b1,b1,b1,b1,b1,b1,b1,b1,b0,b1,b1,b1,b0,b1,b1,b0,b0,b0,b0] ((A0.put (some 10) (.pointer (some ⟨H0,0,none⟩))).put (some 11) (.pointer (some ⟨H1,0,none⟩))) W):=by
  subst hO hQ hA hSS
  refine hid ?_
  intro H0 H1 W qH0 rH0 qH1 rH1 nH0H1 hHeld
  (try simp only [Act.put,pa,pb,pc])
  refine wpAnyH_ready (rs:=[9,26]) (by kernel_rfl) (by simp) ?_
  refine aD rfl (fun K hK=>mK (HSX.out W) st_9_24_25.out) ?_
  exact Yi
 have st_24_26:Hid (∀ (H0 H2:Nat) (W:World) (qH0:Has W H0 (lz3 0 0 0)) (rH0:w.heap.size+3<=H0) (qH2:Has W H2 (lz3 0 0 0)) (rH2:w.heap.size+3<=H2) (nH0H2:H0≠H2),SS W→wpAnyH Tryz.prog .any OPS QQ SS 7 #[b1,b1,b1,b1,b1,b1,b1,b1,b1,b0,b1,b1,b1,b1,b1,b1,b1,b1,b1,b0,b1,b1,b1,b0,b1,b0,b1,b0,b0,b0] ((A0.put (some 10) (.pointer (some ⟨H0,0,none⟩))).put (some 12) (.pointer (some ⟨H2,0,none⟩))) W):=by
  subst hO hQ hA hSS
  refine hid ?_
  intro H0 H2 W qH0 rH0 qH2 rH2 nH0H2 hHeld
  (try simp only [Act.put,pa,pb,pc])
  refine wpAnyH_ready (rs:=[9,25]) (by kernel_rfl) (by simp) ?_
  refine aD rfl (fun K hK=>mK (HSX.out W) st_9_24_26.out) ?_
  exact Yi
 have st_9_24:Hid (∀ (H0:Nat) (W:World) (qH0:Has W H0 (lz3 0 0 0)) (rH0:w.heap.size+3<=H0),SS W→wpAnyH Tryz.prog .any OPS QQ SS 7 #[b1,b1,b1,b1,b1,b1,b1,b1,b1,b1,b1,b1,b1,b1,b1,b1,b1,b1,b1,b0,b1,b1,b1,b0,b1,b0,b0,b0,b0,b0] ((A0.put (some 39) (.agg #[vI sx,vI fx,vI g.ce])).put (some 10) (.pointer (some ⟨H0,0,none⟩))) W):=by
  subst hO hQ hA hSS
  refine hid ?_
  intro H0 W qH0 rH0 hHeld
  (try simp only [Act.put,pa,pb,pc])
  refine wpAnyH_ready (rs:=[19,25,26]) (by kernel_rfl) (by simp) ?_
  refine aD rfl (fun K hK=>mK (HSY.out W) st_9_19_24.out) ?_
  refine aD rfl (fun K hK=>mA st_9_24_25.out) ?_
  refine aD rfl (fun K hK=>mA st_9_24_26.out) ?_
  exact AllReadyH.nil
 have st_25_26:Hid (∀ (H1 H2:Nat) (W:World) (qH1:Has W H1 (lz3 0 0 0)) (rH1:w.heap.size+3<=H1) (qH2:Has W H2 (lz3 0 0 0)) (rH2:w.heap.size+3<=H2) (nH1H2:H1≠H2),SS W→wpAnyH Tryz.prog .any OPS QQ SS 7 #[b1,b1,b1,b1,b1,b1,b1,b1,b1,b0,b1,b1,b1,b1,b1,b1,b1,b1,b1,b0,b1,b1,b1,b0,b0,b1,b1,b0,b0,b0] ((A0.put (some 11) (.pointer (some ⟨H1,0,none⟩))).put (some 12) (.pointer (some ⟨H2,0,none⟩))) W):=by
  subst hO hQ hA hSS
  refine hid ?_
  intro H1 H2 W qH1 rH1 qH2 rH2 nH1H2 hHeld
  (try simp only [Act.put,pa,pb,pc])
  refine wpAnyH_ready (rs:=[9,24]) (by kernel_rfl) (by simp) ?_
  refine aD rfl (fun K hK=>mK (HSX.out W) st_9_25_26.out) ?_
  exact Yi
 have st_9_25:Hid (∀ (H1:Nat) (W:World) (qH1:Has W H1 (lz3 0 0 0)) (rH1:w.heap.size+3<=H1),SS W→wpAnyH Tryz.prog .any OPS QQ SS 7 #[b1,b1,b1,b1,b1,b1,b1,b1,b1,b1,b1,b1,b1,b1,b1,b1,b1,b1,b1,b0,b1,b1,b1,b0,b0,b1,b0,b0,b0,b0] ((A0.put (some 39) (.agg #[vI sx,vI fx,vI g.ce])).put (some 11) (.pointer (some ⟨H1,0,none⟩))) W):=by
  subst hO hQ hA hSS
  refine hid ?_
  intro H1 W qH1 rH1 hHeld
  (try simp only [Act.put,pa,pb,pc])
  refine wpAnyH_ready (rs:=[19,24,26]) (by kernel_rfl) (by simp) ?_
  refine aD rfl (fun K hK=>mK (HSY.out W) st_9_19_25.out) ?_
  refine aD rfl (fun K hK=>mA st_9_24_25.out) ?_
  refine aD rfl (fun K hK=>mA st_9_25_26.out) ?_
  exact AllReadyH.nil
 have st_9_19:Hid (∀ (W:World),SS W→wpAnyH Tryz.prog .any OPS QQ SS 7 #[b1,b1,b1,b1,b1,b1,b1,b1,b1,b1,b1,b1,b1,b1,b1,b1,b1,b1,b1,b1,b1,b1,b1,b0,b0,b0,b0,b0,b0,b0] ((A0.put (some 39) (.agg #[vI sx,vI fx,vI g.ce])).put (some 49) (.agg #[vI sy,vI fy,vI g.ce])) W):=by
  subst hO hQ hA hSS
  refine hid ?_
  intro W hHeld
  (try simp only [Act.put,pa,pb,pc])
  refine wpAnyH_ready (rs:=[23,24,25,26]) (by kernel_rfl) (by simp) ?_
  refine aD rfl (fun K hK=>mK (HSZ.out W hHeld) st_9_19_23.out) ?_
  refine aD rfl (fun K hK=>mA st_9_19_24.out) ?_
  refine aD rfl (fun K hK=>mA st_9_19_25.out) ?_
  refine aD rfl (fun K hK=>mA st_9_19_26.out) ?_
  exact AllReadyH.nil
 have st_25:Hid (∀ (H1:Nat) (W:World) (qH1:Has W H1 (lz3 0 0 0)) (rH1:w.heap.size+3<=H1),SS W→wpAnyH Tryz.prog .any OPS QQ SS 8 #[b1,b1,b1,b1,b1,b1,b1,b1,b1,b0,b1,b1,b1,b1,b1,b1,b1,b1,b1,b0,b1,b1,b1,b0,b0,b1,b0,b0,b0,b0] (A0.put (some 11) (.pointer (some ⟨H1,0,none⟩))) W):=by
  subst hO hQ hA hSS
  refine hid ?_
  intro H1 W qH1 rH1 hHeld
  (try simp only [Act.put,pa,pb,pc])
  refine wpAnyH_ready (rs:=[9,24,26]) (by kernel_rfl) (by simp) ?_
  refine aD rfl (fun K hK=>mK (HSX.out W) st_9_25.out) ?_
  refine aD rfl (fun K hK=>mA st_24_25.out) ?_
  refine aD rfl (fun K hK=>mA st_25_26.out) ?_
  exact AllReadyH.nil
 have st_24:Hid (∀ (H0:Nat) (W:World) (qH0:Has W H0 (lz3 0 0 0)) (rH0:w.heap.size+3<=H0),SS W→wpAnyH Tryz.prog .any OPS QQ SS 8 #[b1,b1,b1,b1,b1,b1,b1,b1,b1,b0,b1,b1,b1,b1,b1,b1,b1,b1,b1,b0,b1,b1,b1,b0,b1,b0,b0,b0,b0,b0] (A0.put (some 10) (.pointer (some ⟨H0,0,none⟩))) W):=by
  subst hO hQ hA hSS
  refine hid ?_
  intro H0 W qH0 rH0 hHeld
  (try simp only [Act.put,pa,pb,pc])
  refine wpAnyH_ready (rs:=[9,25,26]) (by kernel_rfl) (by simp) ?_
  refine aD rfl (fun K hK=>mK (HSX.out W) st_9_24.out) ?_
  refine aD rfl (fun K hK=>mA st_24_25.out) ?_
  refine aD rfl (fun K hK=>mA st_24_26.out) ?_
  exact AllReadyH.nil
 have st_9:Hid (∀ (W:World),SS W→wpAnyH Tryz.prog .any OPS QQ SS 8 #[b1,b1,b1,b1,b1,b1,b1,b1,b1,b1,b1,b1,b1,b1,b1,b1,b1,b1,b1,b0,b1,b1,b1,b0,b0,b0,b0,b0,b0,b0] (A0.put (some 39) (.agg #[vI sx,vI fx,vI g.ce])) W):=by
  subst hO hQ hA hSS
  refine hid ?_
  intro W hHeld
  (try simp only [Act.put,pa,pb,pc])
  refine wpAnyH_ready (rs:=[19,24,25,26]) (by kernel_rfl) (by simp) ?_
  refine aD rfl (fun K hK=>mK (HSY.out W) st_9_19.out) ?_
  refine aD rfl (fun K hK=>mA st_9_24.out) ?_
  refine aD rfl (fun K hK=>mA st_9_25.out) ?_
  refine aD rfl (fun K hK=>mA st_9_26.out) ?_
  exact AllReadyH.nil
 have st_26:Hid (∀ (H2:Nat) (W:World) (qH2:Has W H2 (lz3 0 0 0)) (rH2:w.heap.size+3<=H2),SS W→wpAnyH Tryz.prog .any OPS QQ SS 8 #[b1,b1,b1,b1,b1,b1,b1,b1,b1,b0,b1,b1,b1,b1,b1,b1,b1,b1,b1,b0,b1,b1,b1,b0,b0,b0,b1,b0,b0,b0] (A0.put (some 12) (.pointer (some ⟨H2,0,none⟩))) W):=by
  subst hO hQ hA hSS
  refine hid ?_
  intro H2 W qH2 rH2 hHeld
  (try simp only [Act.put,pa,pb,pc])
  refine wpAnyH_ready (rs:=[9,24,25]) (by kernel_rfl) (by simp) ?_
  refine aD rfl (fun K hK=>mK (HSX.out W) st_9_26.out) ?_
  refine aD rfl (fun K hK=>mA st_24_26.out) ?_
  refine aD rfl (fun K hK=>mA st_25_26.out) ?_
  exact AllReadyH.nil
 have st:Hid (∀ (W:World),SS W→wpAnyH Tryz.prog .any OPS QQ SS 9 #[b1,b1,b1,b1,b1,b1,b1,b1,b1,b0,b1,b1,b1,b1,b1,b1,b1,b1,b1,b0,b1,b1,b1,b0,b0,b0,b0,b0,b0,b0] A0 W):=by
  subst hO hQ hA hSS
  refine hid ?_
  intro W hHeld
  (try simp only [Act.put,pa,pb,pc])
  refine wpAnyH_ready (rs:=[9,24,25,26]) (by kernel_rfl) (by simp) ?_
  refine aD rfl (fun K hK=>mK (HSX.out W) st_9.out) ?_
  refine aD rfl (fun K hK=>mA st_24.out) ?_
  refine aD rfl (fun K hK=>mA st_25.out) ?_
  refine aD rfl (fun K hK=>mA st_26.out) ?_
  exact AllReadyH.nil
 subst hO hQ hA hSS
 exact st.out _  hHeld
