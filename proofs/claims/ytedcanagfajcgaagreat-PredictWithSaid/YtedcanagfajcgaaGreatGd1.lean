
/- Layer 36: forecasts, the program's functions: the checks, the places. -/
import Derived.Test.YtedcanagfajcgaaGreatM23
import Derived.Test.YtedcanagfajcgaaGreatM1
set_option linter.unusedSimpArgs false
set_option linter.unusedVariables false
set_option maxRecDepth 100000
set_option maxHeartbeats 2000000
namespace Go.Proofs
theorem JR{G:Prop}(h:G:=by
  go_enter Tryz.func50,Tryz.ntmps50
  go_wp2
  go_ret
  exact ⟨Af HF.out.symm,Aa _ _⟩):G:=h
theorem Yc{G:Prop}(h:G:=by
  go_wp2
  go_ret
  exact ⟨Ao (by rw [hv.out,Bool.eq_iff_iff];simp;try omega),rfl⟩):G:=h
theorem Ye{G:Prop}(h:G:=by
  go_wp2_with fail
  go_ret
  exact ⟨Ao HF.out.symm,HB2.out _⟩):G:=h
end Go.Proofs
namespace Go.Proofs.YtedcanagfajcgaaGreat
open Go.RowKit
open Go.Lib (hid)
theorem CZ (n lo hi:Int) (w:World):Calls Tryz.prog 55 #[vI n,vI lo,vI hi] w fun e w'=>e=.returned (.bool (inB n lo hi))∧w=w':=by
 have hv:=hid (show inB n lo hi=(decide (lo<=n) && decide (n<=hi)) from rfl)
 by_cases h1:n<lo
 ·go_enter Tryz.func55,Tryz.ntmps55
  exact Yc
 by_cases h2:hi<n
 ·go_enter Tryz.func55,Tryz.ntmps55
  exact Yc
 ·go_enter Tryz.func55,Tryz.ntmps55
  exact Yc
theorem Jh (x y:Int) (w:World):Calls Tryz.prog 54 #[.agg #[vI x,vI y]] w fun e' w'=>e'=.returned (.bool (ptB x y))∧Below w.heap.size w w':=by
 have HV:=hid (show ptB x y=(inB x (-2000000) 2000000 && inB y (-2000000) 2000000) from rfl)
 cases g:inB x (-2000000) 2000000
 ·have G:=hid g
  clear g
  go_enter Tryz.func54,Tryz.ntmps54
  go_wp2_with fail
  refine (CZ _ _ _ _).mono ?_;rintro e' wx ⟨rfl,rfl⟩
  rw [G.out]
  go_wp2_with fail
  go_ret
  exact ⟨Ao (by rw [HV.out,G.out];rfl),Aa _ _⟩
 have G:=hid g;clear g
 go_enter Tryz.func54,Tryz.ntmps54
 go_wp2_with fail
 refine (CZ _ _ _ _).mono ?_;rintro e' wx ⟨rfl,rfl⟩
 rw [G.out]
 go_wp2_with fail
 refine (CZ _ _ _ _).mono ?_;rintro e' wx ⟨rfl,rfl⟩
 go_wp2_with fail
 go_ret
 exact ⟨Ao (by rw [HV.out,G.out];rfl),Aa _ _⟩
def Adr (g:Grd) (w:World) (t:Value) (wr:World):Prop:=∃ k:Nat,k<=g.sal.n∧t=vI k∧((g.al.take k).all fun x=>inB x (-200000) 6000000)=true∧Has wr w.heap.size g.cells∧Below w.heap.size w wr
def Ads (g:Grd) (w:World) (t:Value) (wr:World):Prop:=∃ k:Nat,k<=g.swi.n∧t=vI k∧(g.wi.take k).all wdB=true∧((g.de.take k).all fun x=>inB x (-4000) 4000)=true∧Has wr w.heap.size g.cells∧Below w.heap.size w wr
theorem Acb (g:Grd):gdV g=((ptB g.cx g.cy && inB g.ce 1 2000000 && inB g.er 0 60) && (g.al.all fun x=>inB x (-200000) 6000000) && (g.wi.all wdB && g.de.all fun x=>inB x (-4000) 4000)):=rfl
theorem Om (g:Grd) (w:World) (hl:g.lies w) (hok:g.ok) (hn:g.swi.n=g.sde.n):Calls Tryz.prog 124 #[.agg #[vI g.cx,vI g.cy,vI g.ce,vI g.nx,vI g.ny,.slice g.sal.A g.sal.n g.sal.c,.slice g.swi.A g.swi.n g.swi.c,.slice g.sde.A g.sde.n g.sde.c,vI g.er]] w fun e' w'=>e'=.returned (.bool (gdV g))∧Below w.heap.size w w':=by
 have HV:=hid (Acb g);have HP:=hid (fun W=>Jh g.cx g.cy W);have b0:=hok.al;have b1:=hok.wi;have b2:=hok.de
 unfold maxLen at b0 b1 b2
 have HL:=hid (fun W (hB:Below w.heap.size w W)=>hl.below hB);have HN:=hid hn;have HLN:=hid (show g.al.length=g.sal.n∧g.wi.length=g.swi.n∧g.de.length=g.sde.n from ⟨hl.al.len,hl.wi.len,hl.de.len⟩);clear hl hok hn
 cases h0:ptB g.cx g.cy
 ·have HF:=hid (show gdV g=false by rw [HV.out,h0];rfl)
  rw [h0] at HP
  clear h0
  go_enter Tryz.func124,Tryz.ntmps124
  go_wp2_with fail
  refine (HP.out _).mono ?_;rintro e' w1 ⟨rfl,hB⟩
  have KG:Hid (Has w1 w.heap.size g.cells):=hid ((Has.new w #[vI g.cx,vI g.cy,vI g.ce,vI g.nx,vI g.ny,.slice g.sal.A g.sal.n g.sal.c,.slice g.swi.A g.swi.n g.swi.c,.slice g.sde.A g.sde.n g.sde.c,vI g.er] 31).below hB);have HB:=hid (Ap hB);clear hB;have k0:w1.cell? ⟨w.heap.size,0,none⟩=some (vI g.cx):=KG.out.cell 0 _ rfl;have k1:w1.cell? ⟨w.heap.size,1,none⟩=some (vI g.cy):=KG.out.cell 1 _ rfl;have k2:w1.cell? ⟨w.heap.size,2,none⟩=some (vI g.ce):=KG.out.cell 2 _ rfl;have k3:w1.cell? ⟨w.heap.size,3,none⟩=some (vI g.nx):=KG.out.cell 3 _ rfl;have k4:w1.cell? ⟨w.heap.size,4,none⟩=some (vI g.ny):=KG.out.cell 4 _ rfl;have k5:w1.cell? ⟨w.heap.size,5,none⟩=some (.slice g.sal.A g.sal.n g.sal.c):=KG.out.cell 5 _ rfl;have k6:w1.cell? ⟨w.heap.size,6,none⟩=some (.slice g.swi.A g.swi.n g.swi.c):=KG.out.cell 6 _ rfl;have k7:w1.cell? ⟨w.heap.size,7,none⟩=some (.slice g.sde.A g.sde.n g.sde.c):=KG.out.cell 7 _ rfl;have k8:w1.cell? ⟨w.heap.size,8,none⟩=some (vI g.er):=KG.out.cell 8 _ rfl
  go_wp2_with fail
  go_ret
  exact ⟨Ao HF.out.symm,HB.out⟩
 rw [h0] at HP HV
 cases h1:inB g.ce 1 2000000
 ·have HF:=hid (show gdV g=false by rw [HV.out,h1];rfl)
  have G1:=hid h1;clear h0 h1
  go_enter Tryz.func124,Tryz.ntmps124
  go_wp2_with fail
  refine (HP.out _).mono ?_;rintro e' w1 ⟨rfl,hB⟩
  have KG:Hid (Has w1 w.heap.size g.cells):=hid ((Has.new w #[vI g.cx,vI g.cy,vI g.ce,vI g.nx,vI g.ny,.slice g.sal.A g.sal.n g.sal.c,.slice g.swi.A g.swi.n g.swi.c,.slice g.sde.A g.sde.n g.sde.c,vI g.er] 31).below hB);have HB:=hid (Ap hB);clear hB;have k0:w1.cell? ⟨w.heap.size,0,none⟩=some (vI g.cx):=KG.out.cell 0 _ rfl;have k1:w1.cell? ⟨w.heap.size,1,none⟩=some (vI g.cy):=KG.out.cell 1 _ rfl;have k2:w1.cell? ⟨w.heap.size,2,none⟩=some (vI g.ce):=KG.out.cell 2 _ rfl;have k3:w1.cell? ⟨w.heap.size,3,none⟩=some (vI g.nx):=KG.out.cell 3 _ rfl;have k4:w1.cell? ⟨w.heap.size,4,none⟩=some (vI g.ny):=KG.out.cell 4 _ rfl;have k5:w1.cell? ⟨w.heap.size,5,none⟩=some (.slice g.sal.A g.sal.n g.sal.c):=KG.out.cell 5 _ rfl;have k6:w1.cell? ⟨w.heap.size,6,none⟩=some (.slice g.swi.A g.swi.n g.swi.c):=KG.out.cell 6 _ rfl;have k7:w1.cell? ⟨w.heap.size,7,none⟩=some (.slice g.sde.A g.sde.n g.sde.c):=KG.out.cell 7 _ rfl;have k8:w1.cell? ⟨w.heap.size,8,none⟩=some (vI g.er):=KG.out.cell 8 _ rfl
  go_wp2_with fail
  refine (CZ _ _ _ _).mono ?_;rintro e' wx ⟨rfl,rfl⟩
  rw [G1.out]
  go_wp2_with fail
  go_ret
  exact ⟨Ao HF.out.symm,HB.out⟩
 rw [h1] at HV
 cases h2:inB g.er 0 60
 ·have HF:=hid (show gdV g=false by rw [HV.out,h2];rfl)
  have G1:=hid h1;have G2:=hid h2;clear h0 h1 h2
  go_enter Tryz.func124,Tryz.ntmps124
  go_wp2_with fail
  refine (HP.out _).mono ?_;rintro e' w1 ⟨rfl,hB⟩
  have KG:Hid (Has w1 w.heap.size g.cells):=hid ((Has.new w #[vI g.cx,vI g.cy,vI g.ce,vI g.nx,vI g.ny,.slice g.sal.A g.sal.n g.sal.c,.slice g.swi.A g.swi.n g.swi.c,.slice g.sde.A g.sde.n g.sde.c,vI g.er] 31).below hB);have HB:=hid (Ap hB);clear hB;have k0:w1.cell? ⟨w.heap.size,0,none⟩=some (vI g.cx):=KG.out.cell 0 _ rfl;have k1:w1.cell? ⟨w.heap.size,1,none⟩=some (vI g.cy):=KG.out.cell 1 _ rfl;have k2:w1.cell? ⟨w.heap.size,2,none⟩=some (vI g.ce):=KG.out.cell 2 _ rfl;have k3:w1.cell? ⟨w.heap.size,3,none⟩=some (vI g.nx):=KG.out.cell 3 _ rfl;have k4:w1.cell? ⟨w.heap.size,4,none⟩=some (vI g.ny):=KG.out.cell 4 _ rfl;have k5:w1.cell? ⟨w.heap.size,5,none⟩=some (.slice g.sal.A g.sal.n g.sal.c):=KG.out.cell 5 _ rfl;have k6:w1.cell? ⟨w.heap.size,6,none⟩=some (.slice g.swi.A g.swi.n g.swi.c):=KG.out.cell 6 _ rfl;have k7:w1.cell? ⟨w.heap.size,7,none⟩=some (.slice g.sde.A g.sde.n g.sde.c):=KG.out.cell 7 _ rfl;have k8:w1.cell? ⟨w.heap.size,8,none⟩=some (vI g.er):=KG.out.cell 8 _ rfl
  go_wp2_with fail
  refine (CZ _ _ _ _).mono ?_;rintro e' wx ⟨rfl,rfl⟩
  rw [G1.out]
  go_wp2_with fail
  refine (CZ _ _ _ _).mono ?_;rintro e' wx ⟨rfl,rfl⟩
  rw [G2.out]
  go_wp2_with fail
  go_ret
  exact ⟨Ao HF.out.symm,HB.out⟩
 rw [h2] at HV
 replace HV:=hid (show gdV g=((g.al.all fun x=>inB x (-200000) 6000000) && (g.wi.all wdB && g.de.all fun x=>inB x (-4000) 4000)) from HV.out);have G1:=hid h1;have G2:=hid h2;clear h0 h1 h2;generalize gdV g=GV at *
 go_enter Tryz.func124,Tryz.ntmps124
 go_wp2_with fail
 refine (HP.out _).mono ?_;rintro e' w1 ⟨rfl,hB⟩
 have KG:Hid (Has w1 w.heap.size g.cells):=hid ((Has.new w #[vI g.cx,vI g.cy,vI g.ce,vI g.nx,vI g.ny,.slice g.sal.A g.sal.n g.sal.c,.slice g.swi.A g.swi.n g.swi.c,.slice g.sde.A g.sde.n g.sde.c,vI g.er] 31).below hB);have HB:=hid (Ap hB);clear hB;have k0:w1.cell? ⟨w.heap.size,0,none⟩=some (vI g.cx):=KG.out.cell 0 _ rfl;have k1:w1.cell? ⟨w.heap.size,1,none⟩=some (vI g.cy):=KG.out.cell 1 _ rfl;have k2:w1.cell? ⟨w.heap.size,2,none⟩=some (vI g.ce):=KG.out.cell 2 _ rfl;have k3:w1.cell? ⟨w.heap.size,3,none⟩=some (vI g.nx):=KG.out.cell 3 _ rfl;have k4:w1.cell? ⟨w.heap.size,4,none⟩=some (vI g.ny):=KG.out.cell 4 _ rfl;have k5:w1.cell? ⟨w.heap.size,5,none⟩=some (.slice g.sal.A g.sal.n g.sal.c):=KG.out.cell 5 _ rfl;have k6:w1.cell? ⟨w.heap.size,6,none⟩=some (.slice g.swi.A g.swi.n g.swi.c):=KG.out.cell 6 _ rfl;have k7:w1.cell? ⟨w.heap.size,7,none⟩=some (.slice g.sde.A g.sde.n g.sde.c):=KG.out.cell 7 _ rfl;have k8:w1.cell? ⟨w.heap.size,8,none⟩=some (vI g.er):=KG.out.cell 8 _ rfl
 go_wp2_with fail
 refine (CZ _ _ _ _).mono ?_;rintro e' wx ⟨rfl,rfl⟩
 rw [G1.out]
 go_wp2_with fail
 refine (CZ _ _ _ _).mono ?_;rintro e' wx ⟨rfl,rfl⟩
 rw [G2.out]
 go_wp2_with fail
 clear k0 k1 k2 k3 k4 k5 k6 k7 k8
 go_loopw [26] (fun t wr=>Adr g w t wr) (fun t _=>g.sal.n - (intOf t).toNat)
 case atStart=>exact ⟨0,by omega,rfl,rfl,KG.out,HB.out⟩
 case round =>
  obtain ⟨k,hk,rfl,ha,hx,hb⟩:=hrel;replace KG:=hid hx;replace HB:=hid hb;have HA:=hid ha;clear hx hb ha
  by_cases hlt:k<g.sal.n
  ·obtain ⟨x,hx⟩:=Am HLN.out.1 hlt
   obtain ⟨b,off,hA,hb,hc⟩:=(HL.out _ HB.out).al.cells (by omega);have y0:wr.cell? ⟨b,off+k,none⟩=some (vI x):=hc k x hx;have HQ:=hid hx;have HAA:=hid hA;clear hx hc hA
   rw [HAA.out]
   cases g1:inB x (-200000) 6000000
   ·have HF:=hid (show GV=false by rw [HV.out,D8 HQ.out g1];rfl)
    have G3:=hid g1;clear g1
    go_wp2_with fail
    refine (CZ _ _ _ _).mono ?_;rintro e' wx ⟨rfl,rfl⟩
    rw [G3.out]
    go_wp2_with fail
    go_ret
    exact ⟨Ao HF.out.symm,HB.out⟩
   have G3:=hid g1;have HT:=hid (BX (Aq _ k x HQ.out) HA.out g1);clear g1
   go_wp2_with fail
   refine (CZ _ _ _ _).mono ?_;rintro e' wx ⟨rfl,rfl⟩
   rw [G3.out]
   go_wp2_with fail
   go_roundw
   case rel=>exact ⟨k+1,by omega,by go_num,HT.out,KG.out,HB.out⟩
   case measure=>exact zMs
  have HAL:=hid (C9 (by have:=HLN.out.1;omega) HA.out);replace HV:=hid (show GV=(g.wi.all wdB && g.de.all fun x=>inB x (-4000) 4000) by rw [HV.out,HAL.out];rfl);clear HAL HA;have k0:wr.cell? ⟨w.heap.size,0,none⟩=some (vI g.cx):=KG.out.cell 0 _ rfl;have k1:wr.cell? ⟨w.heap.size,1,none⟩=some (vI g.cy):=KG.out.cell 1 _ rfl;have k2:wr.cell? ⟨w.heap.size,2,none⟩=some (vI g.ce):=KG.out.cell 2 _ rfl;have k3:wr.cell? ⟨w.heap.size,3,none⟩=some (vI g.nx):=KG.out.cell 3 _ rfl;have k4:wr.cell? ⟨w.heap.size,4,none⟩=some (vI g.ny):=KG.out.cell 4 _ rfl;have k5:wr.cell? ⟨w.heap.size,5,none⟩=some (.slice g.sal.A g.sal.n g.sal.c):=KG.out.cell 5 _ rfl;have k6:wr.cell? ⟨w.heap.size,6,none⟩=some (.slice g.swi.A g.swi.n g.swi.c):=KG.out.cell 6 _ rfl;have k7:wr.cell? ⟨w.heap.size,7,none⟩=some (.slice g.sde.A g.sde.n g.sde.c):=KG.out.cell 7 _ rfl;have k8:wr.cell? ⟨w.heap.size,8,none⟩=some (vI g.er):=KG.out.cell 8 _ rfl
  go_wp2_with fail
  clear k0 k1 k2 k3 k4 k5 k6 k7 k8;obtain ⟨wo,rfl⟩:∃ wo:World,wo=wr:=⟨_,rfl⟩
  go_loopw [37] (fun t wr=>Ads g w t wr) (fun t _=>g.swi.n - (intOf t).toNat)
  case atStart=>exact ⟨0,by omega,rfl,rfl,rfl,KG.out,HB.out⟩
  case round =>
   clear hk hlt;obtain ⟨i,hi,rfl,ha,hd,hx,hb⟩:=hrel;replace KG:=hid hx;replace HB:=hid hb;have HA:=hid ha;have HD:=hid hd;clear hx hb ha hd
   by_cases hlt:i<g.swi.n
   rotate_left
   ·have HF:=hid (show GV=true by rw [HV.out,C9 (by have:=HLN.out.2.1;omega) HA.out,C9 (by have:=HLN.out.2.2;have:=HN.out;omega) HD.out];rfl)
    go_wp2_with fail
    go_ret
    exact ⟨Ao HF.out.symm,HB.out⟩
   obtain ⟨p,hp⟩:=Am HLN.out.2.1 hlt;obtain ⟨d,hd⟩:=Am HLN.out.2.2 (show i<g.sde.n by have:=HN.out;omega);obtain ⟨b1,o1,hA1,hb1,hc1⟩:=(HL.out _ HB.out).wi.cells (by omega);obtain ⟨b2,o2,hA2,hb2,hc2⟩:=(HL.out _ HB.out).de.cells (by have:=HN.out;omega);have y0:wr.cell? ⟨b1,o1+i * 2,none⟩=some (vI p.1):=hc1 i p hp 0 _ rfl;have y1:wr.cell? ⟨b1,o1+i * 2+1,none⟩=some (vI p.2):=hc1 i p hp 1 _ rfl;have HQ:=hid hp;have HE:=hid hd;have HA1:=hid hA1;have HA2:=hid hA2
   have z0:∀ o,(wr.alloc o).cell? ⟨b2,o2+i,none⟩=some (vI d):=fun o=>by rw [World.cell?_alloc_lt _ _ _ hb2];exact hc2 i d hd
   have KG2:=hid (fun o=>KG.out.alloc o);have HB2:=hid (fun o=>Bh HB.out o);have k7:∀ o,(wr.alloc o).cell? ⟨w.heap.size,7,none⟩=some (.slice g.sde.A g.sde.n g.sde.c):=fun o=>(KG2.out o).cell 7 _ rfl
   rw [HA2.out] at k7
   clear hp hd hc1 hc2 hA1 hA2
   rw [HA1.out]
   have i0:(0:Int)<=(i:Int):=by omega
   have i1:(i:Int)<(g.sde.n:Int):=by have:=HN.out;omega
   cases g1:inB p.1 (-340) 340
   ·have HF:=hid (show GV=false by rw [HV.out,D8 HQ.out (f:=wdB) (by unfold wdB;rw [g1];rfl)];simp)
    have T0:=hid g1;clear g1
    go_wp2_with fail
    refine (CZ _ _ _ _).mono ?_;rintro e' wx ⟨rfl,rfl⟩
    rw [T0.out]
    exact Ye
   have T0:=hid g1;clear g1
   cases g1:inB p.2 (-340) 340
   ·have HF:=hid (show GV=false by rw [HV.out,D8 HQ.out (f:=wdB) (by unfold wdB;rw [g1];simp)];simp)
    have T1:=hid g1;clear g1
    go_wp2_with fail
    refine (CZ _ _ _ _).mono ?_;rintro e' wx ⟨rfl,rfl⟩
    rw [T0.out]
    go_wp2_with fail
    refine (CZ _ _ _ _).mono ?_;rintro e' wx ⟨rfl,rfl⟩
    rw [T1.out]
    exact Ye
   have T1:=hid g1;clear g1
   cases g1:inB d (-4000) 4000
   ·have HF:=hid (show GV=false by rw [HV.out,D8 HE.out g1];simp)
    have T2:=hid g1;clear g1
    go_wp2_with fail
    refine (CZ _ _ _ _).mono ?_;rintro e' wx ⟨rfl,rfl⟩
    rw [T0.out]
    go_wp2_with fail
    refine (CZ _ _ _ _).mono ?_;rintro e' wx ⟨rfl,rfl⟩
    rw [T1.out]
    go_wp2_with fail
    refine (CZ _ _ _ _).mono ?_;rintro e' wx ⟨rfl,rfl⟩
    rw [T2.out]
    exact Ye
   have T2:=hid g1;clear g1;have HTW:=hid (BX (f:=wdB) (Aq _ i p HQ.out) HA.out (by unfold wdB;rw [T0.out,T1.out];rfl));have HTD:=hid (BX (Aq _ i d HE.out) HD.out T2.out)
   go_wp2_with fail
   refine (CZ _ _ _ _).mono ?_;rintro e' wx ⟨rfl,rfl⟩
   rw [T0.out]
   go_wp2_with fail
   refine (CZ _ _ _ _).mono ?_;rintro e' wx ⟨rfl,rfl⟩
   rw [T1.out]
   go_wp2_with fail
   refine (CZ _ _ _ _).mono ?_;rintro e' wx ⟨rfl,rfl⟩
   rw [T2.out]
   go_wp2_with fail
   go_roundw
   case rel=>exact ⟨i+1,by omega,by go_num,HTW.out,HTD.out,KG2.out _,HB2.out _⟩
   case measure=>exact zMs
def Aai (g:Grd) (w:World) (t:Value) (wr:World):Prop:=∃ k:Nat,k+1<=g.sal.n∧t=vI ((k:Int)+1)∧(∀ i,i+1<=k→g.al.getD i 0<g.al.getD (i+1) 0)∧Has wr w.heap.size g.cells∧Below w.heap.size w wr
theorem Qt {g:Grd} (h:gdS g=false):gdE g=3:=if_pos h
theorem Ace {g:Grd} (h:gdS g=true) (h2:gdN g=false):gdE g=1:=by unfold gdE;rw [h,if_neg (by decide),if_pos h2]
theorem AdY {g:Grd} (h:gdS g=true) (h2:gdN g=true) (h3:gdV g=false):gdE g=2:=by unfold gdE;rw [h,if_neg (by decide),h2,if_neg (by decide),if_pos h3]
theorem AdZ {g:Grd} (h:gdS g=true) (h2:gdN g=true) (h3:gdV g=true):gdE g=if KA g.al=true then 0 else 9:=by unfold gdE;rw [h,if_neg (by decide),h2,if_neg (by decide),h3,if_neg (by decide)]
theorem Iq {g:Grd} (h:¬ ((1<=g.nx∧g.nx<=16)∧(1<=g.ny∧g.ny<=16)∧1<=g.sal.n∧g.sal.n<=8)):gdS g=false:=by
 cases h2:gdS g
 ·rfl
 ·unfold gdS at h2;simp [Al] at h2;omega
theorem SB {g:Grd} (h:(1<=g.nx∧g.nx<=16)∧(1<=g.ny∧g.ny<=16)∧1<=g.sal.n∧g.sal.n<=8):gdS g=true:=by unfold gdS;simp [Al];omega
theorem NK {x y n:Int} (hx:1<=x∧x<=16) (hy:1<=y∧y<=16) (hn:1<=n∧n<=8):(1<=x * y∧x * y<=256)∧1<=x * y * n∧x * y * n<=2048:=by
 have a1:=Int.mul_le_mul hx.2 hy.2 (by omega) (by decide);have a2:=Int.mul_le_mul hx.1 hy.1 (by decide) (by omega);have b1:=Int.mul_le_mul a1 hn.2 (by omega) (by decide);have b2:=Int.mul_le_mul a2 hn.1 (by decide) (by omega)
 omega
theorem Lv (g:Grd) (w:World) (hl:g.lies w) (hok:g.ok):Calls Tryz.prog 50 #[.agg #[vI g.cx,vI g.cy,vI g.ce,vI g.nx,vI g.ny,.slice g.sal.A g.sal.n g.sal.c,.slice g.swi.A g.swi.n g.swi.c,.slice g.sde.A g.sde.n g.sde.c,vI g.er]] w fun e' w'=>e'=.returned (vI (gdE g))∧Below w.heap.size w w':=by
 have ls:=hok.al;have lw:=hok.wi;have ld:=hok.de
 unfold maxLen at ls lw ld
 by_cases h0:g.nx<1
 ·have HF:=hid (Qt (Iq (g:=g) (by omega)))
  clear hl hok
  exact JR
 by_cases h1:16<g.nx
 ·have HF:=hid (Qt (Iq (g:=g) (by omega)))
  clear hl hok
  exact JR
 by_cases h2:g.ny<1
 ·have HF:=hid (Qt (Iq (g:=g) (by omega)))
  clear hl hok
  exact JR
 by_cases h3:16<g.ny
 ·have HF:=hid (Qt (Iq (g:=g) (by omega)))
  clear hl hok
  exact JR
 by_cases h4:(g.sal.n:Int)<1
 ·have HF:=hid (Qt (Iq (g:=g) (by omega)))
  clear hl hok
  exact JR
 by_cases h5:8<(g.sal.n:Int)
 ·have HF:=hid (Qt (Iq (g:=g) (by omega)))
  clear hl hok
  exact JR
 have gs:=SB (g:=g) (by omega)
 have i4:¬ (g.sal.n:Int)<1:=by omega
 have i5:¬ (8:Int)<(g.sal.n:Int):=by omega
 obtain ⟨⟨p0,p1⟩,p2,p3⟩:=NK (x:=g.nx) (y:=g.ny) (n:=(g.sal.n:Int)) (by omega) (by omega) (by omega);have u1:=iW (g.nx * g.ny);have u2:=iW (g.nx * g.ny * (g.sal.n:Int));have HGN:=hid (show gdN g=(decide ((g.swi.n:Int)=g.nx * g.ny * g.sal.n) && decide ((g.sde.n:Int)=g.nx * g.ny * g.sal.n)) from rfl)
 by_cases n0:(g.swi.n:Int)=g.nx * g.ny * g.sal.n
 rotate_left
 ·have HF:=hid (Ace gs (by rw [HGN.out];simp [n0]))
  have e1:((g.swi.n:Int) != g.nx * g.ny * (g.sal.n:Int))=true:=by simp [n0]
  clear hl hok gs n0
  exact JR
 by_cases n1:(g.sde.n:Int)=g.nx * g.ny * g.sal.n
 rotate_left
 ·have HF:=hid (Ace gs (by rw [HGN.out];simp [n1]))
  have e1:((g.swi.n:Int) != g.nx * g.ny * (g.sal.n:Int))=false:=by simp [n0]
  have e2:((g.sde.n:Int) != g.nx * g.ny * (g.sal.n:Int))=true:=by simp [n1]
  clear hl hok gs n0 n1
  exact JR
 have gn:gdN g=true:=by rw [HGN.out];simp [n0,n1]
 have e1:((g.swi.n:Int) != g.nx * g.ny * (g.sal.n:Int))=false:=by simp [n0]
 have e2:((g.sde.n:Int) != g.nx * g.ny * (g.sal.n:Int))=false:=by simp [n1]
 have HC:=hid (fun o=>Om g (w.alloc o) (hl.below (Aa w o)) hok (by omega))
 cases gv:gdV g
 ·have HF:=hid (AdY gs gn gv)
  rw [gv] at HC
  clear hl hok gs gn n0 n1 gv HGN
  go_enter Tryz.func50,Tryz.ntmps50
  go_wp2_with fail
  refine (HC.out _).mono ?_;rintro e' w1 ⟨rfl,hB⟩
  have HB:=hid (Ap hB);clear hB
  go_wp2_with fail
  go_ret
  exact ⟨Af HF.out.symm,HB.out⟩
 rw [gv] at HC
 have HE:=hid (AdZ gs gn gv);have HL:=hid (fun W (hB:Below w.heap.size w W)=>(hl.below hB).al);have HLN:=hid hl.al.len;clear hl hok gs gn n0 n1 gv HGN;generalize gdE g=EE at *
 go_enter Tryz.func50,Tryz.ntmps50
 go_wp2_with fail
 refine (HC.out _).mono ?_;rintro e' w1 ⟨rfl,hB⟩
 have KG:Hid (Has w1 w.heap.size g.cells):=hid ((Has.new w #[vI g.cx,vI g.cy,vI g.ce,vI g.nx,vI g.ny,.slice g.sal.A g.sal.n g.sal.c,.slice g.swi.A g.swi.n g.swi.c,.slice g.sde.A g.sde.n g.sde.c,vI g.er] 31).below hB);have HB:=hid (Ap hB);clear hB e1 e2 u1 u2
 go_wp2_with fail
 go_loopw [4] (fun t wr=>Aai g w t wr) (fun t _=>g.sal.n - (intOf t).toNat)
 case atStart=>exact ⟨0,by omega,rfl,fun i hi=>by omega,KG.out,HB.out⟩
 case round =>
  obtain ⟨k,hk,rfl,ha,hx,hb⟩:=hrel;replace KG:=hid hx;replace HB:=hid hb;have HA:=hid ha;clear hx hb ha;have k5:∀ m,(wr.drewN m).cell? ⟨w.heap.size,5,none⟩=some (.slice g.sal.A g.sal.n g.sal.c):=fun m=>(BC wr m _).trans (KG.out.cell 5 _ rfl);have k5':wr.cell? ⟨w.heap.size,5,none⟩=some (.slice g.sal.A g.sal.n g.sal.c):=KG.out.cell 5 _ rfl
  by_cases hlt:k+1<g.sal.n
  ·obtain ⟨x,hx⟩:=Am HLN.out (show k<g.sal.n by omega)
   obtain ⟨y,hy⟩:=Am HLN.out hlt;obtain ⟨b,off,hA,hb,hc⟩:=(HL.out _ HB.out).cells (by omega);have y0:∀ m,(wr.drewN m).cell? ⟨b,off+k,none⟩=some (vI x):=fun m=>(BC wr m _).trans (hc k x hx);have y1:∀ m,(wr.drewN m).cell? ⟨b,off+(k+1),none⟩=some (vI y):=fun m=>(BC wr m _).trans (hc (k+1) y hy);have HAA:=hid hA
   rw [HAA.out] at k5 k5'
   have gx:=Ah (d:=0) hx;have gy:=Ah (d:=0) hy
   have s1:IntKind.i64.wrap ((k:Int)+1 - 1)=(k:Int):=by rw [(iW _)];omega
   have s2:=iW ((k:Int)+1)
   have s3:((k:Int)+1).toNat=k+1:=by omega
   have s4:(0:Int)<=(k:Int)+1:=by omega
   have s5:(k:Int)+1<(g.sal.n:Int):=by omega
   have s6:(0:Int)<=(k:Int):=by omega
   have s7:(k:Int)<(g.sal.n:Int):=by omega
   have HGX:=hid gx;have HGY:=hid gy;clear hx hy hc hA gx gy
   by_cases h9:y<=x
   ·have HF:=hid (show EE=9 from HE.out.trans (if_neg (by
     intro hasc
     have hp:=of_decide_eq_true (p:=Pe.Asc g.al) hasc;have:=hp k (by have:=HLN.out;omega)
     rw [HGX.out,HGY.out] at this
     omega)))
    go_wp2_with fail
    go_quiet (fail)
    go_wp2_with fail
    go_ret
    exact ⟨Af HF.out.symm,Ag HB.out _⟩
   ·have HA2:=hid (show ∀ i,i+1<=k+1→g.al.getD i 0<g.al.getD (i+1) 0 from fun i hi=>by
     by_cases e:i=k
     ·subst e;rw [HGX.out,HGY.out];omega
     ·exact HA.out i (by omega))
    go_wp2_with fail
    go_quiet (fail)
    go_wp2_with fail
    go_roundw
    case rel=>exact ⟨k+1,by omega,by go_num,HA2.out,KG.out.below (Ag (AJ _ _) _),Ag HB.out _⟩
    case measure=>exact zMs
  ·have HF:=hid (show EE=0 from HE.out.trans (if_pos (Ct (p:=Pe.Asc g.al) (fun i hi=>HA.out i (by have:=HLN.out;omega)))))
   clear k5
   go_wp2_with fail
   go_ret
   exact ⟨Af HF.out.symm,HB.out⟩
theorem Qx {x y z nx ny n:Int} (hx:1<=nx∧nx<=16) (hy:1<=ny∧ny<=16) (hn:1<=n∧n<=8) (h0:0<=x∧x<nx) (h1:0<=y∧y<ny) (h2:0<=z∧z<n) :
  (0<=z * ny∧z * ny<=128)∧(0<=(z * ny+y) * nx∧(z * ny+y) * nx<=2304)∧0<=(z * ny+y) * nx+x∧(z * ny+y) * nx+x<nx * ny * n:=by
 have a1:=BM h2.1 (show 0<=ny by omega);have a2:=Int.mul_le_mul (show z<=8 by omega) hy.2 (by omega) (by decide)
 have a3:z * ny+y<n * ny:=by
  have:=CR (show z+1<=n by omega) (show 0<=ny by omega)
  rw [Int.add_mul] at this
  omega
 have b1:=BM (show 0<=z * ny+y by omega) (show 0<=nx by omega);have b2:=Int.mul_le_mul (show z * ny+y<=144 by omega) hx.2 (by omega) (by decide);have b3:=CR (show z * ny+y+1<=n * ny by omega) (show 0<=nx by omega)
 rw [Int.add_mul] at b3
 have c:n * ny * nx=nx * ny * n:=by rw [Int.mul_comm n ny,Int.mul_assoc,Int.mul_comm n nx,← Int.mul_assoc,Int.mul_comm ny nx]
 omega
theorem XW (g:Grd) (x y z:Int) (G:GrG g) (h0:0<=x∧x<g.nx) (h1:0<=y∧y<g.ny) (h2:0<=z∧z<g.sal.n) (w:World):Calls Tryz.prog 63 #[.agg #[vI g.cx,vI g.cy,vI g.ce,vI g.nx,vI g.ny,.slice g.sal.A g.sal.n g.sal.c,.slice g.swi.A g.swi.n g.swi.c,.slice g.sde.A g.sde.n g.sde.c,vI g.er],vI x,vI y,vI z] w fun e' w'=>e'=.returned (vI ((z * g.ny+y) * g.nx+x))∧Below w.heap.size w w':=by
 obtain ⟨⟨a0,a1⟩,⟨b0,b1⟩,c0,c1⟩:=Qx G.nx G.ny (n:=(g.sal.n:Int)) (by have:=G.na;omega) h0 h1 h2;have hny:=G.ny;have hnx:=G.nx;have u1:=iW (z * g.ny);have u2:=iW (z * g.ny+y);have u3:=iW ((z * g.ny+y) * g.nx);have u4:=iW ((z * g.ny+y) * g.nx+x);clear a0 a1 b0 b1 c0 c1 G h0 h1 h2 hny hnx
 go_enter Tryz.func63,Tryz.ntmps63
 go_wp2
 go_ret
 exact ⟨rfl,Aa _ _⟩
theorem AcN {co ce n x:Int} (hco : -2000000<=co∧co<=2000000) (hce:1<=ce∧ce<=2000000) (hn:1<=n∧n<=16):(0<=(n - 1) * ce∧(n - 1) * ce<=30000000)∧0<=Wg.sX co ce n x∧Wg.sX co ce n x<=30000000:=by
 have a1:=BM (show 0<=n - 1 by omega) (show 0<=ce by omega);have a2:=Int.mul_le_mul (show n - 1<=15 by omega) hce.2 (by omega) (by decide);have a3:=Wg.sX_bd (corner:=co) (x:=x) hce.1 hn.1
 omega
theorem Px {a b c x y z:Int} (h:a=x) (h2:b=y) (h3:c=z):Ending.returned (.agg #[vI a,vI b,vI c])=.returned (.agg #[vI x,vI y,vI z]):=by rw [h,h2,h3]
theorem MJ (co ce n x:Int) (hco : -2000000<=co∧co<=2000000) (hce:1<=ce∧ce<=2000000) (hn:1<=n∧n<=16) (hx : -2000000<=x∧x<=2000000) (w:World):Calls Tryz.prog 56 #[vI co,vI ce,vI n,vI x] w fun e' w'=>e'=.returned (.agg #[vI (Wg.sI co ce n x),vI (Wg.sF co ce n x),vI ce])∧Below w.heap.size w w':=by
 obtain ⟨⟨a0,a1⟩,s0,s1⟩:=AcN (x:=x) hco hce hn;obtain ⟨i0,i1,i2⟩:=Wg.sI_bd (corner:=co) (x:=x) hce.1 hn.1;have f0:=Wg.sF_bd (corner:=co) (x:=x) hce.1 hn.1;have hq0:=Int.ediv_nonneg s0 (show 0<=ce by omega);have hq1:=Int.ediv_le_self ce s0;have f1:0<=Wg.sI co ce n x * ce∧Wg.sI co ce n x * ce<=32000000:=⟨BM i0 (by omega),by have:=Int.mul_le_mul (show Wg.sI co ce n x<=16 by omega) hce.2 (by omega) (by decide);omega⟩;have u1:=iW ((n - 1) * ce);have u2:=iW (co+(n - 1) * ce);have u3:IntKind.i64.wrap (min (max x co) (co+(n - 1) * ce) - co)=Wg.sX co ce n x:=((iW _)).trans rfl;have u4:max (min (Wg.sX co ce n x / ce) (n - 2)) 0=Wg.sI co ce n x:=rfl;have u5:=iW (Wg.sI co ce n x * ce);have u6:IntKind.i64.wrap (Wg.sX co ce n x - Wg.sI co ce n x * ce)=Wg.sF co ce n x:=((iW _)).trans rfl;obtain ⟨hce0,hce1⟩:=hce;obtain ⟨hn0,hn1⟩:=hn;clear f0 f1 i1 a0 a1 hco hx;generalize Wg.sF co ce n x=FF at *;generalize Wg.sI co ce n x=II at *;generalize Wg.sX co ce n x=XX at *
 have hz:¬ ce=0:=by omega
 go_enter Tryz.func56,Tryz.ntmps56
 go_wp2_with fail
 exact bodyPost_ret (v:=.agg #[vI II,vI FF,vI ce]) (by simp [results,Tryz.results56,go_sem]) rfl ⟨rfl,Aa _ _⟩
