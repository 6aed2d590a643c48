
/- Layer 36: the reference's check of a forecast. -/
import Derived.Test.YtheepmnhpclimaaGreatGd1
import Derived.Test.YtheepmnhpclimaaGreatRgK
import Derived.Deep.QuietTactic
import Derived.BigQuiet
namespace Go.Proofs.YtheepmnhpclimaaGreat
set_option linter.unusedSimpArgs false
set_option linter.unusedVariables false
set_option maxRecDepth 100000
set_option maxHeartbeats 8000000
open Go.RowKit
open Go.Lib (hid)
theorem rPt36 (x y:Int) (w:World):Calls Tryz.prog 110 #[.agg #[vI x,vI y]] w fun e' w'=>e'=.returned (.bool (inB x (-2000000) 2000000 && inB y (-2000000) 2000000))∧Below w.heap.size w w':=by
 go_enter Tryz.func110,Tryz.ntmps110
 go_wp2
 all_goals (go_ret;refine ⟨ret_bool ?_,below_alloc1 _ _⟩;unfold inB;rw [Bool.eq_iff_iff];simp;omega)
theorem take_all_s {α:Type} {l:List α} {k:Nat} {x:α} {P:α→Prop} (h:∀ y ∈ l.take k,P y) (hx:l[k]? = some x) (hp:P x):∀ y ∈ l.take (k+1),P y:=by
 intro y hy
 rw [take_succ_get _ k _ hx] at hy
 rcases List.mem_append.1 hy with h1 | h1
 ·exact h y h1
 ·rw [List.mem_singleton.1 h1];exact hp
def RgRel (g:Grd) (w:World) (P:Nat→Prop) (t:Value) (wr:World):Prop:=∃ k:Nat,t=vI k∧P k∧Has wr w.heap.size g.cells∧Below w.heap.size w wr
theorem gdV_no {g:Grd} (h:¬ (((inB g.cx (-2000000) 2000000 && inB g.cy (-2000000) 2000000)=true∧(1≤g.ce∧g.ce≤2000000)∧0≤g.er∧g.er≤60)∧(∀ x ∈ g.al,-200000≤x∧x≤6000000)∧(∀ p ∈ g.wi,wdB p=true)∧∀ x ∈ g.de,-4000≤x∧x≤4000)):gdV g=false:=by
 cases h2:gdV g
 ·rfl
 ·unfold gdV rngL at h2
  simp only [Bool.and_eq_true,List.all_eq_true,inB_iff] at h2 h
  exact absurd ⟨⟨h2.1.1.1.1,h2.1.1.1.2,h2.1.1.2⟩,h2.1.2,h2.2.1,h2.2.2⟩ h
set_option linter.unusedVariables false
theorem rGdCheck (g:Grd) (w:World) (hl:g.lies w) (hok:g.ok):Calls Tryz.prog 87 #[.agg g.cells.toArray] w fun e' w'=>e'=.returned (vI (gdE g))∧Below w.heap.size w w':=by
 have ls:=hok.al;have lw:=hok.wi;have ld:=hok.de
 unfold maxLen at ls lw ld
 have HK:=hid (fun W (h:Below _ _ W)=>(Has.new w g.cells.toArray 31).below h);have HL:=hid (fun W (hB:Below w.heap.size w W)=>hl.below hB);have HLN:=hid (And.intro hl.al.len (And.intro hl.wi.len hl.de.len))
 show Calls _ _ #[.agg #[vI g.cx,vI g.cy,vI g.ce,vI g.nx,vI g.ny,.slice g.sal.A g.sal.n g.sal.c,.slice g.swi.A g.swi.n g.swi.c,.slice g.sde.A g.sde.n g.sde.c,vI g.er]] _ _
 by_cases hs:(1≤g.nx∧g.nx≤16)∧(1≤g.ny∧g.ny≤16)∧1≤g.sal.n∧g.sal.n≤8
 rotate_left
 ·have HE:=hid (gd_3 (gdS_no hs))
  clear hl hok
  go_enter Tryz.func87,Tryz.ntmps87
  go_wp2_with fail
  all_goals first | (exfalso;omega) | (go_ret;exact ⟨ret_int HE.out.symm,below_alloc1 _ _⟩)
 have gs:=gdS_yes hs;obtain ⟨⟨a1,a2⟩,⟨a3,a4⟩,a5,a6⟩:=hs;obtain ⟨⟨p0,p1⟩,p2,p3⟩:=nxy_bd (x:=g.nx) (y:=g.ny) (n:=(g.sal.n:Int)) (by omega) (by omega) (by omega);have z1:IntKind.i64.wrap (g.nx * g.ny)=g.nx * g.ny:=IntWalk.i64_in _ (by omega);have z2:IntKind.i64.wrap (g.nx * g.ny * (g.sal.n:Int))=g.nx * g.ny * (g.sal.n:Int):=IntWalk.i64_in _ (by omega);have E1:=hid (fun h=>gd_1 gs (show gdN g=false by cases h2:gdN g;rfl;exact absurd h2 h));have E2:=hid (fun hn h=>gd_2 gs (show gdN g=true from hn) (gdV_no h));have EN:=hid (show gdN g=true ↔ (g.swi.n:Int)=g.nx * g.ny * g.sal.n∧(g.sde.n:Int)=g.nx * g.ny * g.sal.n by unfold gdN;simp);have HGS:=hid gs;clear hl hok gs
 go_enter Tryz.func87,Tryz.ntmps87
 go_wp2_with (refine (rPt36 _ _ _).mono ?_;rintro e' w1 ⟨rfl,hB⟩;generalize hp:(inB g.cx (-2000000) 2000000 && inB g.cy (-2000000) 2000000)=pb;have k0:=(HK.out _ hB).cell 1 _ rfl;have k2:=(HK.out _ hB).cell 2 _ rfl;have k5:=(HK.out _ hB).cell 5 _ rfl;have k8:=(HK.out _ hB).cell 8 _ rfl;replace hB:=hid hB)
 all_goals try (go_ret;first | exact ⟨ret_int (E1.out (by rw [EN.out];simp_all)).symm,below_alloc1 _ _⟩ | exact ⟨ret_int (E2.out (by rw [EN.out];simp_all) (fun h=>by have:=h.1;simp_all;try omega)).symm,bel_alloc hB.out⟩)
 rename_i hN1 hN2 hP _ _ _ hT _ _
 have HN:=hid (EN.out.2 ⟨hN1,by simpa using hN2⟩);have HP:=hid (show ((inB g.cx (-2000000) 2000000 && inB g.cy (-2000000) 2000000)=true∧(1≤g.ce∧g.ce≤2000000)∧0≤g.er∧g.er≤60) from ⟨hp.trans hP,by omega,by omega⟩)
 have hnn:g.swi.n=g.sde.n∧1≤g.swi.n:=by have:=EN.out.1 HN.out;omega
 have HNN:=hid hnn;have HH:=hid (HK.out _ hB.out);replace HK:=hid (bel_alloc hB.out);clear hN1 hN2 hP hT hp hnn E1 EN k0 k2 k5 k8 hB z1 z2 p0 p1 p2 p3
 go_loopw [87] (fun t wr=>RgRel g w (fun k=>k≤g.sal.n∧∀ x ∈ g.al.take k,-200000≤x∧x≤6000000) t wr) (fun t _=>g.sal.n - (intOf t).toNat)
 case atStart=>exact ⟨0,rfl,⟨by omega,by simp⟩,HH.out,HK.out⟩
 case round =>
 obtain ⟨k,rfl,⟨hk,ha⟩,hx,hb⟩:=hrel;replace HH:=hid hx;replace HK:=hid hb;have HA:=hid ha;clear hx hb ha
 by_cases hlt:k<g.sal.n
 ·obtain ⟨x,hx⟩:=get_ex HLN.out.1 hlt
  obtain ⟨b,off,hA,-,hc⟩:=(HL.out _ HK.out).al.cells (by omega);have y0:=hc k x hx;have HX:=hid hx
  rw [hA]
  clear hx hA hc
  go_wp2_with fail
  all_goals first | (go_ret;exact ⟨ret_int (E2.out HN.out (fun h=>by have:=h.2.1 x (List.mem_of_getElem? HX.out);omega)).symm,HK.out⟩) | skip
  go_roundw
  case rel=>exact ⟨k+1,by go_num,⟨by omega,take_all_s HA.out HX.out (by omega)⟩,HH.out,HK.out⟩
  case measure=>simp only [intOf];omega
 have HAL:=hid (show ∀ x ∈ g.al,-200000≤x∧x≤6000000 from by have h:=HA.out;rwa [List.take_of_length_le (by have:=HLN.out.1;omega)] at h);have k6:=HH.out.cell 6 _ rfl
 go_wp2_with fail
 clear k6 HA;obtain ⟨wo,rfl⟩:∃ wo:World,wo=wr:=⟨_,rfl⟩
 go_loopw [101] (fun t wr=>RgRel g w (fun k=>k≤g.swi.n∧(∀ p ∈ g.wi.take k,wdB p=true)∧∀ x ∈ g.de.take k,-4000≤x∧x≤4000) t wr) (fun t _=>g.swi.n - (intOf t).toNat)
 case atStart=>exact ⟨0,rfl,⟨by omega,by simp,by simp⟩,HH.out,HK.out⟩
 case round =>
 clear hk hlt;obtain ⟨k,rfl,⟨hk,ha,hd⟩,hx,hb⟩:=hrel;replace HH:=hid hx;replace HK:=hid hb;have HA:=hid ha;have HD:=hid hd;clear hx hb ha hd
 by_cases hlt:k<g.swi.n
 ·obtain ⟨p,hp⟩:=get_ex HLN.out.2.1 hlt
  obtain ⟨d,hd⟩:=get_ex HLN.out.2.2 (show k<g.sde.n by have:=HNN.out;omega);obtain ⟨b,off,hA,-,hc⟩:=(HL.out _ HK.out).wi.cells (by omega);obtain ⟨b2,o2,hA2,hb2,hc2⟩:=(HL.out _ HK.out).de.cells (by have:=HNN.out;omega);have y0:wr.cell? ⟨b,off+k * 2,none⟩=some (vI p.1):=hc k p hp 0 _ rfl;have y1:wr.cell? ⟨b,off+k * 2+1,none⟩=some (vI p.2):=hc k p hp 1 _ rfl
  have z0:∀ o,(wr.alloc o).cell? ⟨b2,o2+k,none⟩=some (vI d):=fun o=>by rw [World.cell?_alloc_lt _ _ _ hb2];exact hc2 k d hd
  have k7:∀ o,(wr.alloc o).cell? ⟨w.heap.size,7,none⟩=some (.slice g.sde.A g.sde.n g.sde.c):=fun o=>(HH.out.alloc o).cell 7 _ rfl
  rw [hA2] at k7
  have i0:(0:Int)≤(k:Int):=by omega
  have i1:(k:Int)<(g.sde.n:Int):=by have:=HNN.out;omega
  have HX:=hid hp;have HY:=hid hd
  rw [hA]
  clear hp hd hA hA2 hc hc2
  go_wp2_with fail
  all_goals first | (go_ret;exact ⟨ret_int (E2.out HN.out (fun h=>by have h1:=h.2.2.1 p (List.mem_of_getElem? HX.out);have h2:=h.2.2.2 d (List.mem_of_getElem? HY.out);unfold wdB inB at h1;simp at h1;omega)).symm,bel_alloc1 HK.out _⟩) | skip
  go_roundw
  case rel=>exact ⟨k+1,by go_num,⟨by omega,take_all_s HA.out HX.out (by unfold wdB inB;simp;omega),take_all_s HD.out HY.out (by omega)⟩,HH.out.alloc _,bel_alloc1 HK.out _⟩
  case measure=>simp only [intOf];omega
 have HV:=hid (show gdV g=true from by
  have h:=HA.out;have h2:=HD.out
  rw [List.take_of_length_le (by have:=HLN.out;omega)] at h
  rw [List.take_of_length_le (by have:=HLN.out;have:=HNN.out;omega)] at h2
  have h3:=HP.out
  unfold gdV rngL
  simp only [Bool.and_eq_true,List.all_eq_true,inB_iff] at h3 ⊢
  exact ⟨⟨⟨⟨h3.1,h3.2.1⟩,h3.2.2⟩,HAL.out⟩,h,h2⟩)
 have HE:=hid (gd_a HGS.out HN.out HV.out);clear HA HD
 go_wp2_with fail
 go_loopw [8] (fun t wr=>GcRel g w t wr) (fun t _=>g.sal.n - (intOf t).toNat)
 case atStart=>exact ⟨0,by omega,rfl,fun i hi=>by omega,HH.out,HK.out⟩
 case round =>
 obtain ⟨k,hk,rfl,ha,hx,hb⟩:=hrel;replace HH:=hid hx;replace HK:=hid hb;have HA:=hid ha;clear hx hb ha;have k5:∀ m,(wr.drewN m).cell? ⟨w.heap.size,5,none⟩=some (.slice g.sal.A g.sal.n g.sal.c):=fun m=>(World.cell?_drewN wr m _).trans (HH.out.cell 5 _ rfl);have k5':wr.cell? ⟨w.heap.size,5,none⟩=some (.slice g.sal.A g.sal.n g.sal.c):=HH.out.cell 5 _ rfl
 by_cases hlt:k+1<g.sal.n
 ·obtain ⟨x,hx⟩:=get_ex HLN.out.1 (show k<g.sal.n by omega)
  obtain ⟨y,hy⟩:=get_ex HLN.out.1 hlt;obtain ⟨b,off,hA,-,hc⟩:=(HL.out _ HK.out).al.cells (by omega);have y0:∀ m,(wr.drewN m).cell? ⟨b,off+k,none⟩=some (vI x):=fun m=>(World.cell?_drewN wr m _).trans (hc k x hx);have y1:∀ m,(wr.drewN m).cell? ⟨b,off+(k+1),none⟩=some (vI y):=fun m=>(World.cell?_drewN wr m _).trans (hc (k+1) y hy)
  rw [hA] at k5 k5'
  have HG:=hid (And.intro (getD_of_get (d:=0) hx) (getD_of_get (d:=0) hy))
  have s1:IntKind.i64.wrap ((k:Int)+1 - 1)=(k:Int):=by rw [IntWalk.i64_in _ (by omega)];omega
  have s2:IntKind.i64.wrap ((k:Int)+1)=(k:Int)+1:=IntWalk.i64_in _ (by omega)
  have s3:((k:Int)+1).toNat=k+1:=by omega
  have s4:(0:Int)≤(k:Int)+1:=by omega
  have s5:(k:Int)+1<(g.sal.n:Int):=by omega
  have s6:(0:Int)≤(k:Int):=by omega
  have s7:(k:Int)<(g.sal.n:Int):=by omega
  clear hx hy hc hA
  go_wp2_with fail
  go_quiet (fail)
  by_cases h9:y≤x
  ·go_wp2_with fail
   go_ret
   exact ⟨ret_int (HE.out.trans (if_neg (fun ha=>by
    have:=of_decide_eq_true (p:=Pe.Asc g.al) ha k (by have:=HLN.out;omega)
    rw [HG.out.1,HG.out.2] at this
    omega))).symm,below_drewN HK.out _⟩
  ·go_wp2_with fail
   go_roundw
   case rel=>exact ⟨k+1,by omega,by go_num,fun i hi=>by
    by_cases e:i=k
    ·subst e;rw [HG.out.1,HG.out.2];omega
    ·exact HA.out i (by omega),HH.out.below (below_drewN (Below.refl _ _) _),below_drewN HK.out _⟩
   case measure=>simp only [intOf];omega
 ·clear k5
  go_wp2_with fail
  go_ret
  exact ⟨ret_int (HE.out.trans (if_pos (decide_eq_true (p:=Pe.Asc g.al) (fun i hi=>HA.out i (by have:=HLN.out;omega))))).symm,HK.out⟩
end Go.Proofs.YtheepmnhpclimaaGreat
