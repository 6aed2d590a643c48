/- M46: RfFu, RfGd, RfSu in one text. -/
import Derived.Test.YtedcanagfajcgaaGreatM3
import Derived.Test.YtedcanagfajcgaaGreatM53
import Derived.Test.YtedcanagfajcgaaGreatGd1
import Derived.Test.YtedcanagfajcgaaGreatM37
import Derived.Test.YtedcanagfajcgaaGreatM6
set_option linter.unusedSimpArgs false
set_option linter.unusedVariables false
set_option maxRecDepth 100000
set_option maxHeartbeats 8000000
namespace Go.Proofs.YtedcanagfajcgaaGreat
open Go.RowKit
open Go.Lib (hid)
theorem K7 (a:Acc) (w:World):Calls Tryz.prog 75 #[.agg #[vI a.em,vI a.ld,vI a.rs,vI a.bu]] w fun e w'=>e=.returned (vI a.E)∧Below w.heap.size w w':=by
 go_enter Tryz.func75,Tryz.ntmps75
 go_wp2
 all_goals (go_ret;refine ⟨Af ?_,Aa _ _⟩;unfold Acc.E Acc.B inB;simp only [Bool.and_eq_true,decide_eq_true_eq];split <;> omega)
theorem LX (a:Acc):(a.E=2∧a.left=0∧a.mass=0)∨(a.E=0∧a.left=a.ld - a.bu∧a.mass=a.em+(a.ld - a.bu)∧a.B=true):=by
 unfold Acc.E Acc.left Acc.mass
 cases h:a.B
 ·exact .inl ⟨rfl,rfl,rfl⟩
 ·exact .inr ⟨rfl,rfl,rfl,rfl⟩
theorem Tg (a:Acc) (w:World):Calls Tryz.prog 23 #[.agg #[vI a.em,vI a.ld,vI a.rs,vI a.bu]] w fun e w'=>e=.returned (vI a.left)∧Below w.heap.size w w':=by
 have HC:=fun W=>K7 a W;have KB:=hid fun W (h:Below _ _ W)=>(Has.new w #[vI a.em,vI a.ld,vI a.rs,vI a.bu] 33).below h
 rcases LX a with ⟨h1,h2,-⟩ | ⟨h1,h2,-,h⟩ <;> rw [h1] at HC <;> rw [h2]
 rotate_left
 have hd:=Dv h
 all_goals
  replace HC:=hid HC;clear h1 h2
  go_enter Tryz.func23,Tryz.ntmps23
  go_wp2_with (refine (HC.out _).mono ?_;rintro e w1 ⟨rfl,hB⟩;have k1:=(KB.out _ hB).cell 1 _ rfl;have k3:=(KB.out _ hB).cell 3 _ rfl;replace hB:=hid hB)
  go_ret
  exact ⟨rfl,Ap hB.out⟩
theorem Ti (a:Acc) (w:World):Calls Tryz.prog 95 #[.agg #[vI a.em,vI a.ld,vI a.rs,vI a.bu]] w fun e w'=>e=.returned (vI a.mass)∧Below w.heap.size w w':=by
 have HC:=fun W=>K7 a W;have KB:=hid fun W (h:Below _ _ W)=>(Has.new w #[vI a.em,vI a.ld,vI a.rs,vI a.bu] 33).below h
 rcases LX a with ⟨h1,-,h2⟩ | ⟨h1,-,h2,h⟩ <;> rw [h1] at HC <;> rw [h2]
 rotate_left
 have hd:=Dv h
 all_goals
  replace HC:=hid HC;clear h1 h2
  go_enter Tryz.func95,Tryz.ntmps95
  go_wp2_with (refine (HC.out _).mono ?_;rintro e w1 ⟨rfl,hB⟩;have k0:=(KB.out _ hB).cell 0 _ rfl;have k1:=(KB.out _ hB).cell 1 _ rfl;have k3:=(KB.out _ hB).cell 3 _ rfl;replace hB:=hid hB)
  go_ret
  exact ⟨Af (by omega),Ap hB.out⟩
theorem Tn (x y:Int) (w:World):Calls Tryz.prog 76 #[.agg #[vI x,vI y]] w fun e' w'=>e'=.returned (.bool (inB x (-2000000) 2000000 && inB y (-2000000) 2000000))∧Below w.heap.size w w':=by
 go_enter Tryz.func76,Tryz.ntmps76
 go_wp2
 all_goals (go_ret;refine ⟨Ao ?_,Aa _ _⟩;unfold inB;rw [Bool.eq_iff_iff];simp;omega)
theorem Et {α:Type} {l:List α} {k:Nat} {x:α} {P:α→Prop} (h:∀ y ∈ l.take k,P y) (hx:l[k]? = some x) (hp:P x):∀ y ∈ l.take (k+1),P y:=by
 intro y hy
 rw [Aq _ k _ hx] at hy
 rcases List.mem_append.1 hy with h1 | h1
 ·exact h y h1
 ·rw [List.mem_singleton.1 h1];exact hp
def Aaj (g:Grd) (w:World) (P:Nat→Prop) (t:Value) (wr:World):Prop:=∃ k:Nat,t=vI k∧P k∧Has wr w.heap.size g.cells∧Below w.heap.size w wr
theorem Acd {g:Grd} (h:¬ (((inB g.cx (-2000000) 2000000 && inB g.cy (-2000000) 2000000)=true∧(1<=g.ce∧g.ce<=2000000)∧0<=g.er∧g.er<=60)∧(∀ x ∈ g.al,-200000<=x∧x<=6000000)∧(∀ p ∈ g.wi,wdB p=true)∧∀ x ∈ g.de,-4000<=x∧x<=4000)):gdV g=false:=by
 cases h2:gdV g
 ·rfl
 ·unfold gdV BK at h2
  simp only [Bool.and_eq_true,List.all_eq_true,Al] at h2 h
  exact absurd ⟨⟨h2.1.1.1.1,h2.1.1.1.2,h2.1.1.2⟩,h2.1.2,h2.2.1,h2.2.2⟩ h
theorem K8 (g:Grd) (w:World) (hl:g.lies w) (hok:g.ok):Calls Tryz.prog 74 #[.agg g.cells.toArray] w fun e' w'=>e'=.returned (vI (gdE g))∧Below w.heap.size w w':=by
 have ls:=hok.al;have lw:=hok.wi;have ld:=hok.de
 unfold maxLen at ls lw ld
 have HK:=hid (fun W (h:Below _ _ W)=>(Has.new w g.cells.toArray 31).below h);have HL:=hid (fun W (hB:Below w.heap.size w W)=>hl.below hB);have HLN:=hid (And.intro hl.al.len (And.intro hl.wi.len hl.de.len))
 show Calls _ _ #[.agg #[vI g.cx,vI g.cy,vI g.ce,vI g.nx,vI g.ny,.slice g.sal.A g.sal.n g.sal.c,.slice g.swi.A g.swi.n g.swi.c,.slice g.sde.A g.sde.n g.sde.c,vI g.er]] _ _
 by_cases hs:(1<=g.nx∧g.nx<=16)∧(1<=g.ny∧g.ny<=16)∧1<=g.sal.n∧g.sal.n<=8
 rotate_left
 ·have HE:=hid (Qt (Iq hs))
  clear hl hok
  go_enter Tryz.func74,Tryz.ntmps74
  go_wp2_with fail
  all_goals first | (exfalso;omega) | (go_ret;exact ⟨Af HE.out.symm,Aa _ _⟩)
 have gs:=SB hs;obtain ⟨⟨a1,a2⟩,⟨a3,a4⟩,a5,a6⟩:=hs;obtain ⟨⟨p0,p1⟩,p2,p3⟩:=NK (x:=g.nx) (y:=g.ny) (n:=(g.sal.n:Int)) (by omega) (by omega) (by omega);have z1:=iW (g.nx * g.ny);have z2:=iW (g.nx * g.ny * (g.sal.n:Int));have E1:=hid (fun h=>Ace gs (show gdN g=false by cases h2:gdN g;rfl;exact absurd h2 h));have E2:=hid (fun hn h=>AdY gs (show gdN g=true from hn) (Acd h));have EN:=hid (show gdN g=true ↔ (g.swi.n:Int)=g.nx * g.ny * g.sal.n∧(g.sde.n:Int)=g.nx * g.ny * g.sal.n by unfold gdN;simp);have HGS:=hid gs;clear hl hok gs
 go_enter Tryz.func74,Tryz.ntmps74
 go_wp2_with (refine (Tn _ _ _).mono ?_;rintro e' w1 ⟨rfl,hB⟩;generalize hp:(inB g.cx (-2000000) 2000000 && inB g.cy (-2000000) 2000000)=pb;have k0:=(HK.out _ hB).cell 1 _ rfl;have k2:=(HK.out _ hB).cell 2 _ rfl;have k5:=(HK.out _ hB).cell 5 _ rfl;have k8:=(HK.out _ hB).cell 8 _ rfl;replace hB:=hid hB)
 all_goals try (go_ret;first | exact ⟨Af (E1.out (by rw [EN.out];simp_all)).symm,Aa _ _⟩ | exact ⟨Af (E2.out (by rw [EN.out];simp_all) (fun h=>by have:=h.1;simp_all;try omega)).symm,Ap hB.out⟩)
 rename_i hN1 hN2 hP _ _ _ hT _ _
 have HN:=hid (EN.out.2 ⟨hN1,by simpa using hN2⟩);have HP:=hid (show ((inB g.cx (-2000000) 2000000 && inB g.cy (-2000000) 2000000)=true∧(1<=g.ce∧g.ce<=2000000)∧0<=g.er∧g.er<=60) from ⟨hp.trans hP,by omega,by omega⟩)
 have hnn:g.swi.n=g.sde.n∧1<=g.swi.n:=by have:=EN.out.1 HN.out;omega
 have HNN:=hid hnn;have HH:=hid (HK.out _ hB.out);replace HK:=hid (Ap hB.out);clear hN1 hN2 hP hT hp hnn E1 EN k0 k2 k5 k8 hB z1 z2 p0 p1 p2 p3
 go_loopw [87] (fun t wr=>Aaj g w (fun k=>k<=g.sal.n∧∀ x ∈ g.al.take k,-200000<=x∧x<=6000000) t wr) (fun t _=>g.sal.n - (intOf t).toNat)
 case atStart=>exact ⟨0,rfl,⟨by omega,by simp⟩,HH.out,HK.out⟩
 case round =>
 obtain ⟨k,rfl,⟨hk,ha⟩,hx,hb⟩:=hrel;replace HH:=hid hx;replace HK:=hid hb;have HA:=hid ha;clear hx hb ha
 by_cases hlt:k<g.sal.n
 ·obtain ⟨x,hx⟩:=Am HLN.out.1 hlt
  obtain ⟨b,off,hA,-,hc⟩:=(HL.out _ HK.out).al.cells (by omega);have y0:=hc k x hx;have HX:=hid hx
  rw [hA]
  clear hx hA hc
  go_wp2_with fail
  all_goals first | (go_ret;exact ⟨Af (E2.out HN.out (fun h=>by have:=h.2.1 x (Au HX.out);omega)).symm,HK.out⟩) | skip
  go_roundw
  case rel=>exact ⟨k+1,by go_num,⟨by omega,Et HA.out HX.out (by omega)⟩,HH.out,HK.out⟩
  case measure=>exact zMs
 have HAL:=hid (show ∀ x ∈ g.al,-200000<=x∧x<=6000000 from by have h:=HA.out;rwa [CY (by have:=HLN.out.1;omega)] at h);have k6:=HH.out.cell 6 _ rfl
 go_wp2_with fail
 clear k6 HA;obtain ⟨wo,rfl⟩:∃ wo:World,wo=wr:=⟨_,rfl⟩
 go_loopw [101] (fun t wr=>Aaj g w (fun k=>k<=g.swi.n∧(∀ p ∈ g.wi.take k,wdB p=true)∧∀ x ∈ g.de.take k,-4000<=x∧x<=4000) t wr) (fun t _=>g.swi.n - (intOf t).toNat)
 case atStart=>exact ⟨0,rfl,⟨by omega,by simp,by simp⟩,HH.out,HK.out⟩
 case round =>
 clear hk hlt;obtain ⟨k,rfl,⟨hk,ha,hd⟩,hx,hb⟩:=hrel;replace HH:=hid hx;replace HK:=hid hb;have HA:=hid ha;have HD:=hid hd;clear hx hb ha hd
 by_cases hlt:k<g.swi.n
 ·obtain ⟨p,hp⟩:=Am HLN.out.2.1 hlt
  obtain ⟨d,hd⟩:=Am HLN.out.2.2 (show k<g.sde.n by have:=HNN.out;omega);obtain ⟨b,off,hA,-,hc⟩:=(HL.out _ HK.out).wi.cells (by omega);obtain ⟨b2,o2,hA2,hb2,hc2⟩:=(HL.out _ HK.out).de.cells (by have:=HNN.out;omega);have y0:wr.cell? ⟨b,off+k * 2,none⟩=some (vI p.1):=hc k p hp 0 _ rfl;have y1:wr.cell? ⟨b,off+k * 2+1,none⟩=some (vI p.2):=hc k p hp 1 _ rfl
  have z0:∀ o,(wr.alloc o).cell? ⟨b2,o2+k,none⟩=some (vI d):=fun o=>by rw [World.cell?_alloc_lt _ _ _ hb2];exact hc2 k d hd
  have k7:∀ o,(wr.alloc o).cell? ⟨w.heap.size,7,none⟩=some (.slice g.sde.A g.sde.n g.sde.c):=fun o=>(HH.out.alloc o).cell 7 _ rfl
  rw [hA2] at k7
  have i0:(0:Int)<=(k:Int):=by omega
  have i1:(k:Int)<(g.sde.n:Int):=by have:=HNN.out;omega
  have HX:=hid hp;have HY:=hid hd
  rw [hA]
  clear hp hd hA hA2 hc hc2
  go_wp2_with fail
  all_goals first | (go_ret;exact ⟨Af (E2.out HN.out (fun h=>by have h1:=h.2.2.1 p (Au HX.out);have h2:=h.2.2.2 d (Au HY.out);unfold wdB inB at h1;simp at h1;omega)).symm,Bh HK.out _⟩) | skip
  go_roundw
  case rel=>exact ⟨k+1,by go_num,⟨by omega,Et HA.out HX.out (by unfold wdB inB;simp;omega),Et HD.out HY.out (by omega)⟩,HH.out.alloc _,Bh HK.out _⟩
  case measure=>exact zMs
 have HV:=hid (show gdV g=true from by
  have h:=HA.out;have h2:=HD.out
  rw [CY (by have:=HLN.out;omega)] at h
  rw [CY (by have:=HLN.out;have:=HNN.out;omega)] at h2
  have h3:=HP.out
  unfold gdV BK
  simp only [Bool.and_eq_true,List.all_eq_true,Al] at h3 ⊢
  exact ⟨⟨⟨⟨h3.1,h3.2.1⟩,h3.2.2⟩,HAL.out⟩,h,h2⟩)
 have HE:=hid (AdZ HGS.out HN.out HV.out);clear HA HD
 go_wp2_with fail
 go_loopw [8] (fun t wr=>Aai g w t wr) (fun t _=>g.sal.n - (intOf t).toNat)
 case atStart=>exact ⟨0,by omega,rfl,fun i hi=>by omega,HH.out,HK.out⟩
 case round =>
 obtain ⟨k,hk,rfl,ha,hx,hb⟩:=hrel;replace HH:=hid hx;replace HK:=hid hb;have HA:=hid ha;clear hx hb ha;have k5:∀ m,(wr.drewN m).cell? ⟨w.heap.size,5,none⟩=some (.slice g.sal.A g.sal.n g.sal.c):=fun m=>(BC wr m _).trans (HH.out.cell 5 _ rfl);have k5':wr.cell? ⟨w.heap.size,5,none⟩=some (.slice g.sal.A g.sal.n g.sal.c):=HH.out.cell 5 _ rfl
 by_cases hlt:k+1<g.sal.n
 ·obtain ⟨x,hx⟩:=Am HLN.out.1 (show k<g.sal.n by omega)
  obtain ⟨y,hy⟩:=Am HLN.out.1 hlt;obtain ⟨b,off,hA,-,hc⟩:=(HL.out _ HK.out).al.cells (by omega);have y0:∀ m,(wr.drewN m).cell? ⟨b,off+k,none⟩=some (vI x):=fun m=>(BC wr m _).trans (hc k x hx);have y1:∀ m,(wr.drewN m).cell? ⟨b,off+(k+1),none⟩=some (vI y):=fun m=>(BC wr m _).trans (hc (k+1) y hy)
  rw [hA] at k5 k5'
  have HG:=hid (And.intro (Ah (d:=0) hx) (Ah (d:=0) hy))
  have s1:IntKind.i64.wrap ((k:Int)+1 - 1)=(k:Int):=by rw [(iW _)];omega
  have s2:=iW ((k:Int)+1)
  have s3:((k:Int)+1).toNat=k+1:=by omega
  have s4:(0:Int)<=(k:Int)+1:=by omega
  have s5:(k:Int)+1<(g.sal.n:Int):=by omega
  have s6:(0:Int)<=(k:Int):=by omega
  have s7:(k:Int)<(g.sal.n:Int):=by omega
  clear hx hy hc hA
  go_wp2_with fail
  go_quiet (fail)
  by_cases h9:y<=x
  ·go_wp2_with fail
   go_ret
   exact ⟨Af (HE.out.trans (if_neg (fun ha=>by
    have:=of_decide_eq_true (p:=Pe.Asc g.al) ha k (by have:=HLN.out;omega)
    rw [HG.out.1,HG.out.2] at this
    omega))).symm,Ag HK.out _⟩
  ·go_wp2_with fail
   go_roundw
   case rel=>exact ⟨k+1,by omega,by go_num,fun i hi=>by
    by_cases e:i=k
    ·subst e;rw [HG.out.1,HG.out.2];omega
    ·exact HA.out i (by omega),HH.out.below (Ag (AJ _ _) _),Ag HK.out _⟩
   case measure=>exact zMs
 ·clear k5
  go_wp2_with fail
  go_ret
  exact ⟨Af (HE.out.trans (if_pos (Ct (p:=Pe.Asc g.al) (fun i hi=>HA.out i (by have:=HLN.out;omega))))).symm,HK.out⟩
theorem WK (n:Nod) (k:Nat):noE n k=if ¬ ((-2000000<=n.px∧n.px<=2000000)∧(-2000000<=n.py∧n.py<=2000000)∧0<=n.di∧n.di<=8000000) then 2 else if k=0∧n.di≠0 then 1 else if ¬ (-200000<=n.a0∧n.a1<=6000000∧n.a0<=n.a1) then 2 else if ¬ (0<=n.s0∧n.s0<=n.s1∧n.s1<=1000) then 2 else 0:=by
  unfold noE inB
  simp only [Bool.and_eq_false_iff,decide_eq_false_iff_not]
  (repeat' split) <;> omega
theorem ZK {s:Stp} {k:Nat} {n:Nod} {E:Int} (h1:inB s.sno.n 2 64=true) (h:∀ j m,j<k→s.no[j]? = some m→noE m j=0) (hk:s.no[k]? = some n) (he:noE n k=E) (h0:E≠0):suE s=E:=by
  subst he;have hne:=QC (l:=s.no) (i:=0) (k:=k) (fun j m hj hm=>by rw [Nat.zero_add];exact h j m hj hm) hk (by rw [Nat.zero_add];exact h0)
  rw [Nat.zero_add] at hne
  exact (AeA h1 (by rw [hne];exact h0)).trans hne
theorem ZJ (s:Stp):suT s=true ↔ ((-200000<=s.lv∧s.lv<=6000000)∧(-200000<=s.la∧s.la<=6000000))∧((1<=s.cas∧s.cas<=1000)∧(1<=s.mch∧s.mch<=2000)∧1<=s.ls∧s.ls<=1000)∧(0<=s.acc∧s.acc<=1000)∧0<=s.dec∧s.dec<=1000:=by
  unfold suT
  simp only [Bool.and_eq_true,Al]
  omega
theorem I5 (s:Stp) (w:World) (hl:s.lies w) (hok:s.ok):Calls Tryz.prog 21 #[.agg s.cells.toArray] w fun e w'=>e=.returned (vI (suE s))∧Below w.heap.size w w':=by
  have HS:Hid (Has (w.alloc (.cells s.cells.toArray 35)) w.heap.size s.cells):=hid (Has.new w _ _);have k0:=PQ HS.out;have k1:=Ro s;have hn:=hok.no
  unfold maxLen at hn
  by_cases h1:2<=(s.sno.n:Int)∧(s.sno.n:Int)<=64
  rotate_left
  · have HF:=hid (AcW (s:=s) (by rw [Dz];omega))
    clear hl hok
    go_enter Tryz.func21,Tryz.ntmps21
    go_wp2_with fail
    all_goals first | (exfalso;omega) | (go_ret;exact ⟨Af HF.out.symm,Aa _ _⟩)
  have G1:=hid (show inB s.sno.n 2 64=true by rw [Al];omega);have HB:=hid (Aa w (.cells s.cells.toArray 35));have HL:=hid (fun W (hB:Below w.heap.size w W)=>hl.below hB);have HOK:=hid hok;have HLN:=hid hl.no.len;obtain ⟨h1,h2⟩:=h1;clear hl hok
  go_enter Tryz.func21,Tryz.ntmps21
  go_wp2_with fail
  clear k0 k1;generalize w.alloc (.cells s.cells.toArray 35)=w1 at *
  go_loopw [21] (fun t wr=>Aal s w t wr) (fun t _=>s.sno.n - (intOf t).toNat)
  case atStart=>exact ⟨0,by omega,rfl,fun j m hj=>by omega,HS.out,HB.out⟩
  case round =>
  obtain ⟨k,hk,rfl,ha,hs,hb⟩:=hrel;replace HS:=hid hs;replace HB:=hid hb;have HA:=hid ha;clear hs hb ha
  by_cases hlt:k<s.sno.n
  · obtain ⟨n,hx⟩:=Am HLN.out hlt
    obtain ⟨b,off,hA,-,hc⟩:=(HL.out _ HB.out).no.cells (by omega);have HC:=hid (hc k n hx);have HQ:=hid hx
    rw [hA]
    clear hx hc hA;have c0:wr.cell? ⟨b,off+k * 7,none⟩=some (vI n.px):=HC.out 0 _ rfl;have c1:wr.cell? ⟨b,off+k * 7+1,none⟩=some (vI n.py):=HC.out 1 _ rfl;have c2:wr.cell? ⟨b,off+k * 7+2,none⟩=some (vI n.di):=HC.out 2 _ rfl;have c3:wr.cell? ⟨b,off+k * 7+3,none⟩=some (vI n.a0):=HC.out 3 _ rfl;have c4:wr.cell? ⟨b,off+k * 7+4,none⟩=some (vI n.a1):=HC.out 4 _ rfl;have c5:wr.cell? ⟨b,off+k * 7+5,none⟩=some (vI n.s0):=HC.out 5 _ rfl;have c6:wr.cell? ⟨b,off+k * 7+6,none⟩=some (vI n.s1):=HC.out 6 _ rfl
    go_wp2_with fail
    all_goals first
      | (go_ret;(try simp only [bne_iff_ne,bne_eq_false_iff_eq,ne_eq] at *);exact ⟨Af (ZK G1.out HA.out HQ.out (by rw [WK];(repeat' split) <;> omega) (by decide)).symm,Bh HB.out _⟩)
      | (have HE:=hid (show noE n k=0 from by (try simp only [bne_iff_ne,bne_eq_false_iff_eq,ne_eq] at *);rw [WK];(repeat' split) <;> omega)
         go_roundw
         case rel=>exact ⟨k+1,by omega,by first | go_num | simp [*],fun j m hj hm=>by
           by_cases e:j=k
           · subst e;rw [HQ.out] at hm;injection hm with hm;subst hm;exact HE.out
           · exact HA.out j m (by omega) hm,HS.out.alloc _,Bh HB.out _⟩
         case measure=>exact zMs)
  have hz:G8 s.no 0=0:=NH (fun j m hm=>by
    rw [Nat.zero_add]
    exact HA.out j m (by have:=(List.getElem?_eq_some_iff.1 hm).1;have:=HLN.out;omega) hm)
  have HR:=hid (AeB G1.out hz);have HP:=hid (fun W hB=>Pt s.pf W (HL.out W hB).pf HOK.out.pf);have HG:=hid (fun W hB=>K8 s.gr W (HL.out W hB).gr HOK.out.gr);have HC:=hid (fun W=>K7 s.ac W);have HT:=hid (ZJ s);clear hz HA HOK HL HLN;generalize pfE s.pf=E1 at *;generalize gdE s.gr=E2 at *;generalize s.ac.E=E3 at *
  go_wp2_with (refine Dx (.tmp 107) rfl rfl rfl HS.out ?_)
  refine (HP.out _ HB.out).mono ?_;rintro e w2 ⟨rfl,hB⟩
  replace HS:=hid (HS.out.below hB);replace HB:=hid (Ae HB.out hB);clear hB HP
  go_wp2_with (refine Qe (.tmp 113) rfl rfl rfl HS.out ?_)
  all_goals try (go_ret;exact ⟨Af (HR.out.trans (if_pos (bne_iff_ne.1 ‹_›))).symm,HB.out⟩)
  refine (HG.out _ HB.out).mono ?_;rintro e w3 ⟨rfl,hB⟩
  replace HS:=hid (HS.out.below hB);replace HB:=hid (Ae HB.out hB);replace HR:=hid (HR.out.trans (if_neg (by simpa using ‹(E1 != 0)=false›)));clear hB HG
  go_wp2_with (refine FZ (.tmp 119) rfl rfl rfl HS.out ?_)
  all_goals try (go_ret;exact ⟨Af (HR.out.trans (if_pos (bne_iff_ne.1 ‹(E2 != 0)=true›))).symm,HB.out⟩)
  refine (HC.out _).mono ?_;rintro e w4 ⟨rfl,hB⟩
  replace HS:=hid (HS.out.below hB);replace HB:=hid (Ae HB.out hB);replace HR:=hid (HR.out.trans (if_neg (by simpa using ‹(E2 != 0)=false›)));clear hB HC;have q0:=FP HS.out;have q1:=IA HS.out;have q2:=JE HS.out;have q3:=Oh HS.out;have q4:=Oi HS.out;have q5:=TC HS.out;have q6:=TD HS.out
  go_wp2_with fail
  all_goals
    go_ret
    first
      | exact ⟨Af (HR.out.trans (if_pos (bne_iff_ne.1 ‹(E3 != 0)=true›))).symm,HB.out⟩
      | exact ⟨Af (HR.out.trans ((if_neg (by simpa using ‹(E3 != 0)=false›)).trans (if_neg (fun h=>by have:=HT.out.1 h;omega)))).symm,HB.out⟩
      | exact ⟨Af (HR.out.trans ((if_neg (by simpa using ‹(E3 != 0)=false›)).trans (if_pos (HT.out.2 (by omega))))).symm,HB.out⟩
