/- M11: CsBt, CsExc, CsExcR, CsAll, CsRow, CsTPlain, Own, PassT in one text. -/
import Derived.Test.YtedcanagfajcgaaGreatM10
import Derived.Deep.RegionHeld3
import Derived.Laws.AppendOwnNone
import Derived.StillTailTactics
set_option linter.unusedSimpArgs false
set_option linter.unusedVariables false
set_option maxRecDepth 100000
set_option maxHeartbeats 4000000
namespace Go.Proofs
theorem Abh{G:Prop}(h:G:=by
  go_enter Tryz.func220,Tryz.ntmps220
  go_wp2_with fail
  go_region
  all_goals (go_wp2_with fail)
  all_goals go_ret
  all_goals (exact ⟨Af hv.out.symm,(by (first | exact (((AJ _ _).alloc (Bn _) _).alloc (by simp) _) | exact (((AJ _ _).alloc (Bn _) _).alloc (by simp) _).drew | exact Ag (((AJ _ _).alloc (Bn _) _).alloc (by simp) _) _))⟩)):G:=h
theorem Ym{G:Prop}(h:G:=by
  rw [show off+i * 2+k * 2+1=off+(i+k) * 2+1 from by omega]
  exact (HB.out.cell (p:=⟨b,off+(i+k) * 2+1,none⟩) hb).trans (HC.out (i+k) p hp 1 _ rfl)):G:=h
theorem Yn{G:Prop}(h:G:=by
  rw [show off+i * 2+k * 2=off+(i+k) * 2+0 from by omega]
  exact (HB.out.cell (p:=⟨b,off+(i+k) * 2+0,none⟩) hb).trans (HC.out (i+k) p hp 0 _ rfl)):G:=h
theorem Abi{G:Prop}(h:G:=by
  go_enter Tryz.func163,Tryz.ntmps163
  go_wp2_with fail
  go_quiet (fail)
  go_wp2_with fail
  go_ret
  exact ⟨Af hv.out.symm,Ag (AJ _ _) _⟩):G:=h
end Go.Proofs
namespace Go.Proofs.YtedcanagfajcgaaGreat
open Go.RowKit
open Go.Lib (hid)
def Adk (st:Cs.Wins) (i j:Nat) (w:World) (s6 s7 t:Value) (wr:World):Prop:=∃ k:Nat,k<=j - i∧t=vI k∧s6=vI (Cs.rise st i (i+k))∧s7=vI (Cs.fall st i (i+k))∧Below w.heap.size w wr
def AbM (st:Cs.Wins) (i j:Nat) (w:World) (s7 t:Value) (wr:World):Prop:=∃ k:Nat,k<=j - i∧t=vI k∧s7=vI (Cs.rise st i (i+k))∧Below w.heap.size w wr
def AbL (st:Cs.Wins) (i j:Nat) (w:World) (s7 t:Value) (wr:World):Prop:=∃ k:Nat,k<=j - i∧t=vI k∧s7=vI (Cs.fall st i (i+k))∧Below w.heap.size w wr
theorem KE {ws st:Cs.Wins} (hok:Cs.CsOk ws st) (i j:Nat) (hij:i<=j) (hj:j<=64):(0<=Cs.rise st i j∧Cs.rise st i j<=70368744177664)∧0<=Cs.fall st i j∧Cs.fall st i j<=70368744177664:=by
 have h1:=hok.rise_nn hij;have h2:=hok.fall_nn hij;have h3:=(Cs.psum_bd (fun i=>(hok.step i).1) j).2;have h4:=(Cs.psum_bd (fun i=>(hok.step i).1) i).1;have h5:=(Cs.psum_bd (fun i=>(hok.step i).2) j).2;have h6:=(Cs.psum_bd (fun i=>(hok.step i).2) i).1
 unfold Cs.rise Cs.fall at *
 omega
theorem Ya (S:Option Addr) (m cm i j:Nat) (ws st:Cs.Wins) (w:World) (hs:Pairs w S m st) (hmc:m<=cm) (hcm:cm<=maxLen) (hm:m<=64) (hok:Cs.CsOk ws st) (hij:i<j) (hj:j<=m) :
  Calls Tryz.prog 234 #[.slice S m cm,vI i,vI j] w fun e w'=>e=.returned (.tuple #[vI (Cs.rise st i j),vI (Cs.fall st i j)])∧Below w.heap.size w w':=by
 unfold maxLen at hcm
 have HL:=hid hs.len;have HS:=hid hs;obtain ⟨b,off,rfl,hb,hc⟩:=hs.cells (by omega);have HC:=hid hc;have HOK:=hid hok
 have hci:¬ cm=i:=by omega
 clear hs hc hok
 go_enter Tryz.func234,Tryz.ntmps234
 go_wp2_with fail
 go_loopw [6,7,15] (fun s6 s7 t wr=>Adk st i j w s6 s7 t wr) (fun _ _ t _=>(j - i) - (intOf t).toNat)
 case atStart=>exact ⟨0,by omega,rfl,by rw [Nat.add_zero,Cs.rise_self],by rw [Nat.add_zero,Cs.fall_self],AJ _ _⟩
 case round =>
  obtain ⟨k,hk,rfl,rfl,rfl,hB⟩:=hrel;have HB:=hid hB;clear hB
  by_cases hlt:k<j - i
  ·obtain ⟨p,hp⟩:=Am (k:=i+k) HL.out (by omega)
   have c0:wr.cell? ⟨b,off+i * 2+k * 2,none⟩=some (vI p.1):=by
    exact Yn
   have c1:wr.cell? ⟨b,off+i * 2+k * 2+1,none⟩=some (vI p.2):=by
    exact Ym
   have NS:=hid (show Cs.rise st i (i+(k+1))=Cs.rise st i (i+k)+p.1∧Cs.fall st i (i+(k+1))=Cs.fall st i (i+k)+p.2 by
    rw [← Nat.add_assoc,Cs.rise_succ,Cs.fall_succ,(Cs.up_of hp).1,(Cs.up_of hp).2];exact ⟨rfl,rfl⟩)
   have hpo:=HOK.out.tok p (Au hp);obtain ⟨⟨p0,p1⟩,p2,p3⟩:=hpo;obtain ⟨⟨r0,r1⟩,d0,d1⟩:=KE HOK.out i (i+k) (by omega) (by omega);clear hp;generalize Cs.rise st i (i+k)=R at *;generalize Cs.fall st i (i+k)=D at *
   go_wp2_with fail
   go_roundw
   case rel=>exact ⟨k+1,by omega,by go_num,by rw [NS.out.1],by rw [NS.out.2],HB.out.alloc HB.out.size _⟩
   case measure=>exact zMs
  ·have hj:=hid (show i+k=j by omega)
   go_wp2_with fail
   go_ret2
   exact ⟨Ay (by rw [hj.out]) (by rw [hj.out]),HB.out⟩
theorem AaY (S:Option Addr) (m cm i j:Nat) (ws st:Cs.Wins) (w:World) (hs:Pairs w S m st) (hmc:m<=cm) (hcm:cm<=maxLen) (hm:m<=64) (hok:Cs.CsOk ws st) (hij:i<j) (hj:j<=m) :
  Calls Tryz.prog 164 #[.slice S m cm,vI i,vI j] w fun e w'=>e=.returned (vI (Cs.rise st i j))∧Below w.heap.size w w':=by
 unfold maxLen at hcm
 have HL:=hid hs.len;have HS:=hid hs;obtain ⟨b,off,rfl,hb,hc⟩:=hs.cells (by omega);have HC:=hid hc;have HOK:=hid hok
 have hci:¬ cm=i:=by omega
 clear hs hc hok
 go_enter Tryz.func164,Tryz.ntmps164
 go_wp2_with fail
 go_loopw [7,15] (fun s7 t wr=>AbM st i j w s7 t wr) (fun _ t _=>(j - i) - (intOf t).toNat)
 case atStart=>exact ⟨0,by omega,rfl,by rw [Nat.add_zero,Cs.rise_self],AJ _ _⟩
 case round =>
  obtain ⟨k,hk,rfl,rfl,hB⟩:=hrel;have HB:=hid hB;clear hB
  by_cases hlt:k<j - i
  ·obtain ⟨p,hp⟩:=Am (k:=i+k) HL.out (by omega)
   have c0:wr.cell? ⟨b,off+i * 2+k * 2,none⟩=some (vI p.1):=by
    exact Yn
   have c1:wr.cell? ⟨b,off+i * 2+k * 2+1,none⟩=some (vI p.2):=by
    exact Ym
   have NS:=hid (show Cs.rise st i (i+(k+1))=Cs.rise st i (i+k)+p.1∧Cs.fall st i (i+(k+1))=Cs.fall st i (i+k)+p.2 by
    rw [← Nat.add_assoc,Cs.rise_succ,Cs.fall_succ,(Cs.up_of hp).1,(Cs.up_of hp).2];exact ⟨rfl,rfl⟩)
   have hpo:=HOK.out.tok p (Au hp);obtain ⟨⟨p0,p1⟩,p2,p3⟩:=hpo;obtain ⟨⟨r0,r1⟩,_⟩:=KE HOK.out i (i+k) (by omega) (by omega);clear hp;generalize Cs.rise st i (i+k)=R at *
   go_wp2_with fail
   go_roundw
   case rel=>exact ⟨k+1,by omega,by go_num,by rw [NS.out.1],HB.out.alloc HB.out.size _⟩
   case measure=>exact zMs
  ·have hj:=hid (show i+k=j by omega)
   go_wp2_with fail
   go_ret
   exact ⟨Af (by rw [hj.out]),HB.out⟩
theorem AaX (S:Option Addr) (m cm i j:Nat) (ws st:Cs.Wins) (w:World) (hs:Pairs w S m st) (hmc:m<=cm) (hcm:cm<=maxLen) (hm:m<=64) (hok:Cs.CsOk ws st) (hij:i<j) (hj:j<=m) :
  Calls Tryz.prog 165 #[.slice S m cm,vI i,vI j] w fun e w'=>e=.returned (vI (Cs.fall st i j))∧Below w.heap.size w w':=by
 unfold maxLen at hcm
 have HL:=hid hs.len;have HS:=hid hs;obtain ⟨b,off,rfl,hb,hc⟩:=hs.cells (by omega);have HC:=hid hc;have HOK:=hid hok
 have hci:¬ cm=i:=by omega
 clear hs hc hok
 go_enter Tryz.func165,Tryz.ntmps165
 go_wp2_with fail
 go_loopw [7,15] (fun s7 t wr=>AbL st i j w s7 t wr) (fun _ t _=>(j - i) - (intOf t).toNat)
 case atStart=>exact ⟨0,by omega,rfl,by rw [Nat.add_zero,Cs.fall_self],AJ _ _⟩
 case round =>
  obtain ⟨k,hk,rfl,rfl,hB⟩:=hrel;have HB:=hid hB;clear hB
  by_cases hlt:k<j - i
  ·obtain ⟨p,hp⟩:=Am (k:=i+k) HL.out (by omega)
   have c0:wr.cell? ⟨b,off+i * 2+k * 2,none⟩=some (vI p.1):=by
    exact Yn
   have c1:wr.cell? ⟨b,off+i * 2+k * 2+1,none⟩=some (vI p.2):=by
    exact Ym
   have NS:=hid (show Cs.rise st i (i+(k+1))=Cs.rise st i (i+k)+p.1∧Cs.fall st i (i+(k+1))=Cs.fall st i (i+k)+p.2 by
    rw [← Nat.add_assoc,Cs.rise_succ,Cs.fall_succ,(Cs.up_of hp).1,(Cs.up_of hp).2];exact ⟨rfl,rfl⟩)
   have hpo:=HOK.out.tok p (Au hp);obtain ⟨⟨p0,p1⟩,p2,p3⟩:=hpo;obtain ⟨_,d0,d1⟩:=KE HOK.out i (i+k) (by omega) (by omega);clear hp;generalize Cs.fall st i (i+k)=D at *
   go_wp2_with fail
   go_roundw
   case rel=>exact ⟨k+1,by omega,by go_num,by rw [NS.out.2],HB.out.alloc HB.out.size _⟩
   case measure=>exact zMs
  ·have hj:=hid (show i+k=j by omega)
   go_wp2_with fail
   go_ret
   exact ⟨Af (by rw [hj.out]),HB.out⟩
def Af9 (V:Int) (w:World) (e:Ending) (w':World):Prop:=e=.returned (vI V)∧Below w.heap.size w w'
theorem VG {ws st:Cs.Wins} {i:Nat}:Cs.exc ws st i i=Cs.lo ws i - Cs.hi ws i:=by unfold Cs.exc;rw [if_pos rfl]
theorem J6 {ws st:Cs.Wins} {i j:Nat} (h:i<j) (hb:Cs.hi ws i<Cs.lo ws i∨Cs.hi ws j<Cs.lo ws j):Cs.exc ws st i j=0:=by unfold Cs.exc;rw [if_neg (by omega),if_pos hb]
theorem VI {ws st:Cs.Wins} {i j:Nat} (h:i<j) (hb:¬ (Cs.hi ws i<Cs.lo ws i∨Cs.hi ws j<Cs.lo ws j)):Cs.exc ws st i j=max (Cs.lo ws j - (Cs.hi ws i+Cs.rise st i j)) (Cs.lo ws i - Cs.fall st i j - Cs.hi ws j):=by unfold Cs.exc;rw [if_neg (by omega),if_neg hb]
theorem Aac (A S:Option Addr) (n cn m cm i j:Nat) (ws st:Cs.Wins) (w:World) (hw:Pairs w A n ws) (hs:Pairs w S m st) (hmc:m<=cm) (hcm:cm<=maxLen) (hok:Cs.CsOk ws st) (hij:i<=j) (hj:j<n) :
  Calls Tryz.prog 220 #[.slice A n cn,.slice S m cm,vI i,vI j] w (Af9 (Cs.exc ws st i j) w):=by
 have lw:=hw.len;have ls:=hs.len;have l1:=hok.len;have l2:=hok.slen
 have hn64:n<=64:=by omega
 have hm64:m<=64:=by omega
 have hjm:j<=m:=by omega
 obtain ⟨p,hp⟩:=Am (k:=i) lw (by omega);obtain ⟨q,hq⟩:=Am (k:=j) lw hj;obtain ⟨b,off,rfl,hb,c0,c1⟩:=hw.cell hp;obtain ⟨b',off',he,hb',d0,d1⟩:=hw.cell hq
 injection he with he
 injection he with e1 e2
 subst e1 e2;have hpo:=hok.wok p (Au hp);have hqo:=hok.wok q (Au hq);obtain ⟨⟨pa,pb⟩,pc,pd⟩:=hpo;obtain ⟨⟨qa,qb⟩,qc,qd⟩:=hqo;have P1:=hid (Cs.lo_of hp);have Q1:=hid (Cs.lo_of hq);have HS:=hid hs;have HOK:=hid hok;have n0:=World.new_ne w _ c0;have n1:=World.new_ne w _ c1;have n2:=World.new_ne w _ d0;have n3:=World.new_ne w _ d1
 have hin:i<n:=by omega
 have bi0:(0:Int)<=(i:Int):=by omega
 have bi1:(i:Int)<(n:Int):=by omega
 have bj0:(0:Int)<=(j:Int):=by omega
 have bj1:(j:Int)<(n:Int):=by omega
 clear hw hs hok lw ls l1 l2
 by_cases hije:i=j
 ·subst hije
  obtain rfl:p=q:=by rw [hp] at hq;exact Option.some.inj hq
  have hv:=hid (VG (ws:=ws) (st:=st) (i:=i));clear hp hq
  go_enter Tryz.func220,Tryz.ntmps220
  go_wp2_with fail
  go_region
  all_goals (go_wp2_with fail)
  all_goals go_ret
  all_goals (exact ⟨Af (by rw [hv.out,P1.out.1,P1.out.2]),(by (first | exact (((AJ _ _).alloc (Bn _) _).alloc (by simp) _) | exact (((AJ _ _).alloc (Bn _) _).alloc (by simp) _).drew | exact Ag (((AJ _ _).alloc (Bn _) _).alloc (by simp) _) _))⟩)
 ·have hlt:i<j:=by omega
  have hne:((i:Int) == (j:Int))=false:=BA.2 (by omega);clear hp hq hije
  by_cases hb1:p.2<p.1
  ·have hv:=hid (J6 (ws:=ws) (st:=st) hlt (.inl (by rw [P1.out.1,P1.out.2];exact hb1)))
   exact Abh
  ·by_cases hb2:q.2<q.1
   ·have hv:=hid (J6 (ws:=ws) (st:=st) hlt (.inr (by rw [Q1.out.1,Q1.out.2];exact hb2)))
    exact Abh
   ·have hv:=hid (VI (ws:=ws) (st:=st) hlt (by rw [P1.out.1,P1.out.2,Q1.out.1,Q1.out.2];omega))
    obtain ⟨⟨r0,r1⟩,f0,f1⟩:=KE HOK.out i j (by omega) (by omega);have HBT:=hid (fun W (h:Pairs W S m st)=>Ya S m cm i j ws st W h hmc hcm hm64 HOK.out hlt hjm);generalize Cs.rise st i j=RR at *;generalize Cs.fall st i j=FF at *
    go_enter Tryz.func220,Tryz.ntmps220
    go_wp2_with fail
    go_region
    all_goals (go_wp2_with fail)
    all_goals (refine (HBT.out _ (HS.out.below (by (first | exact (((AJ _ _).alloc (Bn _) _).alloc (by simp) _) | exact (((AJ _ _).alloc (Bn _) _).alloc (by simp) _).drew | exact Ag (((AJ _ _).alloc (Bn _) _).alloc (by simp) _) _)))).mono ?_;rintro e w2 ⟨rfl,hB⟩)
    all_goals (have k0:=hB.cell (p:=⟨w.heap.size,0,none⟩) (by simp;try omega);have k1:=hB.cell (p:=⟨w.heap.size,1,none⟩) (by simp;try omega);have k2:=hB.cell (p:=⟨w.heap.size+1,0,none⟩) (by simp;try omega);have k3:=hB.cell (p:=⟨w.heap.size+1,1,none⟩) (by simp;try omega))
    all_goals (have HBB:=hid hB;clear hB)
    all_goals (go_wp2_with fail)
    all_goals go_ret
    all_goals (exact ⟨Af (by rw [hv.out,P1.out.1,P1.out.2,Q1.out.1,Q1.out.2]),((by (first | exact (((AJ _ _).alloc (Bn _) _).alloc (by simp) _) | exact (((AJ _ _).alloc (Bn _) _).alloc (by simp) _).drew | exact Ag (((AJ _ _).alloc (Bn _) _).alloc (by simp) _) _):Below w.heap.size w _)).trans (HBB.out.mono (by simp;try omega))⟩)
theorem Zt (A S:Option Addr) (n cn m cm i j:Nat) (ws st:Cs.Wins) (w:World) (hw:Pairs w A n ws) (hs:Pairs w S m st) (hmc:m<=cm) (hcm:cm<=maxLen) (hok:Cs.CsOk ws st) (hij:i<=j) (hj:j<n) :
  Calls Tryz.prog 163 #[.slice A n cn,.slice S m cm,vI i,vI j] w (Af9 (Cs.exc ws st i j) w):=by
 have lw:=hw.len;have ls:=hs.len;have l1:=hok.len;have l2:=hok.slen
 have hn64:n<=64:=by omega
 have hm64:m<=64:=by omega
 have hjm:j<=m:=by omega
 obtain ⟨p,hp⟩:=Am (k:=i) lw (by omega);obtain ⟨q,hq⟩:=Am (k:=j) lw hj;obtain ⟨b,off,rfl,hb,c0,c1⟩:=hw.cell hp;obtain ⟨b',off',he,hb',d0,d1⟩:=hw.cell hq
 injection he with he
 injection he with e1 e2
 subst e1 e2;have hpo:=hok.wok p (Au hp);have hqo:=hok.wok q (Au hq);obtain ⟨⟨pa,pb⟩,pc,pd⟩:=hpo;obtain ⟨⟨qa,qb⟩,qc,qd⟩:=hqo;have P1:=hid (Cs.lo_of hp);have Q1:=hid (Cs.lo_of hq);have HS:=hid hs;have HOK:=hid hok;have n0:=World.new_ne w _ c0;have n1:=World.new_ne w _ c1;have n2:=World.new_ne w _ d0;have n3:=World.new_ne w _ d1
 have hin:i<n:=by omega
 have bi0:(0:Int)<=(i:Int):=by omega
 have bi1:(i:Int)<(n:Int):=by omega
 have bj0:(0:Int)<=(j:Int):=by omega
 have bj1:(j:Int)<(n:Int):=by omega
 clear hw hs hok lw ls l1 l2
 by_cases hije:i=j
 ·subst hije
  obtain rfl:p=q:=by rw [hp] at hq;exact Option.some.inj hq
  have hv:=hid (VG (ws:=ws) (st:=st) (i:=i));clear hp hq
  go_enter Tryz.func163,Tryz.ntmps163
  go_wp2_with fail
  go_quiet (fail)
  go_wp2_with fail
  go_ret
  exact ⟨Af (by rw [hv.out,P1.out.1,P1.out.2]),Ag (AJ _ _) _⟩
 ·have hlt:i<j:=by omega
  have hne:((i:Int) == (j:Int))=false:=BA.2 (by omega);clear hp hq hije
  by_cases hb1:p.2<p.1
  ·have hv:=hid (J6 (ws:=ws) (st:=st) hlt (.inl (by rw [P1.out.1,P1.out.2];exact hb1)))
   have hd:decide (p.2<p.1)=true:=by simpa using hb1
   exact Abi
  ·have hd:decide (p.2<p.1)=false:=by simpa using hb1
   by_cases hb2:q.2<q.1
   ·have hv:=hid (J6 (ws:=ws) (st:=st) hlt (.inr (by rw [Q1.out.1,Q1.out.2];exact hb2)))
    have hd2:decide (q.2<q.1)=true:=by simpa using hb2
    exact Abi
   ·have hv:=hid (VI (ws:=ws) (st:=st) hlt (by rw [P1.out.1,P1.out.2,Q1.out.1,Q1.out.2];omega))
    have hd2:decide (q.2<q.1)=false:=by simpa using hb2
    obtain ⟨⟨r0,r1⟩,f0,f1⟩:=KE HOK.out i j (by omega) (by omega);have HR:=hid (fun W (h:Below w.heap.size w W)=>(AaY S m cm i j ws st W (HS.out.below h) hmc hcm hm64 HOK.out hlt hjm).mono (R':=fun e w'=>e=.returned (vI (Cs.rise st i j))∧Below w.heap.size w w') fun _ _ hh=>⟨hh.1,Ae h hh.2⟩);have HF:=hid (fun W (h:Below w.heap.size w W)=>(AaX S m cm i j ws st W (HS.out.below h) hmc hcm hm64 HOK.out hlt hjm).mono (R':=fun e w'=>e=.returned (vI (Cs.fall st i j))∧Below w.heap.size w w') fun _ _ hh=>⟨hh.1,Ae h hh.2⟩);generalize Cs.rise st i j=RR at *;generalize Cs.fall st i j=FF at *;have s1:=iW (p.2+RR);have s2:=iW (q.1 - (p.2+RR));have s3:=iW (p.1 - FF);have s4:=iW (p.1 - FF - q.2)
    go_enter Tryz.func163,Tryz.ntmps163
    go_wp2_with fail
    go_quiet (fail)
    go_wp2_with fail
    go_region_held3 (fun w'=>w'.cell? ⟨b,off+i * 2,none⟩=some (vI p.1)∧w'.cell? ⟨b,off+i * 2+1,none⟩=some (vI p.2)∧w'.cell? ⟨b,off+j * 2,none⟩=some (vI q.1)∧w'.cell? ⟨b,off+j * 2+1,none⟩=some (vI q.2)) (go_keep) (first | (go_at_call 164;refine (HR.out _ ?_).mono ?_;(first | exact HWr.out | exact HWr.out.drew | exact HWf.out | exact HWf.out.drew | exact (Ag (AJ _ _) _).drew | exact Ag (AJ _ _) _ | exact AJ _ _ | exact (AJ _ _).drew);rintro e w2 ⟨rfl,HWrb⟩;have c0w2:w2.cell? ⟨b,off+i * 2,none⟩=some (vI p.1):=(HWrb.cell (p:=⟨b,off+i * 2,none⟩) hb).trans c0;have c1w2:w2.cell? ⟨b,off+i * 2+1,none⟩=some (vI p.2):=(HWrb.cell (p:=⟨b,off+i * 2+1,none⟩) hb).trans c1;have d0w2:w2.cell? ⟨b,off+j * 2,none⟩=some (vI q.1):=(HWrb.cell (p:=⟨b,off+j * 2,none⟩) hb).trans d0;have d1w2:w2.cell? ⟨b,off+j * 2+1,none⟩=some (vI q.2):=(HWrb.cell (p:=⟨b,off+j * 2+1,none⟩) hb).trans d1;have HWr:=hid HWrb;clear HWrb) | (go_at_call 165;refine (HF.out _ ?_).mono ?_;(first | exact HWr.out | exact HWr.out.drew | exact HWf.out | exact HWf.out.drew | exact (Ag (AJ _ _) _).drew | exact Ag (AJ _ _) _ | exact AJ _ _ | exact (AJ _ _).drew);rintro e w3 ⟨rfl,HWfb⟩;have c0w3:w3.cell? ⟨b,off+i * 2,none⟩=some (vI p.1):=(HWfb.cell (p:=⟨b,off+i * 2,none⟩) hb).trans c0;have c1w3:w3.cell? ⟨b,off+i * 2+1,none⟩=some (vI p.2):=(HWfb.cell (p:=⟨b,off+i * 2+1,none⟩) hb).trans c1;have d0w3:w3.cell? ⟨b,off+j * 2,none⟩=some (vI q.1):=(HWfb.cell (p:=⟨b,off+j * 2,none⟩) hb).trans d0;have d1w3:w3.cell? ⟨b,off+j * 2+1,none⟩=some (vI q.2):=(HWfb.cell (p:=⟨b,off+j * 2+1,none⟩) hb).trans d1;have HWf:=hid HWfb;clear HWfb))
    all_goals (go_wp2_with fail)
    all_goals go_ret
    all_goals (exact ⟨Af (by rw [hv.out,P1.out.1,P1.out.2,Q1.out.1,Q1.out.2]),(by first | exact HWr.out | exact HWf.out | exact HWr.out.drew | exact HWf.out.drew)⟩)
theorem O6:(Tryz.prog.info? 44).map (fun i=>(i.zero,i.size,i.bytes))=some (some (.agg #[vI 0,vI 0]),2,16):=by kernel_rfl
theorem GK {w w':World} {base:Nat} {e:TypeId} {size:Nat} {v:Value} {n:Nat} {xs:List Value} (h:w.ownsRow base e size v n xs) (hb:Below w.heap.size w w'):w'.ownsRow base e size v n xs :=
 h.kept (row:=none) ⟨hb.os,hb.tape,hb.output,hb.size,fun k hk _=>hb.block k hk⟩ (by cases v.ownBlock <;> simp)
structure AllRel (w:World) (S P:Cs.Wins) (sv pv:Value) (wr:World):Prop where
 s:wr.ownsRow w.heap.size 44 2 sv S.length (S.flatMap win)
 p:wr.ownsRow w.heap.size 44 2 pv P.length (P.flatMap win)
 dis:∀ k,sv.ownBlock=some k→pv.ownBlock≠some k
 bel:Below w.heap.size w wr
theorem AllRel.below {w wr w2:World} {S P:Cs.Wins} {sv pv:Value} (h:AllRel w S P sv pv wr) (hb:Below wr.heap.size wr w2):AllRel w S P sv pv w2 :=
 ⟨GK h.s hb,GK h.p hb,h.dis,Ae h.bel hb⟩
theorem GD (S:Cs.Wins) (q:Int × Int):(S ++ [q]).flatMap win=S.flatMap win ++ win q:=by simp
theorem AllRel.grow_s {w wr w1:World} {S P:Cs.Wins} {sv pv v1:Value} {o:Obj} {q:Int × Int} (h:AllRel w S P sv pv wr) (hown:w1.ownsRow w.heap.size 44 2 v1 (S.length+1) (S.flatMap win ++ win q)) (hg:(wr.alloc o).grownBy w1 sv.ownBlock)
  (hb:v1.ownBlock=sv.ownBlock∨v1.ownBlock=some (wr.alloc o).heap.size):AllRel w (S ++ [q]) P v1 pv w1:=by
 refine ⟨by rw [GD,List.length_append];exact hown,(h.p.alloc o).kept hg ?_,?_,(h.bel.alloc h.bel.size _).grown hg (by have:=h.bel.size;simp;omega) (Bq h.s)⟩
 ·cases hp:pv.ownBlock with
  | none=>exact .inl rfl
  | some k=>exact .inr fun e=>h.dis k e.symm hp
 ·intro k hk hp
  rcases hb with hb | hb
  ·exact h.dis k (hb ▸ hk) hp
  ·rw [hb] at hk
   have:=(h.p.lt k hp).2
   injection hk with hk
   simp at hk
   omega
theorem AllRel.grow_p {w wr w1:World} {S P:Cs.Wins} {sv pv v1:Value} {o:Obj} {q:Int × Int} (h:AllRel w S P sv pv wr) (hown:w1.ownsRow w.heap.size 44 2 v1 (P.length+1) (P.flatMap win ++ win q)) (hg:(wr.alloc o).grownBy w1 pv.ownBlock)
  (hb:v1.ownBlock=pv.ownBlock∨v1.ownBlock=some (wr.alloc o).heap.size):AllRel w S (P ++ [q]) sv v1 w1:=by
 refine ⟨(h.s.alloc o).kept hg ?_,by rw [GD,List.length_append];exact hown,?_,(h.bel.alloc h.bel.size _).grown hg (by have:=h.bel.size;simp;omega) (Bq h.p)⟩
 ·cases hs:sv.ownBlock with
  | none=>exact .inl rfl
  | some k=>exact .inr fun e=>h.dis k hs e.symm
 ·intro k hk hp
  rcases hb with hb | hb
  ·exact h.dis k hk (hb ▸ hp)
  ·rw [hb] at hp
   have:=(h.s.lt k hk).2
   injection hp with hp
   simp at hp
   omega
def JX (ws st:Cs.Wins) (w:World) (e:Ending) (w':World):Prop :=
 (Cs.chkE ws st=0→∃ A c,e=.returned (.tuple #[.slice A (Cs.confL ws st).length c,vI 0])∧Pairs w' A (Cs.confL ws st).length (Cs.confL ws st))∧(Cs.chkE ws st≠0→e=.returned (.tuple #[.slice none 0 0,vI (Cs.chkE ws st)]))∧Below w.heap.size w w'
def Ii (ws st:Cs.Wins) (i j:Nat):Cs.Wins:=if i<j then Cs.sU ws st (i+1) else Cs.sU ws st i
theorem Nl {ws st:Cs.Wins} {i:Nat}:Ii ws st i i=Cs.sU ws st i:=by unfold Ii;rw [if_neg (by omega)]
theorem EY {ws st:Cs.Wins} {i j:Nat} (h:i<j):Ii ws st i j=Cs.sU ws st (i+1):=by unfold Ii;rw [if_pos h]
theorem Ve {ws st:Cs.Wins} {i j:Nat}:(Ii ws st i j).length<=i+1:=by
 unfold Ii
 split
 ·exact Cs.sU_len ws st (i+1)
 ·have:=Cs.sU_len ws st i;omega
def AbJ (ws st:Cs.Wins) (n:Nat) (w:World) (sv pv t:Value) (wr:World):Prop:=∃ i:Nat,i<=n∧t=vI i∧AllRel w (Cs.sU ws st i) (Cs.pU ws st n i) sv pv wr
def Adi (ws st:Cs.Wins) (n i:Nat) (w:World) (sv pv t:Value) (wr:World):Prop:=∃ j:Nat,i<=j∧j<=n∧t=vI j∧AllRel w (Ii ws st i j) (Cs.pU ws st n i ++ Cs.rU ws st i j) sv pv wr
theorem WU (ws st:Cs.Wins) (n i j:Nat) (hn:n<=64) (hi:i<n) (hj:j<=n):(Cs.pU ws st n i ++ Cs.rU ws st i j).length<=4200:=by
 rw [List.length_append]
 have h1:=Cs.pU_len ws st n i;have h2:=Cs.rU_len ws st i j;have h3:n * i<=64 * 64:=Nat.mul_le_mul hn (by omega)
 omega
theorem AeE (A S:Option Addr) (n cn m cm:Nat) (ws st:Cs.Wins) (w:World) (hw:Pairs w A n ws) (hs:Pairs w S m st) (hn:n<=maxLen) (hm:m<=maxLen) (hmc:m<=cm) (hcm:cm<=maxLen) :
  Calls Tryz.prog 183 #[.slice A n cn,.slice S m cm] w (JX ws st w):=by
 have HC:=hid (Ru A S n cn m cm ws st w hw hs hn hm)
 by_cases he:Cs.chkE ws st=0
 ·rw [he] at HC
  have hok:=Cs.csOk_of he
  have hn64:n<=64:=by have:=hok.len;have:=hw.len;omega
  have HN:=hid hw.len;have HE:=hid he;have HOK:=hid hok;have HX:=hid (fun W i j (hb:Below w.heap.size w W) (hij:i<=j) (hj:j<n)=>Aac A S n cn m cm i j ws st W (hw.below hb) (hs.below hb) hmc hcm hok hij hj);obtain ⟨i0,hi,hz0,hz1,hz2⟩:=info_parts O6;clear hw hs he hok hn hm
  go_enter Tryz.func183,Tryz.ntmps183
  go_wp2_with fail
  refine HC.out.mono ?_;rintro e w1 ⟨rfl,hB1⟩
  have HB1:=hid hB1;clear hB1
  go_wp2_with fail
  go_loopw [7,8,19] (fun sv pv t wr=>AbJ ws st n w sv pv t wr) (fun _ _ t _=>n - (intOf t).toNat)
  case atStart=>exact ⟨0,by omega,rfl,⟨World.ownsRow_nil _ _ _ _,World.ownsRow_nil _ _ _ _,fun k hk=>by simp [Value.ownBlock] at hk,HB1.out⟩⟩
  case round =>
   obtain ⟨i,hi',rfl,hR0⟩:=hrel;have HR0:=hid hR0;clear hR0
   by_cases hlt:i<n
   ·obtain ⟨wo,rfl⟩:∃ wo:World,wo=wr:=⟨_,rfl⟩
    go_wp2_with fail
    go_loopw [7,8,10] (fun sv pv t wr=>Adi ws st n i w sv pv t wr) (fun _ _ t _=>n - (intOf t).toNat)
    case atStart=>exact ⟨i,Bn _,by omega,rfl,by rw [Nl,Cs.rU_nil ws st i i (by omega),List.append_nil];exact HR0.out⟩
    case round =>
     obtain ⟨j,hij,hj,rfl,hR1⟩:=hrel;have HR1:=hid hR1;clear hR1
     by_cases hlt2:j<n
     ·have HXX:=hid (HX.out wr i j HR1.out.bel hij hlt2)
      by_cases hc:0<Cs.exc ws st i j
      ·have hc':¬ Cs.exc ws st i j<=0:=by omega
       by_cases hij2:i=j
       ·subst hij2
        have hsg:=hid (show Ii ws st i (i+1)=Ii ws st i i ++ [((i:Int),(i:Int))] by rw [EY (by omega),Nl,Cs.sU_succ];unfold Cs.sgl;rw [if_pos hc]);have hrw:=hid (show Cs.rU ws st i (i+1)=Cs.rU ws st i i by rw [Cs.rU_nil ws st i (i+1) (by omega),Cs.rU_nil ws st i i (by omega)])
        have hle:(Ii ws st i i).length<=100:=by have:=@Ve ws st i i;omega
        generalize Cs.exc ws st i i=V at *
        go_wp2_with fail
        refine HXX.out.mono ?_;rintro e wr2 ⟨rfl,hB2⟩
        have HR:=hid (HR1.out.below hB2);clear hB2;have hww:w.heap.size<=wr2.heap.size:=HR.out.bel.size
        go_wp2_with (at_builtin;refine wpList_append_own_at _ rfl _ _ 137 rfl w.heap.size 44 i0 (.agg #[vI 0,vI 0]) 2 16 Tryz.underlying137 hi hz0 hz1 hz2 rfl (by decide) _ _ _ rfl (HR.out.s.alloc _) ⟨wr2.heap.size,0,none⟩ 1 1 (win ((i:Int),(i:Int))) rfl rfl (AY _ _ rfl _ _ _ rfl) (by intro u hu;simp [win] at hu;rcases hu with rfl | rfl <;> rfl) (by unfold maxLen;omega) (by omega) (by have:=HR.out.bel.size;simp;omega) ?_;intro v1 w3 hown1 hgrow1 hnil1 hblk1)
        go_roundw
        case rel=>exact ⟨i+1,by omega,by omega,by go_num,by rw [hsg.out,hrw.out];exact HR.out.grow_s hown1 hgrow1 hblk1⟩
        case measure=>exact zMs
       ·have hne:((i:Int) == (j:Int))=false:=BA.2 (by omega)
        have hil:i<j:=by omega
        have hsg:=hid (show Ii ws st i (j+1)=Ii ws st i j by rw [EY (by omega),EY hil]);have hrw:=hid (show Cs.pU ws st n i ++ Cs.rU ws st i (j+1)=(Cs.pU ws st n i ++ Cs.rU ws st i j) ++ [((i:Int),(j:Int))] by rw [Cs.rU_succ,List.append_assoc];unfold Cs.row;rw [if_pos ⟨hil,hc⟩]);have hle:=WU ws st n i j hn64 hlt hj;generalize Cs.exc ws st i j=V at *;clear hij2
        go_wp2_with fail
        refine HXX.out.mono ?_;rintro e wr2 ⟨rfl,hB2⟩
        have HR:=hid (HR1.out.below hB2);clear hB2;have hww:w.heap.size<=wr2.heap.size:=HR.out.bel.size
        go_wp2_with (at_builtin;refine wpList_append_own_at _ rfl _ _ 137 rfl w.heap.size 44 i0 (.agg #[vI 0,vI 0]) 2 16 Tryz.underlying137 hi hz0 hz1 hz2 rfl (by decide) _ _ _ rfl (HR.out.p.alloc _) ⟨wr2.heap.size,0,none⟩ 1 1 (win ((i:Int),(j:Int))) rfl rfl (AY _ _ rfl _ _ _ rfl) (by intro u hu;simp [win] at hu;rcases hu with rfl | rfl <;> rfl) (by unfold maxLen;omega) (by omega) (by have:=HR.out.bel.size;simp;omega) ?_;intro v1 w3 hown1 hgrow1 hnil1 hblk1)
        go_roundw
        case rel=>exact ⟨j+1,by omega,by omega,by go_num,by rw [hsg.out,hrw.out];exact HR.out.grow_p hown1 hgrow1 hblk1⟩
        case measure=>exact zMs
      ·have hc':Cs.exc ws st i j<=0:=by omega
       have hsg:=hid (show Ii ws st i (j+1)=Ii ws st i j by
        rcases Nat.lt_or_ge i j with h | h
        ·rw [EY (by omega),EY h]
        ·obtain rfl:i=j:=by omega
         rw [EY (by omega),Nl,Cs.sU_succ];unfold Cs.sgl;rw [if_neg hc,List.append_nil])
       have hrw:=hid (show Cs.rU ws st i (j+1)=Cs.rU ws st i j by rw [Cs.rU_succ];unfold Cs.row;rw [if_neg (fun h=>hc h.2),List.append_nil]);generalize Cs.exc ws st i j=V at *
       go_wp2_with fail
       refine HXX.out.mono ?_;rintro e wr2 ⟨rfl,hB2⟩
       have HR:=hid (HR1.out.below hB2);clear hB2
       go_wp2_with fail
       go_roundw
       case rel=>exact ⟨j+1,by omega,by omega,by go_num,by rw [hsg.out,hrw.out];exact HR.out⟩
       case measure=>exact zMs
     ·have hjn:=hid (show j=n by omega)
      have hend:=hid (show Ii ws st i j=Cs.sU ws st (i+1)∧Cs.pU ws st n i ++ Cs.rU ws st i j=Cs.pU ws st n (i+1) by rw [EY (by omega),Cs.pU_succ,hjn.out];exact ⟨rfl,rfl⟩)
      go_wp2_with fail
      go_roundw
      case rel=>exact ⟨i+1,by omega,by go_num,by rw [← hend.out.1,← hend.out.2];exact HR1.out⟩
      case measure=>exact zMs
   ·have hin:=hid (show i=n by omega)
    have hcl:=hid (show Cs.confL ws st=Cs.sU ws st i ++ Cs.pU ws st n i by unfold Cs.confL;rw [HN.out,hin.out]);have hl1:=Cs.sU_len ws st i;have hl2:=Cs.pU_len ws st n i;have hl3:n * i<=64 * 64:=Nat.mul_le_mul hn64 (by omega);have hww:w.heap.size<=wr.heap.size:=HR0.out.bel.size
    have hl4:(Cs.pU ws st n i).length<=4096:=by omega
    clear hl2 hl3
    rcases HR0.out.p.2 with ⟨hpv,hp0⟩ | ⟨g,cap,cur,hpv,hg,_⟩
    ·have hpn:=hid (List.eq_nil_of_length_eq_zero hp0)
     subst hpv;clear hp0
     go_wp2_with (at_builtin;refine wpList_append_own_none rfl _ _ 137 rfl w.heap.size 44 i0 2 Tryz.underlying137 hi _ _ _ rfl HR0.out.s rfl ?_)
     obtain ⟨A',c',hsv⟩:=Gh HR0.out.s
     go_ret2
     refine ⟨fun _=>⟨A',c',?_,?_⟩,fun h=>absurd HE.out h,HR0.out.bel⟩
     ·rw [hcl.out,hpn.out,List.append_nil,← hsv];rfl
     ·rw [hcl.out,hpn.out,List.append_nil];exact Recs.of_own Dm rfl (by rw [← hsv];exact HR0.out.s)
    ·subst hpv
     have hcells:=hid (HR0.out.p.cells (g:=g) rfl);have hpl:=hid HR0.out.p.1
     have h1c:∀ u ∈ (Cs.pU ws st n i).flatMap win,u.oneCell'=true:=by
      intro u hu
      rw [List.mem_flatMap] at hu
      obtain ⟨q,_,hq⟩:=hu
      simp [win] at hq
      rcases hq with rfl | rfl <;> rfl
     have H1C:=hid h1c;clear h1c
     go_wp2_with (at_builtin;refine wpList_append_own_at _ rfl _ _ 137 rfl w.heap.size 44 i0 (.agg #[vI 0,vI 0]) 2 16 Tryz.underlying137 hi hz0 hz1 hz2 rfl (by decide) _ _ _ rfl HR0.out.s ⟨g,0,none⟩ (Cs.pU ws st n i).length cap ((Cs.pU ws st n i).flatMap win) rfl hpl.out hcells.out H1C.out (by unfold maxLen;omega) (by omega) hww ?_;intro v1 w3 hown1 hgrow1 hnil1 hblk1)
     obtain ⟨A',c',hsv⟩:=Gh hown1
     have hlen:(Cs.confL ws st).length=(Cs.sU ws st i).length+(Cs.pU ws st n i).length:=by rw [hcl.out,List.length_append]
     go_ret2
     refine ⟨fun _=>⟨A',c',?_,?_⟩,fun h=>absurd HE.out h,HR0.out.bel.grown hgrow1 hww (Bq HR0.out.s)⟩
     ·rw [hlen,← hsv];rfl
     ·exact Recs.of_own Dm rfl (by rw [hcl.out,List.length_append,List.flatMap_append,← hsv];exact hown1)
 ·have hne:(Cs.chkE ws st != 0)=true:=by rw [bne_iff_ne];exact he
  have HE:=hid he;have hp:∀ e w',e=.returned (.tuple #[.slice none 0 0,vI (Cs.chkE ws st)])→Below w.heap.size w w'→JX ws st w e w':=fun e w' h1 h2=>⟨fun h=>absurd h he,fun _=>h1,h2⟩;have HP:=hid hp;clear he hp hw hs;generalize Cs.chkE ws st=E at *
  go_enter Tryz.func183,Tryz.ntmps183
  go_wp2_with fail
  refine HC.out.mono ?_;rintro e w1 ⟨rfl,hB1⟩
  go_wp2_with fail
  go_ret2
  exact HP.out _ _ rfl hB1
structure RowF (w0:World) (g n:Nat) (F:Nat→Int × Int) (w:World):Prop where
 lo:∀ j,j<n→w.cell? ⟨g,j * 2,none⟩=some (vI (F j).1)
 hi:∀ j,j<n→w.cell? ⟨g,j * 2+1,none⟩=some (vI (F j).2)
 fr:∀ o,w.frozen? ⟨g,o,none⟩=false
 lt:g<w.heap.size
 ge:w0.heap.size<=g
 bel:Below w0.heap.size w0 w
theorem RowF.drew {w0 w:World} {g n:Nat} {F:Nat→Int × Int} (h:RowF w0 g n F w):RowF w0 g n F w.drew:=⟨h.lo,h.hi,h.fr,h.lt,h.ge,h.bel.drew⟩
def Hf (F:Nat→Int × Int) (k:Nat) (v:Int):Nat→Int × Int:=fun j=>if j=k then ((F j).1,v) else F j
def PW (F:Nat→Int × Int) (k:Nat) (v:Int):Nat→Int × Int:=fun j=>if j=k then (v,(F j).2) else F j
theorem RowF.setH {w0 w:World} {g n k:Nat} {F:Nat→Int × Int} (h:RowF w0 g n F w) (hk:k<n) (v:Int):RowF w0 g n (Hf F k v) (w.setCell ⟨g,k * 2+1,none⟩ (vI v)):=by
 refine ⟨fun j hj=>?_,fun j hj=>?_,fun o=>by rw [World.frozen?_setCell];exact h.fr o,by simpa [World.setCell] using h.lt,h.ge,h.bel.setCell (p:=⟨g,k * 2+1,none⟩) h.ge _⟩
 ·rw [World.cell?_setCell_other w ⟨g,k * 2+1,none⟩ ⟨g,j * 2,none⟩ _ (by intro e;injection e with _ e;omega),h.lo j hj]
  unfold Hf
  split <;> rfl
 ·by_cases hjk:j=k
  ·subst hjk
   rw [World.cell?_setCell_same w ⟨g,j * 2+1,none⟩ _ (h.hi j hj)]
   unfold Hf
   rw [if_pos rfl]
  ·rw [World.cell?_setCell_other w ⟨g,k * 2+1,none⟩ ⟨g,j * 2+1,none⟩ _ (by intro e;injection e with _ e;omega),h.hi j hj]
   unfold Hf
   rw [if_neg hjk]
theorem RowF.setL {w0 w:World} {g n k:Nat} {F:Nat→Int × Int} (h:RowF w0 g n F w) (hk:k<n) (v:Int):RowF w0 g n (PW F k v) (w.setCell ⟨g,k * 2,none⟩ (vI v)):=by
 refine ⟨fun j hj=>?_,fun j hj=>?_,fun o=>by rw [World.frozen?_setCell];exact h.fr o,by simpa [World.setCell] using h.lt,h.ge,h.bel.setCell (p:=⟨g,k * 2,none⟩) h.ge _⟩
 ·by_cases hjk:j=k
  ·subst hjk
   rw [World.cell?_setCell_same w ⟨g,j * 2,none⟩ _ (h.lo j hj)]
   unfold PW
   rw [if_pos rfl]
  ·rw [World.cell?_setCell_other w ⟨g,k * 2,none⟩ ⟨g,j * 2,none⟩ _ (by intro e;injection e with _ e;omega),h.lo j hj]
   unfold PW
   rw [if_neg hjk]
 ·rw [World.cell?_setCell_other w ⟨g,k * 2,none⟩ ⟨g,j * 2+1,none⟩ _ (by intro e;injection e with _ e;omega),h.hi j hj]
  unfold PW
  split <;> rfl
theorem RowF.congr {w0 w:World} {g n:Nat} {F G:Nat→Int × Int} (h:RowF w0 g n F w) (hfg:∀ j,j<n→F j=G j):RowF w0 g n G w :=
 ⟨fun j hj=>by rw [← hfg j hj];exact h.lo j hj,fun j hj=>by rw [← hfg j hj];exact h.hi j hj,h.fr,h.lt,h.ge,h.bel⟩
theorem RowF.pairs {w0 w:World} {g n:Nat} {F:Nat→Int × Int} (h:RowF w0 g n F w):Pairs w (some ⟨g,0,none⟩) n ((List.range n).map F):=by
 refine ⟨by simp,fun _=>⟨g,0,rfl,h.lt,fun k x hk j v hv=>?_⟩⟩
 rw [List.getElem?_map] at hk
 rcases Nat.lt_or_ge k n with hkn | hkn
 ·rw [List.getElem?_range hkn] at hk
  obtain rfl:F k=x:=by simpa using hk
  match j,hv with
  | 0,hv=>rw [Nat.zero_add,Nat.add_zero];simp [win] at hv;rw [← hv];exact h.lo k hkn
  | 1,hv=>rw [Nat.zero_add];simp [win] at hv;rw [← hv];exact h.hi k hkn
  | j+2,hv=>simp [win] at hv
 ·rw [List.getElem?_eq_none (by simpa using hkn)] at hk
  simp at hk
theorem RowF.of_own {w0 w:World} {e:TypeId} {g n cap:Nat} {l:List (Int × Int)} (hl:l.length=n) (h:w.ownsRow w0.heap.size e 2 (.slice (some ⟨g,0,none⟩) n cap) n (l.flatMap win)) (hb:Below w0.heap.size w0 w) :
  RowF w0 g n (fun j=>l.getD j (0,0)) w:=by
 have hg:=h.lt g rfl
 have hc:∀ j r v,j<n→(win (l.getD j (0,0)))[r]? = some v→r<2→w.cell? ⟨g,j * 2+r,none⟩=some v:=by
  intro j r v hj hv hr
  rw [h.cellAt (j * 2+r) (by omega)]
  exact DU (f:=win) (sz:=2) (fun _=>rfl) hv l j (by rw [Dp,AQ (by omega)];rfl)
 exact ⟨fun j hj=>hc j 0 _ hj rfl (by omega),fun j hj=>hc j 1 _ hj rfl (by omega),fun o=>h.frozenAt o,hg.2,hg.1,hb⟩
theorem K6 {w:World} {b off n:Nat} {l:List (Int × Int)} (h:Pairs w (some ⟨b,off,none⟩) n l):∀ j u,(l.flatMap win)[j]? = some u→w.cell? ((⟨b,off,none⟩:Addr).add j)=some u:=by
 intro j u hu
 have e:(⟨b,off,none⟩:Addr).add j=⟨b,off+j,none⟩:=by unfold Addr.add;split <;> simp_all
 rw [e]
 have hlen:(l.flatMap win).length=l.length * 2:=by
  clear h hu
  induction l with
  | nil=>rfl
  | cons x t ih=>rw [List.flatMap_cons,List.length_append,ih,List.length_cons];simp [win];omega
 have hj:j<l.length * 2:=by rw [← hlen];exact (List.getElem?_eq_some_iff.1 hu).1
 have hl:=h.len;obtain ⟨x,hx⟩:∃ x,l[j / 2]? = some x:=⟨_,AQ (by omega)⟩;obtain ⟨b',off',he,_,hc⟩:=h.cells (by omega)
 injection he with he
 injection he with e1 e2
 subst e1 e2;have hr:j % 2<2:=Nat.mod_lt _ (by decide);obtain ⟨v,hv⟩:∃ v,(win x)[j % 2]? = some v:=⟨_,AQ (by rw [Dm];exact hr)⟩;have h1:=DU (f:=win) (sz:=2) (fun _=>rfl) hv l (j / 2) hx
 have h2:j / 2 * 2+j % 2=j:=by omega
 rw [h2,hu] at h1
 obtain rfl:=Option.some.inj h1;have h3:=hc (j / 2) x hx (j % 2) _ hv
 rw [show off+j / 2 * 2+j % 2=off+j from by omega] at h3
 exact h3
theorem OV (l:List (Int × Int)):∀ u ∈ l.flatMap win,u.oneCell'=true:=by
 intro u hu
 rw [List.mem_flatMap] at hu
 obtain ⟨q,_,hq⟩:=hu
 simp [win] at hq
 rcases hq with rfl | rfl <;> rfl
theorem OU (l:List (Int × Int)):(l.flatMap win).length=l.length * 2:=by
 induction l with
 | nil=>rfl
 | cons x t ih=>rw [List.flatMap_cons,List.length_append,ih,List.length_cons];simp [win];omega
theorem Ew {P:Program} {w:World} {ops:Array Oper} {rest:List Oper} {o:Oper} {a:Act} {Q:Exit→Act→World→Prop} (hgd:o.guard=none) (s x:Operand) (t:TypeId)
  (ho:o.op=.call { callee:=.builtin .append,args:=#[s,x],argTypes:=#[t,t] }) (e:TypeId) (i:TypeInfo) (ht:P.underlying t=some (.slice e)) (hi:P.info? e=some i)
  (c:Nat) (hs:a.eval s=.slice none 0 0) (hx:a.eval x=.slice none 0 c) (h:wpList P ops Q rest (a.put o.dst (.slice none 0 0)) w):wpList P ops Q (o :: rest) a w:=by
 refine wpList_plain hgd fun K hK=>?_
 have hrun:(Builtin.append_ #[t,t] o.type #[.slice none 0 0,.slice none 0 c]).run P w=.ok (.slice none 0 0) w:=by
  simp [Builtin.append_,run_underlying ht,sizeOf,typeInfo,hi,Builtin.lenOf,Builtin.firstCells]
 unfold Oper.wp
 simp [execOp,ho,resolve,invoke,builtin,hs,hx,hrun,Result.andThen]
 exact hK _ _ h
end Go.Proofs.YtedcanagfajcgaaGreat
namespace Go.Proofs.Cs
open Pf (inB)
theorem fH_bd {ws st:Wins} (hok:CsOk ws st):∀ {i:Nat},i<ws.length→inB (fH ws st i)
 | 0,h=>(hok.win h).2
 | i+1,h=>by
  have h1:=(hok.win h).2;have h2:=fH_bd hok (show i<ws.length by omega);have h3:=hok.ups i
  show inB (min (hi ws (i+1)) (fH ws st i+up st i))
  unfold inB at *
  omega
theorem fL_bd {ws st:Wins} (hok:CsOk ws st):∀ {i:Nat},i<ws.length→inB (fL ws st i)
 | 0,h=>(hok.win h).1
 | i+1,h=>by
  have h1:=(hok.win h).1;have h2:=fL_bd hok (show i<ws.length by omega);have h3:=hok.dns i
  show inB (max (lo ws (i+1)) (fL ws st i - dn st i))
  unfold inB at *
  omega
theorem bH_bd {ws st:Wins} (hok:CsOk ws st):∀ {k:Nat},k<ws.length→inB (bH ws st ws.length k)
 | 0,h=>fH_bd hok (by omega)
 | k+1,h=>by
  have h1:=fH_bd hok (show ws.length - 1 - (k+1)<ws.length by omega);have h2:=bH_bd hok (show k<ws.length by omega);have h3:=hok.dns (ws.length - 1 - (k+1))
  show inB (min (fH ws st (ws.length - 1 - (k+1))) (bH ws st ws.length k+dn st (ws.length - 1 - (k+1))))
  unfold inB at *
  omega
theorem bL_bd {ws st:Wins} (hok:CsOk ws st):∀ {k:Nat},k<ws.length→inB (bL ws st ws.length k)
 | 0,h=>fL_bd hok (by omega)
 | k+1,h=>by
  have h1:=fL_bd hok (show ws.length - 1 - (k+1)<ws.length by omega);have h2:=bL_bd hok (show k<ws.length by omega);have h3:=hok.ups (ws.length - 1 - (k+1))
  show inB (max (fL ws st (ws.length - 1 - (k+1))) (bL ws st ws.length k - up st (ws.length - 1 - (k+1))))
  unfold inB at *
  omega
def fwd (ws st:Wins) (k:Nat):Nat→Int × Int:=fun j=>if j<k then (fL ws st j,fH ws st j) else (lo ws j,hi ws j)
def bwd (ws st:Wins) (k:Nat):Nat→Int × Int:=fun j=>if k<=j then (bL ws st ws.length (ws.length - 1 - j),bH ws st ws.length (ws.length - 1 - j)) else (fL ws st j,fH ws st j)
theorem fwd_start {ws st:Wins} (j:Nat):ws.getD j (0,0)=fwd ws st 1 j:=by
 unfold fwd
 by_cases h:j<1
 ·obtain rfl:j=0:=by omega
  rw [if_pos h];rfl
 ·rw [if_neg h];rfl
def tight (ws st:Wins):Wins:=(List.range ws.length).map fun i=>(tL ws st i,tH ws st i)
theorem bwd_last {ws st:Wins} (h:0<ws.length) (j:Nat) (hj:j<ws.length):fwd ws st ws.length j=bwd ws st (ws.length - 1) j:=by
 unfold fwd bwd
 rw [if_pos hj]
 rcases Nat.lt_or_ge j (ws.length - 1) with hl | hl
 ·rw [if_neg (by omega)]
 ·obtain rfl:j=ws.length - 1:=by omega
  rw [if_pos (Bn _),Nat.sub_self]
  rfl
theorem bwd_done {ws st:Wins} (hok:CsOk ws st):(List.range ws.length).map (bwd ws st 0)=tight ws st:=by
 unfold tight
 apply List.map_congr_left
 intro i hi'
 rw [List.mem_range] at hi'
 unfold bwd
 rw [if_pos (by omega),AdJ hok hi',AdI hok hi']
def tgE (ws st:Wins):Int:=if chkE ws st≠0 then chkE ws st else if confL ws st=[] then 0 else 11
theorem tgE_chk {ws st:Wins} (h:chkE ws st≠0):tgE ws st=chkE ws st:=by unfold tgE;rw [if_pos h]
theorem tgE_conf {ws st:Wins} (h:chkE ws st=0) (h2:confL ws st≠[]):tgE ws st=11:=by unfold tgE;rw [if_neg (by omega),if_neg h2]
theorem tgE_ok {ws st:Wins} (h:chkE ws st=0) (h2:confL ws st=[]):tgE ws st=0:=by unfold tgE;rw [if_neg (by omega),if_pos h2]
theorem tgE_0 {ws st:Wins} (h:tgE ws st=0):chkE ws st=0∧confL ws st=[]:=by
 by_cases h1:chkE ws st=0
 ·by_cases h2:confL ws st=[]
  ·exact ⟨h1,h2⟩
  ·rw [tgE_conf h1 h2] at h;omega
 ·rw [tgE_chk h1] at h;exact absurd h h1
theorem tight_len (ws st:Wins):(tight ws st).length=ws.length:=by simp [tight]
theorem tight_get {ws st:Wins} {i:Nat} (h:i<ws.length):(tight ws st)[i]? = some (tL ws st i,tH ws st i):=by
 unfold tight
 rw [List.getElem?_map,List.getElem?_range h]
 rfl
end Go.Proofs.Cs
namespace Go.Proofs.YtedcanagfajcgaaGreat
open Go.RowKit
structure Own {α:Type} (f:α→List Value) (sz:Nat) (e:TypeId) (w:World) (l:List α) (v:Value) (wr:World):Prop where
 own:wr.ownsRow w.heap.size e sz v l.length (l.flatMap f)
 bel:Below w.heap.size w wr
section
variable {α:Type} {f:α→List Value} {sz:Nat} {e:TypeId} {w wr w1:World} {l:List α} {v v1:Value}
theorem Own.start (f:α→List Value) (sz:Nat) (e:TypeId) (w:World):Own f sz e w [] (.slice none 0 0) w:=⟨World.ownsRow_nil _ _ _ _,AJ _ _⟩
theorem Own.below (h:Own f sz e w l v wr) (hb:Below wr.heap.size wr w1):Own f sz e w l v w1 :=
 ⟨h.own.kept (row:=none) ⟨hb.os,hb.tape,hb.output,hb.size,fun k hk _=>hb.block k hk⟩ (by cases v.ownBlock <;> simp),Ae h.bel hb⟩
theorem Own.next (h:Own f sz e w l v wr) {o:Obj} {x:α} (hown:w1.ownsRow w.heap.size e sz v1 (l.length+1) (l.flatMap f ++ f x)) (hg:(wr.alloc o).grownBy w1 v.ownBlock):Own f sz e w (l ++ [x]) v1 w1 :=
 ⟨by rw [List.length_append,List.flatMap_append];simpa using hown,(h.bel.alloc h.bel.size _).grown hg (by have:=h.bel.size;simp;omega) (Bq h.own)⟩
theorem Own.cap {n:Nat} (h:Own f sz e w l v wr) (hl:l.length=n):∃ A c,v=.slice A n c∧BS A n c:=by
 subst hl
 rcases h.own.2 with ⟨rfl,h0⟩ | ⟨g,cap,cur,rfl,_,_,hnc,hm,_⟩
 ·exact ⟨none,0,by rw [h0],by omega,Nat.zero_le _,fun _=>rfl⟩
 ·exact ⟨_,_,rfl,hnc,hm,fun h=>by cases h⟩
theorem Own.res {n:Nat} (hf:∀ x,(f x).length=sz) (h:Own f sz e w l v wr) (hl:l.length=n):∃ A c,v=.slice A n c∧Recs f sz wr A n l∧BS A n c:=by
 obtain ⟨A,c,rfl,hc⟩:=h.cap hl;subst hl
 exact ⟨A,c,rfl,Recs.of_own hf rfl h.own,hc⟩
end
def G9 (x:Int):List Value:=[vI x]
theorem Own.ints {n:Nat} {e:TypeId} {w wr:World} {l:List Int} {v:Value} (h:Own G9 1 e w l v wr) (hl:l.length=n):∃ A c,v=.slice A n c∧Ints wr A n l∧BS A n c:=by
 obtain ⟨A,c,h1,h2,h3⟩:=Own.res (f:=G9) (fun _=>rfl) h hl
 exact ⟨A,c,h1,Fj h2,h3⟩
structure Pass where
 alt:Int
 cas:Int
 tas:Int
 ground:Int
 tick:Int
 fuel:Int
 gl:Int
 gh:Int
 tl:Int
 th:Int
 fl:Int
 fh:Int
 phase:Int
def Pass.cells (p:Pass):List Value:=(lzp p.alt p.cas p.tas p.ground p.tick p.fuel p.gl p.gh p.tl p.th p.fl p.fh p.phase)
def Passes (w:World) (A:Option Addr) (n:Nat) (ps:List Pass):Prop:=Recs Pass.cells 13 w A n ps
theorem Passes.below {w w':World} {A:Option Addr} {n:Nat} {ps:List Pass} (h:Passes w A n ps) (hb:Below w.heap.size w w'):Passes w' A n ps:=Recs.below h hb
