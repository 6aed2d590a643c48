
/- Layer 31: the values of lists and of tables. -/
import Derived.Test.YtedcanagfajcgaaGreatPeChk
set_option linter.unusedSimpArgs false
set_option linter.unusedVariables false
set_option maxRecDepth 100000
set_option maxHeartbeats 2000000
namespace Go.Proofs
theorem X9{G:Prop}(h:G:=by
  go_enter Tryz.func158,Tryz.ntmps158
  go_wp2_with fail
  go_ret
  exact ⟨Af HR.out.symm,0,rfl⟩):G:=h
end Go.Proofs
namespace Go.Proofs.YtedcanagfajcgaaGreat
open Go.RowKit
open Go.Lib (hid)
theorem AfT (X Y:Int) (h1 : -1000000000000000000<=X) (h2:X<=1000000000000000000) (hY:0<Y):Fx.scV 0 X 1 Y=X / Y∧Fx.scE 0 X 1 Y=0:=by
 have e:Fx.rqz 0 (X * 1) Y=X / Y:=by unfold Fx.rqz Fx.rq;rw [if_neg (by omega),if_pos rfl,Int.mul_one]
 have b1 : -1000000000000000000<=X / Y:=by
  rw [Int.le_ediv_iff_mul_le hY]
  have:(-1000000000000000000) * Y<=(-1000000000000000000) * 1:=Int.mul_le_mul_of_nonpos_left (by omega) (by omega)
  omega
 have b2:X / Y<=1000000000000000000:=by
  by_cases h:X<0
  ·have:X / Y<0:=Int.ediv_neg_of_neg_of_pos h hY
   omega
  ·have:=Int.ediv_le_self (b:=Y) (a:=X) (by omega)
   omega
 rw [Fx.scV_eq 0 X 1 Y (by omega),Fx.scE_eq 0 X 1 Y (by omega),e]
 constructor <;> (rw [if_pos];unfold Fx.inR;omega)
theorem Z4 (X Y:Int) (h1 : -1000000000000000000<=X) (h2:X<=1000000000000000000) (hY:0<Y) (hY2:Y<=1000000000000000000) (w:World):Calls Tryz.prog 126 #[vI X,vI Y] w fun e w'=>e=.returned (.tuple #[vI (X / Y),vI 0])∧∃ n,w'=w.drewN n:=by
 have h:=xFloor X Y ⟨by omega,by omega⟩ ⟨by omega,by omega⟩ w
 rw [(AfT X Y h1 h2 hY).1,(AfT X Y h1 h2 hY).2] at h
 exact h
theorem Td (X Y:Int) (h1 : -1000000000000000000<=X) (h2:X<=1000000000000000000) (hY:0<Y) (hY2:Y<=1000000000000000000) (w:World):Calls Tryz.prog 198 #[vI X,vI Y] w fun e w'=>e=.returned (.tuple #[vI (X / Y),vI 0])∧w=w':=by
 have h:=rFloor X Y ⟨by omega,by omega⟩ ⟨by omega,by omega⟩ w
 rw [(AfT X Y h1 h2 hY).1,(AfT X Y h1 h2 hY).2] at h
 exact h
theorem Tc {d e:Int} (h1 : -50000<=d∧d<=50000) (h2:0<=e∧e<=3000200000) : -150010000000000<=d * e∧d * e<=150010000000000:=by
 have a:=CR h1.2 h2.1;have b:=CR h1.1 h2.1
 omega
theorem JI (A B:Option Addr) (n c d:Nat) (p l:List Int) (x:Int) (w:World) (hp:Ints w A n p) (hl:Ints w B n l) (hn0:0<n) (hn:n<=12) (hpb:∀ y ∈ p,-200000<=y∧y<=3000000000) (hlb:∀ y ∈ l,0<=y∧y<=50000) (hx : -200000<=x∧x<=3000000000):Calls Tryz.prog 176 #[.slice A n c,.slice B n d,vI x] w fun e w'=>e=.returned (vI (Pe.iv (p.zip l) x))∧∃ q,w'=w.drewN q:=by
 have HP:=hid hp;have HQ:=hid hl;have HPL:=hid hp.len;have HLL:=hid hl.len;have HPB:=hid hpb;have HLB:=hid hlb;obtain ⟨x0,x1⟩:=hx;obtain ⟨bp,op,rfl,hbp,cp⟩:=hp.cells hn0;obtain ⟨bl,ol,rfl,hbl,cl⟩:=hl.cells hn0;have CP:=hid (fun k y m (h:p[k]? = some y)=>(BC w m _).trans (cp k y h));have CL:=hid (fun k y m (h:l[k]? = some y)=>(BC w m _).trans (cl k y h));clear hp hl hpb hlb cp cl hbp hbl
 go_enter Tryz.func176,Tryz.ntmps176
 go_wp2_with fail
 go_loop [7] (fun t=>∃ k:Nat,k<=n∧t=vI k∧∀ j,j<k→p.getD j 0<x) (fun t=>n - (intOf t).toNat)
 case atStart=>exact ⟨0,by omega,rfl,fun j hj=>by omega⟩
 case round =>
  obtain ⟨k,hk,rfl,hall⟩:=hrel;have HAL:=hid hall;clear hall
  by_cases hlt:k<n
  rotate_left
  ·have hkn:k=n:=by omega
   have e0:((k:Int) == 0)=false:=Aw (by omega)
   have e1:((k:Int) == (n:Int))=true:=by rw [beq_iff_eq];omega
   obtain ⟨m,hm⟩:∃ m,n=m+1:=⟨n - 1,by omega⟩;obtain ⟨v,hv⟩:=Am HLL.out (show m<n by omega)
   have HR:=hid (show Pe.iv (p.zip l) x=v by
    rw [← Ah (d:=0) hv]
    have hm':p.length=m+1:=HPL.out.trans hm;have hl':l.length=p.length:=HLL.out.trans HPL.out.symm
    exact Pe.iv_last (p.zip l) m (p.getD m 0,l.getD m 0) x (by simp;omega) (Pe.zip_get hl' (by omega)) (fun j q hq=>by
     obtain ⟨h1,h2⟩:=Pe.zip_get_inv hq
     rw [h2];exact HAL.out j (by have:=HPL.out;omega)))
   have c0:w.cell? ⟨bl,ol+m,none⟩=some (vI v):=CL.out m v 0 hv
   have s1:IntKind.i64.wrap ((k:Int) - 1)=(m:Int):=by rw [(iW _)];omega
   have s2:(k:Int) - 1=(m:Int):=by omega
   have hmn:m<n:=by omega
   have hlt2:decide (k<n)=false:=BJ hlt;have HKN:=hid hkn;have HM:=hid hm;clear hkn hm hv hlt
   go_wp2_with fail
   go_ret
   exact ⟨Af HR.out.symm,0,rfl⟩
  obtain ⟨b,hb⟩:=Am HPL.out hlt;obtain ⟨b0,b1⟩:=HPB.out b (Au hb);have c0:w.cell? ⟨bp,op+k,none⟩=some (vI b):=CP.out k b 0 hb;have HG:=hid (show p.getD k 0=b from Ah hb)
  by_cases hbx:b<x
  ·clear hb
   go_wp2_with fail
   go_round
   case rel=>exact ⟨k+1,by omega,by go_num,fun j hj=>by
    by_cases e:j=k
    ·subst e;rw [HG.out];exact hbx
    ·exact HAL.out j (by omega)⟩
   case measure=>exact zMs
  by_cases hk0:k=0
  ·have e0:((k:Int) == 0)=true:=by rw [beq_iff_eq];omega
   obtain ⟨v,hv⟩:=Am HLL.out hn0
   have HR:=hid (show Pe.iv (p.zip l) x=v by
    rw [← Ah (d:=0) hv]
    exact Pe.iv_ref_hd (HLL.out.trans HPL.out.symm) (by rw [HPL.out];exact hn0) (by rw [← hk0,HG.out];omega))
   have c1:w.cell? ⟨bl,ol,none⟩=some (vI v):=CL.out 0 v 0 hv;have HK0:=hid hk0;clear hk0 hb hv
   go_wp2_with fail
   go_ret
   exact ⟨Af HR.out.symm,0,rfl⟩
  obtain ⟨m,rfl⟩:∃ m,k=m+1:=⟨k - 1,by omega⟩;clear hk0
  rw [show ((m+1:Nat):Int)=(m:Int)+1 from by omega]
  obtain ⟨a,ha⟩:=Am HPL.out (show m<n by omega);obtain ⟨u,hu⟩:=Am HLL.out (show m<n by omega);obtain ⟨v,hv⟩:=Am HLL.out hlt;obtain ⟨a0,a1⟩:=HPB.out a (Au ha);obtain ⟨u0,u1⟩:=HLB.out u (Au hu);obtain ⟨v0,v1⟩:=HLB.out v (Au hv)
  have hax:a<x:=by rw [← Ah (d:=0) ha];exact HAL.out m (by omega)
  have HR:=hid (show Pe.iv (p.zip l) x=Pe.ip a b u v x by
   have hl':l.length=p.length:=HLL.out.trans HPL.out.symm
   rw [Pe.iv_seg (p.zip l) m _ _ x (Pe.zip_get hl' (by have:=HPL.out;omega)) (Pe.zip_get hl' (by have:=HPL.out;omega)) (fun j q hj hq=>by
     obtain ⟨h1,h2⟩:=Pe.zip_get_inv hq
     rw [h2];exact HAL.out j (by omega)) (by show x<=p.getD (m+1) 0;rw [HG.out];omega)]
   rw [Ah ha,HG.out,Ah hu,Ah hv])
  obtain ⟨i0,i1⟩:=Pe.ip_bd (lo:=0) (hi:=50000) (x:=x) (show a<=x by omega) (show x<=b by omega) (by omega) ⟨u0,u1⟩ ⟨v0,v1⟩;have HIP:=hid (show Pe.ip a b u v x=u+(v - u) * (x - a) / (b - a) from rfl);generalize Pe.ip a b u v x=R at *;have HPD:=hid (Tc (d:=v - u) (e:=x - a) ⟨by omega,by omega⟩ ⟨by omega,by omega⟩);have HFL:=hid (fun w=>Z4 ((v - u) * (x - a)) (b - a) (by have:=HPD.out;omega) (by have:=HPD.out;omega) (by omega) (by omega) w)
  have s1:IntKind.i64.wrap ((m:Int)+1 - 1)=(m:Int):=by rw [(iW _)];omega
  have s0:IntKind.i64.wrap (m:Int)=(m:Int):=iW _
  have hmn:m<n:=by omega
  have hmn2:(m:Int)<(n:Int):=by omega
  have hmn3:(m:Int)+1<(n:Int):=by omega
  have e0:((m:Int)+1 == 0)=false:=Aw (by omega);have e1:((m:Int)+1 == (n:Int))=false:=Aw (by omega);have q1:∀ m',(w.drewN m').cell? ⟨bp,op+m,none⟩=some (vI a):=fun m'=>CP.out m a m' ha;have q2:∀ m',(w.drewN m').cell? ⟨bp,op+(m+1),none⟩=some (vI b):=fun m'=>CP.out (m+1) b m' hb;have q3:∀ m',(w.drewN m').cell? ⟨bl,ol+m,none⟩=some (vI u):=fun m'=>CL.out m u m' hu;have q4:∀ m',(w.drewN m').cell? ⟨bl,ol+(m+1),none⟩=some (vI v):=fun m'=>CL.out (m+1) v m' hv;clear ha hu hv hb
  go_wp2_with fail
  go_quiet (fail)
  clear s1 s0 q1 q2 q3 q4;obtain ⟨d0,d1⟩:=HPD.out
  go_wp2_with fail
  refine (HFL.out _).mono ?_;rintro e w2 ⟨rfl,q,rfl⟩
  have HR2:=hid (HR.out.trans HIP.out)
  have g1:0<=u+(v - u) * (x - a) / (b - a):=by rw [← HIP.out];exact i0
  have g2:u+(v - u) * (x - a) / (b - a)<=50000:=by rw [← HIP.out];exact i1
  go_wp2_with fail
  go_ret
  exact ⟨Af HR2.out.symm,_,by first | rfl | exact World.drewN_drewN _ _ _⟩
theorem Mq (A B:Option Addr) (n c d:Nat) (p l:List Int) (x:Int) (w:World) (hp:Ints w A n p) (hl:Ints w B n l) (hn0:0<n) (hn:n<=12) (hasc:Pe.Asc p) (hpb:∀ y ∈ p,-200000<=y∧y<=3000000000) (hlb:∀ y ∈ l,0<=y∧y<=50000) (hx : -200000<=x∧x<=3000000000):Calls Tryz.prog 158 #[.slice A n c,.slice B n d,vI x] w fun e w'=>e=.returned (vI (Pe.iv (p.zip l) x))∧∃ q,w'=w.drewN q:=by
 have HASC:=hid hasc;clear hasc;have HP:=hid hp;have HQ:=hid hl;have HPL:=hid hp.len;have HLL:=hid hl.len;have HPB:=hid hpb;have HLB:=hid hlb;obtain ⟨x0,x1⟩:=hx;obtain ⟨bp,op,rfl,hbp,cp⟩:=hp.cells hn0;obtain ⟨bl,ol,rfl,hbl,cl⟩:=hl.cells hn0;have CP:=hid (fun k y m (h:p[k]? = some y)=>(BC w m _).trans (cp k y h));have CL:=hid (fun k y m (h:l[k]? = some y)=>(BC w m _).trans (cl k y h));clear hp hl hpb hlb cp cl hbp hbl;have HLP:=hid (HLL.out.trans HPL.out.symm);obtain ⟨m,hm⟩:∃ m,n=m+1:=⟨n - 1,by omega⟩;obtain ⟨a0v,ha0⟩:=Am HPL.out hn0;obtain ⟨l0v,hl0⟩:=Am HLL.out hn0;obtain ⟨a9,ha9⟩:=Am HPL.out (show m<n by omega);obtain ⟨l9,hl9⟩:=Am HLL.out (show m<n by omega);have c0:w.cell? ⟨bp,op,none⟩=some (vI a0v):=CP.out 0 a0v 0 ha0;have c1:w.cell? ⟨bl,ol,none⟩=some (vI l0v):=CL.out 0 l0v 0 hl0;have c2:w.cell? ⟨bp,op+m,none⟩=some (vI a9):=CP.out m a9 0 ha9;have c3:w.cell? ⟨bl,ol+m,none⟩=some (vI l9):=CL.out m l9 0 hl9;have G0:=hid (Ah (d:=0) ha0);have G1:=hid (Ah (d:=0) hl0);have G2:=hid (Ah (d:=0) ha9);have G3:=hid (Ah (d:=0) hl9)
 have s1:IntKind.i64.wrap ((n:Int) - 1)=(m:Int):=by rw [(iW _)];omega
 have s2:(n:Int) - 1=(m:Int):=by omega
 have hmn:m<n:=by omega
 have HM:=hid hm;clear ha0 hl0 ha9 hl9 hm
 by_cases h1:x<=a0v
 ·have HR:=hid (show Pe.iv (p.zip l) x=l0v by
   rw [← G1.out];exact Pe.iv_ref_hd HLP.out (by rw [HPL.out];exact hn0) (by rw [G0.out];exact h1))
  exact X9
 by_cases h2:a9<=x
 ·have HR:=hid (show Pe.iv (p.zip l) x=l9 by
   rw [← G3.out];exact Pe.iv_ref_tl HLP.out (HPL.out.trans HM.out) HASC.out (by rw [G2.out];exact h2))
  exact X9
 go_enter Tryz.func158,Tryz.ntmps158
 go_wp2_with fail
 clear c0 c1 c2 c3 s1 s2
 go_loop [8] (fun t=>∃ k:Nat,k+1<n∧t=vI k∧p.getD k 0<=x) (fun t=>n - (intOf t).toNat)
 case atStart=>exact ⟨0,by
  rcases Nat.lt_or_ge 1 n with h | h
  ·omega
  ·have e1:=HM.out
   have e2:m=0:=by omega
   have e3:=G0.out;have e4:=G2.out
   rw [e2] at e4
   omega,rfl,by rw [G0.out];omega⟩
 case round =>
  obtain ⟨k,hk,rfl,hall⟩:=hrel;have HAL:=hid hall;clear hall;obtain ⟨a,ha⟩:=Am HPL.out (show k<n by omega);obtain ⟨b,hb⟩:=Am HPL.out hk;obtain ⟨a0,a1⟩:=HPB.out a (Au ha);obtain ⟨b0,b1⟩:=HPB.out b (Au hb);have HA:=hid (Ah (d:=0) ha);have HG:=hid (Ah (d:=0) hb);have c0:w.cell? ⟨bp,op+(k+1),none⟩=some (vI b):=CP.out _ b 0 hb
  by_cases hbx:b<=x
  ·clear hb ha
   go_wp2_with fail
   go_round
   case rel=>exact ⟨k+1,by
    have e1:=HM.out
    rcases Nat.lt_or_ge (k+1+1) n with h | h
    ·exact h
    ·have e2:m=k+1:=by omega
     have e3:=G2.out;have e4:=HG.out
     rw [e2] at e3
     omega,by go_num,by rw [HG.out];exact hbx⟩
   case measure=>exact zMs
  obtain ⟨u,hu⟩:=Am HLL.out (show k<n by omega);obtain ⟨v,hv⟩:=Am HLL.out hk;obtain ⟨u0,u1⟩:=HLB.out u (Au hu);obtain ⟨v0,v1⟩:=HLB.out v (Au hv)
  have hax:a<=x:=by rw [← HA.out];exact HAL.out
  have HR:=hid (show Pe.iv (p.zip l) x=Pe.ip a b u v x by
   rw [Pe.iv_ref_mid HLP.out (by rw [HPL.out];exact hk) HASC.out HAL.out (by rw [HG.out];omega),HA.out,HG.out,Ah hu,Ah hv])
  obtain ⟨i0,i1⟩:=Pe.ip_bd (lo:=0) (hi:=50000) (x:=x) hax (show x<=b by omega) (by omega) ⟨u0,u1⟩ ⟨v0,v1⟩;have HIP:=hid (show Pe.ip a b u v x=u+(v - u) * (x - a) / (b - a) from rfl);generalize Pe.ip a b u v x=R at *;have HPD:=hid (Tc (d:=v - u) (e:=x - a) ⟨by omega,by omega⟩ ⟨by omega,by omega⟩);have HFL:=hid (fun w=>Td ((v - u) * (x - a)) (b - a) (by have:=HPD.out;omega) (by have:=HPD.out;omega) (by omega) (by omega) w);have s1:=iW ((k:Int)+1)
  have s2:((k:Int)+1).toNat=k+1:=by omega
  have s3:0<=(k:Int)+1:=by omega
  have hk1:k<n:=by omega
  have hk2:(k:Int)<(n:Int):=by omega
  have hk3:(k:Int)+1<(n:Int):=by omega
  have d1:=iW (v - u);have d2:=iW (x - a);have d3:=iW (b - a);have d4:IntKind.i64.wrap ((v - u) * (x - a))=(v - u) * (x - a):=IntWalk.i64_in _ (by have:=HPD.out;omega);have q1:∀ m',(w.drewN m').cell? ⟨bp,op+k,none⟩=some (vI a):=fun m'=>CP.out k a m' ha;have q2:∀ m',(w.drewN m').cell? ⟨bp,op+(k+1),none⟩=some (vI b):=fun m'=>CP.out (k+1) b m' hb;have q3:∀ m',(w.drewN m').cell? ⟨bl,ol+k,none⟩=some (vI u):=fun m'=>CL.out k u m' hu;have q4:∀ m',(w.drewN m').cell? ⟨bl,ol+(k+1),none⟩=some (vI v):=fun m'=>CL.out (k+1) v m' hv;have q5:w.cell? ⟨bl,ol+k,none⟩=some (vI u):=CL.out k u 0 hu;clear ha hu hv hb
  go_wp2_with fail
  go_quiet ((go_at_call 198;exact Calls.quiet_of_same (Ux (HFL.out _))))
  clear s1 s2 s3 d1 d2 d3 d4 q1 q2 q3 q4;have HR2:=hid (HR.out.trans HIP.out)
  have g1:0<=u+(v - u) * (x - a) / (b - a):=by rw [← HIP.out];exact i0
  have g2:u+(v - u) * (x - a) / (b - a)<=50000:=by rw [← HIP.out];exact i1
  have q6:(w.drewN nq).cell? ⟨bl,ol+k,none⟩=some (vI u):=q5
  go_wp2_with fail
  go_ret
  exact ⟨Af HR2.out.symm,_,by first | rfl | exact World.drewN_drewN _ _ _⟩
