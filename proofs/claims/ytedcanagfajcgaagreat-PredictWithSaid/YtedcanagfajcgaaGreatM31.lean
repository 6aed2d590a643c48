/- M31: SimChk, SpPlain, TrB, TrC in one text. -/
import Derived.Test.YtedcanagfajcgaaGreatM1
import Derived.Test.YtedcanagfajcgaaGreatM32
set_option linter.unusedSimpArgs false
set_option linter.unusedVariables false
set_option maxRecDepth 100000
set_option maxHeartbeats 2000000
namespace Go.Proofs
theorem JU{G:Prop}(h:G:=by
  go_wp2_with fail
  refine (HN.out _).mono ?_;rintro e w1 ⟨rfl,rfl⟩
  go_wp2_with fail
  refine (HQ.out _).mono ?_;rintro e w1 ⟨rfl,rfl⟩
  go_wp2_with fail
  go_ret
  exact ⟨Af (by rw [HV.out]),rfl⟩):G:=h
theorem Ig{G:Prop}(h:G:=by
  go_wp2
  go_ret
  exact ⟨Ao (by rw [hv.out,Bool.eq_iff_iff];simp;try omega),(AJ _ _).alloc (Bn _) _⟩):G:=h
theorem MU{G:Prop}(h:G:=by
  go_wp2_with fail
  refine (HS.out _).mono ?_;rintro e w1 ⟨rfl,rfl⟩
  go_wp2_with fail
  go_ret
  exact ⟨Af (by rw [hv.out]),rfl⟩):G:=h
end Go.Proofs
namespace Go.Proofs.YtedcanagfajcgaaGreat
open Go.RowKit
open Go.Lib (hid)
theorem Ada (x y:Int) (w:World):Calls Tryz.prog 207 #[.agg #[vI x,vI y]] w fun e w'=>e=.returned (.bool (ptB x y))∧Below w.heap.size w w':=by
 have hv:=hid (show ptB x y=((decide (-2000000<=x) && decide (x<=2000000)) && (decide (-2000000<=y) && decide (y<=2000000))) from rfl)
 by_cases h1:x < -2000000
 ·go_enter Tryz.func207,Tryz.ntmps207
  exact Ig
 by_cases h2:2000000<x
 ·go_enter Tryz.func207,Tryz.ntmps207
  exact Ig
 by_cases h3:y < -2000000
 ·go_enter Tryz.func207,Tryz.ntmps207
  exact Ig
 by_cases h4:2000000<y
 ·go_enter Tryz.func207,Tryz.ntmps207
  exact Ig
 ·go_enter Tryz.func207,Tryz.ntmps207
  exact Ig
theorem QW (x y:Int) (w:World):Calls Tryz.prog 202 #[.agg #[vI x,vI y]] w fun e w'=>e=.returned (.bool (ptB x y))∧Below w.heap.size w w':=by
 have hv:=hid (show ptB x y=((decide (-2000000<=x) && decide (x<=2000000)) && (decide (-2000000<=y) && decide (y<=2000000))) from rfl)
 by_cases h1:x < -2000000
 ·go_enter Tryz.func202,Tryz.ntmps202
  exact Ig
 by_cases h2:2000000<x
 ·go_enter Tryz.func202,Tryz.ntmps202
  exact Ig
 by_cases h3:y < -2000000
 ·go_enter Tryz.func202,Tryz.ntmps202
  exact Ig
 by_cases h4:2000000<y
 ·go_enter Tryz.func202,Tryz.ntmps202
  exact Ig
 ·go_enter Tryz.func202,Tryz.ntmps202
  exact Ig
end Go.Proofs.YtedcanagfajcgaaGreat
namespace Go.Proofs.Sp
open Pf (okD)
abbrev Wins:=List (Int × Int)
def okV (x:Int):Prop:=0<=x∧x<=1000
instance (x:Int):Decidable (okV x):=by unfold okV;infer_instance
def okP (p:Int × Int):Prop:=okV p.1∧okV p.2
instance (p:Int × Int):Decidable (okP p):=by unfold okP;infer_instance
def stE (d:List Int) (a c:Int):Int:=if 64<=d.length then 3 else if ¬ (okV a∧okV c) then 2 else if ∀ x ∈ d,okD x then 0 else 2
def stF (a c x:Int):Int × Int:=(a * x / 6000,c * x / 6000)
def stL (d:List Int) (a c:Int):Wins:=d.map (stF a c)
theorem Aa8 {d:List Int} {a c:Int} (h:64<=d.length):stE d a c=3:=by unfold stE;rw [if_pos h]
theorem Tz {d:List Int} {a c:Int} (h:¬ 64<=d.length) (h2:¬ (okV a∧okV c)):stE d a c=2:=by unfold stE;rw [if_neg h,if_pos h2]
theorem Aa9 {d:List Int} {a c x:Int} (h:¬ 64<=d.length) (h2:okV a∧okV c) (hx:x ∈ d) (h3:¬ okD x):stE d a c=2:=by unfold stE;rw [if_neg h,if_neg (fun k=>k h2),if_neg (fun k=>h3 (k x hx))]
theorem stE_0 {d:List Int} {a c:Int} (h:¬ 64<=d.length) (h2:okV a∧okV c) (h3:∀ x ∈ d,okD x):stE d a c=0:=by unfold stE;rw [if_neg h,if_neg (fun k=>k h2),if_pos h3]
theorem st_prod {a x:Int} (ha:okV a) (hx:okD x):0<=a * x∧a * x<=8000000000∧0<=a * x / 6000∧a * x / 6000<=1333334:=by
 unfold okV at ha
 unfold okD at hx
 have h1:0<=a * x:=BM ha.1 hx.1;have h2:a * x<=1000 * 8000000:=Int.mul_le_mul ha.2 hx.2 hx.1 (by omega)
 refine ⟨h1,by omega,by omega,by omega⟩
def rdE (zs ys:Wins):Int:=if Cs.chkE zs ys≠0 then Cs.chkE zs ys else if ∀ p ∈ zs,okP p then 0 else 2
theorem Aa2 {zs ys:Wins} (h:Cs.chkE zs ys≠0):rdE zs ys=Cs.chkE zs ys:=by unfold rdE;rw [if_pos h]
theorem Aa1 {zs ys:Wins} {p:Int × Int} (h:Cs.chkE zs ys=0) (hp:p ∈ zs) (h2:¬ okP p):rdE zs ys=2:=by unfold rdE;rw [if_neg (by omega),if_neg (fun k=>h2 (k p hp))]
theorem rdE_ok {zs ys:Wins} (h:Cs.chkE zs ys=0) (h2:∀ p ∈ zs,okP p):rdE zs ys=0:=by unfold rdE;rw [if_neg (by omega),if_pos h2]
theorem rdE_0 {zs ys:Wins} (h:rdE zs ys=0):Cs.chkE zs ys=0∧∀ p ∈ zs,okP p:=by
 by_cases hc:Cs.chkE zs ys=0
 ·by_cases h2:∀ p ∈ zs,okP p
  ·exact ⟨hc,h2⟩
  ·unfold rdE at h;rw [if_neg (by omega),if_neg h2] at h;omega
 ·rw [Aa2 hc] at h;omega
def okG (x:Int):Prop:=1<=x∧x<=5000
instance (x:Int):Decidable (okG x):=by unfold okG;infer_instance
end Go.Proofs.Sp
namespace Go.Proofs.YtedcanagfajcgaaGreat
open Go.RowKit
open Go.Lib (hid)
open Tr
def ser (u:Int) (ns:List Int):Nat→Int
 | 0=>2147483648
 | k+1=>stp u (ser u ns k) (ns.getD k 2)
theorem JC {u:Int} {ns:List Int} (hu:0<=u) (hU:u<=2147483648) (hn:∀ k,2<=ns.getD k 2):∀ k,0<=ser u ns k∧ser u ns k<=2147483648
 | 0=>⟨(by decide:(0:Int)<=2147483648),(by decide:(2147483648:Int)<=2147483648)⟩
 | k+1=>BV hu hU (JC hu hU hn k).1 (JC hu hU hn k).2 (hn k)
def sinN:List Int:=[110,72,42,20,6]
def cosN:List Int:=[90,56,30,12,2]
theorem Tu:∀ k,2<=sinN.getD k 2
 | 0=>by decide
 | 1=>by decide
 | 2=>by decide
 | 3=>by decide
 | 4=>by decide
 | k+5=>by simp [sinN]
theorem R6:∀ k,2<=cosN.getD k 2
 | 0=>by decide
 | 1=>by decide
 | 2=>by decide
 | 3=>by decide
 | 4=>by decide
 | k+5=>by simp [cosN]
theorem PK (a:Int):Fz a=(mul (tV a) (ser (uV a) sinN 5)+1) / 2:=rfl
theorem OJ (a:Int):IM a=(ser (uV a) cosN 5+1) / 2:=rfl
theorem Kj (u n:Int):2147483648 - (u+n / 2) / n=stp u 2147483648 n:=by unfold stp;rw [WJ]
theorem AeQ (a:Int) (h0:0<=a) (h1:a<=16200000) (w:World):Calls Tryz.prog 235 #[.int .i64 a] w fun e w'=>e=.returned (.int .i64 (Fz a))∧w=w':=by
 have tb:=Hu h0 h1;have ub:=Hz h0 h1;have hv:=hid (PK a);have HT:=hid (show (a * 6746518852+32400000) / 64800000=tV a from rfl);have HM:=hid (MK (tV a) (tV a) ⟨by omega,by omega⟩ ⟨by omega,by omega⟩)
 rw [show mul (tV a) (tV a)=uV a from rfl] at HM
 have HS:=hid (JC (u:=uV a) (ns:=sinN) ub.1 (by omega) Tu);have HU:=hid (fun n=>Kj (uV a) n);generalize uV a=u at *;generalize tV a=T at *;have HXM:=hid (fun y (hy:0<=y∧y<=2147483648)=>MK u y ⟨ub.1,by omega⟩ hy);have HXT:=hid (fun y (hy:0<=y∧y<=2147483648)=>MK T y ⟨tb.1,by omega⟩ hy);obtain ⟨t0,t1⟩:=tb;obtain ⟨u0,u1⟩:=ub
 have i0:∀ w,(Instr.index 213 (.agg #[.int .i64 110,.int .i64 72,.int .i64 42,.int .i64 20,.int .i64 6]) (.int .i64 0)).run Tryz.prog w=.ok (.int .i64 110) w:=fun _=>by kernel_rfl
 have I0:=hid i0;clear i0
 have i1:∀ w,(Instr.index 213 (.agg #[.int .i64 110,.int .i64 72,.int .i64 42,.int .i64 20,.int .i64 6]) (.int .i64 1)).run Tryz.prog w=.ok (.int .i64 72) w:=fun _=>by kernel_rfl
 have I1:=hid i1;clear i1
 have i2:∀ w,(Instr.index 213 (.agg #[.int .i64 110,.int .i64 72,.int .i64 42,.int .i64 20,.int .i64 6]) (.int .i64 2)).run Tryz.prog w=.ok (.int .i64 42) w:=fun _=>by kernel_rfl
 have I2:=hid i2;clear i2
 have i3:∀ w,(Instr.index 213 (.agg #[.int .i64 110,.int .i64 72,.int .i64 42,.int .i64 20,.int .i64 6]) (.int .i64 3)).run Tryz.prog w=.ok (.int .i64 20) w:=fun _=>by kernel_rfl
 have I3:=hid i3;clear i3
 have i4:∀ w,(Instr.index 213 (.agg #[.int .i64 110,.int .i64 72,.int .i64 42,.int .i64 20,.int .i64 6]) (.int .i64 4)).run Tryz.prog w=.ok (.int .i64 6) w:=fun _=>by kernel_rfl
 have I4:=hid i4;clear i4
 go_enter Tryz.func235,Tryz.ntmps235
 go_wp2_with fail
 rw [HT.out]
 refine (HM.out _).mono ?_;rintro e w1 ⟨rfl,rfl⟩
 go_wp2_with fail
 go_loop [5,17] (fun r i=>∃ k:Nat,k<=5∧i=.int .i64 k∧r=.int .i64 (ser u sinN k)) (fun _ i=>5 - (intOf i).toNat)
 case atStart=>exact ⟨0,by omega,rfl,rfl⟩
 case round =>
  obtain ⟨k,hk,rfl,rfl⟩:=hrel
  rcases (show k=0∨k=1∨k=2∨k=3∨k=4∨k=5 by omega) with rfl | rfl | rfl | rfl | rfl | rfl
  ·have i0:=I0.out
   go_wp2_with fail
   refine (Ib u 110 ⟨u0,by omega⟩ ⟨by decide,by decide⟩ _).mono ?_;rintro e w2 ⟨rfl,rfl⟩
   have hb:=HS.out 1;have HV:=hid (show 2147483648 - (u+110 / 2) / 110=ser u sinN 1 from HU.out 110);have q:=Bp (m:=u) (n:=110) u0 (by decide);obtain ⟨q0,q1⟩:=q;obtain ⟨V,hV⟩:∃ V,(u+110 / 2) / 110=V:=⟨_,rfl⟩
   rw [hV] at HV q0 q1
   have e1:(u+110 / 2) / 110=V:=hV;clear hV hb
   rw [show ((u+110 / 2) / 110:Int)=V from e1]
   clear e1
   go_wp2_with fail
   go_round
   case rel=>exact ⟨1,by omega,rfl,by rw [← HV.out]⟩
   case measure=>exact zMs
  ·have i1:=I1.out
   have hb:=HS.out 1;have HV:=hid (show 2147483648 - (mul u (ser u sinN 1)+72 / 2) / 72=ser u sinN 2 from rfl);have HXQ:=hid (HXM.out (ser u sinN 1) hb);have mb:=Tr.mul_bd u0 hb.1 hb.2;clear hb;generalize ser u sinN 1=r at *;generalize mul u r=m at *;obtain ⟨m0,m1⟩:=mb;have q:=Bp (m:=m) (n:=72) m0 (by decide);obtain ⟨q0,q1⟩:=q;have HD:=hid (Ib m 72 ⟨m0,by omega⟩ ⟨by decide,by decide⟩);generalize (m+72 / 2) / 72=V at *
   go_wp2_with fail
   refine (HXQ.out _).mono ?_;rintro e w2 ⟨rfl,rfl⟩
   go_wp2_with fail
   refine (HD.out _).mono ?_;rintro e w3 ⟨rfl,rfl⟩
   go_wp2_with fail
   go_round
   case rel=>exact ⟨2,by omega,rfl,by rw [← HV.out]⟩
   case measure=>exact zMs
  ·have i2:=I2.out
   have hb:=HS.out 2;have HV:=hid (show 2147483648 - (mul u (ser u sinN 2)+42 / 2) / 42=ser u sinN 3 from rfl);have HXQ:=hid (HXM.out (ser u sinN 2) hb);have mb:=Tr.mul_bd u0 hb.1 hb.2;clear hb;generalize ser u sinN 2=r at *;generalize mul u r=m at *;obtain ⟨m0,m1⟩:=mb;have q:=Bp (m:=m) (n:=42) m0 (by decide);obtain ⟨q0,q1⟩:=q;have HD:=hid (Ib m 42 ⟨m0,by omega⟩ ⟨by decide,by decide⟩);generalize (m+42 / 2) / 42=V at *
   go_wp2_with fail
   refine (HXQ.out _).mono ?_;rintro e w2 ⟨rfl,rfl⟩
   go_wp2_with fail
   refine (HD.out _).mono ?_;rintro e w3 ⟨rfl,rfl⟩
   go_wp2_with fail
   go_round
   case rel=>exact ⟨3,by omega,rfl,by rw [← HV.out]⟩
   case measure=>exact zMs
  ·have i3:=I3.out
   have hb:=HS.out 3;have HV:=hid (show 2147483648 - (mul u (ser u sinN 3)+20 / 2) / 20=ser u sinN 4 from rfl);have HXQ:=hid (HXM.out (ser u sinN 3) hb);have mb:=Tr.mul_bd u0 hb.1 hb.2;clear hb;generalize ser u sinN 3=r at *;generalize mul u r=m at *;obtain ⟨m0,m1⟩:=mb;have q:=Bp (m:=m) (n:=20) m0 (by decide);obtain ⟨q0,q1⟩:=q;have HD:=hid (Ib m 20 ⟨m0,by omega⟩ ⟨by decide,by decide⟩);generalize (m+20 / 2) / 20=V at *
   go_wp2_with fail
   refine (HXQ.out _).mono ?_;rintro e w2 ⟨rfl,rfl⟩
   go_wp2_with fail
   refine (HD.out _).mono ?_;rintro e w3 ⟨rfl,rfl⟩
   go_wp2_with fail
   go_round
   case rel=>exact ⟨4,by omega,rfl,by rw [← HV.out]⟩
   case measure=>exact zMs
  ·have i4:=I4.out
   have hb:=HS.out 4;have HV:=hid (show 2147483648 - (mul u (ser u sinN 4)+6 / 2) / 6=ser u sinN 5 from rfl);have HXQ:=hid (HXM.out (ser u sinN 4) hb);have mb:=Tr.mul_bd u0 hb.1 hb.2;clear hb;generalize ser u sinN 4=r at *;generalize mul u r=m at *;obtain ⟨m0,m1⟩:=mb;have q:=Bp (m:=m) (n:=6) m0 (by decide);obtain ⟨q0,q1⟩:=q;have HD:=hid (Ib m 6 ⟨m0,by omega⟩ ⟨by decide,by decide⟩);generalize (m+6 / 2) / 6=V at *
   go_wp2_with fail
   refine (HXQ.out _).mono ?_;rintro e w2 ⟨rfl,rfl⟩
   go_wp2_with fail
   refine (HD.out _).mono ?_;rintro e w3 ⟨rfl,rfl⟩
   go_wp2_with fail
   go_round
   case rel=>exact ⟨5,by omega,rfl,by rw [← HV.out]⟩
   case measure=>exact zMs
  ·have hb:=HS.out 5
   have HXQ:=hid (HXT.out (ser u sinN 5) hb);have mb:=Tr.mul_bd t0 hb.1 hb.2;obtain ⟨m0,m1⟩:=mb;clear hb;generalize ser u sinN 5=r at *;generalize mul T r=m at *
   go_wp2_with fail
   refine (HXQ.out _).mono ?_;rintro e w2 ⟨rfl,rfl⟩
   go_wp2_with fail
   go_ret
   exact ⟨Af (by rw [hv.out]),rfl⟩
theorem AeG (a:Int) (h0:0<=a) (h1:a<=16200000) (w:World):Calls Tryz.prog 236 #[.int .i64 a] w fun e w'=>e=.returned (.int .i64 (IM a))∧w=w':=by
 have tb:=Hu h0 h1;have ub:=Hz h0 h1;have hv:=hid (OJ a);have HT:=hid (show (a * 6746518852+32400000) / 64800000=tV a from rfl);have HM:=hid (MK (tV a) (tV a) ⟨by omega,by omega⟩ ⟨by omega,by omega⟩)
 rw [show mul (tV a) (tV a)=uV a from rfl] at HM
 have HS:=hid (JC (u:=uV a) (ns:=cosN) ub.1 (by omega) R6);have HU:=hid (fun n=>Kj (uV a) n);generalize uV a=u at *;generalize tV a=T at *;have HXM:=hid (fun y (hy:0<=y∧y<=2147483648)=>MK u y ⟨ub.1,by omega⟩ hy);have HXT:=hid (fun y (hy:0<=y∧y<=2147483648)=>MK T y ⟨tb.1,by omega⟩ hy);obtain ⟨t0,t1⟩:=tb;obtain ⟨u0,u1⟩:=ub
 have i0:∀ w,(Instr.index 213 (.agg #[.int .i64 90,.int .i64 56,.int .i64 30,.int .i64 12,.int .i64 2]) (.int .i64 0)).run Tryz.prog w=.ok (.int .i64 90) w:=fun _=>by kernel_rfl
 have I0:=hid i0;clear i0
 have i1:∀ w,(Instr.index 213 (.agg #[.int .i64 90,.int .i64 56,.int .i64 30,.int .i64 12,.int .i64 2]) (.int .i64 1)).run Tryz.prog w=.ok (.int .i64 56) w:=fun _=>by kernel_rfl
 have I1:=hid i1;clear i1
 have i2:∀ w,(Instr.index 213 (.agg #[.int .i64 90,.int .i64 56,.int .i64 30,.int .i64 12,.int .i64 2]) (.int .i64 2)).run Tryz.prog w=.ok (.int .i64 30) w:=fun _=>by kernel_rfl
 have I2:=hid i2;clear i2
 have i3:∀ w,(Instr.index 213 (.agg #[.int .i64 90,.int .i64 56,.int .i64 30,.int .i64 12,.int .i64 2]) (.int .i64 3)).run Tryz.prog w=.ok (.int .i64 12) w:=fun _=>by kernel_rfl
 have I3:=hid i3;clear i3
 have i4:∀ w,(Instr.index 213 (.agg #[.int .i64 90,.int .i64 56,.int .i64 30,.int .i64 12,.int .i64 2]) (.int .i64 4)).run Tryz.prog w=.ok (.int .i64 2) w:=fun _=>by kernel_rfl
 have I4:=hid i4;clear i4
 go_enter Tryz.func236,Tryz.ntmps236
 go_wp2_with fail
 rw [HT.out]
 refine (HM.out _).mono ?_;rintro e w1 ⟨rfl,rfl⟩
 go_wp2_with fail
 go_loop [5,17] (fun r i=>∃ k:Nat,k<=5∧i=.int .i64 k∧r=.int .i64 (ser u cosN k)) (fun _ i=>5 - (intOf i).toNat)
 case atStart=>exact ⟨0,by omega,rfl,rfl⟩
 case round =>
  obtain ⟨k,hk,rfl,rfl⟩:=hrel
  rcases (show k=0∨k=1∨k=2∨k=3∨k=4∨k=5 by omega) with rfl | rfl | rfl | rfl | rfl | rfl
  ·have i0:=I0.out
   go_wp2_with fail
   refine (Ib u 90 ⟨u0,by omega⟩ ⟨by decide,by decide⟩ _).mono ?_;rintro e w2 ⟨rfl,rfl⟩
   have hb:=HS.out 1;have HV:=hid (show 2147483648 - (u+90 / 2) / 90=ser u cosN 1 from HU.out 90);have q:=Bp (m:=u) (n:=90) u0 (by decide);obtain ⟨q0,q1⟩:=q;obtain ⟨V,hV⟩:∃ V,(u+90 / 2) / 90=V:=⟨_,rfl⟩
   rw [hV] at HV q0 q1
   have e1:(u+90 / 2) / 90=V:=hV;clear hV hb
   rw [show ((u+90 / 2) / 90:Int)=V from e1]
   clear e1
   go_wp2_with fail
   go_round
   case rel=>exact ⟨1,by omega,rfl,by rw [← HV.out]⟩
   case measure=>exact zMs
  ·have i1:=I1.out
   have hb:=HS.out 1;have HV:=hid (show 2147483648 - (mul u (ser u cosN 1)+56 / 2) / 56=ser u cosN 2 from rfl);have HXQ:=hid (HXM.out (ser u cosN 1) hb);have mb:=Tr.mul_bd u0 hb.1 hb.2;clear hb;generalize ser u cosN 1=r at *;generalize mul u r=m at *;obtain ⟨m0,m1⟩:=mb;have q:=Bp (m:=m) (n:=56) m0 (by decide);obtain ⟨q0,q1⟩:=q;have HD:=hid (Ib m 56 ⟨m0,by omega⟩ ⟨by decide,by decide⟩);generalize (m+56 / 2) / 56=V at *
   go_wp2_with fail
   refine (HXQ.out _).mono ?_;rintro e w2 ⟨rfl,rfl⟩
   go_wp2_with fail
   refine (HD.out _).mono ?_;rintro e w3 ⟨rfl,rfl⟩
   go_wp2_with fail
   go_round
   case rel=>exact ⟨2,by omega,rfl,by rw [← HV.out]⟩
   case measure=>exact zMs
  ·have i2:=I2.out
   have hb:=HS.out 2;have HV:=hid (show 2147483648 - (mul u (ser u cosN 2)+30 / 2) / 30=ser u cosN 3 from rfl);have HXQ:=hid (HXM.out (ser u cosN 2) hb);have mb:=Tr.mul_bd u0 hb.1 hb.2;clear hb;generalize ser u cosN 2=r at *;generalize mul u r=m at *;obtain ⟨m0,m1⟩:=mb;have q:=Bp (m:=m) (n:=30) m0 (by decide);obtain ⟨q0,q1⟩:=q;have HD:=hid (Ib m 30 ⟨m0,by omega⟩ ⟨by decide,by decide⟩);generalize (m+30 / 2) / 30=V at *
   go_wp2_with fail
   refine (HXQ.out _).mono ?_;rintro e w2 ⟨rfl,rfl⟩
   go_wp2_with fail
   refine (HD.out _).mono ?_;rintro e w3 ⟨rfl,rfl⟩
   go_wp2_with fail
   go_round
   case rel=>exact ⟨3,by omega,rfl,by rw [← HV.out]⟩
   case measure=>exact zMs
  ·have i3:=I3.out
   have hb:=HS.out 3;have HV:=hid (show 2147483648 - (mul u (ser u cosN 3)+12 / 2) / 12=ser u cosN 4 from rfl);have HXQ:=hid (HXM.out (ser u cosN 3) hb);have mb:=Tr.mul_bd u0 hb.1 hb.2;clear hb;generalize ser u cosN 3=r at *;generalize mul u r=m at *;obtain ⟨m0,m1⟩:=mb;have q:=Bp (m:=m) (n:=12) m0 (by decide);obtain ⟨q0,q1⟩:=q;have HD:=hid (Ib m 12 ⟨m0,by omega⟩ ⟨by decide,by decide⟩);generalize (m+12 / 2) / 12=V at *
   go_wp2_with fail
   refine (HXQ.out _).mono ?_;rintro e w2 ⟨rfl,rfl⟩
   go_wp2_with fail
   refine (HD.out _).mono ?_;rintro e w3 ⟨rfl,rfl⟩
   go_wp2_with fail
   go_round
   case rel=>exact ⟨4,by omega,rfl,by rw [← HV.out]⟩
   case measure=>exact zMs
  ·have i4:=I4.out
   have hb:=HS.out 4;have HV:=hid (show 2147483648 - (mul u (ser u cosN 4)+2 / 2) / 2=ser u cosN 5 from rfl);have HXQ:=hid (HXM.out (ser u cosN 4) hb);have mb:=Tr.mul_bd u0 hb.1 hb.2;clear hb;generalize ser u cosN 4=r at *;generalize mul u r=m at *;obtain ⟨m0,m1⟩:=mb;have q:=Bp (m:=m) (n:=2) m0 (by decide);obtain ⟨q0,q1⟩:=q;have HD:=hid (Ib m 2 ⟨m0,by omega⟩ ⟨by decide,by decide⟩);generalize (m+2 / 2) / 2=V at *
   go_wp2_with fail
   refine (HXQ.out _).mono ?_;rintro e w2 ⟨rfl,rfl⟩
   go_wp2_with fail
   refine (HD.out _).mono ?_;rintro e w3 ⟨rfl,rfl⟩
   go_wp2_with fail
   go_round
   case rel=>exact ⟨5,by omega,rfl,by rw [← HV.out]⟩
   case measure=>exact zMs
  ·have hb:=HS.out 5
   obtain ⟨m0,m1⟩:=hb;generalize ser u cosN 5=r at *
   go_wp2_with fail
   go_ret
   exact ⟨Af (by rw [hv.out]),rfl⟩
theorem Aeg (a:Int) (h0:0<=a) (h1:a<=16200000) (w:World):Calls Tryz.prog 240 #[.int .i64 a] w fun e w'=>e=.returned (.tuple #[.int .i64 (tV a),.int .i64 (uV a)])∧w=w':=by
 have tb:=Hu h0 h1;have HT:=hid (show (a * 6746518852+32400000) / 64800000=tV a from rfl);have HM:=hid (Hq (tV a) (tV a) ⟨by omega,by omega⟩ ⟨by omega,by omega⟩)
 rw [show mul (tV a) (tV a)=uV a from rfl] at HM
 generalize uV a=u at *;generalize tV a=T at *;obtain ⟨t0,t1⟩:=tb
 go_enter Tryz.func240,Tryz.ntmps240
 go_wp2_with fail
 rw [HT.out]
 refine (HM.out _).mono ?_;rintro e w1 ⟨rfl,rfl⟩
 go_wp2_with fail
 go_ret2
 exact ⟨rfl,rfl⟩
theorem Aes (a:Int) (h0:0<=a) (h1:a<=16200000) (w:World):Calls Tryz.prog 227 #[.int .i64 a] w fun e w'=>e=.returned (.int .i64 (Fz a))∧w=w':=by
 have tb:=Hu h0 h1;have ub:=Hz h0 h1;have hv:=hid (PK a);have HA:=hid (Aeg a h0 h1);have HS:=hid (JC (u:=uV a) (ns:=sinN) ub.1 (by omega) Tu);have HU:=hid (fun n=>Kj (uV a) n);generalize uV a=u at *;generalize tV a=T at *;obtain ⟨t0,t1⟩:=tb;obtain ⟨u0,u1⟩:=ub;have D0:=hid (Ho u 110 ⟨u0,by omega⟩ ⟨by decide,by decide⟩);have V0:=hid (show 2147483648 - (u+110 / 2) / 110=ser u sinN 1 from HU.out 110);have q:=Bp (m:=u) (n:=110) u0 (by decide);obtain ⟨q00,q01⟩:=q;obtain ⟨W0,hW0⟩:∃ V,(u+110 / 2) / 110=V:=⟨_,rfl⟩
 rw [hW0] at V0 q00 q01 D0
 clear hW0;have hb1:=HS.out 1;have V1:=hid (show 2147483648 - (mul u (ser u sinN 1)+72 / 2) / 72=ser u sinN 2 from rfl);have M1:=hid (Hq u (ser u sinN 1) ⟨u0,by omega⟩ hb1);have mb1:=Tr.mul_bd u0 hb1.1 hb1.2;have hb2:=HS.out 2;have V2:=hid (show 2147483648 - (mul u (ser u sinN 2)+42 / 2) / 42=ser u sinN 3 from rfl);have M2:=hid (Hq u (ser u sinN 2) ⟨u0,by omega⟩ hb2);have mb2:=Tr.mul_bd u0 hb2.1 hb2.2;have hb3:=HS.out 3;have V3:=hid (show 2147483648 - (mul u (ser u sinN 3)+20 / 2) / 20=ser u sinN 4 from rfl);have M3:=hid (Hq u (ser u sinN 3) ⟨u0,by omega⟩ hb3);have mb3:=Tr.mul_bd u0 hb3.1 hb3.2;have hb4:=HS.out 4;have V4:=hid (show 2147483648 - (mul u (ser u sinN 4)+6 / 2) / 6=ser u sinN 5 from rfl);have M4:=hid (Hq u (ser u sinN 4) ⟨u0,by omega⟩ hb4);have mb4:=Tr.mul_bd u0 hb4.1 hb4.2;have hb5:=HS.out 5;have M5:=hid (Hq T (ser u sinN 5) ⟨t0,by omega⟩ hb5);have mb5:=Tr.mul_bd t0 hb5.1 hb5.2;clear HS HU;generalize ser u sinN 1=r1 at *;generalize ser u sinN 2=r2 at *;generalize ser u sinN 3=r3 at *;generalize ser u sinN 4=r4 at *;generalize ser u sinN 5=r5 at *;generalize mul u r1=m1 at *;have D1:=hid (Ho m1 72 ⟨mb1.1,by omega⟩ ⟨by decide,by decide⟩);have q1:=Bp (m:=m1) (n:=72) mb1.1 (by decide);generalize (m1+72 / 2) / 72=W1 at *;obtain ⟨q10,q11⟩:=q1;obtain ⟨m10,m11⟩:=mb1;generalize mul u r2=m2 at *;have D2:=hid (Ho m2 42 ⟨mb2.1,by omega⟩ ⟨by decide,by decide⟩);have q2:=Bp (m:=m2) (n:=42) mb2.1 (by decide);generalize (m2+42 / 2) / 42=W2 at *;obtain ⟨q20,q21⟩:=q2;obtain ⟨m20,m21⟩:=mb2;generalize mul u r3=m3 at *;have D3:=hid (Ho m3 20 ⟨mb3.1,by omega⟩ ⟨by decide,by decide⟩);have q3:=Bp (m:=m3) (n:=20) mb3.1 (by decide);generalize (m3+20 / 2) / 20=W3 at *;obtain ⟨q30,q31⟩:=q3;obtain ⟨m30,m31⟩:=mb3;generalize mul u r4=m4 at *;have D4:=hid (Ho m4 6 ⟨mb4.1,by omega⟩ ⟨by decide,by decide⟩);have q4:=Bp (m:=m4) (n:=6) mb4.1 (by decide);generalize (m4+6 / 2) / 6=W4 at *;obtain ⟨q40,q41⟩:=q4;obtain ⟨m40,m41⟩:=mb4;generalize mul T r5=m5 at *
 obtain ⟨m50,m51⟩:=mb5;obtain ⟨b50,b51⟩:=hb5;clear hb1 hb2 hb3 hb4
 go_enter Tryz.func227,Tryz.ntmps227
 go_wp2_with fail
 refine (HA.out _).mono ?_;rintro e w1 ⟨rfl,rfl⟩
 go_wp2_with fail
 refine (D0.out _).mono ?_;rintro e w1 ⟨rfl,rfl⟩
 go_wp2_with fail
 rw [V0.out]
 refine (M1.out _).mono ?_;rintro e w1 ⟨rfl,rfl⟩
 go_wp2_with fail
 refine (D1.out _).mono ?_;rintro e w1 ⟨rfl,rfl⟩
 go_wp2_with fail
 rw [V1.out]
 refine (M2.out _).mono ?_;rintro e w1 ⟨rfl,rfl⟩
 go_wp2_with fail
 refine (D2.out _).mono ?_;rintro e w1 ⟨rfl,rfl⟩
 go_wp2_with fail
 rw [V2.out]
 refine (M3.out _).mono ?_;rintro e w1 ⟨rfl,rfl⟩
 go_wp2_with fail
 refine (D3.out _).mono ?_;rintro e w1 ⟨rfl,rfl⟩
 go_wp2_with fail
 rw [V3.out]
 refine (M4.out _).mono ?_;rintro e w1 ⟨rfl,rfl⟩
 go_wp2_with fail
 refine (D4.out _).mono ?_;rintro e w1 ⟨rfl,rfl⟩
 go_wp2_with fail
 rw [V4.out]
 refine (M5.out _).mono ?_;rintro e w1 ⟨rfl,rfl⟩
 go_wp2_with fail
 go_ret
 exact ⟨Af (by rw [hv.out]),rfl⟩
theorem Ael (a:Int) (h0:0<=a) (h1:a<=16200000) (w:World):Calls Tryz.prog 228 #[.int .i64 a] w fun e w'=>e=.returned (.int .i64 (IM a))∧w=w':=by
 have tb:=Hu h0 h1;have ub:=Hz h0 h1;have hv:=hid (OJ a);have HA:=hid (Aeg a h0 h1);have HS:=hid (JC (u:=uV a) (ns:=cosN) ub.1 (by omega) R6);have HU:=hid (fun n=>Kj (uV a) n);generalize uV a=u at *;generalize tV a=T at *;obtain ⟨t0,t1⟩:=tb;obtain ⟨u0,u1⟩:=ub;have D0:=hid (Ho u 90 ⟨u0,by omega⟩ ⟨by decide,by decide⟩);have V0:=hid (show 2147483648 - (u+90 / 2) / 90=ser u cosN 1 from HU.out 90);have q:=Bp (m:=u) (n:=90) u0 (by decide);obtain ⟨q00,q01⟩:=q;obtain ⟨W0,hW0⟩:∃ V,(u+90 / 2) / 90=V:=⟨_,rfl⟩
 rw [hW0] at V0 q00 q01 D0
 clear hW0;have hb1:=HS.out 1;have V1:=hid (show 2147483648 - (mul u (ser u cosN 1)+56 / 2) / 56=ser u cosN 2 from rfl);have M1:=hid (Hq u (ser u cosN 1) ⟨u0,by omega⟩ hb1);have mb1:=Tr.mul_bd u0 hb1.1 hb1.2;have hb2:=HS.out 2;have V2:=hid (show 2147483648 - (mul u (ser u cosN 2)+30 / 2) / 30=ser u cosN 3 from rfl);have M2:=hid (Hq u (ser u cosN 2) ⟨u0,by omega⟩ hb2);have mb2:=Tr.mul_bd u0 hb2.1 hb2.2;have hb3:=HS.out 3;have V3:=hid (show 2147483648 - (mul u (ser u cosN 3)+12 / 2) / 12=ser u cosN 4 from rfl);have M3:=hid (Hq u (ser u cosN 3) ⟨u0,by omega⟩ hb3);have mb3:=Tr.mul_bd u0 hb3.1 hb3.2;have hb4:=HS.out 4;have V4:=hid (show 2147483648 - (mul u (ser u cosN 4)+2 / 2) / 2=ser u cosN 5 from rfl);have M4:=hid (Hq u (ser u cosN 4) ⟨u0,by omega⟩ hb4);have mb4:=Tr.mul_bd u0 hb4.1 hb4.2;have hb5:=HS.out 5;clear HS HU;generalize ser u cosN 1=r1 at *;generalize ser u cosN 2=r2 at *;generalize ser u cosN 3=r3 at *;generalize ser u cosN 4=r4 at *;generalize ser u cosN 5=r5 at *;generalize mul u r1=m1 at *;have D1:=hid (Ho m1 56 ⟨mb1.1,by omega⟩ ⟨by decide,by decide⟩);have q1:=Bp (m:=m1) (n:=56) mb1.1 (by decide);generalize (m1+56 / 2) / 56=W1 at *;obtain ⟨q10,q11⟩:=q1;obtain ⟨m10,m11⟩:=mb1;generalize mul u r2=m2 at *;have D2:=hid (Ho m2 30 ⟨mb2.1,by omega⟩ ⟨by decide,by decide⟩);have q2:=Bp (m:=m2) (n:=30) mb2.1 (by decide);generalize (m2+30 / 2) / 30=W2 at *;obtain ⟨q20,q21⟩:=q2;obtain ⟨m20,m21⟩:=mb2;generalize mul u r3=m3 at *;have D3:=hid (Ho m3 12 ⟨mb3.1,by omega⟩ ⟨by decide,by decide⟩);have q3:=Bp (m:=m3) (n:=12) mb3.1 (by decide);generalize (m3+12 / 2) / 12=W3 at *;obtain ⟨q30,q31⟩:=q3;obtain ⟨m30,m31⟩:=mb3;generalize mul u r4=m4 at *;have D4:=hid (Ho m4 2 ⟨mb4.1,by omega⟩ ⟨by decide,by decide⟩);have q4:=Bp (m:=m4) (n:=2) mb4.1 (by decide);generalize (m4+2 / 2) / 2=W4 at *;obtain ⟨q40,q41⟩:=q4;obtain ⟨m40,m41⟩:=mb4;obtain ⟨b50,b51⟩:=hb5;clear hb1 hb2 hb3 hb4
 go_enter Tryz.func228,Tryz.ntmps228
 go_wp2_with fail
 refine (HA.out _).mono ?_;rintro e w1 ⟨rfl,rfl⟩
 go_wp2_with fail
 refine (D0.out _).mono ?_;rintro e w1 ⟨rfl,rfl⟩
 go_wp2_with fail
 rw [V0.out]
 refine (M1.out _).mono ?_;rintro e w1 ⟨rfl,rfl⟩
 go_wp2_with fail
 refine (D1.out _).mono ?_;rintro e w1 ⟨rfl,rfl⟩
 go_wp2_with fail
 rw [V1.out]
 refine (M2.out _).mono ?_;rintro e w1 ⟨rfl,rfl⟩
 go_wp2_with fail
 refine (D2.out _).mono ?_;rintro e w1 ⟨rfl,rfl⟩
 go_wp2_with fail
 rw [V2.out]
 refine (M3.out _).mono ?_;rintro e w1 ⟨rfl,rfl⟩
 go_wp2_with fail
 refine (D3.out _).mono ?_;rintro e w1 ⟨rfl,rfl⟩
 go_wp2_with fail
 rw [V3.out]
 refine (M4.out _).mono ?_;rintro e w1 ⟨rfl,rfl⟩
 go_wp2_with fail
 refine (D4.out _).mono ?_;rintro e w1 ⟨rfl,rfl⟩
 have e5:=V4.out
 have e6:0<=2147483648 - W4:=by omega
 have e7:2147483648 - W4<=2147483648:=by omega
 clear e5
 go_wp2_with fail
 go_ret
 exact ⟨Af (by rw [hv.out,V4.out]),rfl⟩
theorem Oq (a:Int) (h0:0<=a) (h1:a<=32400000) (w:World):Calls Tryz.prog 223 #[.int .i64 a] w fun e w'=>e=.returned (.int .i64 (quV a))∧w=w':=by
 by_cases h:a<=16200000
 ·have hv:=hid (show quV a=Fz a from if_pos h)
  have HS:=hid (AeQ a h0 h)
  go_enter Tryz.func223,Tryz.ntmps223
  exact MU
 ·have hv:=hid (show quV a=IM (32400000 - a) from if_neg h)
  have HS:=hid (AeG (32400000 - a) (by omega) (by omega))
  go_enter Tryz.func223,Tryz.ntmps223
  exact MU
theorem Ac9 (a:Int) (ha:I64 a) (w:World):Calls Tryz.prog 194 #[.int .i64 a] w fun e w'=>e=.returned (.int .i64 (sinV a))∧w=w':=by
 have HN:=hid (Ji a ha);have hb:=Dh a;have hv:=hid (show sinV a=UQ (nrm a) from rfl);generalize nrm a=b at *;obtain ⟨b0,b1⟩:=hb;clear ha
 by_cases h1:b<=32400000
 ·have HV:=hid (hv.out.trans (if_pos h1))
  have HQ:=hid (Oq b b0 h1)
  go_enter Tryz.func194,Tryz.ntmps194
  exact JU
 by_cases h2:b<=64800000
 ·have HV:=hid (hv.out.trans ((if_neg h1).trans (if_pos h2)))
  have HQ:=hid (Oq (64800000 - b) (by omega) (by omega))
  go_enter Tryz.func194,Tryz.ntmps194
  exact JU
 by_cases h3:b<=97200000
 ·have HV:=hid (hv.out.trans ((if_neg h1).trans ((if_neg h2).trans (if_pos h3))))
  have HQ:=hid (Oq (b - 64800000) (by omega) (by omega));have qb:=Gl (a:=b - 64800000) (by omega) (by omega);generalize quV (b - 64800000)=V at *;obtain ⟨q0,q1⟩:=qb
  go_enter Tryz.func194,Tryz.ntmps194
  exact JU
 ·have HV:=hid (hv.out.trans ((if_neg h1).trans ((if_neg h2).trans (if_neg h3))))
  have HQ:=hid (Oq (129600000 - b) (by omega) (by omega));have qb:=Gl (a:=129600000 - b) (by omega) (by omega);generalize quV (129600000 - b)=V at *;obtain ⟨q0,q1⟩:=qb
  go_enter Tryz.func194,Tryz.ntmps194
  exact JU
theorem AeF (a:Int) (ha:I64 a) (w:World):Calls Tryz.prog 195 #[.int .i64 a] w fun e w'=>e=.returned (.int .i64 (cosV a))∧w=w':=by
 have HN:=hid (AeS a 32400000 ha ⟨by decide,by decide⟩);have hb:I64 (EH a 32400000):=S9 _;have HS:=hid (Ac9 (EH a 32400000) hb);have hv:=hid (show cosV a=sinV (EH a 32400000) by unfold cosV EH nrm;rfl);generalize EH a 32400000=b at *;obtain ⟨b0,b1⟩:=hb;clear ha
 go_enter Tryz.func195,Tryz.ntmps195
 go_wp2_with fail
 refine (HN.out _).mono ?_;rintro e w1 ⟨rfl,rfl⟩
 exact MU
theorem NV (a:Int) (h0:0<=a) (h1:a<=32400000) (w:World):Calls Tryz.prog 203 #[.int .i64 a] w fun e w'=>e=.returned (.int .i64 (quV a))∧w=w':=by
 by_cases h:a<=16200000
 ·have hv:=hid (show quV a=Fz a from if_pos h)
  have HS:=hid (Aes a h0 h)
  go_enter Tryz.func203,Tryz.ntmps203
  exact MU
 ·have hv:=hid (show quV a=IM (32400000 - a) from if_neg h)
  have HS:=hid (Ael (32400000 - a) (by omega) (by omega))
  go_enter Tryz.func203,Tryz.ntmps203
  exact MU
theorem UH (a:Int) (ha:I64 a) (w:World):Calls Tryz.prog 149 #[.int .i64 a] w fun e w'=>e=.returned (.int .i64 (sinV a))∧w=w':=by
 have HN:=hid (IZ a ha);have hb:=Dh a;have hv:=hid (show sinV a=UQ (nrm a) from rfl);generalize nrm a=b at *;obtain ⟨b0,b1⟩:=hb;clear ha
 by_cases h1:b<=32400000
 ·have HV:=hid (hv.out.trans (if_pos h1))
  have HQ:=hid (NV b b0 h1)
  go_enter Tryz.func149,Tryz.ntmps149
  exact JU
 by_cases h2:b<=64800000
 ·have HV:=hid (hv.out.trans ((if_neg h1).trans (if_pos h2)))
  have HQ:=hid (NV (64800000 - b) (by omega) (by omega))
  go_enter Tryz.func149,Tryz.ntmps149
  exact JU
 by_cases h3:b<=97200000
 ·have HV:=hid (hv.out.trans ((if_neg h1).trans ((if_neg h2).trans (if_pos h3))))
  have HQ:=hid (NV (b - 64800000) (by omega) (by omega));have qb:=Gl (a:=b - 64800000) (by omega) (by omega);generalize quV (b - 64800000)=V at *;obtain ⟨q0,q1⟩:=qb
  go_enter Tryz.func149,Tryz.ntmps149
  exact JU
 ·have HV:=hid (hv.out.trans ((if_neg h1).trans ((if_neg h2).trans (if_neg h3))))
  have HQ:=hid (NV (129600000 - b) (by omega) (by omega));have qb:=Gl (a:=129600000 - b) (by omega) (by omega);generalize quV (129600000 - b)=V at *;obtain ⟨q0,q1⟩:=qb
  go_enter Tryz.func149,Tryz.ntmps149
  exact JU
theorem WZ (a:Int) (ha:I64 a) (w:World):Calls Tryz.prog 150 #[.int .i64 a] w fun e w'=>e=.returned (.int .i64 (cosV a))∧w=w':=by
 have HN:=hid (Aeu a 32400000 ha ⟨by decide,by decide⟩);have hb:I64 (EH a 32400000):=S9 _;have HS:=hid (UH (EH a 32400000) hb);have hv:=hid (show cosV a=sinV (EH a 32400000) by unfold cosV EH nrm;rfl);generalize EH a 32400000=b at *;obtain ⟨b0,b1⟩:=hb;clear ha
 go_enter Tryz.func150,Tryz.ntmps150
 go_wp2_with fail
 refine (HN.out _).mono ?_;rintro e w1 ⟨rfl,rfl⟩
 exact MU
