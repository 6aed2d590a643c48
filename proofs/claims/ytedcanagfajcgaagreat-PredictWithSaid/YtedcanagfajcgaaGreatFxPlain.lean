set_option linter.unusedSimpArgs false
set_option linter.unusedVariables false
namespace Go.Proofs.Fx
/-! ### the product of two halves, and the division of two words by one -/
theorem mul_lt_64 {a b:Nat} (ha:a<4294967296) (hb:b<4294967296):a * b<18446744073709551616:=by
 have h:a * b<=4294967295 * 4294967295:=Nat.mul_le_mul (by omega) (by omega)
 omega
structure KInv (u y1 y0 d q rh:Nat):Prop where
 sum:q * y1+rh=u
 rh_lt:rh<4294967296
 hi:(u * 4294967296+d) / (y1 * 4294967296+y0)<=q
theorem AaM {u y1 y0 d q rh:Nat} (h:KInv u y1 y0 d q rh):q * (y1 * 4294967296+y0)+rh * 4294967296=u * 4294967296+q * y0:=by
 have e:=h.sum
 have:q * (y1 * 4294967296+y0)=(q * y1) * 4294967296+q * y0:=by rw [Nat.mul_add,Nat.mul_assoc]
 rw [this,← e,Nat.add_mul]
 omega
theorem k_exit {u y1 y0 d q rh:Nat} (hy1:0<y1) (h:KInv u y1 y0 d q rh) (hc:q * y0<=4294967296 * rh+d) :
  q=(u * 4294967296+d) / (y1 * 4294967296+y0):=by
 have e:=AaM h
 have hle:q * (y1 * 4294967296+y0)<=u * 4294967296+d:=by omega
 have h2:q<=(u * 4294967296+d) / (y1 * 4294967296+y0):=(Nat.le_div_iff_mul_le (by omega)).2 hle
 exact Nat.le_antisymm h2 h.hi
theorem k_lower {u y1 y0 d q rh:Nat} (hu:u<y1 * 4294967296+y0) (hd:d<4294967296) (h:KInv u y1 y0 d q rh)
  (hc:4294967296<=q∨4294967296 * rh+d<q * y0):0<q∧(u * 4294967296+d) / (y1 * 4294967296+y0)<=q - 1:=by
 have hpos:0<y1 * 4294967296+y0:=by omega
 have hlt:(u * 4294967296+d) / (y1 * 4294967296+y0)<q:=by
  rw [Nat.div_lt_iff_lt_mul hpos]
  rcases hc with hc | hc
  ·have h1:4294967296 * (y1 * 4294967296+y0)<=q * (y1 * 4294967296+y0):=Nat.mul_le_mul_right _ hc
   omega
  ·have e:=AaM h
   omega
 exact ⟨Nat.lt_of_le_of_lt (Nat.zero_le _) hlt,Nat.le_sub_one_of_lt hlt⟩
theorem k_next {u y1 y0 d q rh:Nat} (hu:u<y1 * 4294967296+y0) (hd:d<4294967296) (h:KInv u y1 y0 d q rh)
  (hc:4294967296<=q∨4294967296 * rh+d<q * y0) (hr:rh+y1<4294967296):KInv u y1 y0 d (q - 1) (rh+y1):=by
 obtain ⟨h0,h1⟩:=k_lower hu hd h hc
 refine ⟨?_,hr,h1⟩
 obtain ⟨k,rfl⟩:∃ k,q=k+1:=⟨q - 1,by omega⟩;have e:=h.sum
 rw [Nat.add_mul] at e
 simp only [Nat.add_sub_cancel]
 omega
theorem k_break {u y1 y0 d q rh:Nat} (hy1:2147483648<=y1) (hy0:y0<4294967296) (hu:u<y1 * 4294967296+y0) (hd:d<4294967296) (h:KInv u y1 y0 d q rh)
  (hc:4294967296<=q∨4294967296 * rh+d<q * y0) (hr:4294967296<=rh+y1):q - 1=(u * 4294967296+d) / (y1 * 4294967296+y0):=by
 obtain ⟨h0,h1⟩:=k_lower hu hd h hc
 have hle:q<=4294967296:=by
  rcases Nat.lt_or_ge 4294967296 q with hq | hq
  ·exfalso
   have e:=h.sum;have h2:4294967297 * y1<=q * y1:=Nat.mul_le_mul_right _ hq
   omega
  ·exact hq
 obtain ⟨k,rfl⟩:∃ k,q=k+1:=⟨q - 1,by omega⟩
 simp only [Nat.add_sub_cancel] at h1 ⊢
 have hk:k * y0<18446744073709551616:=mul_lt_64 (by omega) hy0;have e:=h.sum
 rw [Nat.add_mul] at e
 have h3:k * (y1 * 4294967296+y0)<=u * 4294967296+d:=by
  have:k * (y1 * 4294967296+y0)=(k * y1) * 4294967296+k * y0:=by rw [Nat.mul_add,Nat.mul_assoc]
  rw [this]
  omega
 have h2:k<=(u * 4294967296+d) / (y1 * 4294967296+y0):=(Nat.le_div_iff_mul_le (by omega)).2 h3
 omega
theorem k_start {u y1 y0 d:Nat} (hy1:2147483648<=y1) (h2:y1<4294967296) (hy0:y0<4294967296) (hd:d<4294967296):KInv u y1 y0 d (u / y1) (u % y1):=by
 refine ⟨Nat.div_add_mod' u y1,?_,?_⟩
 ·have:=Nat.mod_lt u (show 0<y1 by omega);omega
 ·-- (u * B + d) / (y1 * B + y0) <= (u * B + d) / (y1 * B) = u / y1
  have e1:(u * 4294967296+d) / (y1 * 4294967296+y0)<=(u * 4294967296+d) / (y1 * 4294967296):=Nat.div_le_div_left (by omega) (by omega)
  have e2:(u * 4294967296+d) / (y1 * 4294967296)=u / y1:=by
   rw [Nat.mul_comm y1,← Nat.div_div_eq_div_mul]
   congr 1
   omega
  omega
theorem k_small {u y1 y0:Nat} (hy1:2147483648<=y1) (hy0:y0<4294967296) (hu:u<y1 * 4294967296+y0):u / y1<=4294967297:=by
 have:u / y1<4294967298:=by
  rw [Nat.div_lt_iff_lt_mul (by omega)]
  omega
 omega
/-! ### the reference's division, bit by bit -/
def J5 (c r b:Nat):Nat × Nat:=if c<=2 * r+b then (2 * r+b - c,1) else (2 * r+b,0)
theorem Qh {c P b:Nat} (hc:0<c) (hb:b<=1):J5 c (P % c) b=((2 * P+b) % c,(2 * P+b) / c - 2 * (P / c))∧(2 * P+b) / c=2 * (P / c)+(J5 c (P % c) b).2:=by
 have hm:=Nat.mod_lt P hc;have hP:=Nat.div_add_mod P c
 have key:2 * P+b=(2 * (P / c)) * c+(2 * (P % c)+b):=by
  have:2 * (P / c) * c=2 * (c * (P / c)):=by rw [Nat.mul_assoc,Nat.mul_comm (P / c) c]
  omega
 unfold J5
 by_cases h:c<=2 * (P % c)+b
 ·have e:(2 * P+b)=(2 * (P / c)+1) * c+(2 * (P % c)+b - c):=by rw [Nat.add_mul];omega
  have hlt:2 * (P % c)+b - c<c:=by omega
  have hd:(2 * P+b) / c=2 * (P / c)+1:=by rw [e,Nat.add_comm,Nat.add_mul_div_right _ _ hc,Nat.div_eq_of_lt hlt];omega
  have hr:(2 * P+b) % c=2 * (P % c)+b - c:=by rw [e,Nat.add_comm,Nat.add_mul_mod_self_right,Nat.mod_eq_of_lt hlt]
  rw [if_pos h,hd,hr]
  exact ⟨by simp,rfl⟩
 ·have hlt:2 * (P % c)+b<c:=by omega
  have hd:(2 * P+b) / c=2 * (P / c):=by rw [key,Nat.add_comm,Nat.add_mul_div_right _ _ hc,Nat.div_eq_of_lt hlt];omega
  have hr:(2 * P+b) % c=2 * (P % c)+b:=by rw [key,Nat.add_comm,Nat.add_mul_mod_self_right,Nat.mod_eq_of_lt hlt]
  rw [if_neg h,hd,hr]
  exact ⟨by simp,rfl⟩
structure DInv (N c k h l r qh ql:Nat):Prop where
 hh:h<18446744073709551616
 hl:l<18446744073709551616
 hr:r<c
 hqh:qh<18446744073709551616
 hql:ql<18446744073709551616
 rest:h * 18446744073709551616+l=N * 2 ^ k % (18446744073709551616 * 18446744073709551616)
 rem:r=N * 2 ^ k / (18446744073709551616 * 18446744073709551616) % c
 quo:qh * 18446744073709551616+ql=N * 2 ^ k / (18446744073709551616 * 18446744073709551616) / c
theorem Qm (X W:Nat) (b:Nat) (hW:0<W) (hb:b=2 * (X % W) / W):2 * X / W=2 * (X / W)+b∧2 * X % W=2 * (X % W) - b * W:=by
 have h:=Nat.div_add_mod X W;have hm:=Nat.mod_lt X hW;generalize hq:X / W=q at *;generalize hr:X % W=r at *
 have e:2 * X=2 * r+W * (2 * q):=by rw [← h,Nat.mul_add,← Nat.mul_assoc,Nat.mul_comm 2 W,Nat.mul_assoc,Nat.add_comm]
 rw [e,Nat.add_mul_div_left _ _ hW,Nat.add_mul_mod_self_left,hb]
 have h2:=Nat.div_add_mod (2 * r) W
 rw [Nat.mul_comm W] at h2
 omega
theorem Nw {h l:Nat} (hh:h<18446744073709551616) (hl:l<18446744073709551616) :
  2 * (h * 18446744073709551616+l) / (18446744073709551616 * 18446744073709551616)=h / 9223372036854775808 ∧
  (2 * h % 18446744073709551616+l / 9223372036854775808) * 18446744073709551616+2 * l % 18446744073709551616=2 * (h * 18446744073709551616+l) - h / 9223372036854775808 * (18446744073709551616 * 18446744073709551616):=by
 omega
theorem Km {h l:Nat} (hh:h<18446744073709551616) (hl:l<18446744073709551616):2 * h % 18446744073709551616+l / 9223372036854775808<18446744073709551616:=by omega
theorem Lr (l:Nat):2 * l % 18446744073709551616<18446744073709551616:=Nat.mod_lt _ (by decide)
theorem XL (l:Nat):2 * l % 18446744073709551616+1<18446744073709551616:=by omega
theorem PY {qh ql:Nat} (hqh:qh<18446744073709551616) (hql:ql<18446744073709551616) (h:qh * 18446744073709551616+ql<18446744073709551616 * 9223372036854775808) (x:Nat) :
  (2 * qh % 18446744073709551616+ql / 9223372036854775808) * 18446744073709551616+(2 * ql % 18446744073709551616+x)=2 * (qh * 18446744073709551616+ql)+x:=by omega
theorem d_step {N c k h l r qh ql:Nat} (hN:N<18446744073709551616 * 18446744073709551616) (hc:0<c) (hk:k<128) (H:DInv N c k h l r qh ql) :
  (c<=2 * r+h / 9223372036854775808→DInv N c (k+1) (2 * h % 18446744073709551616+l / 9223372036854775808) (2 * l % 18446744073709551616) (2 * r+h / 9223372036854775808 - c) (2 * qh % 18446744073709551616+ql / 9223372036854775808) (2 * ql % 18446744073709551616+1)) ∧
  (¬ c<=2 * r+h / 9223372036854775808→DInv N c (k+1) (2 * h % 18446744073709551616+l / 9223372036854775808) (2 * l % 18446744073709551616) (2 * r+h / 9223372036854775808) (2 * qh % 18446744073709551616+ql / 9223372036854775808) (2 * ql % 18446744073709551616)):=by
 obtain ⟨hh,hl,hr,hqh,hql,rest,rem,quo⟩:=H;obtain ⟨w1,w2⟩:=Nw hh hl
 have hb1:h / 9223372036854775808<=1:=by omega
 obtain ⟨dd,dm⟩:=Qm (N * 2 ^ k) (18446744073709551616 * 18446744073709551616) (h / 9223372036854775808) (by decide) (by rw [← rest];exact w1.symm)
 have hP2:2 * (N * 2 ^ k)=N * 2 ^ (k+1):=by rw [Nat.mul_left_comm,Nat.pow_succ,Nat.mul_comm 2 (2 ^ k)]
 rw [hP2] at dd dm
 rw [← rest,← w2] at dm
 -- the quotient so far is less than 2^127
 have hQ:N * 2 ^ k / (18446744073709551616 * 18446744073709551616) / c<18446744073709551616 * 9223372036854775808:=by
  refine Nat.lt_of_le_of_lt (Nat.div_le_self _ _) ?_
  rw [Nat.div_lt_iff_lt_mul (by decide)]
  have h2:N * 2 ^ k<=N * 2 ^ 127:=Nat.mul_le_mul_left _ (Nat.pow_le_pow_right (by decide) (by omega));have h3:N * 2 ^ 127<18446744073709551616 * 18446744073709551616 * 2 ^ 127:=Nat.mul_lt_mul_of_pos_right hN (by decide)
  refine Nat.lt_of_le_of_lt h2 (Nat.lt_of_lt_of_le h3 (by decide))
 obtain ⟨s1,s2⟩:=Qh (P:=N * 2 ^ k / (18446744073709551616 * 18446744073709551616)) hc hb1
 rw [← dd] at s1 s2
 rw [← rem] at s1 s2
 rw [← quo] at s2 hQ
 unfold J5 at s1 s2
 refine ⟨fun hle=>?_,fun hle=>?_⟩
 ·rw [if_pos hle] at s1 s2
  have s1':=(Prod.mk.inj s1).1
  refine ⟨Km hh hl,Lr _,?_,Km hqh hql,XL _,dm.symm,s1',?_⟩
  ·rw [s1'];exact Nat.mod_lt _ hc
  ·exact (PY hqh hql hQ 1).trans s2.symm
 ·rw [if_neg hle] at s1 s2
  have s1':=(Prod.mk.inj s1).1
  refine ⟨Km hh hl,Lr _,?_,Km hqh hql,Lr _,dm.symm,s1',?_⟩
  ·rw [s1'];exact Nat.mod_lt _ hc
  ·exact (PY hqh hql hQ 0).trans s2.symm
theorem d_start {N c hi lo:Nat} (h1:hi<18446744073709551616) (h2:lo<18446744073709551616) (hN:N=hi * 18446744073709551616+lo) (hc:0<c):DInv N c 0 hi lo 0 0 0:=by
 have hlt:N<18446744073709551616 * 18446744073709551616:=by omega
 refine ⟨h1,h2,hc,by decide,by decide,?_,?_,?_⟩
 ·rw [Nat.pow_zero,Nat.mul_one,Nat.mod_eq_of_lt hlt,hN]
 ·rw [Nat.pow_zero,Nat.mul_one,Nat.div_eq_of_lt hlt,Nat.zero_mod]
 ·rw [Nat.pow_zero,Nat.mul_one,Nat.div_eq_of_lt hlt,Nat.zero_div]
theorem d_done {N c h l r qh ql:Nat} (H:DInv N c 128 h l r qh ql):r=N % c∧qh=N / c / 18446744073709551616∧ql=N / c % 18446744073709551616:=by
 have e:N * 2 ^ 128 / (18446744073709551616 * 18446744073709551616)=N:=Nat.mul_div_cancel _ (by decide);have h1:=H.rem;have h2:=H.quo;have h3:=H.hql
 rw [e] at h1 h2
 refine ⟨h1,?_,?_⟩ <;> rw [← h2] <;> omega
/-! ### rounded quotients -/
def away (m:Nat) (neg:Bool) (r D:Nat):Bool :=
 if m=0 then neg && decide (0<r) else if m=1 then !neg && decide (0<r) else decide (D<2 * r) || (!neg && decide (2 * r=D))
def mag (m:Nat) (neg:Bool) (N D:Nat):Nat:=N / D+(if away m neg (N % D) D then 1 else 0)
def negOf (a b c:Int):Bool:=(decide (a<0) != decide (b<0)) != decide (c<0)
def sgV (q:Nat) (neg:Bool):Int:=if neg then (if q<=9223372036854775808 then -(q:Int) else 0) else (if q<9223372036854775808 then (q:Int) else 0)
def sgE (q:Nat) (neg:Bool):Int:=if neg then (if q<=9223372036854775808 then 0 else 2) else (if q<9223372036854775808 then 0 else 2)
def scV (m:Nat) (a b c:Int):Int:=if c=0 then 0 else sgV (mag m (negOf a b c) (a.natAbs * b.natAbs) c.natAbs) (negOf a b c)
def scE (m:Nat) (a b c:Int):Int:=if c=0 then 1 else sgE (mag m (negOf a b c) (a.natAbs * b.natAbs) c.natAbs) (negOf a b c)
/-! ### what the two steps amount to -/
theorem Vx {hi lo s t W:Nat} (e64:2 ^ t * 2 ^ s=W) :
  (hi * W+lo) * 2 ^ s=(hi * 2 ^ s+lo / 2 ^ t) * W+lo * 2 ^ s % W:=by
 have hd:=Nat.div_add_mod lo (2 ^ t);have hm:=Nat.mod_lt lo (Nat.two_pow_pos t);generalize hA:lo / 2 ^ t=A at *;generalize hB:lo % 2 ^ t=B at *
 have e1:lo * 2 ^ s=A * W+B * 2 ^ s:=by
  rw [← hd,Nat.add_mul,Nat.mul_right_comm,e64,Nat.mul_comm]
 have e2:B * 2 ^ s<W:=by
  rw [← e64];exact Nat.mul_lt_mul_of_pos_right hm (Nat.two_pow_pos s)
 have e3:lo * 2 ^ s % W=B * 2 ^ s:=by
  rw [e1,Nat.add_comm,Nat.add_mul_mod_self_right,Nat.mod_eq_of_lt e2]
 rw [e3,Nat.add_mul,Nat.add_mul,e1,Nat.mul_right_comm,Nat.add_assoc]
theorem pow64 {s:Nat} (hs:s<=63):2 ^ (64 - s) * 2 ^ s=18446744073709551616:=by rw [← Nat.pow_add,show 64 - s+s=64 from by omega]
theorem d64_sum {hi lo s:Nat} (hs:s<=63) :
  (hi * 18446744073709551616+lo) * 2 ^ s=(hi * 2 ^ s+lo / 2 ^ (64 - s)) * 18446744073709551616+lo * 2 ^ s % 18446744073709551616 :=
 Vx (pow64 hs)
theorem Vy {hi lo y s t W:Nat} (h:hi<y) (hlo:lo<W) (e64:2 ^ t * 2 ^ s=W):hi * 2 ^ s+lo / 2 ^ t<y * 2 ^ s:=by
 have h1:lo / 2 ^ t<2 ^ s:=by rw [Nat.div_lt_iff_lt_mul (Nat.two_pow_pos _),Nat.mul_comm,e64];exact hlo
 have h2:(hi+1) * 2 ^ s<=y * 2 ^ s:=Nat.mul_le_mul_right _ h
 rw [Nat.add_mul] at h2
 omega
theorem d64_top {hi lo y s:Nat} (h:hi<y) (hlo:lo<18446744073709551616) (hs:s<=63):hi * 2 ^ s+lo / 2 ^ (64 - s)<y * 2 ^ s :=
 Vy h hlo (pow64 hs)
theorem Vw {N y s u Z Y q1 r1 q0 r0 d1 d0 B:Nat} (hy:0<y) (hY:Y=y * 2 ^ s) (hN:N * 2 ^ s=u * (B * B)+Z) (hZ:Z=d1 * B+d0)
  (e1:u * B+d1=q1 * Y+r1) (e0:r1 * B+d0=q0 * Y+r0) (hr:r0<Y):N / y=q1 * B+q0∧N % y=r0 / 2 ^ s:=by
 have hp:=Nat.two_pow_pos s
 have hQ:N * 2 ^ s=(q1 * B+q0) * Y+r0:=by
  have a1:u * (B * B)+Z=(u * B+d1) * B+d0:=by rw [hZ,Nat.add_mul,Nat.mul_assoc,Nat.add_assoc]
  have a2:(q1 * Y+r1) * B+d0=q1 * B * Y+(r1 * B+d0):=by rw [Nat.add_mul,Nat.mul_right_comm,Nat.add_assoc]
  rw [hN,a1,e1,a2,e0,Nat.add_mul,Nat.add_assoc]
 have hYp:(q1 * B+q0) * Y=((q1 * B+q0) * y) * 2 ^ s:=by rw [hY,Nat.mul_assoc]
 generalize q1 * B+q0=Q at *
 have hle:Q * y<=N:=by
  have:(Q * y) * 2 ^ s<=N * 2 ^ s:=by omega
  exact Nat.le_of_mul_le_mul_right this hp
 obtain ⟨k,rfl⟩:∃ k,N=Q * y+k:=⟨N - Q * y,by omega⟩
 have hk:r0=k * 2 ^ s:=by rw [Nat.add_mul] at hQ;omega
 subst hk
 have hky:k<y:=by rw [hY] at hr;exact Nat.lt_of_mul_lt_mul_right hr
 rw [Nat.mul_div_cancel _ hp,Nat.add_comm,Nat.add_mul_div_right _ _ hy,Nat.div_eq_of_lt hky,Nat.add_mul_mod_self_right,Nat.mod_eq_of_lt hky]
 exact ⟨by omega,rfl⟩
theorem d64_end {N y s u Z Y q1 r1 q0 r0 d1 d0:Nat} (hy:0<y) (hY:Y=y * 2 ^ s) (hN:N * 2 ^ s=u * 18446744073709551616+Z) (hZ:Z=d1 * 4294967296+d0)
  (e1:u * 4294967296+d1=q1 * Y+r1) (e0:r1 * 4294967296+d0=q0 * Y+r0) (hr:r0<Y):N / y=q1 * 4294967296+q0∧N % y=r0 / 2 ^ s :=
 Vw hy hY (B:=4294967296) hN hZ e1 e0 hr
