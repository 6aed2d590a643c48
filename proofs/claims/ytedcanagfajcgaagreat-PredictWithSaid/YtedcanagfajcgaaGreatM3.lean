/- M3: AtPlain, FuP, FxMath, PfPlain, RowI in one text. -/
import Derived.Test.YtedcanagfajcgaaGreatM8
import Derived.Test.YtedcanagfajcgaaGreatFxPlain
import Derived.Deep.OwnRows
set_option linter.unusedSimpArgs false
set_option linter.unusedVariables false
namespace Go.Proofs.At
def interp (r0 r1:Int × Int) (alt:Int):Int:=r0.2+((r1.2 - r0.2) * (alt - r0.1 * 100)) / ((r1.1 - r0.1) * 100)
def tv:List (Int × Int)→Int→Int
 | [],_=>0
 | [_],_=>0
 | [r0,r1],alt=>interp r0 r1 alt
 | r0 :: r1 :: r2 :: rest,alt=>if alt<=r1.1 * 100 then interp r0 r1 alt else tv (r1 :: r2 :: rest) alt
theorem tv_at:∀ (L:List (Int × Int)) (k:Nat) (r0 r1:Int × Int) (alt:Int),L[k]? = some r0→L[k+1]? = some r1→(∀ j,1<=j→j<=k→∀ r,L[j]? = some r→r.1 * 100<alt) →
  (k+2=L.length∨alt<=r1.1 * 100)→tv L alt=interp r0 r1 alt
 | [],k,r0,r1,alt,h0,_,_,_=>by simp at h0
 | [x],k,r0,r1,alt,_,h1,_,_=>by simp at h1
 | [x,y],k,r0,r1,alt,h0,h1,_,_=>by
  have hk:k=0:=by
   rcases Nat.eq_zero_or_pos k with h | h
   ·exact h
   ·obtain ⟨m,rfl⟩:∃ m,k=m+1:=⟨k - 1,by omega⟩
    simp at h1
  subst hk
  simp at h0 h1
  subst h0 h1
  rfl
 | x :: y :: z :: rest,k,r0,r1,alt,h0,h1,h2,h3=>by
  unfold tv
  cases k with
  | zero =>
   simp at h0 h1
   subst h0 h1
   rcases h3 with h3 | h3
   ·simp at h3
   ·rw [if_pos h3]
  | succ m =>
   have hy:=h2 1 (by omega) (by omega) y rfl
   rw [if_neg (by omega)]
   refine tv_at (y :: z :: rest) m r0 r1 alt (by simpa using h0) (by simpa using h1) (fun j j1 j2 r hr=>h2 (j+1) (by omega) (by omega) r (by simpa using hr)) ?_
   rcases h3 with h3 | h3
   ·exact .inl (by simp at h3 ⊢;omega)
   ·exact .inr h3
def tabP:List (Int × Int):=[(-2000,1074400),(0,1000000),(5000,832000),(10000,687700),(15000,564300),(20000,459500),(25000,371100),(30000,297000),(35000,235300),(40000,185100),(45000,145500),(50000,114500),(55000,90000),(60000,70800)]
def vP (alt:Int):Int:=if alt<=0 then 1074400+(-74400 * (alt - (-200000))) / 200000 else if alt<=500000 then 1000000+(-168000 * (alt - (0))) / 500000 else if alt<=1000000 then 832000+(-144300 * (alt - (500000))) / 500000 else if alt<=1500000 then 687700+(-123400 * (alt - (1000000))) / 500000 else if alt<=2000000 then 564300+(-104800 * (alt - (1500000))) / 500000 else if alt<=2500000 then 459500+(-88400 * (alt - (2000000))) / 500000 else if alt<=3000000 then 371100+(-74100 * (alt - (2500000))) / 500000 else if alt<=3500000 then 297000+(-61700 * (alt - (3000000))) / 500000 else if alt<=4000000 then 235300+(-50200 * (alt - (3500000))) / 500000 else if alt<=4500000 then 185100+(-39600 * (alt - (4000000))) / 500000 else if alt<=5000000 then 145500+(-31000 * (alt - (4500000))) / 500000 else if alt<=5500000 then 114500+(-24500 * (alt - (5000000))) / 500000 else 90000+(-19200 * (alt - (5500000))) / 500000
def tabR:List (Int × Int):=[(-2000,971400),(0,1000000),(5000,1077300),(10000,1163700),(15000,1260600),(20000,1370000),(25000,1493800),(30000,1634900),(35000,1796400),(40000,2015500),(45000,2272700),(50000,2562800),(55000,2890100),(60000,3259100)]
def vR (alt:Int):Int:=if alt<=0 then 971400+(28600 * (alt - (-200000))) / 200000 else if alt<=500000 then 1000000+(77300 * (alt - (0))) / 500000 else if alt<=1000000 then 1077300+(86400 * (alt - (500000))) / 500000 else if alt<=1500000 then 1163700+(96900 * (alt - (1000000))) / 500000 else if alt<=2000000 then 1260600+(109400 * (alt - (1500000))) / 500000 else if alt<=2500000 then 1370000+(123800 * (alt - (2000000))) / 500000 else if alt<=3000000 then 1493800+(141100 * (alt - (2500000))) / 500000 else if alt<=3500000 then 1634900+(161500 * (alt - (3000000))) / 500000 else if alt<=4000000 then 1796400+(219100 * (alt - (3500000))) / 500000 else if alt<=4500000 then 2015500+(257200 * (alt - (4000000))) / 500000 else if alt<=5000000 then 2272700+(290100 * (alt - (4500000))) / 500000 else if alt<=5500000 then 2562800+(327300 * (alt - (5000000))) / 500000 else 2890100+(369000 * (alt - (5500000))) / 500000
theorem tv_R (alt:Int):tv tabR alt=vR alt:=by
 simp [tabR,tv,vR,interp]
theorem sR0 (alt:Int) (h1:alt<=0):vR alt=971400+(28600 * (alt - (-200000))) / 200000:=by
 unfold vR;rw [if_pos h1]
theorem sR1 (alt:Int) (h0:0<=alt) (h1:alt<=500000):vR alt=1000000+(77300 * (alt - (0))) / 500000:=by
 rcases Int.lt_or_eq_of_le h0 with h | h
 ·unfold vR;rw [if_neg (by omega),if_pos h1]
 ·subst h;decide
theorem sR2 (alt:Int) (h0:500000<=alt) (h1:alt<=1000000):vR alt=1077300+(86400 * (alt - (500000))) / 500000:=by
 rcases Int.lt_or_eq_of_le h0 with h | h
 ·unfold vR;rw [if_neg (by omega),if_neg (by omega),if_pos h1]
 ·subst h;decide
theorem sR3 (alt:Int) (h0:1000000<=alt) (h1:alt<=1500000):vR alt=1163700+(96900 * (alt - (1000000))) / 500000:=by
 rcases Int.lt_or_eq_of_le h0 with h | h
 ·unfold vR;rw [if_neg (by omega),if_neg (by omega),if_neg (by omega),if_pos h1]
 ·subst h;decide
theorem sR4 (alt:Int) (h0:1500000<=alt) (h1:alt<=2000000):vR alt=1260600+(109400 * (alt - (1500000))) / 500000:=by
 rcases Int.lt_or_eq_of_le h0 with h | h
 ·unfold vR;rw [if_neg (by omega),if_neg (by omega),if_neg (by omega),if_neg (by omega),if_pos h1]
 ·subst h;decide
theorem sR5 (alt:Int) (h0:2000000<=alt) (h1:alt<=2500000):vR alt=1370000+(123800 * (alt - (2000000))) / 500000:=by
 rcases Int.lt_or_eq_of_le h0 with h | h
 ·unfold vR;rw [if_neg (by omega),if_neg (by omega),if_neg (by omega),if_neg (by omega),if_neg (by omega),if_pos h1]
 ·subst h;decide
theorem sR6 (alt:Int) (h0:2500000<=alt) (h1:alt<=3000000):vR alt=1493800+(141100 * (alt - (2500000))) / 500000:=by
 rcases Int.lt_or_eq_of_le h0 with h | h
 ·unfold vR;rw [if_neg (by omega),if_neg (by omega),if_neg (by omega),if_neg (by omega),if_neg (by omega),if_neg (by omega),if_pos h1]
 ·subst h;decide
theorem sR7 (alt:Int) (h0:3000000<=alt) (h1:alt<=3500000):vR alt=1634900+(161500 * (alt - (3000000))) / 500000:=by
 rcases Int.lt_or_eq_of_le h0 with h | h
 ·unfold vR;rw [if_neg (by omega),if_neg (by omega),if_neg (by omega),if_neg (by omega),if_neg (by omega),if_neg (by omega),if_neg (by omega),if_pos h1]
 ·subst h;decide
theorem sR8 (alt:Int) (h0:3500000<=alt) (h1:alt<=4000000):vR alt=1796400+(219100 * (alt - (3500000))) / 500000:=by
 rcases Int.lt_or_eq_of_le h0 with h | h
 ·unfold vR;rw [if_neg (by omega),if_neg (by omega),if_neg (by omega),if_neg (by omega),if_neg (by omega),if_neg (by omega),if_neg (by omega),if_neg (by omega),if_pos h1]
 ·subst h;decide
theorem sR9 (alt:Int) (h0:4000000<=alt) (h1:alt<=4500000):vR alt=2015500+(257200 * (alt - (4000000))) / 500000:=by
 rcases Int.lt_or_eq_of_le h0 with h | h
 ·unfold vR;rw [if_neg (by omega),if_neg (by omega),if_neg (by omega),if_neg (by omega),if_neg (by omega),if_neg (by omega),if_neg (by omega),if_neg (by omega),if_neg (by omega),if_pos h1]
 ·subst h;decide
theorem AfE (alt:Int) (h0:4500000<=alt) (h1:alt<=5000000):vR alt=2272700+(290100 * (alt - (4500000))) / 500000:=by
 rcases Int.lt_or_eq_of_le h0 with h | h
 ·unfold vR;rw [if_neg (by omega),if_neg (by omega),if_neg (by omega),if_neg (by omega),if_neg (by omega),if_neg (by omega),if_neg (by omega),if_neg (by omega),if_neg (by omega),if_neg (by omega),if_pos h1]
 ·subst h;decide
theorem AfF (alt:Int) (h0:5000000<=alt) (h1:alt<=5500000):vR alt=2562800+(327300 * (alt - (5000000))) / 500000:=by
 rcases Int.lt_or_eq_of_le h0 with h | h
 ·unfold vR;rw [if_neg (by omega),if_neg (by omega),if_neg (by omega),if_neg (by omega),if_neg (by omega),if_neg (by omega),if_neg (by omega),if_neg (by omega),if_neg (by omega),if_neg (by omega),if_neg (by omega),if_pos h1]
 ·subst h;decide
theorem AfG (alt:Int) (h0:5500000<=alt) (h1:alt<=6000000):vR alt=2890100+(369000 * (alt - (5500000))) / 500000:=by
 rcases Int.lt_or_eq_of_le h0 with h | h
 ·unfold vR;rw [if_neg (by omega),if_neg (by omega),if_neg (by omega),if_neg (by omega),if_neg (by omega),if_neg (by omega),if_neg (by omega),if_neg (by omega),if_neg (by omega),if_neg (by omega),if_neg (by omega),if_neg (by omega)]
 ·subst h;decide
theorem bdR (alt:Int) (h0 : -200000<=alt) (h1:alt<=6000000):971400<=vR alt∧vR alt<=3259100:=by
 rcases Int.lt_or_le alt 0 with g0 | g0
 ·rw [sR0 alt (by omega)];omega
 rcases Int.lt_or_le alt 500000 with g1 | g1
 ·rw [sR1 alt (by omega) (by omega)];omega
 rcases Int.lt_or_le alt 1000000 with g2 | g2
 ·rw [sR2 alt (by omega) (by omega)];omega
 rcases Int.lt_or_le alt 1500000 with g3 | g3
 ·rw [sR3 alt (by omega) (by omega)];omega
 rcases Int.lt_or_le alt 2000000 with g4 | g4
 ·rw [sR4 alt (by omega) (by omega)];omega
 rcases Int.lt_or_le alt 2500000 with g5 | g5
 ·rw [sR5 alt (by omega) (by omega)];omega
 rcases Int.lt_or_le alt 3000000 with g6 | g6
 ·rw [sR6 alt (by omega) (by omega)];omega
 rcases Int.lt_or_le alt 3500000 with g7 | g7
 ·rw [sR7 alt (by omega) (by omega)];omega
 rcases Int.lt_or_le alt 4000000 with g8 | g8
 ·rw [sR8 alt (by omega) (by omega)];omega
 rcases Int.lt_or_le alt 4500000 with g9 | g9
 ·rw [sR9 alt (by omega) (by omega)];omega
 rcases Int.lt_or_le alt 5000000 with g10 | g10
 ·rw [AfE alt (by omega) (by omega)];omega
 rcases Int.lt_or_le alt 5500000 with g11 | g11
 ·rw [AfF alt (by omega) (by omega)];omega
 rw [AfG alt (by omega) (by omega)];omega
def tabT:List (Int × Int):=[(-2000,29211),(0,28815),(36089,21665),(60000,21665)]
def vT (alt:Int):Int:=if alt<=0 then 29211+(-396 * (alt - (-200000))) / 200000 else if alt<=3608900 then 28815+(-7150 * (alt - (0))) / 3608900 else 21665+(0 * (alt - (3608900))) / 2391100
theorem tv_T (alt:Int):tv tabT alt=vT alt:=by
 simp [tabT,tv,vT,interp]
theorem sT0 (alt:Int) (h1:alt<=0):vT alt=29211+(-396 * (alt - (-200000))) / 200000:=by
 unfold vT;rw [if_pos h1]
theorem sT1 (alt:Int) (h0:0<=alt) (h1:alt<=3608900):vT alt=28815+(-7150 * (alt - (0))) / 3608900:=by
 rcases Int.lt_or_eq_of_le h0 with h | h
 ·unfold vT;rw [if_neg (by omega),if_pos h1]
 ·subst h;decide
theorem sT2 (alt:Int) (h0:3608900<=alt) (h1:alt<=6000000):vT alt=21665+(0 * (alt - (3608900))) / 2391100:=by
 rcases Int.lt_or_eq_of_le h0 with h | h
 ·unfold vT;rw [if_neg (by omega),if_neg (by omega)]
 ·subst h;decide
theorem bdT (alt:Int) (h0 : -200000<=alt) (h1:alt<=6000000):21665<=vT alt∧vT alt<=29211:=by
 rcases Int.lt_or_le alt 0 with g0 | g0
 ·rw [sT0 alt (by omega)];omega
 rcases Int.lt_or_le alt 3608900 with g1 | g1
 ·rw [sT1 alt (by omega) (by omega)];omega
 rw [sT2 alt (by omega) (by omega)];omega
theorem AdW (f:Int→Int) (h:∀ x,-200000<=x→x<6000000→f (x+1)<=f x) (a:Int) (ha : -200000<=a):∀ k:Nat,a+k<=6000000→f (a+k)<=f a
 | 0,_=>by simp
 | k+1,hk=>by
  have h1:=AdW f h a ha k (by omega);have h2:=h (a+k) (by omega) (by omega)
  have e:a+((k+1:Nat):Int)=a+k+1:=by omega
  rw [e];omega
structure AfS (p L:Int):Prop where
 lo : -200000<=L
 hi:L<=6000000
 met:vP L<=p
 least:L = -200000∨p<vP (L - 1)
def ratV (alt dev:Int):Int:=vR alt * (57630+dev) / 57630
theorem ratV_mono {a b d e:Int} (ha:0<=vR a) (hab:vR a<=vR b) (hd : -57630<=d) (hde:d<=e):ratV a d<=ratV b e:=by
 unfold ratV
 refine Int.ediv_le_ediv (by decide) ?_
 exact Int.mul_le_mul hab (by omega) (by omega) (by omega)
def tempV (alt dev:Int):Int:=vT alt+dev
def soundV (alt dev:Int):Int:=(Fx.isq (388734 * tempV alt dev / 100).toNat:Int)
theorem soundV_mono {a b d e:Int} (h:tempV a d<=tempV b e):soundV a d<=soundV b e:=by
 unfold soundV
 have:(388734 * tempV a d / 100).toNat<=(388734 * tempV b e / 100).toNat:=by omega
 have:=Fx.isq_mono this
 omega
end Go.Proofs.At
namespace Go.Proofs.YtedcanagfajcgaaGreat
structure Acc where
 em:Int
 ld:Int
 rs:Int
 bu:Int
def Acc.cells (a:Acc):List Value:=(lz4 a.em a.ld a.rs a.bu)
def Acc.B (a:Acc):Bool:=inB a.em 1 3000000000 && inB a.ld 0 (3000000000 - a.em) && inB a.rs 0 a.ld && inB a.bu 0 a.ld
def Acc.E (a:Acc):Int:=if a.B=true then 0 else 2
def Acc.left (a:Acc):Int:=if a.B=true then a.ld - a.bu else 0
def Acc.mass (a:Acc):Int:=if a.B=true then a.em+(a.ld - a.bu) else 0
theorem Dv {a:Acc} (h:a.B=true):(1<=a.em∧a.em<=3000000000)∧(0<=a.ld∧a.ld<=3000000000 - a.em)∧(0<=a.rs∧a.rs<=a.ld)∧0<=a.bu∧a.bu<=a.ld:=by
 unfold Acc.B at h
 simp only [Bool.and_eq_true,Al] at h
 exact ⟨h.1.1.1,h.1.1.2,h.1.2,h.2⟩
def biE (l0 l1 f0 f1 t0 t1:Int):Int :=
 if l1<l0∨f1<f0∨t1<t0 then 1
 else if l0<0∨3000000000<l1∨f0<0∨50000<f1∨t0<0∨1099511627776<t1 then 2
 else if l0 - f1 * t1<0 then 15 else 0
def biL (l0 l1 f0 f1 t0 t1:Int):Int:=if biE l0 l1 f0 f1 t0 t1=0 then l0 - f1 * t1 else 0
def biH (l0 l1 f0 f1 t0 t1:Int):Int:=if biE l0 l1 f0 f1 t0 t1=0 then l1 - f0 * t0 else 0
end Go.Proofs.YtedcanagfajcgaaGreat
namespace Go.Proofs.Fx
theorem DL {x k D:Int} (hD:0<D) (h1:k * D<=x) (h2:x<k * D+D):x / D=k:=by
 have a:k<=x / D:=(Int.le_ediv_iff_mul_le hD).2 h1;have b:x / D<k+1:=(Int.ediv_lt_iff_lt_mul hD).2 (by rw [Int.add_mul];omega)
 omega
def rq (m:Nat) (n c:Int):Int:=if m=0 then n / c else if m=1 then -((-n) / c) else (2 * n+c) / (2 * c)
def rqz (m:Nat) (n c:Int):Int:=if c<0 then rq m (-n) (-c) else rq m n c
def Rp (m:Nat) (neg:Bool) (N D:Nat):Int:=if neg then -(mag m neg N D:Int) else (mag m neg N D:Int)
theorem XC (m:Nat) (N D:Nat) (hD:0<D):Rp m false N D=rq m (N:Int) (D:Int):=by
 have hr:=Nat.mod_lt N hD;have hN:=Nat.div_add_mod N D;generalize hq:N / D=q at *;generalize hrr:N % D=r at *
 have hNi:(N:Int)=q * D+r:=by rw [← hN];push_cast;rw [Int.mul_comm]
 have hDi:(0:Int)<D:=by omega
 unfold Rp rq mag away
 rw [hq,hrr]
 simp only [Bool.false_eq_true,if_false,Bool.false_and,Bool.not_false,Bool.true_and]
 by_cases h0:m=0
 ·simp only [h0,if_true,Bool.false_eq_true,if_false,Nat.add_zero]
  exact (DL hDi (by omega) (by omega)).symm
 ·by_cases h1:m=1
  ·simp only [h1,if_true,show ¬ ((1:Nat)=0) from by omega,if_false]
   by_cases hz:0<r
   ·have:(-(N:Int)) / D = -((q:Int)+1):=DL hDi (by rw [Int.neg_mul,Int.add_mul];omega) (by rw [Int.neg_mul,Int.add_mul];omega)
    rw [this];simp [hz]
   ·have:(-(N:Int)) / D = -(q:Int):=DL hDi (by rw [Int.neg_mul];omega) (by rw [Int.neg_mul];omega)
    rw [this];simp [hz]
  ·simp only [h0,h1,if_false]
   have e2:∀ k:Int,k * (2 * (D:Int))=2 * (k * D):=fun k=>by rw [← Int.mul_assoc,Int.mul_comm k 2,Int.mul_assoc]
   by_cases hz:D<=2 * r
   ·have:(2 * (N:Int)+D) / (2 * D)=(q:Int)+1:=DL (by omega) (by rw [e2,Int.add_mul];omega) (by rw [e2,Int.add_mul];omega)
    rw [this]
    have hb:(decide (D<2 * r) || decide (2 * r=D))=true:=by
     rw [Bool.or_eq_true,decide_eq_true_iff,decide_eq_true_iff];omega
    rw [hb];simp
   ·have:(2 * (N:Int)+D) / (2 * D)=(q:Int):=DL (by omega) (by rw [e2];omega) (by rw [e2];omega)
    rw [this]
    have hb:(decide (D<2 * r) || decide (2 * r=D))=false:=by
     rw [Bool.or_eq_false_iff,decide_eq_false_iff_not,decide_eq_false_iff_not];omega
    rw [hb];simp
theorem XB (m:Nat) (N D:Nat) (hD:0<D):Rp m true N D=rq m (-(N:Int)) (D:Int):=by
 have hr:=Nat.mod_lt N hD;have hN:=Nat.div_add_mod N D;generalize hq:N / D=q at *;generalize hrr:N % D=r at *
 have hNi:(N:Int)=q * D+r:=by rw [← hN];push_cast;rw [Int.mul_comm]
 have hDi:(0:Int)<D:=by omega
 unfold Rp rq mag away
 rw [hq,hrr]
 simp only [if_true,Bool.true_and,Bool.not_true,Bool.false_and,Bool.or_false]
 by_cases h0:m=0
 ·simp only [h0,if_true]
  by_cases hz:0<r
  ·have:(-(N:Int)) / D = -((q:Int)+1):=DL hDi (by rw [Int.neg_mul,Int.add_mul];omega) (by rw [Int.neg_mul,Int.add_mul];omega)
   rw [this];simp [hz]
  ·have:(-(N:Int)) / D = -(q:Int):=DL hDi (by rw [Int.neg_mul];omega) (by rw [Int.neg_mul];omega)
   rw [this];simp [hz]
 ·by_cases h1:m=1
  ·simp only [h1,if_true,show ¬ ((1:Nat)=0) from by omega,if_false,Int.neg_neg,Bool.false_eq_true]
   have:(N:Int) / D=(q:Int):=DL hDi (by omega) (by omega)
   rw [this];simp
  ·simp only [h0,h1,if_false]
   have e2:∀ k:Int,k * (2 * (D:Int))=2 * (k * D):=fun k=>by rw [← Int.mul_assoc,Int.mul_comm k 2,Int.mul_assoc]
   by_cases hz:D<2 * r
   ·have:(2 * -(N:Int)+D) / (2 * D) = -((q:Int)+1):=DL (by omega) (by rw [e2,Int.neg_mul,Int.add_mul];omega) (by rw [e2,Int.neg_mul,Int.add_mul];omega)
    rw [this];simp [hz]
   ·have:(2 * -(N:Int)+D) / (2 * D) = -(q:Int):=DL (by omega) (by rw [e2,Int.neg_mul];omega) (by rw [e2,Int.neg_mul];omega)
    rw [this];simp [hz]
theorem Hg {a:Int} (h:a<0):(a.natAbs:Int) = -a:=by omega
theorem Hl {a:Int} (h:¬ a<0):(a.natAbs:Int)=a:=by omega
theorem TF (m:Nat) (a b c:Int) (hc:c≠0):Rp m (negOf a b c) (a.natAbs * b.natAbs) c.natAbs=rqz m (a * b) c:=by
 have hD:0<c.natAbs:=by omega
 unfold rqz negOf
 by_cases ha:a<0 <;> by_cases hb:b<0 <;> by_cases hc':c<0 <;> simp only [ha,hb,hc',decide_true,decide_false,bne_self_eq_false,Bool.true_bne,Bool.false_bne,Bool.not_true,Bool.not_false,if_true,if_false] <;>
  first
  | (rw [XC m _ _ hD,Int.natCast_mul];simp only [Hg,Hl,ha,hb,hc',not_false_eq_true,Int.neg_mul,Int.mul_neg,Int.neg_neg])
  | (rw [XB m _ _ hD,Int.natCast_mul];simp only [Hg,Hl,ha,hb,hc',not_false_eq_true,Int.neg_mul,Int.mul_neg,Int.neg_neg])
def inR (x:Int):Prop := -9223372036854775808<=x∧x<=9223372036854775807
instance (x:Int):Decidable (inR x):=by unfold inR;infer_instance
theorem scV_eq (m:Nat) (a b c:Int) (hc:c≠0):scV m a b c=if inR (rqz m (a * b) c) then rqz m (a * b) c else 0:=by
 rw [← TF m a b c hc]
 unfold scV sgV Rp inR
 rw [if_neg hc]
 cases negOf a b c <;> simp only [if_true,Bool.false_eq_true,if_false] <;> split <;> split <;> omega
theorem scE_eq (m:Nat) (a b c:Int) (hc:c≠0):scE m a b c=if inR (rqz m (a * b) c) then 0 else 2:=by
 rw [← TF m a b c hc]
 unfold scE sgE Rp inR
 rw [if_neg hc]
 cases negOf a b c <;> simp only [if_true,Bool.false_eq_true,if_false] <;> split <;> split <;> omega
end Go.Proofs.Fx
namespace Go.Proofs.Pf
def inB (x:Int):Prop := -1099511627776<=x∧x<=1099511627776
instance (x:Int):Decidable (inB x):=by unfold inB;infer_instance
def okD (d:Int):Prop:=0<=d∧d<=8000000
instance (x:Int):Decidable (okD x):=by unfold okD;infer_instance
def chE (v d:List Int):Int:=if 64<v.length then 3 else if v.length=0∨d.length+1≠v.length then 1 else if (∀ x ∈ v,inB x)∧∀ x ∈ d,okD x then 0 else 2
structure ChOk (v d:List Int):Prop where
 len:v.length<=64
 two:v.length=d.length+1
 vs:∀ x ∈ v,inB x
 ds:∀ x ∈ d,okD x
theorem ChOk.err {v d:List Int} (h:ChOk v d):chE v d=0:=by
 have h1:=h.len;have h2:=h.two
 unfold chE
 rw [if_neg (by omega),if_neg (by omega),if_pos ⟨h.vs,h.ds⟩]
theorem NR {a b k:Int} (ha:inB a) (hb:inB b) (h0:0<=k) (h1:k<=8000000) : -17592186044416000000<=(b - a) * k∧(b - a) * k<=17592186044416000000:=by
 unfold inB at ha hb
 have h:((b - a) * k).natAbs<=2199023255552 * 8000000:=by
  rw [Int.natAbs_mul]
  exact Nat.mul_le_mul (by omega) (by omega)
 omega
end Go.Proofs.Pf
namespace Go.Proofs.YtedcanagfajcgaaGreat
open Go.RowKit
structure RowI (w0:World) (g n:Nat) (F:Nat→Int) (w:World):Prop where
 cell:∀ j,j<n→w.cell? ⟨g,j,none⟩=some (vI (F j))
 fr:∀ o,w.frozen? ⟨g,o,none⟩=false
 lt:g<w.heap.size
 ge:w0.heap.size<=g
 bel:Below w0.heap.size w0 w
theorem RowI.drew {w0 w:World} {g n:Nat} {F:Nat→Int} (h:RowI w0 g n F w):RowI w0 g n F w.drew:=⟨h.cell,h.fr,h.lt,h.ge,h.bel.drew⟩
theorem RowI.below {w0 w w':World} {g n:Nat} {F:Nat→Int} (h:RowI w0 g n F w) (hb:Below w.heap.size w w'):RowI w0 g n F w' :=
 ⟨fun j hj=>(hb.cell (p:=⟨g,j,none⟩) h.lt).trans (h.cell j hj),fun o=>(hb.frozen (p:=⟨g,o,none⟩) h.lt).trans (h.fr o),Nat.lt_of_lt_of_le h.lt hb.size,h.ge,Ae h.bel hb⟩
theorem RowI.alloc {w0 w:World} {g n:Nat} {F:Nat→Int} (h:RowI w0 g n F w) (o:Obj):RowI w0 g n F (w.alloc o):=h.below ((AJ _ w).alloc (Bn _) _)
theorem RowI.made {w0 w:World} (n:Nat) (hb:Below w0.heap.size w0 w) (t:TypeId):RowI w0 w.heap.size n (fun _=>0) (w.alloc (.cells (madeCells #[vI 0] n) t)) :=
 ⟨fun j hj=>by rw [World.cell?_alloc_new,← Array.getElem?_toList,toList_madeCells_one,List.getElem?_replicate,if_pos hj],fun o=>Vl w _ _ o,by simp,hb.size,hb.alloc hb.size _⟩
def upd (F:Nat→Int) (k:Nat) (v:Int):Nat→Int:=fun j=>if j=k then v else F j
theorem RowI.set {w0 w:World} {g n k:Nat} {F:Nat→Int} (h:RowI w0 g n F w) (hk:k<n) (v:Int):RowI w0 g n (upd F k v) (w.setCell ⟨g,k,none⟩ (vI v)):=by
 refine ⟨fun j hj=>?_,fun o=>by rw [World.frozen?_setCell];exact h.fr o,by simpa [World.setCell] using h.lt,h.ge,h.bel.setCell (p:=⟨g,k,none⟩) h.ge _⟩
 by_cases hjk:j=k
 ·subst hjk
  rw [World.cell?_setCell_same w ⟨g,j,none⟩ _ (h.cell j hj)]
  unfold upd
  rw [if_pos rfl]
 ·rw [World.cell?_setCell_other w ⟨g,k,none⟩ ⟨g,j,none⟩ _ (by intro e;injection e with _ e;omega),h.cell j hj]
  unfold upd
  rw [if_neg hjk]
theorem RowI.congr {w0 w:World} {g n:Nat} {F G:Nat→Int} (h:RowI w0 g n F w) (hfg:∀ j,j<n→F j=G j):RowI w0 g n G w :=
 ⟨fun j hj=>by rw [← hfg j hj];exact h.cell j hj,h.fr,h.lt,h.ge,h.bel⟩
def Ec (l:List Int) (k:Nat):Nat→Int:=fun j=>if j<k then l.getD j 0 else 0
theorem Fe (l:List Int) (j:Nat):0=Ec l 0 j:=by unfold Ec;rw [if_neg (by omega)]
theorem E9 {l:List Int} {k:Nat} {x:Int} (h:l[k]? = some x) (j:Nat):upd (Ec l k) k x j=Ec l (k+1) j:=by
 unfold upd Ec
 by_cases e:j=k
 ·subst e
  rw [if_pos rfl,if_pos (by omega),Dp,h];rfl
 ·rw [if_neg e]
  by_cases e2:j<k
  ·rw [if_pos e2,if_pos (by omega)]
  ·rw [if_neg e2,if_neg (by omega)]
theorem RowI.ints {w0 w:World} {g n:Nat} {l:List Int} (hl:l.length=n) (h:RowI w0 g n (Ec l n) w):Ints w (some ⟨g,0,none⟩) n l:=by
 refine ⟨hl,fun _=>⟨g,0,rfl,h.lt,fun k v hk=>?_⟩⟩
 have hkn:k<n:=by rw [← hl];exact (List.getElem?_eq_some_iff.1 hk).1
 rw [Nat.zero_add,h.cell k hkn]
 unfold Ec
 rw [if_pos hkn,Dp,hk];rfl
