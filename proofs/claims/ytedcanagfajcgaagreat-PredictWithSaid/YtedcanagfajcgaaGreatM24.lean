set_option linter.unusedSimpArgs false
set_option linter.unusedVariables false
namespace Go.Proofs
theorem Abu{G:Prop}(h:G:=by
  rw [iv_seg (p.zip l) k _ _ _ (zip_get hl (by omega)) (zip_get hl (by omega)) (fun j q hj hq=>by
   obtain ⟨h1,h2⟩:=zip_get_inv hq
   rw [h2];exact Nt ha (by omega) (by omega)) (Int.le_refl _)]
  exact Ad5 _ _ _ _ (Nt ha (by omega) (by omega))):G:=h
end Go.Proofs
namespace Go.Proofs.Pe
def ip (a b u v x:Int):Int:=u+(v - u) * (x - a) / (b - a)
def iv:List (Int × Int)→Int→Int
 | [],_=>0
 | [r],_=>r.2
 | r :: s :: t,x=>if x<=r.1 then r.2 else if x<=s.1 then ip r.1 s.1 r.2 s.2 x else iv (s :: t) x
theorem Ad5 (a b u v:Int) (h:a<b):ip a b u v b=v:=by
 unfold ip
 rw [Int.mul_ediv_cancel _ (by omega)]
 omega
theorem Ad6 (a b u v:Int):ip a b u v a=u:=by
 unfold ip
 simp
theorem Wt {a b u v x:Int} (h0:a<=x) (h1:x<=b) (hab:a<b) (h:u<=v):u<=ip a b u v x∧ip a b u v x<=v:=by
 unfold ip
 have p1:0<=(v - u) * (x - a):=Int.mul_nonneg (by omega) (by omega);have p2:(v - u) * (x - a)<=(v - u) * (b - a):=Int.mul_le_mul_of_nonneg_left (by omega) (by omega);have q1:0<=(v - u) * (x - a) / (b - a):=Int.ediv_nonneg p1 (by omega);have q2:(v - u) * (x - a) / (b - a)<=v - u:=Int.ediv_le_of_le_mul (by omega) p2
 omega
theorem Y4 {a b u v x:Int} (h0:a<=x) (h1:x<=b) (hab:a<b) (h:v<=u):v<=ip a b u v x∧ip a b u v x<=u:=by
 unfold ip
 have p1:0<=(u - v) * (x - a):=Int.mul_nonneg (by omega) (by omega);have p2:(u - v) * (x - a)<=(u - v) * (b - a):=Int.mul_le_mul_of_nonneg_left (by omega) (by omega)
 have e:(v - u) * (x - a) = -((u - v) * (x - a)):=by rw [← Int.neg_mul];congr 1;omega
 have e2:(v - u) * (b - a) = -((u - v) * (b - a)):=by rw [← Int.neg_mul];congr 1;omega
 have q1:(v - u) * (x - a) / (b - a)<=0:=by
  have:=Int.ediv_le_ediv (show 0<b - a by omega) (show (v - u) * (x - a)<=0 by omega)
  simpa using this
 have q2:v - u<=(v - u) * (x - a) / (b - a):=by
  rw [Int.le_ediv_iff_mul_le (by omega)]
  omega
 omega
theorem ip_bd {a b u v x lo hi:Int} (h0:a<=x) (h1:x<=b) (hab:a<b) (hu:lo<=u∧u<=hi) (hv:lo<=v∧v<=hi):lo<=ip a b u v x∧ip a b u v x<=hi:=by
 rcases Int.le_total u v with h | h
 ·have:=Wt h0 h1 hab h;omega
 ·have:=Y4 h0 h1 hab h;omega
theorem Y5 {a b u v u' v' x:Int} (h0:a<=x) (h1:x<=b) (hab:a<b) (hu:u<=u') (hv:v<=v'):ip a b u v x<=ip a b u' v' x:=by
 unfold ip
 have e:∀ p q:Int,p+(q - p) * (x - a) / (b - a)=(p * (b - x)+q * (x - a)) / (b - a):=by
  intro p q
  have:p * (b - x)+q * (x - a)=(q - p) * (x - a)+p * (b - a):=by
   simp only [Int.mul_sub,Int.sub_mul];omega
  rw [this,Int.add_mul_ediv_right _ _ (by omega)]
  omega
 rw [e,e]
 have m1:u * (b - x)<=u' * (b - x):=Int.mul_le_mul_of_nonneg_right hu (by omega);have m2:v * (x - a)<=v' * (x - a):=Int.mul_le_mul_of_nonneg_right hv (by omega)
 exact Int.ediv_le_ediv (by omega) (by omega)
theorem Afr {a b u v x y:Int} (hxy:x<=y) (hab:a<b) (h:u<=v):ip a b u v x<=ip a b u v y:=by
 unfold ip
 have:(v - u) * (x - a)<=(v - u) * (y - a):=Int.mul_le_mul_of_nonneg_left (by omega) (by omega);have:=Int.ediv_le_ediv (show 0<b - a by omega) this
 omega
/-! ### what iv is -/
theorem NC {L:List (Int × Int)} {r:Int × Int} {x:Int} (h:L[0]? = some r) (hx:x<=r.1):iv L x=r.2:=by
 match L,h with
 | [q],h=>simp at h;subst h;rfl
 | q :: s :: t,h=>simp at h;subst h;unfold iv;rw [if_pos hx]
theorem iv_seg:∀ (L:List (Int × Int)) (k:Nat) (r s:Int × Int) (x:Int),L[k]? = some r→L[k+1]? = some s→(∀ (j:Nat) (q:Int × Int),j<=k→L[j]? = some q→q.1<x)→x<=s.1→iv L x=ip r.1 s.1 r.2 s.2 x
 | [],k,r,s,x,h,_,_,_=>by simp at h
 | [q],k,r,s,x,_,h,_,_=>by simp at h
 | q :: p :: t,0,r,s,x,h0,h1,hb,hx=>by
  simp at h0 h1
  subst h0 h1;have:=hb 0 q (Nat.le_refl _) rfl
  unfold iv
  rw [if_neg (by omega),if_pos hx]
 | q :: p :: t,k+1,r,s,x,h0,h1,hb,hx=>by
  have hq:=hb 0 q (by omega) rfl;have hp:=hb 1 p (by omega) rfl
  unfold iv
  rw [if_neg (by omega),if_neg (by omega)]
  exact iv_seg (p :: t) k r s x (by simpa using h0) (by simpa using h1) (fun j z hj hz=>hb (j+1) z (by omega) (by simpa using hz)) hx
theorem iv_last:∀ (L:List (Int × Int)) (k:Nat) (r:Int × Int) (x:Int),L.length=k+1→L[k]? = some r→(∀ (j:Nat) (q:Int × Int),L[j]? = some q→q.1<x)→iv L x=r.2
 | [],k,r,x,h,_,_=>by simp at h
 | [q],k,r,x,h,h0,_=>by
  have:k=0:=by simpa using h.symm
  subst this
  simp at h0;subst h0;rfl
 | q :: p :: t,0,r,x,h,h0,hb=>by simp at h
 | q :: p :: t,k+1,r,x,h,h0,hb=>by
  have hq:=hb 0 q rfl;have hp:=hb 1 p rfl
  unfold iv
  rw [if_neg (by omega),if_neg (by omega)]
  exact iv_last (p :: t) k r x (by simpa using h) (by simpa using h0) (fun j z hz=>hb (j+1) z (by simpa using hz))
def Asc (l:List Int):Prop:=∀ i,i+1<l.length→l.getD i 0<l.getD (i+1) 0
def Up (l:List Int):Prop:=∀ i,i+1<l.length→l.getD i 0<=l.getD (i+1) 0
def Down (l:List Int):Prop:=∀ i,i+1<l.length→l.getD (i+1) 0<=l.getD i 0
instance (l:List Int):Decidable (Asc l):=decidable_of_iff (∀ i,i<l.length - 1→l.getD i 0<l.getD (i+1) 0) (by unfold Asc;constructor <;> (intro h i hi;exact h i (by omega)))
instance (l:List Int):Decidable (Up l):=decidable_of_iff (∀ i,i<l.length - 1→l.getD i 0<=l.getD (i+1) 0) (by unfold Up;constructor <;> (intro h i hi;exact h i (by omega)))
instance (l:List Int):Decidable (Down l):=decidable_of_iff (∀ i,i<l.length - 1→l.getD (i+1) 0<=l.getD i 0) (by unfold Down;constructor <;> (intro h i hi;exact h i (by omega)))
def AscP (L:List (Int × Int)):Prop:=Asc (L.map (·.1))
theorem Jm {r s:Int × Int} {t:List (Int × Int)} (h:AscP (r :: s :: t)):r.1<s.1∧AscP (s :: t):=by
 refine ⟨by simpa using h 0 (by simp),fun i hi=>?_⟩
 have:=h (i+1) (by simpa using hi)
 simpa using this
theorem iv_bd {lo hi:Int}:∀ (L:List (Int × Int)) (x:Int),L≠[]→AscP L→(∀ r ∈ L,lo<=r.2∧r.2<=hi)→lo<=iv L x∧iv L x<=hi
 | [],x,h,_,_=>absurd rfl h
 | [r],x,_,_,hb=>hb r (by simp)
 | r :: s :: t,x,_,ha,hb=>by
  obtain ⟨h1,h2⟩:=Jm ha
  unfold iv
  by_cases c1:x<=r.1
  ·rw [if_pos c1];exact hb r (by simp)
  ·rw [if_neg c1]
   by_cases c2:x<=s.1
   ·rw [if_pos c2];exact ip_bd (by omega) c2 h1 (hb r (by simp)) (hb s (by simp))
   ·rw [if_neg c2];exact iv_bd (s :: t) x (by simp) h2 (fun q hq=>hb q (List.mem_cons_of_mem _ hq))
theorem iv_mono:∀ (p u v:List Int) (x:Int),u.length=p.length→v.length=p.length→Asc p→(∀ i,i<p.length→u.getD i 0<=v.getD i 0)→iv (p.zip u) x<=iv (p.zip v) x
 | [],u,v,x,_,_,_,_=>by simp [iv]
 | [a],u,v,x,hu,hv,_,h=>by
  match u,hu,v,hv with
  | [c],_,[d],_=>have:=h 0 (by simp);simpa [iv] using this
 | a :: b :: p,u,v,x,hu,hv,ha,h=>by
  match u,hu,v,hv with
  | c :: c' :: u,hu,d :: d' :: v,hv =>
   have h0:=h 0 (by simp);have h1:=h 1 (by simp)
   have hab:a<b:=by simpa using ha 0 (by simp)
   simp at h0 h1
   simp only [List.zip_cons_cons]
   unfold iv
   by_cases c1:x<=a
   ·rw [if_pos c1,if_pos c1];exact h0
   ·rw [if_neg c1,if_neg c1]
    by_cases c2:x<=b
    ·rw [if_pos c2,if_pos c2];exact Y5 (by omega) c2 hab h0 h1
    ·rw [if_neg c2,if_neg c2]
     have:=iv_mono (b :: p) (c' :: u) (d' :: v) x (by simpa using hu) (by simpa using hv) (fun i hi=>by have:=ha (i+1) (by simpa using hi);simpa using this) (fun i hi=>by have:=h (i+1) (by simpa using hi);simpa using this)
     simpa only [List.zip_cons_cons] using this
theorem Iu:∀ (L:List (Int × Int)) (r:Int × Int) (x:Int),AscP (r :: L)→Up ((r :: L).map (·.2))→r.2<=iv (r :: L) x
 | [],r,x,_,_=>Int.le_refl _
 | s :: t,r,x,ha,hu=>by
  obtain ⟨h1,h2⟩:=Jm ha
  have h3:r.2<=s.2:=by simpa using hu 0 (by simp)
  have h4:Up ((s :: t).map (·.2)):=fun i hi=>by have:=hu (i+1) (by simpa using hi);simpa using this
  have h5:=Iu t s x h2 h4
  unfold iv
  by_cases c1:x<=r.1
  ·rw [if_pos c1];exact Int.le_refl _
  ·rw [if_neg c1]
   by_cases c2:x<=s.1
   ·rw [if_pos c2];exact (Wt (by omega) c2 h1 h3).1
   ·rw [if_neg c2];omega
theorem iv_x:∀ (L:List (Int × Int)) (x y:Int),AscP L→Up (L.map (·.2))→x<=y→iv L x<=iv L y
 | [],x,y,_,_,_=>Int.le_refl _
 | [r],x,y,_,_,_=>Int.le_refl _
 | r :: s :: t,x,y,ha,hu,hxy=>by
  obtain ⟨h1,h2⟩:=Jm ha
  have h3:r.2<=s.2:=by simpa using hu 0 (by simp)
  have h4:Up ((s :: t).map (·.2)):=fun i hi=>by have:=hu (i+1) (by simpa using hi);simpa using this
  by_cases c1:x<=r.1
  ·have e:iv (r :: s :: t) x=r.2:=by unfold iv;rw [if_pos c1]
   rw [e];exact Iu (s :: t) r y ha hu
  ·have c1':¬ y<=r.1:=by omega
   unfold iv
   rw [if_neg c1,if_neg c1']
   by_cases c2:x<=s.1
   ·rw [if_pos c2]
    by_cases c3:y<=s.1
    ·rw [if_pos c3];exact Afr hxy h1 h3
    ·rw [if_neg c3]
     have:=(Wt (a:=r.1) (x:=x) (by omega) c2 h1 h3).2;have:=Iu t s y h2 h4
     omega
   ·rw [if_neg c2,if_neg (by omega)]
    exact iv_x (s :: t) x y h2 h4 hxy
/-! ### the other search: the last place that is not above x -/
theorem Nt {l:List Int} (h:Asc l) {i j:Nat} (hij:i<j) (hj:j<l.length):l.getD i 0<l.getD j 0:=by
 induction j with
 | zero=>omega
 | succ j ih =>
  have h1:=h j (by omega)
  by_cases e:i=j
  ·subst e;exact h1
  ·have:=ih (by omega) (by omega);omega
theorem zip_get {p l:List Int} {i:Nat} (hl:l.length=p.length) (hi:i<p.length):(p.zip l)[i]? = some (p.getD i 0,l.getD i 0):=by
 rw [List.getElem?_zip_eq_some]
 constructor
 ·show p[i]? = some (p.getD i 0);rw [List.getD_eq_getElem?_getD,List.getElem?_eq_getElem hi];rfl
 ·show l[i]? = some (l.getD i 0);rw [List.getD_eq_getElem?_getD,List.getElem?_eq_getElem (by omega)];rfl
theorem zip_get_inv {p l:List Int} {i:Nat} {q:Int × Int} (h:(p.zip l)[i]? = some q):i<p.length∧q.1=p.getD i 0:=by
 rw [List.getElem?_zip_eq_some] at h
 have:=List.getElem?_eq_some_iff.1 h.1;obtain ⟨h1,h2⟩:=this
 exact ⟨h1,by rw [List.getD_eq_getElem?_getD,h.1];rfl⟩
theorem iv_ref_hd {p l:List Int} {x:Int} (hl:l.length=p.length) (h0:0<p.length) (hx:x<=p.getD 0 0):iv (p.zip l) x=l.getD 0 0 :=
 NC (zip_get hl h0) hx
theorem iv_ref_tl {p l:List Int} {x:Int} {n:Nat} (hl:l.length=p.length) (hn:p.length=n+1) (ha:Asc p) (hx:p.getD n 0<=x):iv (p.zip l) x=l.getD n 0:=by
 by_cases h:p.getD n 0<x
 ·exact iv_last (p.zip l) n (p.getD n 0,l.getD n 0) x (by simp;omega) (zip_get hl (by omega)) (fun j q hq=>by
   obtain ⟨h1,h2⟩:=zip_get_inv hq
   rw [h2]
   by_cases e:j=n
   ·subst e;exact h
   ·have:=Nt ha (show j<n by omega) (by omega);omega)
 ·have e:x=p.getD n 0:=by omega
  subst e
  match n,hn with
  | 0,hn=>exact NC (zip_get hl (by omega)) (Int.le_refl _)
  | k+1,hn =>
   exact Abu
theorem iv_ref_mid {p l:List Int} {x:Int} {i:Nat} (hl:l.length=p.length) (hi:i+1<p.length) (ha:Asc p) (h0:p.getD i 0<=x) (h1:x<p.getD (i+1) 0) :
  iv (p.zip l) x=ip (p.getD i 0) (p.getD (i+1) 0) (l.getD i 0) (l.getD (i+1) 0) x:=by
 by_cases h:p.getD i 0<x
 ·exact iv_seg (p.zip l) i _ _ _ (zip_get hl (by omega)) (zip_get hl hi) (fun j q hj hq=>by
   obtain ⟨h1,h2⟩:=zip_get_inv hq
   rw [h2]
   by_cases e:j=i
   ·subst e;exact h
   ·have:=Nt ha (show j<i by omega) (by omega);omega) (by simpa using Int.le_of_lt h1)
 ·have e:x=p.getD i 0:=by omega
  subst e
  rw [Ad6]
  match i,hi with
  | 0,hi=>exact NC (zip_get hl (by omega)) (Int.le_refl _)
  | k+1,hi =>
   exact Abu
end Go.Proofs.Pe
namespace Go.Proofs.Wg
def sX (corner cell n x:Int):Int:=min (max x corner) (corner+(n - 1) * cell) - corner
def sI (corner cell n x:Int):Int:=max (min (sX corner cell n x / cell) (n - 2)) 0
def sF (corner cell n x:Int):Int:=sX corner cell n x - sI corner cell n x * cell
theorem Y8 {a b c:Int} (h:a<=b) (hc:0<=c):a * c<=b * c:=Int.mul_le_mul_of_nonneg_right h hc
theorem sX_bd {corner cell n x:Int} (hc:1<=cell) (hn:1<=n):0<=sX corner cell n x∧sX corner cell n x<=(n - 1) * cell:=by
 have:0<=(n - 1) * cell:=Int.mul_nonneg (by omega) (by omega)
 unfold sX
 omega
theorem sI_bd {corner cell n x:Int} (hc:1<=cell) (hn:1<=n):0<=sI corner cell n x∧(sI corner cell n x=0∨sI corner cell n x<=n - 2)∧sI corner cell n x<n:=by
 unfold sI
 omega
theorem sF_bd {corner cell n x:Int} (hc:1<=cell) (hn:1<=n):0<=sF corner cell n x∧sF corner cell n x<=cell∧(0<sF corner cell n x→sI corner cell n x+1<n):=by
 have hb:=sX_bd (corner:=corner) (x:=x) hc hn
 unfold sF sI
 generalize sX corner cell n x=X at *;have hq:0<=X / cell:=Int.ediv_nonneg hb.1 (by omega);have hd:=Int.mul_ediv_add_emod X cell;have hm:=Int.emod_nonneg X (show cell≠0 by omega);have hl:=Int.emod_lt_of_pos X (show 0<cell by omega);have hcm:X / cell * cell=cell * (X / cell):=Int.mul_comm _ _
 by_cases h2:n=1
 ·subst h2
  have:max (min (X / cell) (1 - 2)) 0=0:=by omega
  rw [this]
  have:(1 - 1:Int) * cell=0:=by simp
  omega
 ·by_cases h3:X / cell<=n - 2
  ·have e:max (min (X / cell) (n - 2)) 0=X / cell:=by omega
   rw [e]
   omega
  ·have e:max (min (X / cell) (n - 2)) 0=n - 2:=by omega
   rw [e]
   have h4:=Y8 (show n - 1<=X / cell by omega) (show 0<=cell by omega)
   have e5:(n - 2) * cell=(n - 1) * cell - cell:=by
    rw [show n - 2=n - 1 - 1 by omega,Int.sub_mul (n - 1) 1 cell,Int.one_mul]
   omega
theorem sI_ref {corner cell n x i:Int} (hc:1<=cell) (hn:1<=n) (h0:0<=i) (h1:i=0∨i<=n - 2) (h2:i * cell<=sX corner cell n x) (h3:n - 2<=i∨sX corner cell n x<(i+1) * cell):sI corner cell n x=i:=by
 have hb:=sX_bd (corner:=corner) (x:=x) hc hn
 unfold sI
 generalize sX corner cell n x=X at *;have q1:i<=X / cell:=(Int.le_ediv_iff_mul_le (by omega)).2 h2
 rcases h3 with h3 | h3
 ·omega
 ·have q2:X / cell<i+1:=(Int.ediv_lt_iff_lt_mul (by omega)).2 h3
  omega
def lev:List Int→Int→Nat
 | _ :: b :: c :: t,a=>if b<=a then lev (b :: c :: t) a+1 else 0
 | _,_=>0
theorem lev_lt:∀ (l:List Int) (a:Int),l≠[]→lev l a<l.length∧(lev l a=0∨lev l a+1<l.length)
 | [],_,h=>absurd rfl h
 | [x],a,_=>by simp [lev]
 | [x,y],a,_=>by simp [lev]
 | x :: y :: z :: t,a,_=>by
  have:=lev_lt (y :: z :: t) a (by simp)
  unfold lev
  split
  ·simp at this ⊢;omega
  ·simp
theorem lev_eq:∀ (l:List Int) (a:Int) (j:Nat),(∀ k,k<j→l.getD (k+1) 0<=a)→(j=0∨j+2<=l.length)→(l.length<=j+2∨a<l.getD (j+1) 0)→lev l a=j
 | [],a,j,_,h,_=>by simp [lev];simp at h;omega
 | [x],a,j,_,h,_=>by simp [lev];simp at h;omega
 | [x,y],a,j,_,h,_=>by simp [lev];simp at h;omega
 | x :: y :: z :: t,a,0,_,_,h=>by
  unfold lev
  rw [if_neg]
  rcases h with h | h
  ·simp at h
  ·simp at h;omega
 | x :: y :: z :: t,a,j+1,h0,h1,h2=>by
  unfold lev
  have:=h0 0 (by omega)
  simp at this
  rw [if_pos this,lev_eq (y :: z :: t) a j (fun k hk=>by have:=h0 (k+1) (by omega);simpa using this) (by simp at h1 ⊢;omega) (by simp at h2 ⊢;omega)]
theorem Wx:∀ (l:List Int) (a:Int),(∀ x,l[0]? = some x→x<=a)→l≠[]→l.getD (lev l a) 0<=a
 | [],a,_,h=>absurd rfl h
 | [x],a,h,_=>by simpa [lev] using h x rfl
 | [x,y],a,h,_=>by simpa [lev] using h x rfl
 | x :: y :: z :: t,a,h,_=>by
  unfold lev
  split
  ·next hy=>simpa using Wx (y :: z :: t) a (by intro w hw;simp at hw;omega) (by simp)
  ·simpa using h x rfl
theorem Wv:∀ (l:List Int) (a:Int) (n:Nat),l.length=n+2→a<=l.getD (n+1) 0→a<=l.getD (lev l a+1) 0
 | [x,y],a,n,hn,h=>by
  have:n=0:=by simpa using hn.symm
  subst this
  simpa [lev] using h
 | x :: y :: z :: t,a,n,hn,h=>by
  unfold lev
  split
  ·next hy =>
   match n,hn with
   | k+1,hn=>simpa using Wv (y :: z :: t) a k (by simpa using hn) (by simpa using h)
  ·next hy=>simp;omega
def lA (l:List Int) (a:Int):Int:=min (max a (l.getD 0 0)) (l.getD (l.length - 1) 0)
def lI (l:List Int) (a:Int):Nat:=lev l (lA l a)
def lF (l:List Int) (a:Int):Int:=if l.length=1 then 0 else lA l a - l.getD (lI l a) 0
def lC (l:List Int) (a:Int):Int:=if l.length=1 then 1 else l.getD (lI l a+1) 0 - l.getD (lI l a) 0
def bl (u v f c:Int):Int:=if f=0 then u else u+(v - u) * f / c
theorem bl_bd {u v f c lo hi:Int} (hu:lo<=u∧u<=hi) (hv:f≠0→lo<=v∧v<=hi) (h0:0<=f) (h1:f<=c):lo<=bl u v f c∧bl u v f c<=hi:=by
 unfold bl
 by_cases hf:f=0
 ·rw [if_pos hf];exact hu
 ·rw [if_neg hf]
  have hv:=hv hf
  have hc:0<c:=by omega
  rcases Int.le_total u v with h | h
  ·have p1:0<=(v - u) * f:=Int.mul_nonneg (by omega) h0
   have p2:(v - u) * f<=(v - u) * c:=Int.mul_le_mul_of_nonneg_left h1 (by omega);have q1:0<=(v - u) * f / c:=Int.ediv_nonneg p1 (by omega);have q2:(v - u) * f / c<=v - u:=Int.ediv_le_of_le_mul hc p2
   omega
  ·have p1:0<=(u - v) * f:=Int.mul_nonneg (by omega) h0
   have p2:(u - v) * f<=(u - v) * c:=Int.mul_le_mul_of_nonneg_left h1 (by omega)
   have e:(v - u) * f = -((u - v) * f):=by rw [← Int.neg_mul];congr 1;omega
   have e2:(v - u) * c = -((u - v) * c):=by rw [← Int.neg_mul];congr 1;omega
   have q1:(v - u) * f / c<=0:=by
    have:=Int.ediv_le_ediv hc (show (v - u) * f<=0 by omega)
    simpa using this
   have q2:v - u<=(v - u) * f / c:=by
    rw [Int.le_ediv_iff_mul_le hc]
    omega
   omega
def gv (E:Int→Int→Int→Int) (x y z fx fy fz c cz:Int):Int :=
 bl (bl (bl (E x y z) (E (x+1) y z) fx c) (bl (E x (y+1) z) (E (x+1) (y+1) z) fx c) fy c)
  (bl (bl (E x y (z+1)) (E (x+1) y (z+1)) fx c) (bl (E x (y+1) (z+1)) (E (x+1) (y+1) (z+1)) fx c) fy c) fz cz
/-! ### least and greatest -/
def mnL (l:List Int) (a:Int):Int:=l.foldl min a
def mxL (l:List Int) (a:Int):Int:=l.foldl max a
theorem mnL_le:∀ (l:List Int) (a:Int),mnL l a<=a∧(∀ x ∈ l,mnL l a<=x)∧(mnL l a=a∨mnL l a ∈ l)
 | [],a=>⟨Int.le_refl _,by simp,.inl rfl⟩
 | x :: t,a=>by
  obtain ⟨h1,h2,h3⟩:=mnL_le t (min a x);have e:mnL (x :: t) a=mnL t (min a x):=rfl
  rw [e]
  refine ⟨by omega,fun y hy=>?_,?_⟩
  ·rcases List.mem_cons.1 hy with rfl | hy
   ·omega
   ·exact h2 y hy
  ·rcases h3 with h3 | h3
   ·by_cases h:a<=x
    ·left;omega
    ·right;rw [h3];have:min a x=x:=by omega
     rw [this];simp
   ·right;exact List.mem_cons_of_mem _ h3
theorem mxL_ge:∀ (l:List Int) (a:Int),a<=mxL l a∧(∀ x ∈ l,x<=mxL l a)∧(mxL l a=a∨mxL l a ∈ l)
 | [],a=>⟨Int.le_refl _,by simp,.inl rfl⟩
 | x :: t,a=>by
  obtain ⟨h1,h2,h3⟩:=mxL_ge t (max a x);have e:mxL (x :: t) a=mxL t (max a x):=rfl
  rw [e]
  refine ⟨by omega,fun y hy=>?_,?_⟩
  ·rcases List.mem_cons.1 hy with rfl | hy
   ·omega
   ·exact h2 y hy
  ·rcases h3 with h3 | h3
   ·by_cases h:x<=a
    ·left;omega
    ·right;rw [h3];have:max a x=x:=by omega
     rw [this];simp
   ·right;exact List.mem_cons_of_mem _ h3
def rng (lo hi:Int):List Int:=(List.range (hi+1 - lo).toNat).map fun (k:Nat)=>lo+(k:Int)
theorem Y7 {lo hi x:Int}:x ∈ rng lo hi ↔ lo<=x∧x<=hi:=by
 unfold rng
 simp only [List.mem_map,List.mem_range]
 constructor
 ·rintro ⟨k,hk,rfl⟩;omega
 ·intro h;exact ⟨(x - lo).toNat,by omega,by omega⟩
def boxL (E:Int→Int→Int→Int) (x0 x1 y0 y1 z0 z1:Int):List Int :=
 (rng z0 z1).flatMap fun z=>(rng y0 y1).flatMap fun y=>(rng x0 x1).map fun x=>E x y z
theorem mem_boxL {E:Int→Int→Int→Int} {x0 x1 y0 y1 z0 z1 v:Int}:v ∈ boxL E x0 x1 y0 y1 z0 z1 ↔ ∃ x y z,(x0<=x∧x<=x1)∧(y0<=y∧y<=y1)∧(z0<=z∧z<=z1)∧E x y z=v:=by
 unfold boxL
 simp only [List.mem_flatMap,List.mem_map,Y7]
 constructor
 ·rintro ⟨z,hz,y,hy,x,hx,rfl⟩;exact ⟨x,y,z,hx,hy,hz,rfl⟩
 ·rintro ⟨x,y,z,hx,hy,hz,rfl⟩;exact ⟨z,hz,y,hy,x,hx,rfl⟩
def hMn (E:Int→Int→Int→Int) (x0 x1 y0 y1 z0 z1:Int):Int:=mnL (boxL E x0 x1 y0 y1 z0 z1) (E x0 y0 z0)
def hMx (E:Int→Int→Int→Int) (x0 x1 y0 y1 z0 z1:Int):Int:=mxL (boxL E x0 x1 y0 y1 z0 z1) (E x0 y0 z0)
structure Seen (E:Int→Int→Int→Int) (x0 y0 z0:Int) (S:Int→Int→Int→Prop) (lo hi:Int):Prop where
 lo0:lo<=E x0 y0 z0
 hi0:E x0 y0 z0<=hi
 lo1:∀ x y z,S x y z→lo<=E x y z
 hi1:∀ x y z,S x y z→E x y z<=hi
 lo2:lo=E x0 y0 z0∨∃ x y z,S x y z∧lo=E x y z
 hi2:hi=E x0 y0 z0∨∃ x y z,S x y z∧hi=E x y z
theorem Seen.start (E:Int→Int→Int→Int) (x0 y0 z0:Int):Seen E x0 y0 z0 (fun _ _ _=>False) (E x0 y0 z0) (E x0 y0 z0) :=
 ⟨Int.le_refl _,Int.le_refl _,fun _ _ _ h=>h.elim,fun _ _ _ h=>h.elim,.inl rfl,.inl rfl⟩
theorem Seen.step {E:Int→Int→Int→Int} {x0 y0 z0:Int} {S T:Int→Int→Int→Prop} {lo hi a b c:Int} (h:Seen E x0 y0 z0 S lo hi) (hT:∀ x y z,T x y z ↔ (S x y z∨(x=a∧y=b∧z=c))):Seen E x0 y0 z0 T (min lo (E a b c)) (max hi (E a b c)):=by
 refine ⟨by have:=h.lo0;omega,by have:=h.hi0;omega,fun x y z ht=>?_,fun x y z ht=>?_,?_,?_⟩
 ·rcases (hT x y z).1 ht with hs | ⟨rfl,rfl,rfl⟩
  ·have:=h.lo1 x y z hs;omega
  ·omega
 ·rcases (hT x y z).1 ht with hs | ⟨rfl,rfl,rfl⟩
  ·have:=h.hi1 x y z hs;omega
  ·omega
 ·by_cases c1:lo<=E a b c
  ·rw [show min lo (E a b c)=lo by omega]
   rcases h.lo2 with h2 | ⟨x,y,z,hs,h2⟩
   ·exact .inl h2
   ·exact .inr ⟨x,y,z,(hT x y z).2 (.inl hs),h2⟩
  ·rw [show min lo (E a b c)=E a b c by omega]
   exact .inr ⟨a,b,c,(hT a b c).2 (.inr ⟨rfl,rfl,rfl⟩),rfl⟩
 ·by_cases c1:E a b c<=hi
  ·rw [show max hi (E a b c)=hi by omega]
   rcases h.hi2 with h2 | ⟨x,y,z,hs,h2⟩
   ·exact .inl h2
   ·exact .inr ⟨x,y,z,(hT x y z).2 (.inl hs),h2⟩
  ·rw [show max hi (E a b c)=E a b c by omega]
   exact .inr ⟨a,b,c,(hT a b c).2 (.inr ⟨rfl,rfl,rfl⟩),rfl⟩
theorem Seen.cong {E:Int→Int→Int→Int} {x0 y0 z0:Int} {S T:Int→Int→Int→Prop} {lo hi:Int} (h:Seen E x0 y0 z0 S lo hi) (hT:∀ x y z,T x y z ↔ S x y z):Seen E x0 y0 z0 T lo hi:=by
 have:T=S:=by funext x y z;exact propext (hT x y z)
 rw [this];exact h
theorem Seen.done {E:Int→Int→Int→Int} {x0 x1 y0 y1 z0 z1:Int} {S:Int→Int→Int→Prop} {lo hi:Int} (h:Seen E x0 y0 z0 S lo hi) (hS:∀ x y z,S x y z ↔ ((x0<=x∧x<=x1)∧(y0<=y∧y<=y1)∧(z0<=z∧z<=z1))):lo=hMn E x0 x1 y0 y1 z0 z1∧hi=hMx E x0 x1 y0 y1 z0 z1:=by
 obtain ⟨a1,a2,a3⟩:=mnL_le (boxL E x0 x1 y0 y1 z0 z1) (E x0 y0 z0);obtain ⟨b1,b2,b3⟩:=mxL_ge (boxL E x0 x1 y0 y1 z0 z1) (E x0 y0 z0)
 constructor
 ·apply Int.le_antisymm
  ·show lo<=mnL _ _
   rcases a3 with a3 | a3
   ·rw [a3];exact h.lo0
   ·obtain ⟨x,y,z,hx,hy,hz,e⟩:=mem_boxL.1 a3
    rw [← e];exact h.lo1 x y z ((hS x y z).2 ⟨hx,hy,hz⟩)
  ·show mnL _ _<=lo
   rcases h.lo2 with e | ⟨x,y,z,hs,e⟩
   ·rw [e];exact a1
   ·rw [e]
    obtain ⟨hx,hy,hz⟩:=(hS x y z).1 hs
    exact a2 _ (mem_boxL.2 ⟨x,y,z,hx,hy,hz,rfl⟩)
 ·apply Int.le_antisymm
  ·show hi<=mxL _ _
   rcases h.hi2 with e | ⟨x,y,z,hs,e⟩
   ·rw [e];exact b1
   ·rw [e]
    obtain ⟨hx,hy,hz⟩:=(hS x y z).1 hs
    exact b2 _ (mem_boxL.2 ⟨x,y,z,hx,hy,hz,rfl⟩)
  ·show mxL _ _<=hi
   rcases b3 with b3 | b3
   ·rw [b3];exact h.hi0
   ·obtain ⟨x,y,z,hx,hy,hz,e⟩:=mem_boxL.1 b3
    rw [← e];exact h.hi1 x y z ((hS x y z).2 ⟨hx,hy,hz⟩)
