/- M39: PfRPlain, VtPlain, TvP, TvQ, TvS in one text. -/
import Derived.Test.YtheepmnhpclimaaGreatM3
import Derived.Test.YtheepmnhpclimaaGreatM14
namespace Go.Proofs.Pf
set_option linter.unusedSimpArgs false
set_option linter.unusedVariables false

end Go.Proofs.Pf

namespace Go.Proofs.Vt
set_option linter.unusedSimpArgs false
set_option linter.unusedVariables false

def okAlt (a:Int):Prop := -200000≤a∧a≤6000000
instance (x:Int):Decidable (okAlt x):=by unfold okAlt;infer_instance
def okRate (a:Int):Prop := -10000≤a∧a≤10000
instance (x:Int):Decidable (okRate x):=by unfold okRate;infer_instance
def mag (d m:Int):Int:=min ((d+15) / 16) m
def okCm (a t m:Int):Prop:=okAlt a∧okAlt t∧0≤m∧m≤10000
instance (a t m:Int):Decidable (okCm a t m):=by unfold okCm;infer_instance
def cmV (a t m:Int):Int:=if okCm a t m then (if t<a then -mag (a - t) m else mag (t - a) m) else 0
def cmE (a t m:Int):Int:=if okCm a t m then 0 else 2
def clmp (x lo hi:Int):Int:=if x<lo then lo else if hi<x then hi else x
def okLm (l x:Int):Prop:=okRate l∧okRate x
instance (l x:Int):Decidable (okLm l x):=by unfold okLm;infer_instance
def lmV (l x:Int):Int:=if okLm l x then clmp x (l - 40) (l+40) else 0
def lmE (l x:Int):Int:=if okLm l x then 0 else 2
def okCp (a v t:Int):Prop:=okAlt a∧okAlt t∧okRate v
instance (a v t:Int):Decidable (okCp a v t):=by unfold okCp;infer_instance
theorem mag_bd {d m:Int} (h0:0≤d) (h1:0≤m):0≤mag d m∧mag d m≤m∧mag d m≤d∧(0<d→0<m→0<mag d m):=by
 unfold mag
 omega
theorem ceil16 {d:Int} (h0:0≤d) (h1:d≤10000000):Fx.scV 1 d 1 16=(d+15) / 16∧Fx.scE 1 d 1 16=0:=by
 have e:Fx.rqz 1 (d * 1) 16=(d+15) / 16:=by
  unfold Fx.rqz Fx.rq
  rw [if_neg (by omega),if_neg (by omega),if_pos rfl]
  omega
 have hr:Fx.inR ((d+15) / 16):=by unfold Fx.inR;omega
 rw [Fx.scV_eq 1 d 1 16 (by omega),Fx.scE_eq 1 d 1 16 (by omega),e,if_pos hr,if_pos hr]
 exact ⟨rfl,rfl⟩
theorem okCm_no {a t m:Int} (h:¬ okCm a t m):cmV a t m=0∧cmE a t m=2:=by unfold cmV cmE;rw [if_neg h,if_neg h];exact ⟨rfl,rfl⟩
theorem okCm_up {a t m:Int} (h:okCm a t m) (h2:¬ t<a):cmV a t m=mag (t - a) m∧cmE a t m=0:=by unfold cmV cmE;rw [if_pos h,if_pos h,if_neg h2];exact ⟨rfl,rfl⟩
theorem okCm_dn {a t m:Int} (h:okCm a t m) (h2:t<a):cmV a t m = -mag (a - t) m∧cmE a t m=0:=by unfold cmV cmE;rw [if_pos h,if_pos h,if_pos h2];exact ⟨rfl,rfl⟩
theorem clmp_eq (x lo hi:Int) (h:lo≤hi):clmp x lo hi=min (max x lo) hi:=by
 unfold clmp
 split
 ·omega
 ·split <;> omega
def ptw:List Int→List Int→Int→Int→Int
 | a :: b :: vs,x :: ds,s,g=>if x≤s then ptw (b :: vs) ds (s - x) g else clmp ((b - a) * g / x) (-10000) 10000
 | _,_,_,_=>0
def ptE (v d:List Int) (s g:Int):Int:=if Pf.bwE v d s≠0 then Pf.bwE v d s else if g<1∨5000<g then 2 else 0
def ptV (v d:List Int) (s g:Int):Int:=if ptE v d s g=0 then ptw v d s g else 0
theorem ptE_bw {v d:List Int} {s g:Int} (h:Pf.bwE v d s≠0):ptE v d s g=Pf.bwE v d s∧ptV v d s g=0:=by
 have:ptE v d s g=Pf.bwE v d s:=by unfold ptE;rw [if_pos h]
 exact ⟨this,by unfold ptV;rw [this,if_neg h]⟩
theorem ptE_g {v d:List Int} {s g:Int} (h:Pf.bwE v d s=0) (hg:g<1∨5000<g):ptE v d s g=2∧ptV v d s g=0:=by
 have:ptE v d s g=2:=by unfold ptE;rw [if_neg (by omega),if_pos hg]
 exact ⟨this,by unfold ptV;rw [this,if_neg (by omega)]⟩
theorem ptE_ok {v d:List Int} {s g:Int} (h:Pf.bwE v d s=0) (hg:¬ (g<1∨5000<g)):ptE v d s g=0∧ptV v d s g=ptw v d s g:=by
 have:ptE v d s g=0:=by unfold ptE;rw [if_neg (by omega),if_neg hg]
 exact ⟨this,by unfold ptV;rw [this,if_pos rfl]⟩
theorem ptw_step {v d:List Int} {k:Nat} {a b x s g:Int} (h0:v[k]? = some a) (h1:v[k+1]? = some b) (hd:d[k]? = some x) (h:x≤s) :
  ptw (v.drop k) (d.drop k) s g=ptw (v.drop (k+1)) (d.drop (k+1)) (s - x) g:=by
 rw [Pf.drop_two h0 h1,Pf.drop_one hd,Pf.drop_one h1,ptw,if_pos h]
theorem ptw_stop {v d:List Int} {k:Nat} {a b x s g:Int} (h0:v[k]? = some a) (h1:v[k+1]? = some b) (hd:d[k]? = some x) (h:s<x) :
  ptw (v.drop k) (d.drop k) s g=clmp ((b - a) * g / x) (-10000) 10000:=by
 rw [Pf.drop_two h0 h1,Pf.drop_one hd,ptw,if_neg (by omega)]
theorem ptw_end {v d:List Int} {k:Nat} {s g:Int} (hd:d.length≤k):ptw (v.drop k) (d.drop k) s g=0:=by
 rw [List.drop_of_length_le hd]
 rcases v.drop k with _ | ⟨a,_ | ⟨b,t⟩⟩ <;> rfl
theorem rate_sc {a b g x:Int} (ha:Pf.inB a) (hb:Pf.inB b) (h0:1≤g) (h1:g≤5000) (hx:0<x) : -10995116277760000≤(b - a) * g∧(b - a) * g≤10995116277760000 ∧ -10995116277760000≤(b - a) * g / x∧(b - a) * g / x≤10995116277760000 ∧
  Fx.scV 0 (b - a) g x=(b - a) * g / x∧Fx.scV 0 ((b - a) * g) 1 x=(b - a) * g / x:=by
 unfold Pf.inB at ha hb
 have h:((b - a) * g).natAbs≤2199023255552 * 5000:=by
  rw [Int.natAbs_mul]
  exact Nat.mul_le_mul (by omega) (by omega)
 have e:Fx.rqz 0 ((b - a) * g) x=(b - a) * g / x:=by unfold Fx.rqz Fx.rq;rw [if_neg (by omega),if_pos rfl]
 have E1:=Fx.scV_eq 0 (b - a) g x (by omega);have E2:=Fx.scV_eq 0 ((b - a) * g) 1 x (by omega)
 rw [Int.mul_one] at E2
 rw [e] at E1 E2
 rw [E1,E2]
 clear E1 E2 e;generalize (b - a) * g=X at *
 have b1 : -10995116277760000≤X / x:=by
  rw [Int.le_ediv_iff_mul_le hx]
  have:(-10995116277760000) * x≤(-10995116277760000) * 1:=Int.mul_le_mul_of_nonpos_left (by omega) (by omega)
  omega
 have b2:X / x≤10995116277760000:=by
  have:X / x<10995116277760000+1:=by
   rw [Int.ediv_lt_iff_lt_mul hx]
   have:(10995116277760000+1) * 1≤(10995116277760000+1) * x:=Int.mul_le_mul_of_nonneg_left (by omega) (by omega)
   omega
  omega
 have hr:Fx.inR (X / x):=by unfold Fx.inR;omega
 rw [if_pos hr]
 exact ⟨by omega,by omega,b1,b2,rfl,rfl⟩
def stOk (va d:List Int) (s alt last:Int):Prop:=okAlt alt∧okAlt (Pf.bwV va d s)∧okRate last
instance (va d:List Int) (s alt last:Int):Decidable (stOk va d s alt last):=by unfold stOk;infer_instance
def stE (va vc d:List Int) (s g alt last:Int):Int:=if ptE va d s g≠0 then ptE va d s g else if stOk va d s alt last then Pf.bwE vc d s else 2
def stT (va vc d:List Int) (s g alt last:Int):Int:=if stE va vc d s g alt last=0 then Pf.bwV va d s else 0
def stW (va vc d:List Int) (s g alt last:Int):Int:=if stE va vc d s g alt last=0 then clmp (clmp (ptV va d s g+cmV alt (Pf.bwV va d s) 10000) (-10000) 10000) (last - 40) (last+40) else 0
def stS (va vc d:List Int) (s g alt last:Int):Int:=if stE va vc d s g alt last=0 then Pf.bwV vc d s else 0
theorem st_bad {va vc d:List Int} {s g alt last E:Int} (h:stE va vc d s g alt last=E) (hE:E≠0):stT va vc d s g alt last=0∧stW va vc d s g alt last=0∧stS va vc d s g alt last=0:=by
 unfold stT stW stS
 rw [h,if_neg hE,if_neg hE,if_neg hE]
 exact ⟨rfl,rfl,rfl⟩
theorem st_good {va vc d:List Int} {s g alt last:Int} (h:stE va vc d s g alt last=0):stT va vc d s g alt last=Pf.bwV va d s∧stW va vc d s g alt last=clmp (clmp (ptV va d s g+cmV alt (Pf.bwV va d s) 10000) (-10000) 10000) (last - 40) (last+40)∧stS va vc d s g alt last=Pf.bwV vc d s:=by
 unfold stT stW stS
 rw [h,if_pos rfl,if_pos rfl,if_pos rfl]
 exact ⟨rfl,rfl,rfl⟩
theorem clmp_bd (x lo hi:Int) (h:lo≤hi):lo≤clmp x lo hi∧clmp x lo hi≤hi:=by
 rw [clmp_eq x lo hi h];omega
theorem ptw_bd:∀ (v d:List Int) (s g:Int),-10000≤ptw v d s g∧ptw v d s g≤10000
 | a :: b :: vs,x :: ds,s,g=>by
  unfold ptw
  split
  ·exact ptw_bd (b :: vs) ds (s - x) g
  ·exact clmp_bd _ _ _ (by omega)
 | [],_,_,_=>by simp [ptw]
 | [_],_,_,_=>by simp [ptw]
 | _ :: _ :: _,[],_,_=>by simp [ptw]
theorem ptV_bd (v d:List Int) (s g:Int) : -10000≤ptV v d s g∧ptV v d s g≤10000:=by
 unfold ptV
 split
 ·exact ptw_bd v d s g
 ·omega
theorem cmV_bd (a t m:Int) (h0:0≤m) (h1:m≤10000) : -10000≤cmV a t m∧cmV a t m≤10000:=by
 unfold cmV
 split
 ·split
  ·have:=mag_bd (d:=a - t) (m:=m) (by omega) h0;omega
  ·have:=mag_bd (d:=t - a) (m:=m) (by omega) h0;omega
 ·omega
theorem cmE_ok {a t:Int} (ha:okAlt a) (ht:okAlt t):cmE a t 10000=0:=by unfold cmE;rw [if_pos ⟨ha,ht,by omega,by omega⟩]
theorem cmE_no {a t:Int} (h:¬ (okAlt a∧okAlt t)):cmE a t 10000=2∧cmV a t 10000=0:=by unfold cmE cmV;rw [if_neg (fun k=>h ⟨k.1,k.2.1⟩),if_neg (fun k=>h ⟨k.1,k.2.1⟩)];exact ⟨rfl,rfl⟩
theorem lm_ok {l x:Int} (hl:okRate l) (hx:okRate x):lmE l x=0∧lmV l x=clmp x (l - 40) (l+40):=by unfold lmE lmV;rw [if_pos ⟨hl,hx⟩,if_pos ⟨hl,hx⟩];exact ⟨rfl,rfl⟩
theorem lm_no {l x:Int} (hl:¬ okRate l):lmE l x=2∧lmV l x=0:=by unfold lmE lmV;rw [if_neg (fun k=>hl k.1),if_neg (fun k=>hl k.1)];exact ⟨rfl,rfl⟩
theorem ptE_0 {v d:List Int} {s g:Int} (h:ptE v d s g=0):Pf.bwE v d s=0:=by
 unfold ptE at h
 by_cases hb:Pf.bwE v d s=0
 ·exact hb
 ·rw [if_pos hb] at h;exact absurd h hb
end Go.Proofs.Vt

namespace Go.Proofs.YtheepmnhpclimaaGreat
set_option linter.unusedSimpArgs false
set_option linter.unusedVariables false
open Go.RowKit
def smD (d:List Int) (i:Nat):Int:=(d.take i).sum
theorem smD_0 (d:List Int):smD d 0=0:=by unfold smD;simp
theorem smD_s {d:List Int} {i:Nat} {x:Int} (h:d[i]? = some x):smD d (i+1)=smD d i+x:=by
  unfold smD
  rw [take_succ_get _ i _ h,Pf.sum_snoc]
theorem smD_all (d:List Int):smD d d.length=d.sum:=by unfold smD;rw [List.take_length]
theorem smD_mono {d : List Int} (h:∀ x ∈ d,0≤x) {i:Nat}:∀ {j:Nat},i≤j→j≤d.length→smD d i≤smD d j
  | 0, hij, _ => by obtain rfl:i=0:=by omega
                    exact Int.le_refl _
  | j + 1,hij,hj=>by
    by_cases e:i=j+1
    · subst e;exact Int.le_refl _
    · have h1:=smD_mono h (i:=i) (j:=j) (by omega) (by omega)
      have h2:=List.getElem?_eq_getElem (show j<d.length by omega);have h3:=smD_s h2;have h4:=h _ (List.mem_of_getElem? h2)
      omega
theorem btw_to {v d:List Int} (hl:v.length=d.length+1) {s:Int}:∀ k,k≤d.length→(∀ j,j<k→smD d (j+1)≤s)→Pf.btw v d s=Pf.btw (v.drop k) (d.drop k) (s - smD d k)
  | 0,_,_=>by rw [smD_0];simp
  | k+1,hk,h=>by
    rw [btw_to hl k (by omega) (fun j hj=>h j (by omega))]
    have h1:=List.getElem?_eq_getElem (show k<v.length by omega);have h2:=List.getElem?_eq_getElem (show k+1<v.length by omega);have h3:=List.getElem?_eq_getElem (show k<d.length by omega);have h4:=smD_s h3;have h5:=h k (by omega)
    rw [Pf.btw_step h1 h2 h3 (by omega)]
    congr 1
    omega
theorem btw_node {v d:List Int} (hl:v.length=d.length+1) (hd:∀ x ∈ d,0≤x) {i:Nat} (hi:i<v.length) (h:i<d.length→d.getD i 0≠0):Pf.btw v d (smD d i)=v.getD i 0:=by
  rw [btw_to hl i (by omega) (fun j hj=>smD_mono hd (by omega) (by omega)),Int.sub_self]
  have h1:=List.getElem?_eq_getElem hi
  rw [getD_of_get h1]
  by_cases h2:i<d.length
  · have h3:=List.getElem?_eq_getElem h2
    have h4:=h h2
    rw [getD_of_get h3] at h4
    have h5:=hd _ (List.mem_of_getElem? h3)
    rw [Pf.btw_stop h1 (List.getElem?_eq_getElem (show i+1<v.length by omega)) h3 (by omega)]
    unfold Pf.onV
    rw [if_pos rfl]
  · exact Pf.btw_end h1 (by omega)
theorem btw_mid {v d:List Int} (hl:v.length=d.length+1) {i:Nat} (hi:i<v.length) {s:Int} (h1:∀ j,j<i→smD d (j+1)≤s) (h2:smD d i≤s) (h3:i<d.length→s<smD d (i+1)) :
    min (v.getD i 0) (v.getD (min (i+1) (v.length - 1)) 0)≤Pf.btw v d s∧Pf.btw v d s≤max (v.getD i 0) (v.getD (min (i+1) (v.length - 1)) 0):=by
  rw [btw_to hl i (by omega) h1]
  have e1:=List.getElem?_eq_getElem hi
  by_cases h4:i<d.length
  · have e2:=List.getElem?_eq_getElem (show i+1<v.length by omega)
    have e3:=List.getElem?_eq_getElem h4;have e4:=smD_s e3;have h5:=h3 h4
    rw [Pf.btw_stop e1 e2 e3 (by omega),show min (i+1) (v.length - 1)=i+1 by omega,getD_of_get e1,getD_of_get e2,Pf.onV_eq]
    have f:=Pf.frac_bd (a:=v[i]) (b:=v[i+1]) (k:=s - smD d i) (d:=d[i]) (by omega) (by omega) (by omega)
    omega
  · rw [Pf.btw_end e1 (by omega),show min (i+1) (v.length - 1)=i by omega,getD_of_get e1]
    omega
section
variable {s:Stp}
theorem tv_len (N:StN s) (R:RnG s):(altL s).length=(dstL s).length+1∧(pnL s).length=(dstL s).length+1∧(dstL s).length=s.no.length - 1:=by
  have h1:=(dst_bd R.G N).2;have h2:=no_len R.G N;have h3:=R.al.len;have h4:=R.sp.len
  omega
theorem tv_ch (N:StN s) (R:RnG s):Pf.chE (altL s) (dstL s)=0∧Pf.chE (pnL s) (dstL s)=0:=by
  have hl:=tv_len N R;have h64:=no_len R.G N;have hd:=(dst_bd R.G N).1
  have ha:∀ x ∈ altL s,Pf.inB x:=fun x hx=>by
    obtain ⟨k,hk⟩:=List.getElem?_of_mem hx;have hkn:=(List.getElem?_eq_some_iff.1 hk).1;have h:=R.al.bd R.G N (k:=k) (by omega)
    rw [getD_of_get hk] at h
    unfold Pf.inB;omega
  have hp:∀ x ∈ pnL s,Pf.inB x:=fun x hx=>by
    obtain ⟨k,hk⟩:=List.getElem?_of_mem hx;have hkn:=(List.getElem?_eq_some_iff.1 hk).1;have h:=R.sp.bd R.G N (k:=k) (by omega)
    rw [getD_of_get hk] at h
    unfold Pf.inB;omega
  constructor
  · unfold Pf.chE
    rw [if_neg (by omega),if_neg (by omega),if_pos ⟨ha,hd⟩]
  · unfold Pf.chE
    rw [if_neg (by omega),if_neg (by omega),if_pos ⟨hp,hd⟩]
theorem tv_nn (N:StN s) (R:RnG s):∀ x ∈ dstL s,(0:Int)≤x:=fun x hx=>((dst_bd R.G N).1 x hx).1
theorem tv_sm (N:StN s) (R:RnG s) {i:Nat} (hi:i<s.no.length):0≤smD (dstL s) i∧smD (dstL s) i≤(dstL s).sum:=by
  have hl:=tv_len N R;have h1:=smD_mono (tv_nn N R) (i:=0) (j:=i) (by omega) (by omega);have h2:=smD_mono (tv_nn N R) (i:=i) (j:=(dstL s).length) (by omega) (Nat.le_refl _)
  rw [smD_0] at h1
  rw [smD_all] at h2
  exact ⟨h1,h2⟩
structure TvN (s:Stp) (i:Nat):Prop where
  aE:Pf.bwE (altL s) (dstL s) (smD (dstL s) i)=0
  aV:Pf.bwV (altL s) (dstL s) (smD (dstL s) i)=(altL s).getD i 0
  cE:Pf.bwE (pnL s) (dstL s) (smD (dstL s) i)=0
  cV:Pf.bwV (pnL s) (dstL s) (smD (dstL s) i)=(pnL s).getD i 0
  al:(nodA s i).a0≤(altL s).getD i 0∧(altL s).getD i 0≤(nodA s i).a1∧(altL s).getD i 0≤s.lv
  sp:(nodA s i).s0≤(pnL s).getD i 0∧(pnL s).getD i 0≤(nodA s i).s1
theorem tv_node (N:StN s) (R:RnG s) {i:Nat} (hi:i<s.no.length) (h:i+1<s.no.length→(nodA s (i+1)).di≠0):TvN s i:=by
  have hl:=tv_len N R;have hs:=tv_sm N R hi;have hc:=tv_ch N R
  have hg:i<(dstL s).length→(dstL s).getD i 0≠0:=fun h1=>by
    have h2:(dstL s)[i]? = some (nodA s (i+1)).di:=by
      have h3:=List.getElem?_eq_getElem (show i+1<s.no.length by omega)
      unfold dstL
      rw [List.getElem?_map,List.getElem?_drop,Nat.add_comm 1 i,h3,nodA_of h3];rfl
    rw [getD_of_get h2]
    exact h (by omega)
  obtain ⟨a1,a2⟩:=Pf.bwE_in hc.1 hs.1 hs.2;obtain ⟨b1,b2⟩:=Pf.bwE_in hc.2 hs.1 hs.2
  rw [btw_node hl.1 (tv_nn N R) (by omega) hg] at a2
  rw [btw_node hl.2.1 (tv_nn N R) (by omega) hg] at b2
  have w:=R.sp.bd R.G N hi
  exact ⟨a1,a2,b1,b2,R.al.win i hi,w.2.2.2.1,w.2.2.2.2.1⟩
structure TvM (s:Stp) (i:Nat) (x:Int):Prop where
  aE:Pf.bwE (altL s) (dstL s) x=0
  cE:Pf.bwE (pnL s) (dstL s) x=0
  a:min ((altL s).getD i 0) ((altL s).getD (min (i+1) (s.no.length - 1)) 0)≤Pf.bwV (altL s) (dstL s) x∧Pf.bwV (altL s) (dstL s) x≤max ((altL s).getD i 0) ((altL s).getD (min (i+1) (s.no.length - 1)) 0)
  c:min ((pnL s).getD i 0) ((pnL s).getD (min (i+1) (s.no.length - 1)) 0)≤Pf.bwV (pnL s) (dstL s) x∧Pf.bwV (pnL s) (dstL s) x≤max ((pnL s).getD i 0) ((pnL s).getD (min (i+1) (s.no.length - 1)) 0)
  b : -200000≤Pf.bwV (altL s) (dstL s) x∧Pf.bwV (altL s) (dstL s) x≤6000000
theorem tv_mid (N:StN s) (R:RnG s) {i:Nat} (hi:i<s.no.length) {x:Int} (h1:smD (dstL s) i≤x) (h2:x≤(dstL s).sum) (h3:i+1<s.no.length→x<smD (dstL s) (i+1)):TvM s i x:=by
  have hl:=tv_len N R;have hs:=tv_sm N R hi;have hc:=tv_ch N R;obtain ⟨a1,a2⟩:=Pf.bwE_in hc.1 (show 0≤x by omega) h2;obtain ⟨b1,b2⟩:=Pf.bwE_in hc.2 (show 0≤x by omega) h2;have hlt:∀ j,j<i→smD (dstL s) (j+1)≤x:=fun j hj=>Int.le_trans (smD_mono (tv_nn N R) (by omega) (by omega)) h1;have m1:=btw_mid hl.1 (i:=i) (by omega) hlt h1 (fun h=>h3 (by omega));have m2:=btw_mid hl.2.1 (i:=i) (by omega) hlt h1 (fun h=>h3 (by omega))
  rw [← a2,show (altL s).length - 1=s.no.length - 1 by omega] at m1
  rw [← b2,show (pnL s).length - 1=s.no.length - 1 by omega] at m2
  have w1:=R.al.bd R.G N hi;have w2:=R.al.bd R.G N (k:=min (i+1) (s.no.length - 1)) (by omega)
  exact ⟨a1,b1,m1,m2,by omega⟩
end
end Go.Proofs.YtheepmnhpclimaaGreat

namespace Go.Proofs.YtheepmnhpclimaaGreat
set_option linter.unusedSimpArgs false
set_option linter.unusedVariables false
open Go.RowKit
section
variable {s:Stp}
theorem tv_dst {k:Nat} (hk:k+1<s.no.length):(dstL s)[k]? = some (nodA s (k+1)).di:=by
 have h3:=List.getElem?_eq_getElem hk
 unfold dstL
 rw [List.getElem?_map,List.getElem?_drop,Nat.add_comm 1 k,h3,nodA_of h3];rfl
theorem tv_s0 (R:RnG s) {k:Nat} (hk:k<s.no.length):smD (dstL s) (k - 1)+(nodA s k).di=smD (dstL s) k:=by
 cases k with
 | zero =>
  have h:=List.getElem?_eq_getElem hk;have h0:=R.G.n0 _ h
  rw [nodA_of h]
  show smD (dstL s) 0+_=_
  omega
 | succ k =>
  have h:=smD_s (tv_dst hk)
  show smD (dstL s) k+_=_
  omega
theorem smD_le {d:List Int} (h:∀ x ∈ d,Pf.okD x):∀ k,k≤d.length→smD d k≤8000000 * (k:Int)
 | 0,_=>by rw [smD_0];simp
 | k+1,hk=>by
  have h1:=smD_le h k (by omega);have h2:=List.getElem?_eq_getElem (show k<d.length by omega);have h3:=smD_s h2;have h4:=h _ (List.mem_of_getElem? h2)
  unfold Pf.okD at h4
  omega
theorem tv_sb (N:StN s) (R:RnG s) {k:Nat} (hk:k<s.no.length):0≤smD (dstL s) k∧smD (dstL s) k≤512000000:=by
 have h1:=tv_sm N R hk;have h2:=(dst_bd R.G N);have h3:=no_len R.G N;have h4:=smD_le h2.1 k (by omega)
 omega
theorem tv_al (N:StN s) (R:RnG s) (e:runL s=wtL s (altL s) (pnL s)):(runL s).map Pass.alt=altL s:=by
 have h:=R.al.len
 rw [e]
 apply List.ext_getElem?
 intro k
 by_cases hk:k<s.no.length
 ·rw [List.getElem?_map,wtL_get hk,List.getElem?_eq_getElem (show k<(altL s).length by omega)]
  show some (psP s (altL s) (pnL s) k).alt=_
  rw [(psP_alt (altL s) (pnL s) k).1,getD_of_get (List.getElem?_eq_getElem (show k<(altL s).length by omega))]
 ·rw [List.getElem?_eq_none (by rw [List.length_map,wtL_len];omega),List.getElem?_eq_none (by omega)]
theorem tv_sp (N:StN s) (R:RnG s) (e:runL s=wtL s (altL s) (pnL s)):(runL s).map Pass.cas=pnL s:=by
 have h:=R.sp.len
 rw [e]
 apply List.ext_getElem?
 intro k
 by_cases hk:k<s.no.length
 ·rw [List.getElem?_map,wtL_get hk,List.getElem?_eq_getElem (show k<(pnL s).length by omega)]
  show some (psP s (altL s) (pnL s) k).cas=_
  rw [(psP_alt (altL s) (pnL s) k).2,getD_of_get (List.getElem?_eq_getElem (show k<(pnL s).length by omega))]
 ·rw [List.getElem?_eq_none (by rw [List.length_map,wtL_len];omega),List.getElem?_eq_none (by omega)]
end
end Go.Proofs.YtheepmnhpclimaaGreat

namespace Go.Proofs.YtheepmnhpclimaaGreat
set_option linter.unusedSimpArgs false
set_option linter.unusedVariables false
open Go.RowKit
theorem tv_clmp {x lo hi:Int} (h:lo≤hi):lo≤Vt.clmp x lo hi∧Vt.clmp x lo hi≤hi:=by
 unfold Vt.clmp
 split
 ·omega
 split
 ·omega
 ·omega
structure TvW (s:Stp) (x alt was:Int):Prop where
 we:Vt.stE (altL s) (pnL s) (dstL s) x 300 alt was=0
 wt:Vt.stT (altL s) (pnL s) (dstL s) x 300 alt was=Pf.bwV (altL s) (dstL s) x
 ws:Vt.stS (altL s) (pnL s) (dstL s) x 300 alt was=Pf.bwV (pnL s) (dstL s) x
 ww:was - 40≤Vt.stW (altL s) (pnL s) (dstL s) x 300 alt was∧Vt.stW (altL s) (pnL s) (dstL s) x 300 alt was≤was+40
theorem tv_steer {s:Stp} {i:Nat} {x:Int} (M:TvM s i x) {alt was:Int} (ha : -200000≤alt∧alt≤6000000) (hw : -10000≤was∧was≤10000):TvW s x alt was:=by
 have hp:Vt.ptE (altL s) (dstL s) x 300=0:=by
  unfold Vt.ptE
  rw [if_neg (by rw [M.aE];decide),if_neg (by decide)]
 have ho:Vt.stOk (altL s) (dstL s) x alt was:=⟨ha,M.b,hw⟩
 have he:Vt.stE (altL s) (pnL s) (dstL s) x 300 alt was=0:=by
  unfold Vt.stE
  rw [if_neg (by rw [hp];decide),if_pos ho]
  exact M.cE
 refine ⟨he,if_pos he,if_pos he,?_⟩
 unfold Vt.stW
 rw [if_pos he]
 exact tv_clmp (by omega)
end Go.Proofs.YtheepmnhpclimaaGreat

