
/- Over the layers, plain laws: a node behind the last one at the cruise level cannot be flown at it. -/
import Derived.Test.YtheepmnhpclimaaGreatM14
namespace Go.Proofs.YtheepmnhpclimaaGreat
set_option linter.unusedSimpArgs false
set_option linter.unusedVariables false
open Go.RowKit
section
variable {s:Stp} {i:Nat} {sl:Sl}
def tdN (s:Stp) (n:Nod):Nod:=⟨n.px,n.py,n.di,s.lv,s.lv,n.s0,n.s1⟩
def tdS (s:Stp) (i:Nat) (sl:Sl):Stp:={ s with sno:=sl,no:=s.no.set i (tdN s (nodA s i)) }
theorem td_len:(tdS s i sl).no.length=s.no.length:=by unfold tdS;simp
theorem td_i (hi:i<s.no.length):nodA (tdS s i sl) i=tdN s (nodA s i):=by
 refine nodA_of ?_
 show (s.no.set i _)[i]? = _
 rw [List.getElem?_set_self hi]
theorem td_k {k:Nat} (h:k≠i):nodA (tdS s i sl) k=nodA s k:=by
 unfold nodA
 rw [List.getD_eq_getElem?_getD,List.getD_eq_getElem?_getD]
 show (((s.no.set i _)[k]?).getD _)=_
 rw [List.getElem?_set_ne (Ne.symm h)]
structure TdF (s:Stp) (a b:Nod):Prop where
 px:a.px=b.px
 py:a.py=b.py
 di:a.di=b.di
 s0:a.s0=b.s0
 s1:a.s1=b.s1
theorem td_f (hi:i<s.no.length) (k:Nat):TdF s (nodA (tdS s i sl) k) (nodA s k):=by
 by_cases h:k=i
 ·subst h;rw [td_i hi];exact ⟨rfl,rfl,rfl,rfl,rfl⟩
 ·rw [td_k h];exact ⟨rfl,rfl,rfl,rfl,rfl⟩
theorem td_suH (hi:i<s.no.length) (k:Nat):suH (tdS s i sl) k=suH s k:=by
 have a:=td_f (sl:=sl) hi k;have b:=td_f (sl:=sl) hi (k+1)
 unfold suH
 rw [a.px,a.py,b.px,b.py]
 rfl
theorem td_lt (hi:i<s.no.length) (k:Nat):ltV (tdS s i sl) k=ltV s k:=by
 have a:=td_f (sl:=sl) hi k;have b:=td_f (sl:=sl) hi (k+1)
 have hC:ltC (tdS s i sl) k=ltC s k:=by unfold ltC;rw [a.s1,b.s1];rfl
 have hG:ltG (tdS s i sl) k=ltG s k:=by unfold ltG;rw [td_suH hi,hC];rfl
 unfold ltV
 rw [hG,b.di]
theorem td_hgt (hi:i<s.no.length) (hu:s.lv≤(nodA s i).a1):∀ k,hgt (tdS s i sl) k=hgt s k
 | 0=>by
  show min s.lv (nodA (tdS s i sl) 0).a1=min s.lv (nodA s 0).a1
  by_cases h:0=i
  ·subst h;rw [td_i hi];show min s.lv s.lv=_;omega
  ·rw [td_k h]
 | k+1=>by
  have ih:=td_hgt hi hu k
  show min (min (rsV s.pf (hgt (tdS s i sl) k) s.ac.mass (ltV (tdS s i sl) k)) s.lv) (nodA (tdS s i sl) (k+1)).a1=min (min (rsV s.pf (hgt s k) s.ac.mass (ltV s k)) s.lv) (nodA s (k+1)).a1
  rw [ih,td_lt hi]
  by_cases h:k+1=i
  ·subst h;rw [td_i hi];show min (min _ s.lv) s.lv=_;omega
  ·rw [td_k h]
theorem td_stp (hi:i<s.no.length) (hu:s.lv≤(nodA s i).a1):stpL (tdS s i sl)=stpL s:=by
 unfold stpL
 rw [td_len]
 refine List.map_congr_left fun k _=>?_
 unfold stpK riN
 rw [td_hgt hi hu,td_lt hi]
 rfl
theorem nds_0:∀ {l:List Nod} {i:Nat},nosE l i=0→∀ k n,l[k]? = some n→noE n (i+k)=0
 | [],i,_,k,n,hk=>by simp at hk
 | m :: t,i,h,k,n,hk=>by
  unfold nosE at h
  by_cases h1:noE m i=0
  ·rw [if_pos h1] at h
   cases k with
   | zero=>simp at hk;subst hk;exact h1
   | succ k=>have:=nds_0 h k n (by simpa using hk);rwa [show i+1+k=i+(k+1) by omega] at this
  ·rw [if_neg h1] at h;exact absurd h h1
theorem td_noE {n:Nod} {k:Nat} (h:noE n k=0) (hl : -200000≤s.lv∧s.lv≤6000000):noE (tdN s n) k=0:=by
 unfold noE at h ⊢
 have e:(inB s.lv (-200000) 6000000 && inB s.lv (-200000) 6000000 && decide (s.lv≤s.lv))=true:=by rw [inB_iff.2 hl];simp
 show (if (inB n.px (-2000000) 2000000 && inB n.py (-2000000) 2000000 && inB n.di 0 8000000)=false then 2
  else if k=0∧n.di≠0 then 1
  else if (inB s.lv (-200000) 6000000 && inB s.lv (-200000) 6000000 && decide (s.lv≤s.lv))=false then 2
  else if (decide (0≤n.s0) && decide (n.s0≤n.s1) && decide (n.s1≤1000))=false then 2 else 0)=(0:Int)
 rw [e]
 by_cases h1:(inB n.px (-2000000) 2000000 && inB n.py (-2000000) 2000000 && inB n.di 0 8000000)=false
 ·rw [if_pos h1] at h;exact absurd h (by decide)
 rw [if_neg h1] at h ⊢
 by_cases h2:k=0∧n.di≠0
 ·rw [if_pos h2] at h;exact absurd h (by decide)
 rw [if_neg h2] at h ⊢
 by_cases h3:(inB n.a0 (-200000) 6000000 && inB n.a1 (-200000) 6000000 && decide (n.a0≤n.a1))=false
 ·rw [if_pos h3] at h;exact absurd h (by decide)
 rw [if_neg h3] at h
 rw [if_neg (by decide)]
 exact h
theorem td_su (hs:suE s=0) (hi:i<s.no.length) (hn:sl.n=s.sno.n):suE (tdS s i sl)=0:=by
 have G:=su_good hs
 have hno:nosE s.no 0=0:=by
  unfold suE at hs
  by_cases h1:inB s.sno.n 2 64=false
  ·rw [if_pos h1] at hs;exact absurd hs (by decide)
  rw [if_neg h1] at hs
  by_cases h2:nosE s.no 0=0
  ·exact h2
  ·rw [if_pos h2] at hs;exact absurd hs h2
 have hno':nosE (tdS s i sl).no 0=0:=by
  refine nds_all fun k m hk=>?_
  by_cases h:k=i
  ·subst h
   have e:(tdS s k sl).no[k]? = some (tdN s (nodA s k)):=by show (s.no.set k _)[k]? = _;rw [List.getElem?_set_self hi]
   rw [e] at hk
   obtain rfl:=Option.some.inj hk
   exact td_noE (nds_0 hno k _ (by have h2:=List.getElem?_eq_getElem hi;rw [nodA_of h2];exact h2)) G.lv
  ·have e:(tdS s i sl).no[k]? = s.no[k]?:=by show (s.no.set i _)[k]? = _;rw [List.getElem?_set_ne (Ne.symm h)]
   rw [e] at hk
   exact nds_0 hno k m hk
 have e:suE (tdS s i sl)=suE s:=by
  unfold suE
  rw [hno,hno']
  show (if inB sl.n 2 64=false then _ else _)=_
  rw [hn]
  rfl
 rw [e];exact hs
theorem td_conf (N:StN s) (N':StN (tdS s i sl)) (ha:altE s=0) (hi:i<s.no.length) (hn:sl.n=s.sno.n) (hd:(nodA s i).a0≤s.lv) (hu:s.lv≤(nodA s i).a1) (hx:(altL s).getD i 0≠s.lv) :
  altE (tdS s i sl)=11∧∃ a b:Nat,altC (tdS s i sl)=((a:Int),(b:Int))∧a≤b∧b<s.no.length:=by
 obtain ⟨h0,h1⟩:=altE_su ha;have G:=su_good h0;have hsu:=td_su (sl:=sl) h0 hi hn;have G':=su_good hsu
 have hE:altE (tdS s i sl)=crE (awL (tdS s i sl)) (stpL (tdS s i sl)) s.lv:=by unfold altE;rw [if_neg (by rw [hsu];decide)];rfl
 have hC:crE (awL (tdS s i sl)) (stpL (tdS s i sl)) s.lv≠0→altC (tdS s i sl)=hdC (Cs.confL (awC (tdS s i sl)) (stpL (tdS s i sl))):=fun h=>by
  unfold altC
  rw [if_neg (by rw [hsu];decide)]
  exact if_neg h
 rcases cr_011 G' N' with ⟨h2,-⟩ | ⟨h2,h3⟩
 ·exfalso
  have h2':crE (awL (tdS s i sl)) (stpL (tdS s i sl)) s.lv=0:=h2;have A:=alt_good N ha;have A':=alt_good N' (hE.trans h2');have hst:=td_stp (sl:=sl) hi hu
  have hw:∀ k,k<s.no.length→(nodA s k).a0≤(altL (tdS s i sl)).getD k 0∧(altL (tdS s i sl)).getD k 0≤(nodA s k).a1∧(altL (tdS s i sl)).getD k 0≤s.lv:=fun k hk=>by
   have w:=A'.win k (by rw [td_len];exact hk)
   by_cases h:k=i
   ·subst h
    rw [td_i hi] at w
    have w1:s.lv≤(altL (tdS s k sl)).getD k 0:=w.1;have w2:(altL (tdS s k sl)).getD k 0≤s.lv:=w.2.1
    omega
   ·rw [td_k h] at w;exact w
  have hsol:Cs.Sol (awL s) (stpL s) (fun k=>(altL (tdS s i sl)).getD k 0):=by
   have q:=A'.sol
   rw [hst] at q
   refine ⟨fun k hk=>?_,fun k hk=>q.stp k (by rw [awL_len,td_len];rwa [awL_len] at hk)⟩
   rw [awL_len] at hk
   rw [(aw_lo hk).1,(aw_lo hk).2]
   exact ⟨(hw k hk).1,(hw k hk).2.1⟩
  have hm:Meet (awL s) (stpL s) (altL (tdS s i sl)):=⟨(aw_ok G N).err,by rw [awL_len,A'.len,td_len],hsol⟩
  have hb:∀ x ∈ altL (tdS s i sl),x≤s.lv:=fun x hx=>by
   obtain ⟨k,hk⟩:=List.getElem?_of_mem hx
   have hkn:k<s.no.length:=by have:=(List.getElem?_eq_some_iff.1 hk).1;rwa [A'.len,td_len] at this
   have:=(hw k hkn).2.2
   rwa [getD_of_get hk] at this
  have h4:=((crV_best h1).2.2 _ hm hb) i (by rw [awL_len];exact hi);have h5:=(A.win i hi).2.2
  have h6:s.lv≤(altL (tdS s i sl)).getD i 0:=by
   have w:=(A'.win i (by rw [td_len];exact hi)).1
   rw [td_i hi] at w
   exact w
  have h7:(altL (tdS s i sl)).getD i 0≤(altL s).getD i 0:=h4
  omega
 ·have h2':crE (awL (tdS s i sl)) (stpL (tdS s i sl)) s.lv=11:=h2
  obtain ⟨a,b,e1,e2,e3,e4⟩:=Cs.mem_confL (hdC_mem h3)
  refine ⟨hE.trans h2',a,b,(hC (by rw [h2'];decide)).trans e1,e2,?_⟩
  have:(awC (tdS s i sl)).length=s.no.length:=by unfold awC;rw [List.length_map,td_len]
  omega
end
end Go.Proofs.YtheepmnhpclimaaGreat
