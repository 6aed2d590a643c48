/- M18: FxRootR, OpenW, Pf, PlRow, Search in one text. -/
import Derived.Test.YtheepmnhpclimaaGreatM1
import Derived.Test.YtheepmnhpclimaaGreatM8
import Derived.Test.YtheepmnhpclimaaGreatM10
import Derived.Test.YtheepmnhpclimaaGreatFxOps
import Derived.Test.YtheepmnhpclimaaGreatM3
import Derived.Deep.QuietTactic
import Derived.BigQuiet
namespace Go.Proofs.YtheepmnhpclimaaGreat
set_option linter.unusedSimpArgs false
set_option linter.unusedVariables false
open Go.RowKit

end Go.Proofs.YtheepmnhpclimaaGreat

namespace Go.Proofs.YtheepmnhpclimaaGreat
set_option linter.unusedSimpArgs false
set_option linter.unusedVariables false
open Go.RowKit Go.ChangeShapes Go.WideShapes Go.Deep

def WinWf (p:Int × Int):Prop:=I64 p.1∧I64 p.2
instance:Inhabited (Int × Int):=⟨(0,0)⟩
def SlRes (l:List Int) (n:Nat) (E:Int) (w:World) (e:Ending) (w':World):Prop:=∃ A c,e=.returned (.tuple #[.slice A n c,vI E])∧Ints w' A n l∧Below w.heap.size w w'
def okN (E:Int) (n:Nat):Nat:=if E=0 then n else 0
def okL {α:Type} (E:Int) (l:List α):List α:=if E=0 then l else []
end Go.Proofs.YtheepmnhpclimaaGreat

namespace Go.Proofs.YtheepmnhpclimaaGreat
set_option maxRecDepth 100000
set_option maxHeartbeats 2000000
set_option linter.unusedSimpArgs false
set_option linter.unusedVariables false
open Go.RowKit
open Go.Lib (hid)

theorem inBound_yes (x:Int) (h:Pf.inB x) (w:World):Calls Tryz.prog 151 #[vI x] w fun e w'=>e=.returned (.bool true)∧w=w':=by
 obtain ⟨h0,h1⟩:=h
 go_enter Tryz.func151,Tryz.ntmps151
 go_wp2_with fail
 go_ret
 exact ⟨rfl,rfl⟩
theorem inBound_no (x:Int) (h:¬ Pf.inB x) (w:World):Calls Tryz.prog 151 #[vI x] w fun e w'=>e=.returned (.bool false)∧w=w':=by
 have h':x < -1099511627776∨1099511627776<x:=by unfold Pf.inB at h;omega
 clear h
 rcases h' with h | h
 ·have h0:¬ -1099511627776≤x:=by omega
  go_enter Tryz.func151,Tryz.ntmps151
  go_wp2_with fail
  go_ret
  exact ⟨rfl,rfl⟩
 ·have h0 : -1099511627776≤x:=by omega
  have h1:¬ x≤1099511627776:=by omega
  go_enter Tryz.func151,Tryz.ntmps151
  go_wp2_with fail
  go_ret
  exact ⟨rfl,rfl⟩

def VRel1 (v:List Int) (n:Nat) (t:Value):Prop:=∃ k:Nat,k≤n∧t=vI k∧∀ x ∈ v.take k,Pf.inB x
def DRel1 (d:List Int) (m:Nat) (s t:Value):Prop:=∃ k:Nat,k≤m∧t=vI k∧s=vI (d.take k).sum∧∀ x ∈ d.take k,Pf.okD x
theorem take_all_of {α:Type} {l:List α} {p:α→Prop} {k:Nat} {x:α} (h:∀ y ∈ l.take k,p y) (hx:l[k]? = some x) (hp:p x):∀ y ∈ l.take (k+1),p y:=by
 rw [take_succ_get l k x hx]
 intro y hy
 rw [List.mem_append,List.mem_singleton] at hy
 rcases hy with hy | hy
 ·exact h y hy
 ·rw [hy];exact hp
theorem take_len_all {α:Type} {l:List α} {p:α→Prop} {n:Nat} (hl:l.length=n) (h:∀ y ∈ l.take n,p y):∀ y ∈ l,p y:=by
 rw [List.take_of_length_le (by omega)] at h
 exact h
theorem chE_1 {v d:List Int} (h:64<v.length):Pf.chV v d=0∧Pf.chE v d=3:=by
 have:Pf.chE v d=3:=by unfold Pf.chE;rw [if_pos h]
 exact ⟨by unfold Pf.chV;rw [this,if_neg (by omega)],this⟩
theorem chE_2 {v d:List Int} (h0:¬ 64<v.length) (h:v.length=0∨d.length+1≠v.length):Pf.chV v d=0∧Pf.chE v d=1:=by
 have:Pf.chE v d=1:=by unfold Pf.chE;rw [if_neg h0,if_pos h]
 exact ⟨by unfold Pf.chV;rw [this,if_neg (by omega)],this⟩
theorem chE_3 {v d:List Int} (h0:¬ 64<v.length) (h:¬ (v.length=0∨d.length+1≠v.length)) (h2:¬ ((∀ x ∈ v,Pf.inB x)∧∀ x ∈ d,Pf.okD x)):Pf.chV v d=0∧Pf.chE v d=2:=by
 have:Pf.chE v d=2:=by unfold Pf.chE;rw [if_neg h0,if_neg h,if_neg h2]
 exact ⟨by unfold Pf.chV;rw [this,if_neg (by omega)],this⟩
theorem chE_4 {v d:List Int} (h0:¬ 64<v.length) (h:¬ (v.length=0∨d.length+1≠v.length)) (h1:∀ x ∈ v,Pf.inB x) (h2:∀ x ∈ d,Pf.okD x):Pf.chV v d=d.sum∧Pf.chE v d=0:=by
 have:Pf.chE v d=0:=by unfold Pf.chE;rw [if_neg h0,if_neg h,if_pos ⟨h1,h2⟩]
 exact ⟨by unfold Pf.chV;rw [this,if_pos rfl],this⟩

theorem check_any (A D:Option Addr) (n cn m cm:Nat) (v d:List Int) (w:World) (hv:Ints w A n v) (hd:Ints w D m d) (hn:n≤maxLen) (hm:m≤maxLen) :
  Calls Tryz.prog 141 #[.slice A n cn,.slice D m cm] w fun e w'=>e=.returned (.tuple #[vI (Pf.chV v d),vI (Pf.chE v d)])∧w=w':=by
 have lv:=hv.len;have ld:=hd.len
 unfold maxLen at hn hm
 by_cases h1:64<n
 ·obtain ⟨e1,e2⟩:=chE_1 (v:=v) (d:=d) (by omega)
  have E:=hid (And.intro e1 e2);clear e1 e2 hv hd lv ld
  go_enter Tryz.func141,Tryz.ntmps141
  go_wp2_with fail
  go_ret2
  exact ⟨ret_tup2 E.out.1.symm E.out.2.symm,rfl⟩
 ·by_cases h2:n=0
  ·obtain ⟨e1,e2⟩:=chE_2 (v:=v) (d:=d) (by omega) (.inl (by omega))
   have E:=hid (And.intro e1 e2);subst h2;clear e1 e2 hv hd lv ld
   go_enter Tryz.func141,Tryz.ntmps141
   go_wp2_with fail
   go_ret2
   exact ⟨ret_tup2 E.out.1.symm E.out.2.symm,rfl⟩
  ·by_cases h3:m+1=n
   ·have hne:((n:Int) == 0)=false:=beq_eq_false_iff_ne.2 (by omega)
    have hne2:((m:Int) != (n:Int) - 1)=false:=by rw [bne_eq_false_iff_eq];omega
    have HV:=hid hv;have HD:=hid hd;have LV:=hid lv;have LD:=hid ld;have H3:=hid h3
    have n0:¬ 64<v.length:=by omega
    have n1:¬ (v.length=0∨d.length+1≠v.length):=by omega
    have N0:=hid n0;have N1:=hid n1;clear hv hd lv ld n0 n1 h3
    go_enter Tryz.func141,Tryz.ntmps141
    go_wp2_with fail
    go_loop [29] (fun t=>VRel1 v n t) (fun t=>n - (intOf t).toNat)
    case atStart=>exact ⟨0,by omega,rfl,by simp⟩
    case round =>
     obtain ⟨k,hk,rfl,hall⟩:=hrel;have HALL:=hid hall;clear hall
     by_cases hlt:k<n
     ·obtain ⟨x,hx⟩:=get_ex LV.out hlt
      obtain ⟨b,off,rfl,hb,hc⟩:=HV.out.cells (by omega);have hcell:=hc k x hx;have HX:=hid hx;clear hx hc
      by_cases hin:Pf.inB x
      ·have HI:=hid hin
       clear hin
       go_wp2_with fail
       refine (inBound_yes x HI.out _).mono ?_;rintro e w' ⟨rfl,rfl⟩
       go_wp2_with fail
       go_round
       case rel=>exact ⟨k+1,by omega,by go_num,take_all_of HALL.out HX.out HI.out⟩
       case measure=>simp only [intOf];omega
      ·have HI:=hid hin
       clear hin
       go_wp2_with fail
       refine (inBound_no x HI.out _).mono ?_;rintro e w' ⟨rfl,rfl⟩
       go_wp2_with fail
       go_ret2
       obtain ⟨e1,e2⟩:=chE_3 N0.out N1.out (fun h=>HI.out (h.1 x (List.mem_of_getElem? HX.out)))
       exact ⟨ret_tup2 e1.symm e2.symm,rfl⟩
     ·have hvs:=hid (take_len_all LV.out (by have:=HALL.out;rwa [show k=n from by omega] at this))
      go_wp2_with fail
      go_loop [8,39] (fun s t=>DRel1 d m s t) (fun _ t=>m - (intOf t).toNat)
      case atStart=>exact ⟨0,by omega,rfl,by simp,by simp⟩
      case round =>
       obtain ⟨j,hj,rfl,rfl,hall⟩:=hrel;have hsum:=hid (Pf.sum_nn hall);have HA2:=hid hall;clear hall
       by_cases hlt2:j<m
       ·obtain ⟨x,hx⟩:=get_ex LD.out hlt2
        obtain ⟨b,off,rfl,hb,hc⟩:=HD.out.cells (by omega);have hcell:=hc j x hx;have hs1:=take_succ_get d j x hx;have HS1:=hid (show (d.take (j+1)).sum=(d.take j).sum+x by rw [hs1,Pf.sum_snoc]);have HX:=hid hx;clear hx hc hs1
        by_cases hin:Pf.okD x
        ·have HI:=hid hin
         obtain ⟨i0,i1⟩:=hin;obtain ⟨s0,s1⟩:=hsum.out
         have s2:(d.take j).sum≤8000000 * 64:=by
          have:=List.length_take_le j d;have h3:=H3.out
          omega
         clear s1;generalize (d.take j).sum=S at *
         go_wp2_with fail
         go_round
         case rel=>exact ⟨j+1,by omega,by go_num,by rw [HS1.out],take_all_of HA2.out HX.out HI.out⟩
         case measure=>simp only [intOf];omega
        ·have HI:=hid hin
         have hin':x<0∨8000000<x:=by unfold Pf.okD at hin;omega
         obtain ⟨e1,e2⟩:=chE_3 N0.out N1.out (fun h=>HI.out (h.2 x (List.mem_of_getElem? HX.out)));have E:=hid (And.intro e1 e2);clear e1 e2 hin
         rcases hin' with hin | hin
         ·go_wp2_with fail
          go_ret2
          exact ⟨ret_tup2 E.out.1.symm E.out.2.symm,rfl⟩
         ·have hin2:¬ x<0:=by omega
          go_wp2_with fail
          go_ret2
          exact ⟨ret_tup2 E.out.1.symm E.out.2.symm,rfl⟩
       ·have hds:=take_len_all LD.out (by have:=HA2.out;rwa [show j=m from by omega] at this)
        obtain ⟨e1,e2⟩:=chE_4 N0.out N1.out hvs.out hds
        have he:(d.take j).sum=d.sum:=by rw [List.take_of_length_le (by have:=LD.out;omega)]
        have E:=hid (And.intro e1 (And.intro e2 he));clear e1 e2 he hds
        go_wp2_with fail
        go_ret2
        exact ⟨ret_tup2 (by rw [E.out.1,E.out.2.2]) E.out.2.1.symm,rfl⟩
   ·have hne:((n:Int) == 0)=false:=beq_eq_false_iff_ne.2 (by omega)
    have hne2:((m:Int) != (n:Int) - 1)=true:=by rw [bne_iff_ne];omega
    obtain ⟨e1,e2⟩:=chE_2 (v:=v) (d:=d) (by omega) (.inr (by omega));have E:=hid (And.intro e1 e2);clear e1 e2 hv hd lv ld
    go_enter Tryz.func141,Tryz.ntmps141
    go_wp2_with fail
    go_ret2
    exact ⟨ret_tup2 E.out.1.symm E.out.2.symm,rfl⟩

theorem on_zero (A D:Option Addr) (n cn m cm i:Nat) (v:List Int) (a:Int) (w:World) (hv:Ints w A n v) (hi:v[i]? = some a) (hn:n≤64) :
  Calls Tryz.prog 142 #[.slice A n cn,.slice D m cm,vI i,vI 0] w fun e w'=>e=.returned (vI a)∧w=w':=by
 have hl:=hv.len
 have hlt:i<n:=by rw [← hl];exact (List.getElem?_eq_some_iff.1 hi).1
 obtain ⟨b,off,rfl,hb,hc⟩:=hv.cells (by omega);have hcell:=hc i a hi;clear hc hi hv hl
 go_enter Tryz.func142,Tryz.ntmps142
 go_wp2_with fail
 go_ret
 exact ⟨rfl,rfl⟩

theorem on_any (A D:Option Addr) (n cn m cm i:Nat) (v d:List Int) (a b x k:Int) (w:World) (hv:Ints w A n v) (hd:Ints w D m d) (hn:n≤64) (hm:m≤64)
  (h0:v[i]? = some a) (h1:v[i+1]? = some b) (hx:d[i]? = some x) (ha:Pf.inB a) (hb:Pf.inB b) (hk0:k≠0) (hk1:0≤k) (hk2:k≤x) (hx2:x≤8000000) :
  Calls Tryz.prog 142 #[.slice A n cn,.slice D m cm,vI i,vI k] w fun e w'=>e=.returned (vI (Pf.onV a b k x))∧∃ q,w'=w.drewN q:=by
 have hlv:=hv.len;have hld:=hd.len
 have hlt:i+1<n:=by rw [← hlv];exact (List.getElem?_eq_some_iff.1 h1).1
 have hlt2:i<m:=by rw [← hld];exact (List.getElem?_eq_some_iff.1 hx).1
 obtain ⟨bv,ov,rfl,hbv,hcv⟩:=hv.cells (by omega);obtain ⟨bd,od,rfl,hbd,hcd⟩:=hd.cells (by omega);have c0:=hcv i a h0;have c1:=hcv (i+1) b h1;have c2:=hcd i x hx;have E1:=Pf.leg_sc ha hb hk1 hk2 (by omega) hx2;have fb:=(Pf.onV_bd ha hb hk1 hk2 (by omega)).2;have EV:=hid (Pf.onV_eq a b k x);obtain ⟨a1,a2⟩:=ha;obtain ⟨b1,b2⟩:=hb;have H:=hid (fun w=>xMulDiv (b - a) k x ⟨by omega,by omega⟩ ⟨by omega,by omega⟩ ⟨by omega,by omega⟩ w)
 rw [E1] at H
 have hkz:(k == 0)=false:=beq_eq_false_iff_ne.2 hk0;have w1:IntKind.i64.wrap ((i:Int)+1)=(i:Int)+1:=IntWalk.i64_in _ (by omega)
 have w2:((i:Int)+1).toNat=i+1:=by omega
 have w3:0≤(i:Int)+1:=by omega
 have w4:(i:Int)+1<n:=by omega
 have w5:(i:Int)<n:=by omega
 have w6:(i:Int)<m:=by omega
 have w7:IntKind.i64.wrap (b - a)=b - a:=IntWalk.i64_in _ (by omega);clear hcv hcd h0 h1 hx hv hd hlv hld hk0 E1;generalize Fx.scE 0 (b - a) k x=EE at *;generalize (b - a) * k / x=Z at *;obtain ⟨z1,z2⟩:=fb
 go_enter Tryz.func142,Tryz.ntmps142
 go_wp2_with fail
 go_quiet ((go_at_call 143;exact Calls.quiet_of (H.out _)))
 go_wp2_with fail
 go_ret
 exact ⟨ret_int EV.out.symm,_,rfl⟩

def BRel (v d:List Int) (s0:Int) (m:Nat) (s t:Value):Prop:=∃ (k:Nat) (S:Int),k≤m∧t=vI k∧s=vI S∧0≤S∧S≤(d.drop k).sum∧Pf.btw (v.drop k) (d.drop k) S=Pf.btw v d s0
theorem drop_sum {d:List Int} {k:Nat} {x:Int} (h:d[k]? = some x):(d.drop k).sum=x+(d.drop (k+1)).sum:=by
 rw [Pf.drop_one h];simp
def BwPost (V E:Int) (w:World) (e:Ending) (w':World):Prop:=e=.returned (.tuple #[vI V,vI E])∧∃ q,w'=w.drewN q

theorem between_any (A D:Option Addr) (n cn m cm:Nat) (v d:List Int) (s:Int) (w:World) (hv:Ints w A n v) (hd:Ints w D m d) (hn:n≤maxLen) (hm:m≤maxLen) (hs:I64 s) :
  Calls Tryz.prog 68 #[.slice A n cn,.slice D m cm,vI s] w (BwPost (Pf.bwV v d s) (Pf.bwE v d s) w):=by
 have HC:=hid (check_any A D n cn m cm v d w hv hd hn hm);obtain ⟨s0,s1⟩:=hs
 by_cases he:Pf.chE v d=0
 ·have hok:=Pf.chOk_of he
  have hlv:=hv.len;have hld:=hd.len;have l1:=hok.len;have l2:=hok.two
  have hcv:Pf.chV v d=d.sum:=by unfold Pf.chV;rw [if_pos he]
  rw [hcv,he] at HC
  have hsum:=Pf.sum_nn hok.ds
  have hsb:d.sum≤8000000 * 64:=by omega
  obtain ⟨hsum0,_⟩:=hsum
  by_cases h1:s<0
  ·obtain ⟨e1,e2⟩:=Pf.bwE_out he (.inl h1)
   rw [e1,e2]
   clear hv hd hok l1 l2 e1 e2 he hlv hld hcv;generalize d.sum=S at *
   go_enter Tryz.func68,Tryz.ntmps68
   go_wp2_with fail
   refine HC.out.mono ?_;rintro e w' ⟨rfl,rfl⟩
   go_wp2_with fail
   go_ret2
   exact ⟨rfl,0,rfl⟩
  ·by_cases h2:d.sum<s
   ·obtain ⟨e1,e2⟩:=Pf.bwE_out he (.inr h2)
    rw [e1,e2]
    clear hv hd hok l1 l2 e1 e2 he hlv hld hcv;generalize d.sum=S at *
    go_enter Tryz.func68,Tryz.ntmps68
    go_wp2_with fail
    refine HC.out.mono ?_;rintro e w' ⟨rfl,rfl⟩
    go_wp2_with fail
    go_ret2
    exact ⟨rfl,0,rfl⟩
   ·obtain ⟨e1,e2⟩:=Pf.bwE_in (s:=s) he (by omega) (by omega)
    rw [e1,e2]
    have HOK:=hid hok;have HLV:=hid hlv;have HLD:=hid hld;have HV:=hid hv;have HD:=hid hd
    have hm':m≤64:=by omega
    have hn':n≤64:=by omega
    have hnm:=hid (show n=m+1 by omega);have hstart:=hid (show s≤(d.drop 0).sum by simpa using h2);clear e1 e2 he hv hd hok l1 l2 hlv hld hcv hn hm;generalize d.sum=SM at *
    go_enter Tryz.func68,Tryz.ntmps68
    go_wp2_with fail
    refine HC.out.mono ?_;rintro e w' ⟨rfl,rfl⟩
    go_wp2_with fail
    go_loop [2,10] (fun s' t=>BRel v d s m s' t) (fun _ t=>m - (intOf t).toNat)
    case atStart=>exact ⟨0,s,by omega,rfl,rfl,by omega,hstart.out,by simp⟩
    case round =>
     obtain ⟨k,S,hk,rfl,rfl,hS0,hS1,heq⟩:=hrel;have HEQ:=hid heq;have HS1:=hid hS1
     have hSb:S≤8000000 * 64:=by
      have h3:=(Pf.sum_nn (d:=d.drop k) (fun x hx=>HOK.out.ds x (List.mem_of_mem_drop hx))).2;have h4:=HLD.out
      rw [List.length_drop] at h3
      omega
     clear heq hS1;obtain ⟨a,ha⟩:=get_ex (k:=k) HLV.out (by have:=hnm.out;omega);have HA:=hid ha;clear ha
     by_cases hlt:k<m
     ·obtain ⟨x,hx⟩:=get_ex HLD.out hlt
      obtain ⟨b,hb⟩:=get_ex (k:=k+1) HLV.out (by have:=hnm.out;omega);have HB:=hid hb;clear hb;have hxo:=HOK.out.ds x (List.mem_of_getElem? hx);have HX:=hid hx;obtain ⟨x0,x1⟩:=hxo;obtain ⟨bd,od,hD,hbd,hcd⟩:=HD.out.cells (by omega);have hcell:=hcd k x hx;have HDE:=hid hD;clear hx hcd hD
      by_cases hle:x≤S
      ·have hnext:=hid (Pf.btw_step HA.out HB.out HX.out hle)
       have hds:=hid (drop_sum HX.out);obtain rfl:=HDE.out
       go_wp2_with fail
       go_round
       case rel=>exact ⟨k+1,S - x,by omega,by go_num,rfl,by omega,by have:=HS1.out;have:=hds.out;omega,by rw [← hnext.out];exact HEQ.out⟩
       case measure=>simp only [intOf];omega
      ·have hstop:=hid (Pf.btw_stop HA.out HB.out HX.out (show S<x by omega))
       by_cases hz:S=0
       ·have HON:=hid (fun w (hh:Ints w A n v)=>on_zero A D n cn m cm k v a w hh HA.out hn')
        subst hz;obtain rfl:=HDE.out
        go_wp2_with fail
        refine (HON.out _ HV.out).mono ?_;rintro e w' ⟨rfl,rfl⟩
        go_wp2_with fail
        go_ret2
        exact ⟨ret_tup2 (by rw [← HEQ.out,hstop.out];rfl) rfl,0,rfl⟩
       ·have HON:=hid (on_any A D n cn m cm k v d a b x S w HV.out HD.out hn' hm' HA.out HB.out HX.out (HOK.out.vs _ (List.mem_of_getElem? HA.out)) (HOK.out.vs _ (List.mem_of_getElem? HB.out)) hz hS0 (by omega) x1)
        obtain rfl:=HDE.out
        go_wp2_with fail
        refine HON.out.mono ?_;rintro e w' ⟨rfl,q,rfl⟩
        go_wp2_with fail
        go_ret2
        exact ⟨ret_tup2 (by rw [← HEQ.out,hstop.out]) rfl,q,rfl⟩
     ·have hz:S=0:=by
       have h3:=HS1.out
       rw [List.drop_of_length_le (by have:=HLD.out;omega)] at h3
       simp at h3
       omega
      subst hz;have hend:=hid (Pf.btw_end (s:=0) HA.out (show d.length≤k by have:=HLD.out;omega));have HON:=hid (on_zero A D n cn m cm k v a w HV.out HA.out hn')
      go_wp2_with fail
      refine HON.out.mono ?_;rintro e w' ⟨rfl,rfl⟩
      go_wp2_with fail
      go_ret2
      exact ⟨ret_tup2 (by rw [← HEQ.out,hend.out]) rfl,0,rfl⟩
 ·obtain ⟨e1,e2⟩:=Pf.bwE_ch (s:=s) he
  rw [e1,e2]
  have hne:(Pf.chE v d != 0)=true:=by rw [bne_iff_ne];exact he
  have hcv:Pf.chV v d=0:=by unfold Pf.chV;rw [if_neg he]
  rw [hcv] at HC
  clear hv hd e1 e2 he hcv;generalize Pf.chE v d=E at *
  go_enter Tryz.func68,Tryz.ntmps68
  go_wp2_with fail
  refine HC.out.mono ?_;rintro e w' ⟨rfl,rfl⟩
  go_wp2_with fail
  go_ret2
  exact ⟨rfl,0,rfl⟩
end Go.Proofs.YtheepmnhpclimaaGreat

namespace Go.Proofs.YtheepmnhpclimaaGreat
end Go.Proofs.YtheepmnhpclimaaGreat

namespace Go.Proofs.YtheepmnhpclimaaGreat
set_option maxRecDepth 100000
set_option maxHeartbeats 2000000
set_option linter.unusedSimpArgs false
set_option linter.unusedVariables false
open Go.RowKit
open Go.Lib (hid)

def SPost (pr:Int→Prop) (N:Nat) (w:World) (e:Ending) (w':World):Prop:=∃ k:Nat,e=.returned (vI k)∧k≤N∧(k=N∨pr k)∧(k=0∨¬ pr ((k:Int) - 1))∧Below w.heap.size w w'
def SRelL (pr:Int→Prop) (N:Nat) (w:World) (vi vj:Value) (w':World):Prop :=
 ∃ i j:Nat,vi=vI i∧vj=vI j∧i≤j∧j≤N∧(j=N∨pr j)∧(i=0∨¬ pr ((i:Int) - 1))∧Below w.heap.size w w'

theorem search_any (pr:Int→Prop) [DecidablePred pr] (N:Nat) (hN:N≤1000000000) (g:FuncId) (lb:Array Value) (w:World)
  (eg:∀ args w,(callFunc g args).run Tryz.prog w=.ok (.enter g args) w)
  (hf:∀ (W:World) (i:Nat),i<N→Below w.heap.size w W→Calls Tryz.prog g (#[vI i] ++ lb) W fun e w'=>e=.returned (.bool (decide (pr i)))∧Below W.heap.size W w') :
  Calls Tryz.prog 254 #[vI N,.func (.func g) #[] lb] w (SPost pr N w):=by
 have HF:=hid hf;clear hf
 go_enter Tryz.func254,Tryz.ntmps254
 go_wp2_with fail
 go_loopw [5,6] (fun vi vj wr=>SRelL pr N w vi vj wr) (fun vi vj _=>(intOf vj).toNat - (intOf vi).toNat)
 case atStart=>exact ⟨0,N,rfl,rfl,Nat.zero_le _,Nat.le_refl _,.inl rfl,.inl rfl,Below.refl _ _⟩
 case round =>
  obtain ⟨i,j,rfl,rfl,hij,hjN,h1,h2,hB⟩:=hrel;have H1:=hid h1;have H2:=hid h2;have HB:=hid hB;clear h1 h2 hB
  by_cases hlt:(i:Int)<j
  ·have hm:((i:Int)+j) / 2=(((i+j) / 2:Nat):Int):=by omega
   have m1:i≤(i+j) / 2:=by omega
   have m2:(i+j) / 2<j:=by omega
   generalize (i+j) / 2=m at *
   by_cases hp:pr (m:Int)
   ·have hd:decide (pr (m:Int))=true:=decide_eq_true hp
    have HP:=hid hp;have HM:=hid hm;clear hp hm
    go_wp2_with fail
    rw [HM.out]
    refine (HF.out wr m (by omega) HB.out).mono ?_;rintro e w2 ⟨rfl,hB2⟩
    go_wp2_with fail
    go_roundw
    case rel=>exact ⟨i,m,rfl,rfl,m1,by omega,.inr HP.out,H2.out,HB.out.trans (hB2.mono HB.out.size)⟩
    case measure=>simp only [intOf,HM.out];omega
   ·have hd:decide (pr (m:Int))=false:=decide_eq_false hp
    have HP:=hid hp;have HM:=hid hm;clear hp hm
    go_wp2_with fail
    rw [HM.out]
    refine (HF.out wr m (by omega) HB.out).mono ?_;rintro e w2 ⟨rfl,hB2⟩
    go_wp2_with fail
    go_roundw
    case rel=>exact ⟨m+1,j,by (try rw [HM.out]);rfl,rfl,by omega,hjN,H1.out,.inr (by rw [show ((m+1:Nat):Int) - 1=m from by omega];exact HP.out),HB.out.trans (hB2.mono HB.out.size)⟩
    case measure=>simp only [intOf,HM.out];omega
  ·have hij':i=j:=by omega
   have HIJ:=hid hij';clear hij'
   go_wp2_with fail
   go_ret
   exact ⟨i,rfl,by omega,by rw [HIJ.out];exact H1.out,H2.out,HB.out⟩
end Go.Proofs.YtheepmnhpclimaaGreat

