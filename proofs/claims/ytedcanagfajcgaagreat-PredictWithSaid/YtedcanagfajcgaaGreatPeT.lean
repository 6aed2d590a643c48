
/- Layer 31: the tests of lists and of tables. -/
import Derived.Test.YtedcanagfajcgaaGreatM8
import Derived.BigQuiet
set_option linter.unusedSimpArgs false
set_option linter.unusedVariables false
set_option maxRecDepth 100000
set_option maxHeartbeats 2000000
namespace Go.Proofs
theorem MV{G:Prop}(h:G:=by
  go_wp2_with fail
  go_quiet (fail)
  clear s1 s2 s3
  go_wp2_with fail
  go_ret
  exact ⟨Ao (by rw [G.out]),_,World.drewN_drewN _ _ _⟩):G:=h
theorem MZ{G:Prop}(h:G:=by
  go_wp2_with fail
  go_ret
  exact ⟨Ao (by rw [HA.out]),nq,rfl⟩):G:=h
theorem Yz{G:Prop}(h:G:=by
  go_wp2
  go_ret
  exact ⟨Ao (by rw [hv.out,Bool.eq_iff_iff];simp;try omega),rfl⟩):G:=h
end Go.Proofs
namespace Go.Proofs.YtedcanagfajcgaaGreat
open Go.RowKit
open Go.Lib (hid)
theorem ML (n lo hi:Int) (w:World):Calls Tryz.prog 116 #[vI n,vI lo,vI hi] w fun e w'=>e=.returned (.bool (inB n lo hi))∧w=w':=by
 have hv:=hid (show inB n lo hi=(decide (lo<=n) && decide (n<=hi)) from rfl)
 by_cases h1:n<lo
 ·go_enter Tryz.func116,Tryz.ntmps116
  exact Yz
 by_cases h2:hi<n
 ·go_enter Tryz.func116,Tryz.ntmps116
  exact Yz
 ·go_enter Tryz.func116,Tryz.ntmps116
  exact Yz
theorem XR (A:Option Addr) (n c:Nat) (l:List Int) (lo hi:Int) (w:World) (hl:Ints w A n l) (hn:n<=maxLen):Calls Tryz.prog 119 #[.slice A n c,vI lo,vI hi] w fun e w'=>e=.returned (.bool (BK l lo hi))∧w=w':=by
 have HE:=hid hl;have HL:=hid hl.len
 unfold maxLen at hn
 clear hl
 go_enter Tryz.func119,Tryz.ntmps119
 go_wp2_with fail
 go_loop [11] (fun t=>∃ k:Nat,k<=n∧t=vI k∧BK (l.take k) lo hi=true) (fun t=>n - (intOf t).toNat)
 case atStart=>exact ⟨0,by omega,rfl,rfl⟩
 case round =>
  obtain ⟨k,hk,rfl,hall⟩:=hrel;have HAL:=hid hall;clear hall
  by_cases hlt:k<n
  ·obtain ⟨q,hq⟩:=Am HL.out hlt
   obtain ⟨b,off,rfl,hb,hc⟩:=HE.out.cells (by omega);have c0:w.cell? ⟨b,off+k,none⟩=some (vI q):=hc k q hq;have HQ:=hid hq;have HT:=hid (Aq l k q hq);clear hc hq
   go_wp2_with fail
   refine (ML _ _ _ _).mono ?_;rintro e w2 ⟨rfl,rfl⟩
   cases g1:inB q lo hi
   ·have G:=hid (show BK l lo hi=false from D8 HQ.out g1)
    clear g1
    go_wp2_with fail
    go_ret
    exact ⟨Ao (by rw [G.out]),rfl⟩
   have G1:=hid g1;clear g1
   go_wp2_with fail
   go_round
   case rel=>exact ⟨k+1,by omega,by go_num,BX HT.out HAL.out G1.out⟩
   case measure=>exact zMs
  ·have HA:=hid (show BK l lo hi=true from C9 (by rw [HL.out];omega) HAL.out)
   go_wp2_with fail
   go_ret
   exact ⟨Ao (by rw [HA.out]),rfl⟩
theorem QO (A:Option Addr) (n c:Nat) (l:List Int) (lo hi:Int) (w:World) (hl:Ints w A n l) (hn:n<=maxLen):Calls Tryz.prog 135 #[.slice A n c,vI lo,vI hi] w fun e w'=>e=.returned (.bool (BK l lo hi))∧w=w':=by
 have HE:=hid hl;have HL:=hid hl.len
 unfold maxLen at hn
 clear hl
 go_enter Tryz.func135,Tryz.ntmps135
 go_wp2_with fail
 go_loop [11] (fun t=>∃ k:Nat,k<=n∧t=vI k∧BK (l.take k) lo hi=true) (fun t=>n - (intOf t).toNat)
 case atStart=>exact ⟨0,by omega,rfl,rfl⟩
 case round =>
  obtain ⟨k,hk,rfl,hall⟩:=hrel;have HAL:=hid hall;clear hall
  by_cases hlt:k<n
  ·obtain ⟨q,hq⟩:=Am HL.out hlt
   obtain ⟨b,off,rfl,hb,hc⟩:=HE.out.cells (by omega);have c0:w.cell? ⟨b,off+k,none⟩=some (vI q):=hc k q hq;have HQ:=hid hq;have HT:=hid (Aq l k q hq);clear hc hq;have hv:inB q lo hi=(decide (lo<=q) && decide (q<=hi)):=rfl
   by_cases c1:q<lo
   ·have G:=hid (show BK l lo hi=false from D8 HQ.out (by rw [hv,Bool.eq_iff_iff];simp;try omega))
    clear hv
    go_wp2_with fail
    go_ret
    exact ⟨Ao (by rw [G.out]),rfl⟩
   by_cases c2:hi<q
   ·have G:=hid (show BK l lo hi=false from D8 HQ.out (by rw [hv,Bool.eq_iff_iff];simp;try omega))
    clear hv
    go_wp2_with fail
    go_ret
    exact ⟨Ao (by rw [G.out]),rfl⟩
   have G1:Hid (inB q lo hi=true):=hid (Al.2 ⟨by omega,by omega⟩);clear hv
   go_wp2_with fail
   go_round
   case rel=>exact ⟨k+1,by omega,by go_num,BX HT.out HAL.out G1.out⟩
   case measure=>exact zMs
  ·have HA:=hid (show BK l lo hi=true from C9 (by rw [HL.out];omega) HAL.out)
   go_wp2_with fail
   go_ret
   exact ⟨Ao (by rw [HA.out]),rfl⟩
theorem ZV (A:Option Addr) (n c:Nat) (rs:List Row) (lo hi:Int) (w:World) (hl:Tab w A n rs) (hn:n<=maxLen) (hr:∀ r ∈ rs,r.n<=maxLen):Calls Tryz.prog 120 #[.slice A n c,vI lo,vI hi] w fun e w'=>e=.returned (.bool (FW (Aj rs) lo hi))∧w=w':=by
 have HE:=hid hl;have HL:=hid hl.top.len;have HR:=hid hr;have HV:=hid (show FW (Aj rs) lo hi=rs.all fun r=>BK r.l lo hi by unfold FW Aj;rw [List.all_map];rfl)
 unfold maxLen at hn
 clear hl hr
 go_enter Tryz.func120,Tryz.ntmps120
 go_wp2_with fail
 go_loop [11] (fun t=>∃ k:Nat,k<=n∧t=vI k∧((rs.take k).all fun r=>BK r.l lo hi)=true) (fun t=>n - (intOf t).toNat)
 case atStart=>exact ⟨0,by omega,rfl,rfl⟩
 case round =>
  obtain ⟨k,hk,rfl,hall⟩:=hrel;have HAL:=hid hall;clear hall
  by_cases hlt:k<n
  ·obtain ⟨q,hq⟩:=Am HL.out hlt
   obtain ⟨b,off,rfl,hb,hc⟩:=HE.out.top.cells (by omega)
   have c0:w.cell? ⟨b,off+k,none⟩=some (.slice q.A q.n q.c):=by have:=hc k q hq 0 _ rfl;simpa using this
   have HQ:=hid hq;have HT:=hid (Aq rs k q hq);have HC:=hid (XR q.A q.n q.c q.l lo hi w (HE.out.row q (Au hq)) (HR.out q (Au hq)));clear hc hq
   go_wp2_with fail
   refine HC.out.mono ?_;rintro e w2 ⟨rfl,rfl⟩
   cases g1:BK q.l lo hi
   ·have G:=hid (show (rs.all fun r=>BK r.l lo hi)=false from D8 HQ.out g1)
    clear g1
    go_wp2_with fail
    go_ret
    exact ⟨Ao (by rw [HV.out,G.out]),rfl⟩
   have G1:=hid g1;clear g1
   go_wp2_with fail
   go_round
   case rel=>exact ⟨k+1,by omega,by go_num,BX HT.out HAL.out G1.out⟩
   case measure=>exact zMs
  ·have HA:=hid (show (rs.all fun r=>BK r.l lo hi)=true from C9 (by rw [HL.out];omega) HAL.out)
   go_wp2_with fail
   go_ret
   exact ⟨Ao (by rw [HV.out,HA.out]),rfl⟩
theorem Zj (A:Option Addr) (n c:Nat) (rs:List Row) (lo hi:Int) (w:World) (hl:Tab w A n rs) (hn:n<=maxLen) (hr:∀ r ∈ rs,r.n<=maxLen):Calls Tryz.prog 136 #[.slice A n c,vI lo,vI hi] w fun e w'=>e=.returned (.bool (FW (Aj rs) lo hi))∧w=w':=by
 have HE:=hid hl;have HL:=hid hl.top.len;have HR:=hid hr;have HV:=hid (show FW (Aj rs) lo hi=rs.all fun r=>BK r.l lo hi by unfold FW Aj;rw [List.all_map];rfl)
 unfold maxLen at hn
 clear hl hr
 go_enter Tryz.func136,Tryz.ntmps136
 go_wp2_with fail
 go_loop [11] (fun t=>∃ k:Nat,k<=n∧t=vI k∧((rs.take k).all fun r=>BK r.l lo hi)=true) (fun t=>n - (intOf t).toNat)
 case atStart=>exact ⟨0,by omega,rfl,rfl⟩
 case round =>
  obtain ⟨k,hk,rfl,hall⟩:=hrel;have HAL:=hid hall;clear hall
  by_cases hlt:k<n
  ·obtain ⟨q,hq⟩:=Am HL.out hlt
   obtain ⟨b,off,rfl,hb,hc⟩:=HE.out.top.cells (by omega)
   have c0:w.cell? ⟨b,off+k,none⟩=some (.slice q.A q.n q.c):=by have:=hc k q hq 0 _ rfl;simpa using this
   have HQ:=hid hq;have HT:=hid (Aq rs k q hq);have HC:=hid (QO q.A q.n q.c q.l lo hi w (HE.out.row q (Au hq)) (HR.out q (Au hq)));clear hc hq
   go_wp2_with fail
   refine HC.out.mono ?_;rintro e w2 ⟨rfl,rfl⟩
   cases g1:BK q.l lo hi
   ·have G:=hid (show (rs.all fun r=>BK r.l lo hi)=false from D8 HQ.out g1)
    clear g1
    go_wp2_with fail
    go_ret
    exact ⟨Ao (by rw [HV.out,G.out]),rfl⟩
   have G1:=hid g1;clear g1
   go_wp2_with fail
   go_round
   case rel=>exact ⟨k+1,by omega,by go_num,BX HT.out HAL.out G1.out⟩
   case measure=>exact zMs
  ·have HA:=hid (show (rs.all fun r=>BK r.l lo hi)=true from C9 (by rw [HL.out];omega) HAL.out)
   go_wp2_with fail
   go_ret
   exact ⟨Ao (by rw [HV.out,HA.out]),rfl⟩
theorem Ac3 (A:Option Addr) (n c:Nat) (l:List Int) (w:World) (hl:Ints w A n l) (hn:n<=maxLen):Calls Tryz.prog 118 #[.slice A n c] w fun e w'=>e=.returned (.bool (KA l))∧∃ q,w'=w.drewN q:=by
 have HE:=hid hl;have HL:=hid hl.len
 unfold maxLen at hn
 clear hl
 go_enter Tryz.func118,Tryz.ntmps118
 go_wp2_with fail
 go_loopw [3] (fun t wr=>∃ k:Nat,k<=n∧t=vI (k+1)∧(∀ i,i<k→i+1<l.length→l.getD i 0<l.getD (i+1) 0)∧∃ q,wr=w.drewN q) (fun t _=>n+1 - (intOf t).toNat)
 case atStart=>exact ⟨0,by omega,rfl,fun i hi=>by omega,0,rfl⟩
 case round =>
  obtain ⟨k,hk,rfl,hall,nq,rfl⟩:=hrel;have HAL:=hid hall;clear hall
  by_cases hlt:k+1<n
  ·obtain ⟨q,hq⟩:=Am HL.out hlt
   obtain ⟨p,hp⟩:=Am HL.out (show k<n by omega);obtain ⟨b,off,rfl,hb,hc⟩:=HE.out.cells (by omega);have c0:∀ m,(w.drewN m).cell? ⟨b,off+k,none⟩=some (vI p):=fun m=>(BC w m _).trans (hc k p hp);have c1:∀ m,(w.drewN m).cell? ⟨b,off+(k+1),none⟩=some (vI q):=fun m=>(BC w m _).trans (hc (k+1) q hq);have HG:=hid (show l.getD k 0=p∧l.getD (k+1) 0=q from ⟨Ah hp,Ah hq⟩)
   have s1:IntKind.i64.wrap ((k:Int)+1 - 1)=(k:Int):=by rw [(iW _)];omega
   have s2:((k:Int)+1).toNat=k+1:=by omega
   have s3:0<=(k:Int)+1:=by omega
   clear hc hq hp
   by_cases hg:p<q
   ·go_wp2_with fail
    go_quiet (fail)
    clear s1 s2 s3
    go_wp2_with fail
    go_roundw
    case rel=>exact ⟨k+1,by omega,by go_num,fun i hi hl=>by
     by_cases e:i=k
     ·subst e;rw [HG.out.1,HG.out.2];exact hg
     ·exact HAL.out i (by omega) hl,_,rfl⟩
    case measure=>exact zMs
   ·have G:=hid (show KA l=false from BJ (fun ha=>hg (by have:=ha k (by have:=HL.out;omega);rw [HG.out.1,HG.out.2] at this;exact this)))
    exact MV
  ·have HA:=hid (show KA l=true from Ct (fun i hi=>HAL.out i (by have:=HL.out;omega) hi))
   exact MZ
theorem AcD (A:Option Addr) (n c:Nat) (l:List Int) (w:World) (hl:Ints w A n l) (hn:n<=maxLen):Calls Tryz.prog 134 #[.slice A n c] w fun e w'=>e=.returned (.bool (KA l))∧∃ q,w'=w.drewN q:=by
 have HE:=hid hl;have HL:=hid hl.len
 unfold maxLen at hn
 clear hl
 go_enter Tryz.func134,Tryz.ntmps134
 go_wp2_with fail
 go_loopw [3] (fun t wr=>∃ k:Nat,k<=n∧t=vI (k+1)∧(∀ i,i<k→i+1<l.length→l.getD i 0<l.getD (i+1) 0)∧∃ q,wr=w.drewN q) (fun t _=>n+1 - (intOf t).toNat)
 case atStart=>exact ⟨0,by omega,rfl,fun i hi=>by omega,0,rfl⟩
 case round =>
  obtain ⟨k,hk,rfl,hall,nq,rfl⟩:=hrel;have HAL:=hid hall;clear hall
  by_cases hlt:k+1<n
  ·obtain ⟨q,hq⟩:=Am HL.out hlt
   obtain ⟨p,hp⟩:=Am HL.out (show k<n by omega);obtain ⟨b,off,rfl,hb,hc⟩:=HE.out.cells (by omega);have c0:∀ m,(w.drewN m).cell? ⟨b,off+k,none⟩=some (vI p):=fun m=>(BC w m _).trans (hc k p hp);have c1:∀ m,(w.drewN m).cell? ⟨b,off+(k+1),none⟩=some (vI q):=fun m=>(BC w m _).trans (hc (k+1) q hq);have HG:=hid (show l.getD k 0=p∧l.getD (k+1) 0=q from ⟨Ah hp,Ah hq⟩)
   have s1:IntKind.i64.wrap ((k:Int)+1 - 1)=(k:Int):=by rw [(iW _)];omega
   have s2:((k:Int)+1).toNat=k+1:=by omega
   have s3:0<=(k:Int)+1:=by omega
   clear hc hq hp
   by_cases hg:p<q
   ·go_wp2_with fail
    go_quiet (fail)
    clear s1 s2 s3
    go_wp2_with fail
    go_roundw
    case rel=>exact ⟨k+1,by omega,by go_num,fun i hi hl=>by
     by_cases e:i=k
     ·subst e;rw [HG.out.1,HG.out.2];exact hg
     ·exact HAL.out i (by omega) hl,_,rfl⟩
    case measure=>exact zMs
   ·have G:=hid (show KA l=false from BJ (fun ha=>hg (by have:=ha k (by have:=HL.out;omega);rw [HG.out.1,HG.out.2] at this;exact this)))
    exact MV
  ·have HA:=hid (show KA l=true from Ct (fun i hi=>HAL.out i (by have:=HL.out;omega) hi))
   exact MZ
theorem Aen (A:Option Addr) (n c:Nat) (l:List Int) (w:World) (hl:Ints w A n l) (hn:n<=maxLen):Calls Tryz.prog 140 #[.slice A n c] w fun e w'=>e=.returned (.bool (dnB l))∧∃ q,w'=w.drewN q:=by
 have HE:=hid hl;have HL:=hid hl.len
 unfold maxLen at hn
 clear hl
 go_enter Tryz.func140,Tryz.ntmps140
 go_wp2_with fail
 go_loopw [3] (fun t wr=>∃ k:Nat,k<=n∧t=vI (k+1)∧(∀ i,i<k→i+1<l.length→l.getD (i+1) 0<=l.getD i 0)∧∃ q,wr=w.drewN q) (fun t _=>n+1 - (intOf t).toNat)
 case atStart=>exact ⟨0,by omega,rfl,fun i hi=>by omega,0,rfl⟩
 case round =>
  obtain ⟨k,hk,rfl,hall,nq,rfl⟩:=hrel;have HAL:=hid hall;clear hall
  by_cases hlt:k+1<n
  ·obtain ⟨q,hq⟩:=Am HL.out hlt
   obtain ⟨p,hp⟩:=Am HL.out (show k<n by omega);obtain ⟨b,off,rfl,hb,hc⟩:=HE.out.cells (by omega);have c0:∀ m,(w.drewN m).cell? ⟨b,off+k,none⟩=some (vI p):=fun m=>(BC w m _).trans (hc k p hp);have c1:∀ m,(w.drewN m).cell? ⟨b,off+(k+1),none⟩=some (vI q):=fun m=>(BC w m _).trans (hc (k+1) q hq);have HG:=hid (show l.getD k 0=p∧l.getD (k+1) 0=q from ⟨Ah hp,Ah hq⟩)
   have s1:IntKind.i64.wrap ((k:Int)+1 - 1)=(k:Int):=by rw [(iW _)];omega
   have s2:((k:Int)+1).toNat=k+1:=by omega
   have s3:0<=(k:Int)+1:=by omega
   clear hc hq hp
   by_cases hg:q<=p
   ·go_wp2_with fail
    go_quiet (fail)
    clear s1 s2 s3
    go_wp2_with fail
    go_roundw
    case rel=>exact ⟨k+1,by omega,by go_num,fun i hi hl=>by
     by_cases e:i=k
     ·subst e;rw [HG.out.1,HG.out.2];exact hg
     ·exact HAL.out i (by omega) hl,_,rfl⟩
    case measure=>exact zMs
   ·have G:=hid (show dnB l=false from BJ (fun ha=>hg (by have:=ha k (by have:=HL.out;omega);rw [HG.out.1,HG.out.2] at this;exact this)))
    exact MV
  ·have HA:=hid (show dnB l=true from Ct (fun i hi=>HAL.out i (by have:=HL.out;omega) hi))
   exact MZ
theorem Aew (A:Option Addr) (n c:Nat) (l:List Int) (w:World) (hl:Ints w A n l) (hn:n<=maxLen):Calls Tryz.prog 139 #[.slice A n c] w fun e w'=>e=.returned (.bool (upB l))∧∃ q,w'=w.drewN q:=by
 have HE:=hid hl;have HL:=hid hl.len
 unfold maxLen at hn
 clear hl
 go_enter Tryz.func139,Tryz.ntmps139
 go_wp2_with fail
 go_loopw [3] (fun t wr=>∃ k:Nat,k<=n∧t=vI (k+1)∧(∀ i,i<k→i+1<l.length→l.getD i 0<=l.getD (i+1) 0)∧∃ q,wr=w.drewN q) (fun t _=>n+1 - (intOf t).toNat)
 case atStart=>exact ⟨0,by omega,rfl,fun i hi=>by omega,0,rfl⟩
 case round =>
  obtain ⟨k,hk,rfl,hall,nq,rfl⟩:=hrel;have HAL:=hid hall;clear hall
  by_cases hlt:k+1<n
  ·obtain ⟨q,hq⟩:=Am HL.out hlt
   obtain ⟨p,hp⟩:=Am HL.out (show k<n by omega);obtain ⟨b,off,rfl,hb,hc⟩:=HE.out.cells (by omega);have c0:∀ m,(w.drewN m).cell? ⟨b,off+k,none⟩=some (vI p):=fun m=>(BC w m _).trans (hc k p hp);have c1:∀ m,(w.drewN m).cell? ⟨b,off+(k+1),none⟩=some (vI q):=fun m=>(BC w m _).trans (hc (k+1) q hq);have HG:=hid (show l.getD k 0=p∧l.getD (k+1) 0=q from ⟨Ah hp,Ah hq⟩)
   have s1:IntKind.i64.wrap ((k:Int)+1 - 1)=(k:Int):=by rw [(iW _)];omega
   have s2:((k:Int)+1).toNat=k+1:=by omega
   have s3:0<=(k:Int)+1:=by omega
   clear hc hq hp
   by_cases hg:p<=q
   ·go_wp2_with fail
    go_quiet (fail)
    clear s1 s2 s3
    go_wp2_with fail
    go_roundw
    case rel=>exact ⟨k+1,by omega,by go_num,fun i hi hl=>by
     by_cases e:i=k
     ·subst e;rw [HG.out.1,HG.out.2];exact hg
     ·exact HAL.out i (by omega) hl,_,rfl⟩
    case measure=>exact zMs
   ·have G:=hid (show upB l=false from BJ (fun ha=>hg (by have:=ha k (by have:=HL.out;omega);rw [HG.out.1,HG.out.2] at this;exact this)))
    exact MV
  ·have HA:=hid (show upB l=true from Ct (fun i hi=>HAL.out i (by have:=HL.out;omega) hi))
   exact MZ
theorem TZ (A:Option Addr) (n c:Nat) (l:List Int) (w:World) (hl:Ints w A n l) (hn:n<=maxLen) (hb:∀ x ∈ l,0<=x∧x<=3000000000):Calls Tryz.prog 123 #[.slice A n c,vI (1)] w fun e w'=>e=.returned (.bool (upB l))∧∃ q,w'=w.drewN q:=by
 have HE:=hid hl;have HL:=hid hl.len
 unfold maxLen at hn
 clear hl;have HBD:=hid hb;clear hb
 go_enter Tryz.func123,Tryz.ntmps123
 go_wp2_with fail
 go_loopw [5] (fun t wr=>∃ k:Nat,k<=n∧t=vI (k+1)∧(∀ i,i<k→i+1<l.length→l.getD i 0<=l.getD (i+1) 0)∧∃ q,wr=w.drewN q) (fun t _=>n+1 - (intOf t).toNat)
 case atStart=>exact ⟨0,by omega,rfl,fun i hi=>by omega,0,rfl⟩
 case round =>
  obtain ⟨k,hk,rfl,hall,nq,rfl⟩:=hrel;have HAL:=hid hall;clear hall
  by_cases hlt:k+1<n
  ·obtain ⟨q,hq⟩:=Am HL.out hlt
   obtain ⟨p,hp⟩:=Am HL.out (show k<n by omega);obtain ⟨b,off,rfl,hb,hc⟩:=HE.out.cells (by omega);have c0:∀ m,(w.drewN m).cell? ⟨b,off+k,none⟩=some (vI p):=fun m=>(BC w m _).trans (hc k p hp);have c1:∀ m,(w.drewN m).cell? ⟨b,off+(k+1),none⟩=some (vI q):=fun m=>(BC w m _).trans (hc (k+1) q hq);have HG:=hid (show l.getD k 0=p∧l.getD (k+1) 0=q from ⟨Ah hp,Ah hq⟩);obtain ⟨p1,p2⟩:=HBD.out p (Au hp);obtain ⟨q1,q2⟩:=HBD.out q (Au hq)
   have s1:IntKind.i64.wrap ((k:Int)+1 - 1)=(k:Int):=by rw [(iW _)];omega
   have s2:((k:Int)+1).toNat=k+1:=by omega
   have s3:0<=(k:Int)+1:=by omega
   clear hc hq hp
   by_cases hg:p<=q
   ·go_wp2_with fail
    go_quiet (fail)
    clear s1 s2 s3
    go_wp2_with fail
    go_roundw
    case rel=>exact ⟨k+1,by omega,by go_num,fun i hi hl=>by
     by_cases e:i=k
     ·subst e;rw [HG.out.1,HG.out.2];exact hg
     ·exact HAL.out i (by omega) hl,_,rfl⟩
    case measure=>exact zMs
   ·have G:=hid (show upB l=false from BJ (fun ha=>hg (by have:=ha k (by have:=HL.out;omega);rw [HG.out.1,HG.out.2] at this;exact this)))
    exact MV
  ·have HA:=hid (show upB l=true from Ct (fun i hi=>HAL.out i (by have:=HL.out;omega) hi))
   exact MZ
theorem TQ (A:Option Addr) (n c:Nat) (l:List Int) (w:World) (hl:Ints w A n l) (hn:n<=maxLen) (hb:∀ x ∈ l,0<=x∧x<=3000000000):Calls Tryz.prog 123 #[.slice A n c,vI (-1)] w fun e w'=>e=.returned (.bool (dnB l))∧∃ q,w'=w.drewN q:=by
 have HE:=hid hl;have HL:=hid hl.len
 unfold maxLen at hn
 clear hl;have HBD:=hid hb;clear hb
 go_enter Tryz.func123,Tryz.ntmps123
 go_wp2_with fail
 go_loopw [5] (fun t wr=>∃ k:Nat,k<=n∧t=vI (k+1)∧(∀ i,i<k→i+1<l.length→l.getD (i+1) 0<=l.getD i 0)∧∃ q,wr=w.drewN q) (fun t _=>n+1 - (intOf t).toNat)
 case atStart=>exact ⟨0,by omega,rfl,fun i hi=>by omega,0,rfl⟩
 case round =>
  obtain ⟨k,hk,rfl,hall,nq,rfl⟩:=hrel;have HAL:=hid hall;clear hall
  by_cases hlt:k+1<n
  ·obtain ⟨q,hq⟩:=Am HL.out hlt
   obtain ⟨p,hp⟩:=Am HL.out (show k<n by omega);obtain ⟨b,off,rfl,hb,hc⟩:=HE.out.cells (by omega);have c0:∀ m,(w.drewN m).cell? ⟨b,off+k,none⟩=some (vI p):=fun m=>(BC w m _).trans (hc k p hp);have c1:∀ m,(w.drewN m).cell? ⟨b,off+(k+1),none⟩=some (vI q):=fun m=>(BC w m _).trans (hc (k+1) q hq);have HG:=hid (show l.getD k 0=p∧l.getD (k+1) 0=q from ⟨Ah hp,Ah hq⟩);obtain ⟨p1,p2⟩:=HBD.out p (Au hp);obtain ⟨q1,q2⟩:=HBD.out q (Au hq)
   have s1:IntKind.i64.wrap ((k:Int)+1 - 1)=(k:Int):=by rw [(iW _)];omega
   have s2:((k:Int)+1).toNat=k+1:=by omega
   have s3:0<=(k:Int)+1:=by omega
   have m1:IntKind.i64.wrap (-1 * q) = -q:=by rw [(iW _)];omega
   have m2:IntKind.i64.wrap (-1 * p) = -p:=by rw [(iW _)];omega
   clear hc hq hp
   by_cases hg:q<=p
   ·go_wp2_with fail
    go_quiet (fail)
    clear s1 s2 s3
    go_wp2_with fail
    go_roundw
    case rel=>exact ⟨k+1,by omega,by go_num,fun i hi hl=>by
     by_cases e:i=k
     ·subst e;rw [HG.out.1,HG.out.2];exact hg
     ·exact HAL.out i (by omega) hl,_,rfl⟩
    case measure=>exact zMs
   ·have G:=hid (show dnB l=false from BJ (fun ha=>hg (by have:=ha k (by have:=HL.out;omega);rw [HG.out.1,HG.out.2] at this;exact this)))
    exact MV
  ·have HA:=hid (show dnB l=true from Ct (fun i hi=>HAL.out i (by have:=HL.out;omega) hi))
   exact MZ
theorem OD {α:Type} {l:List α} {f g:α→Bool} (h:∀ x ∈ l,f x=g x):l.all f=l.all g:=by
 induction l with
 | nil=>rfl
 | cons a t ih=>rw [List.all_cons,List.all_cons,h a (by simp),ih (fun x hx=>h x (List.mem_cons_of_mem _ hx))]
theorem Ac8 (p:Prf) (A:Option Addr) (n c:Nat) (rs:List Row) (w:World) (hok:p.ok) (hl:Tab w A n rs) (hn:n<=maxLen) (hr:∀ r ∈ rs,r.n<=maxLen):Calls Tryz.prog 117 #[.agg p.cells.toArray,.slice A n c] w fun e w'=>e=.returned (.bool (EW (Aj rs) p.sal.n p.sms.n))∧Below w.heap.size w w':=by
 have HE:=hid hl;have HL:=hid hl.top.len;have HR:=hid hr
 have HV:=hid (show EW (Aj rs) p.sal.n p.sms.n=(decide (rs.length=p.sal.n) && rs.all fun r=>decide (r.n=p.sms.n)) by
  unfold EW Aj
  rw [List.all_map,List.length_map]
  congr 1
  refine OD (fun r hr=>?_)
  show decide (r.l.length=_)=_
  rw [(hl.row r hr).len])
 generalize EW (Aj rs) p.sal.n p.sms.n=B at *
 unfold maxLen at hn
 clear hl hr;have h1:=hok.al;have h2:=hok.ms
 unfold maxLen at h1 h2
 have HPC:=hid (show p.cells[3]? = some (.slice p.sal.A p.sal.n p.sal.c)∧p.cells[4]? = some (.slice p.sms.A p.sms.n p.sms.c) from ⟨rfl,rfl⟩);clear hok
 go_enter Tryz.func117,Tryz.ntmps117
 go_wp2_with fail
 have BP:Hid (Has _ w.heap.size p.cells):=hid (Has.new w p.cells.toArray 26);have HB:=hid (Aa w (.cells p.cells.toArray 26));replace HE:=hid (HE.out.below (Aa w (.cells p.cells.toArray 26)));generalize w.alloc (.cells p.cells.toArray 26)=w1 at *;have k3:w1.cell? ⟨w.heap.size,3,none⟩=some (.slice p.sal.A p.sal.n p.sal.c):=BP.out.cell 3 _ HPC.out.1;have k4:w1.cell? ⟨w.heap.size,4,none⟩=some (.slice p.sms.A p.sms.n p.sms.c):=BP.out.cell 4 _ HPC.out.2;clear HPC BP;generalize p.cells=C at *;generalize p.sal.A=A1 at *;generalize p.sal.n=N at *;generalize p.sal.c=c1 at *;generalize p.sms.A=A2 at *;generalize p.sms.n=M at *;generalize p.sms.c=c2 at *
 go_loop [9] (fun t=>∃ k:Nat,k<=n∧t=vI k∧((rs.take k).all fun r=>decide (r.n=M))=true) (fun t=>n - (intOf t).toNat)
 case atStart=>exact ⟨0,by omega,rfl,rfl⟩
 case round =>
  obtain ⟨k,hk,rfl,hall⟩:=hrel;have HAL:=hid hall;clear hall
  by_cases hlt:k<n
  ·obtain ⟨q,hq⟩:=Am HL.out hlt
   obtain ⟨b,off,rfl,hb,hc⟩:=HE.out.top.cells (by omega)
   have c0:w1.cell? ⟨b,off+k,none⟩=some (.slice q.A q.n q.c):=by have:=hc k q hq 0 _ rfl;simpa using this
   have HQ:=hid hq;have HT:=hid (Aq rs k q hq);have hqn:=HR.out q (Au hq)
   unfold maxLen at hqn
   clear hc hq
   by_cases hm:q.n=M
   ·have G1:=hid (show decide (q.n=M)=true from Ct hm)
    have f0:((q.n:Int) == (M:Int))=true:=by rw [beq_iff_eq];omega
    have f1:((q.n:Int) != (M:Int))=false:=by rw [bne,f0];rfl
    clear hm
    go_wp2_with fail
    go_round
    case rel=>exact ⟨k+1,by omega,by go_num,BX HT.out HAL.out G1.out⟩
    case measure=>exact zMs
   ·have G:=hid (show (rs.all fun r=>decide (r.n=M))=false from D8 HQ.out (BJ hm))
    have f0:((q.n:Int) == (M:Int))=false:=Aw (by omega);have f1:=AL f0;clear hm
    go_wp2_with fail
    go_ret
    exact ⟨Ao (by rw [HV.out,G.out,Bool.and_false]),HB.out⟩
  ·have HA:=hid (show (rs.all fun r=>decide (r.n=M))=true from C9 (by rw [HL.out];omega) HAL.out)
   by_cases hN0:rs.length=N
   ·have G:=hid (show decide (rs.length=N)=true from Ct hN0)
    have e0:((n:Int) == (N:Int))=true:=by rw [beq_iff_eq];rw [HL.out] at hN0;omega
    clear hN0
    go_wp2_with fail
    go_ret
    exact ⟨Ao (by rw [HV.out,G.out,HA.out];rfl),HB.out⟩
   ·have G:=hid (show decide (rs.length=N)=false from BJ hN0)
    have e0:((n:Int) == (N:Int))=false:=Aw (by rw [HL.out] at hN0;omega);clear hN0
    go_wp2_with fail
    go_ret
    exact ⟨Ao (by rw [HV.out,G.out];rfl),HB.out⟩
theorem AcL (A:Option Addr) (n c:Nat) (rs:List Row) (N M:Nat) (w:World) (hl:Tab w A n rs) (hn:n<=maxLen) (hN:N<=maxLen) (hM:M<=maxLen) (hr:∀ r ∈ rs,r.n<=maxLen):Calls Tryz.prog 133 #[.slice A n c,vI N,vI M] w fun e w'=>e=.returned (.bool (EW (Aj rs) N M))∧w=w':=by
 have HE:=hid hl;have HL:=hid hl.top.len;have HR:=hid hr
 have HV:=hid (show EW (Aj rs) N M=(decide (rs.length=N) && rs.all fun r=>decide (r.n=M)) by
  unfold EW Aj
  rw [List.all_map,List.length_map]
  congr 1
  refine OD (fun r hr=>?_)
  show decide (r.l.length=_)=_
  rw [(hl.row r hr).len])
 generalize EW (Aj rs) N M=B at *
 unfold maxLen at hn
 clear hl hr
 unfold maxLen at hN hM
 by_cases hN0:rs.length=N
 rotate_left
 ·have G:=hid (show decide (rs.length=N)=false from BJ hN0)
  have e0:((n:Int) == (N:Int))=false:=Aw (by rw [HL.out] at hN0;omega);have e1:=AL e0;clear hN0
  go_enter Tryz.func133,Tryz.ntmps133
  go_wp2_with fail
  go_ret
  exact ⟨Ao (by rw [HV.out,G.out];rfl),rfl⟩
 have G0:=hid (show decide (rs.length=N)=true from Ct hN0)
 have e0:((n:Int) == (N:Int))=true:=by rw [beq_iff_eq];rw [HL.out] at hN0;omega
 have e1:((n:Int) != (N:Int))=false:=by rw [bne,e0];rfl
 clear hN0
 go_enter Tryz.func133,Tryz.ntmps133
 go_wp2_with fail
 go_loop [15] (fun t=>∃ k:Nat,k<=n∧t=vI k∧((rs.take k).all fun r=>decide (r.n=M))=true) (fun t=>n - (intOf t).toNat)
 case atStart=>exact ⟨0,by omega,rfl,rfl⟩
 case round =>
  obtain ⟨k,hk,rfl,hall⟩:=hrel;have HAL:=hid hall;clear hall
  by_cases hlt:k<n
  ·obtain ⟨q,hq⟩:=Am HL.out hlt
   obtain ⟨b,off,rfl,hb,hc⟩:=HE.out.top.cells (by omega)
   have c0:w.cell? ⟨b,off+k,none⟩=some (.slice q.A q.n q.c):=by have:=hc k q hq 0 _ rfl;simpa using this
   have HQ:=hid hq;have HT:=hid (Aq rs k q hq);have hqn:=HR.out q (Au hq)
   unfold maxLen at hqn
   clear hc hq
   by_cases hm:q.n=M
   ·have G1:=hid (show decide (q.n=M)=true from Ct hm)
    have f0:((q.n:Int) == (M:Int))=true:=by rw [beq_iff_eq];omega
    have f1:((q.n:Int) != (M:Int))=false:=by rw [bne,f0];rfl
    clear hm
    go_wp2_with fail
    go_round
    case rel=>exact ⟨k+1,by omega,by go_num,BX HT.out HAL.out G1.out⟩
    case measure=>exact zMs
   ·have G:=hid (show (rs.all fun r=>decide (r.n=M))=false from D8 HQ.out (BJ hm))
    have f0:((q.n:Int) == (M:Int))=false:=Aw (by omega);have f1:=AL f0;clear hm
    go_wp2_with fail
    go_ret
    exact ⟨Ao (by rw [HV.out,G.out,Bool.and_false]),rfl⟩
  ·have HA:=hid (show (rs.all fun r=>decide (r.n=M))=true from C9 (by rw [HL.out];omega) HAL.out)
   go_wp2_with fail
   go_ret
   exact ⟨Ao (by rw [HV.out,G0.out,HA.out];rfl),rfl⟩
