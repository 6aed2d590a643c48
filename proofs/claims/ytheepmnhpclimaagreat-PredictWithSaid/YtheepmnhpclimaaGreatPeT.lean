
/- Layer 31: the tests of lists and of tables. -/
import Derived.Test.YtheepmnhpclimaaGreatM8
import Derived.BigQuiet
import Derived.Deep.QuietTactic
import Derived.IntWalk
set_option linter.unusedSimpArgs false
set_option linter.unusedVariables false
set_option maxRecDepth 100000
set_option maxHeartbeats 2000000
namespace Go.Proofs
theorem zPeT0 {G : Prop} (h : G := by
  go_wp2_with fail
  go_quiet (fail)
  clear s1 s2 s3
  go_wp2_with fail
  go_ret
  exact ⟨ret_bool (by rw [G.out]),_,World.drewN_drewN _ _ _⟩) : G := h
theorem zPeT1 {G : Prop} (h : G := by
  go_wp2_with fail
  go_ret
  exact ⟨ret_bool (by rw [HA.out]),nq,rfl⟩) : G := h
theorem zPeT2 {G : Prop} (h : G := by
  go_wp2
  go_ret
  exact ⟨ret_bool (by rw [hv.out,Bool.eq_iff_iff];simp;try omega),rfl⟩) : G := h
end Go.Proofs
namespace Go.Proofs.YtheepmnhpclimaaGreat
open Go.RowKit
open Go.Lib (hid)
theorem xWi31 (n lo hi:Int) (w:World):Calls Tryz.prog 148 #[vI n,vI lo,vI hi] w fun e w'=>e=.returned (.bool (inB n lo hi))∧w=w':=by
 have hv:=hid (show inB n lo hi=(decide (lo<=n) && decide (n<=hi)) from rfl)
 by_cases h1:n<lo
 ·go_enter Tryz.func148,Tryz.ntmps148
  exact zPeT2
 by_cases h2:hi<n
 ·go_enter Tryz.func148,Tryz.ntmps148
  exact zPeT2
 ·go_enter Tryz.func148,Tryz.ntmps148
  exact zPeT2
theorem xAll31 (A:Option Addr) (n c:Nat) (l:List Int) (lo hi:Int) (w:World) (hl:Ints w A n l) (hn:n<=maxLen):Calls Tryz.prog 157 #[.slice A n c,vI lo,vI hi] w fun e w'=>e=.returned (.bool (rngL l lo hi))∧w=w':=by
 have HE:=hid hl;have HL:=hid hl.len
 unfold maxLen at hn
 clear hl
 go_enter Tryz.func157,Tryz.ntmps157
 go_wp2_with fail
 go_loop [11] (fun t=>∃ k:Nat,k<=n∧t=vI k∧rngL (l.take k) lo hi=true) (fun t=>n - (intOf t).toNat)
 case atStart=>exact ⟨0,by omega,rfl,rfl⟩
 case round =>
  obtain ⟨k,hk,rfl,hall⟩:=hrel;have HAL:=hid hall;clear hall
  by_cases hlt:k<n
  ·obtain ⟨q,hq⟩:=get_ex HL.out hlt
   obtain ⟨b,off,rfl,hb,hc⟩:=HE.out.cells (by omega);have c0:w.cell? ⟨b,off+k,none⟩=some (vI q):=hc k q hq;have HQ:=hid hq;have HT:=hid (take_succ_get l k q hq);clear hc hq
   go_wp2_with fail
   refine (xWi31 _ _ _ _).mono ?_;rintro e w2 ⟨rfl,rfl⟩
   cases g1:inB q lo hi
   ·have G:=hid (show rngL l lo hi=false from all_no HQ.out g1)
    clear g1
    go_wp2_with fail
    go_ret
    exact ⟨ret_bool (by rw [G.out]),rfl⟩
   have G1:=hid g1;clear g1
   go_wp2_with fail
   go_round
   case rel=>exact ⟨k+1,by omega,by go_num,all_step HT.out HAL.out G1.out⟩
   case measure=>simp only [intOf];omega
  ·have HA:=hid (show rngL l lo hi=true from all_end (by rw [HL.out];omega) HAL.out)
   go_wp2_with fail
   go_ret
   exact ⟨ret_bool (by rw [HA.out]),rfl⟩
theorem rAll31 (A:Option Addr) (n c:Nat) (l:List Int) (lo hi:Int) (w:World) (hl:Ints w A n l) (hn:n<=maxLen):Calls Tryz.prog 168 #[.slice A n c,vI lo,vI hi] w fun e w'=>e=.returned (.bool (rngL l lo hi))∧w=w':=by
 have HE:=hid hl;have HL:=hid hl.len
 unfold maxLen at hn
 clear hl
 go_enter Tryz.func168,Tryz.ntmps168
 go_wp2_with fail
 go_loop [11] (fun t=>∃ k:Nat,k<=n∧t=vI k∧rngL (l.take k) lo hi=true) (fun t=>n - (intOf t).toNat)
 case atStart=>exact ⟨0,by omega,rfl,rfl⟩
 case round =>
  obtain ⟨k,hk,rfl,hall⟩:=hrel;have HAL:=hid hall;clear hall
  by_cases hlt:k<n
  ·obtain ⟨q,hq⟩:=get_ex HL.out hlt
   obtain ⟨b,off,rfl,hb,hc⟩:=HE.out.cells (by omega);have c0:w.cell? ⟨b,off+k,none⟩=some (vI q):=hc k q hq;have HQ:=hid hq;have HT:=hid (take_succ_get l k q hq);clear hc hq;have hv:inB q lo hi=(decide (lo<=q) && decide (q<=hi)):=rfl
   by_cases c1:q<lo
   ·have G:=hid (show rngL l lo hi=false from all_no HQ.out (by rw [hv,Bool.eq_iff_iff];simp;try omega))
    clear hv
    go_wp2_with fail
    go_ret
    exact ⟨ret_bool (by rw [G.out]),rfl⟩
   by_cases c2:hi<q
   ·have G:=hid (show rngL l lo hi=false from all_no HQ.out (by rw [hv,Bool.eq_iff_iff];simp;try omega))
    clear hv
    go_wp2_with fail
    go_ret
    exact ⟨ret_bool (by rw [G.out]),rfl⟩
   have G1:Hid (inB q lo hi=true):=hid (inB_iff.2 ⟨by omega,by omega⟩);clear hv
   go_wp2_with fail
   go_round
   case rel=>exact ⟨k+1,by omega,by go_num,all_step HT.out HAL.out G1.out⟩
   case measure=>simp only [intOf];omega
  ·have HA:=hid (show rngL l lo hi=true from all_end (by rw [HL.out];omega) HAL.out)
   go_wp2_with fail
   go_ret
   exact ⟨ret_bool (by rw [HA.out]),rfl⟩
theorem xAllR31 (A:Option Addr) (n c:Nat) (rs:List Row) (lo hi:Int) (w:World) (hl:Tab w A n rs) (hn:n<=maxLen) (hr:∀ r ∈ rs,r.n<=maxLen):Calls Tryz.prog 158 #[.slice A n c,vI lo,vI hi] w fun e w'=>e=.returned (.bool (rngT (rowsL rs) lo hi))∧w=w':=by
 have HE:=hid hl;have HL:=hid hl.top.len;have HR:=hid hr;have HV:=hid (show rngT (rowsL rs) lo hi=rs.all fun r=>rngL r.l lo hi by unfold rngT rowsL;rw [List.all_map];rfl)
 unfold maxLen at hn
 clear hl hr
 go_enter Tryz.func158,Tryz.ntmps158
 go_wp2_with fail
 go_loop [11] (fun t=>∃ k:Nat,k<=n∧t=vI k∧((rs.take k).all fun r=>rngL r.l lo hi)=true) (fun t=>n - (intOf t).toNat)
 case atStart=>exact ⟨0,by omega,rfl,rfl⟩
 case round =>
  obtain ⟨k,hk,rfl,hall⟩:=hrel;have HAL:=hid hall;clear hall
  by_cases hlt:k<n
  ·obtain ⟨q,hq⟩:=get_ex HL.out hlt
   obtain ⟨b,off,rfl,hb,hc⟩:=HE.out.top.cells (by omega)
   have c0:w.cell? ⟨b,off+k,none⟩=some (.slice q.A q.n q.c):=by have:=hc k q hq 0 _ rfl;simpa using this
   have HQ:=hid hq;have HT:=hid (take_succ_get rs k q hq);have HC:=hid (xAll31 q.A q.n q.c q.l lo hi w (HE.out.row q (List.mem_of_getElem? hq)) (HR.out q (List.mem_of_getElem? hq)));clear hc hq
   go_wp2_with fail
   refine HC.out.mono ?_;rintro e w2 ⟨rfl,rfl⟩
   cases g1:rngL q.l lo hi
   ·have G:=hid (show (rs.all fun r=>rngL r.l lo hi)=false from all_no HQ.out g1)
    clear g1
    go_wp2_with fail
    go_ret
    exact ⟨ret_bool (by rw [HV.out,G.out]),rfl⟩
   have G1:=hid g1;clear g1
   go_wp2_with fail
   go_round
   case rel=>exact ⟨k+1,by omega,by go_num,all_step HT.out HAL.out G1.out⟩
   case measure=>simp only [intOf];omega
  ·have HA:=hid (show (rs.all fun r=>rngL r.l lo hi)=true from all_end (by rw [HL.out];omega) HAL.out)
   go_wp2_with fail
   go_ret
   exact ⟨ret_bool (by rw [HV.out,HA.out]),rfl⟩
theorem rAllR31 (A:Option Addr) (n c:Nat) (rs:List Row) (lo hi:Int) (w:World) (hl:Tab w A n rs) (hn:n<=maxLen) (hr:∀ r ∈ rs,r.n<=maxLen):Calls Tryz.prog 169 #[.slice A n c,vI lo,vI hi] w fun e w'=>e=.returned (.bool (rngT (rowsL rs) lo hi))∧w=w':=by
 have HE:=hid hl;have HL:=hid hl.top.len;have HR:=hid hr;have HV:=hid (show rngT (rowsL rs) lo hi=rs.all fun r=>rngL r.l lo hi by unfold rngT rowsL;rw [List.all_map];rfl)
 unfold maxLen at hn
 clear hl hr
 go_enter Tryz.func169,Tryz.ntmps169
 go_wp2_with fail
 go_loop [11] (fun t=>∃ k:Nat,k<=n∧t=vI k∧((rs.take k).all fun r=>rngL r.l lo hi)=true) (fun t=>n - (intOf t).toNat)
 case atStart=>exact ⟨0,by omega,rfl,rfl⟩
 case round =>
  obtain ⟨k,hk,rfl,hall⟩:=hrel;have HAL:=hid hall;clear hall
  by_cases hlt:k<n
  ·obtain ⟨q,hq⟩:=get_ex HL.out hlt
   obtain ⟨b,off,rfl,hb,hc⟩:=HE.out.top.cells (by omega)
   have c0:w.cell? ⟨b,off+k,none⟩=some (.slice q.A q.n q.c):=by have:=hc k q hq 0 _ rfl;simpa using this
   have HQ:=hid hq;have HT:=hid (take_succ_get rs k q hq);have HC:=hid (rAll31 q.A q.n q.c q.l lo hi w (HE.out.row q (List.mem_of_getElem? hq)) (HR.out q (List.mem_of_getElem? hq)));clear hc hq
   go_wp2_with fail
   refine HC.out.mono ?_;rintro e w2 ⟨rfl,rfl⟩
   cases g1:rngL q.l lo hi
   ·have G:=hid (show (rs.all fun r=>rngL r.l lo hi)=false from all_no HQ.out g1)
    clear g1
    go_wp2_with fail
    go_ret
    exact ⟨ret_bool (by rw [HV.out,G.out]),rfl⟩
   have G1:=hid g1;clear g1
   go_wp2_with fail
   go_round
   case rel=>exact ⟨k+1,by omega,by go_num,all_step HT.out HAL.out G1.out⟩
   case measure=>simp only [intOf];omega
  ·have HA:=hid (show (rs.all fun r=>rngL r.l lo hi)=true from all_end (by rw [HL.out];omega) HAL.out)
   go_wp2_with fail
   go_ret
   exact ⟨ret_bool (by rw [HV.out,HA.out]),rfl⟩
theorem xAsc31 (A:Option Addr) (n c:Nat) (l:List Int) (w:World) (hl:Ints w A n l) (hn:n<=maxLen):Calls Tryz.prog 156 #[.slice A n c] w fun e w'=>e=.returned (.bool (ascB l))∧∃ q,w'=w.drewN q:=by
 have HE:=hid hl;have HL:=hid hl.len
 unfold maxLen at hn
 clear hl
 go_enter Tryz.func156,Tryz.ntmps156
 go_wp2_with fail
 go_loopw [3] (fun t wr=>∃ k:Nat,k<=n∧t=vI (k+1)∧(∀ i,i<k→i+1<l.length→l.getD i 0<l.getD (i+1) 0)∧∃ q,wr=w.drewN q) (fun t _=>n+1 - (intOf t).toNat)
 case atStart=>exact ⟨0,by omega,rfl,fun i hi=>by omega,0,rfl⟩
 case round =>
  obtain ⟨k,hk,rfl,hall,nq,rfl⟩:=hrel;have HAL:=hid hall;clear hall
  by_cases hlt:k+1<n
  ·obtain ⟨q,hq⟩:=get_ex HL.out hlt
   obtain ⟨p,hp⟩:=get_ex HL.out (show k<n by omega);obtain ⟨b,off,rfl,hb,hc⟩:=HE.out.cells (by omega);have c0:∀ m,(w.drewN m).cell? ⟨b,off+k,none⟩=some (vI p):=fun m=>(World.cell?_drewN w m _).trans (hc k p hp);have c1:∀ m,(w.drewN m).cell? ⟨b,off+(k+1),none⟩=some (vI q):=fun m=>(World.cell?_drewN w m _).trans (hc (k+1) q hq);have HG:=hid (show l.getD k 0=p∧l.getD (k+1) 0=q from ⟨getD_of_get hp,getD_of_get hq⟩)
   have s1:IntKind.i64.wrap ((k:Int)+1 - 1)=(k:Int):=by rw [IntWalk.i64_in _ (by omega)];omega
   have s2:((k:Int)+1).toNat=k+1:=by omega
   have s3:0<=(k:Int)+1:=by omega
   clear hc hq hp
   by_cases hg:p<q
   ·go_wp2_with fail
    go_quiet (fail)
    clear s1 s2 s3
    go_wp2_with fail
    go_roundw
    case rel=>exact ⟨k+1,by omega,by go_num,fun i hi hl=>by
     by_cases e:i=k
     ·subst e;rw [HG.out.1,HG.out.2];exact hg
     ·exact HAL.out i (by omega) hl,_,rfl⟩
    case measure=>simp only [intOf];omega
   ·have G:=hid (show ascB l=false from decide_eq_false (fun ha=>hg (by have:=ha k (by have:=HL.out;omega);rw [HG.out.1,HG.out.2] at this;exact this)))
    exact zPeT0
  ·have HA:=hid (show ascB l=true from decide_eq_true (fun i hi=>HAL.out i (by have:=HL.out;omega) hi))
   exact zPeT1
theorem rAsc31 (A:Option Addr) (n c:Nat) (l:List Int) (w:World) (hl:Ints w A n l) (hn:n<=maxLen):Calls Tryz.prog 167 #[.slice A n c] w fun e w'=>e=.returned (.bool (ascB l))∧∃ q,w'=w.drewN q:=by
 have HE:=hid hl;have HL:=hid hl.len
 unfold maxLen at hn
 clear hl
 go_enter Tryz.func167,Tryz.ntmps167
 go_wp2_with fail
 go_loopw [3] (fun t wr=>∃ k:Nat,k<=n∧t=vI (k+1)∧(∀ i,i<k→i+1<l.length→l.getD i 0<l.getD (i+1) 0)∧∃ q,wr=w.drewN q) (fun t _=>n+1 - (intOf t).toNat)
 case atStart=>exact ⟨0,by omega,rfl,fun i hi=>by omega,0,rfl⟩
 case round =>
  obtain ⟨k,hk,rfl,hall,nq,rfl⟩:=hrel;have HAL:=hid hall;clear hall
  by_cases hlt:k+1<n
  ·obtain ⟨q,hq⟩:=get_ex HL.out hlt
   obtain ⟨p,hp⟩:=get_ex HL.out (show k<n by omega);obtain ⟨b,off,rfl,hb,hc⟩:=HE.out.cells (by omega);have c0:∀ m,(w.drewN m).cell? ⟨b,off+k,none⟩=some (vI p):=fun m=>(World.cell?_drewN w m _).trans (hc k p hp);have c1:∀ m,(w.drewN m).cell? ⟨b,off+(k+1),none⟩=some (vI q):=fun m=>(World.cell?_drewN w m _).trans (hc (k+1) q hq);have HG:=hid (show l.getD k 0=p∧l.getD (k+1) 0=q from ⟨getD_of_get hp,getD_of_get hq⟩)
   have s1:IntKind.i64.wrap ((k:Int)+1 - 1)=(k:Int):=by rw [IntWalk.i64_in _ (by omega)];omega
   have s2:((k:Int)+1).toNat=k+1:=by omega
   have s3:0<=(k:Int)+1:=by omega
   clear hc hq hp
   by_cases hg:p<q
   ·go_wp2_with fail
    go_quiet (fail)
    clear s1 s2 s3
    go_wp2_with fail
    go_roundw
    case rel=>exact ⟨k+1,by omega,by go_num,fun i hi hl=>by
     by_cases e:i=k
     ·subst e;rw [HG.out.1,HG.out.2];exact hg
     ·exact HAL.out i (by omega) hl,_,rfl⟩
    case measure=>simp only [intOf];omega
   ·have G:=hid (show ascB l=false from decide_eq_false (fun ha=>hg (by have:=ha k (by have:=HL.out;omega);rw [HG.out.1,HG.out.2] at this;exact this)))
    exact zPeT0
  ·have HA:=hid (show ascB l=true from decide_eq_true (fun i hi=>HAL.out i (by have:=HL.out;omega) hi))
   exact zPeT1
theorem rDn31 (A:Option Addr) (n c:Nat) (l:List Int) (w:World) (hl:Ints w A n l) (hn:n<=maxLen):Calls Tryz.prog 173 #[.slice A n c] w fun e w'=>e=.returned (.bool (dnB l))∧∃ q,w'=w.drewN q:=by
 have HE:=hid hl;have HL:=hid hl.len
 unfold maxLen at hn
 clear hl
 go_enter Tryz.func173,Tryz.ntmps173
 go_wp2_with fail
 go_loopw [3] (fun t wr=>∃ k:Nat,k<=n∧t=vI (k+1)∧(∀ i,i<k→i+1<l.length→l.getD (i+1) 0<=l.getD i 0)∧∃ q,wr=w.drewN q) (fun t _=>n+1 - (intOf t).toNat)
 case atStart=>exact ⟨0,by omega,rfl,fun i hi=>by omega,0,rfl⟩
 case round =>
  obtain ⟨k,hk,rfl,hall,nq,rfl⟩:=hrel;have HAL:=hid hall;clear hall
  by_cases hlt:k+1<n
  ·obtain ⟨q,hq⟩:=get_ex HL.out hlt
   obtain ⟨p,hp⟩:=get_ex HL.out (show k<n by omega);obtain ⟨b,off,rfl,hb,hc⟩:=HE.out.cells (by omega);have c0:∀ m,(w.drewN m).cell? ⟨b,off+k,none⟩=some (vI p):=fun m=>(World.cell?_drewN w m _).trans (hc k p hp);have c1:∀ m,(w.drewN m).cell? ⟨b,off+(k+1),none⟩=some (vI q):=fun m=>(World.cell?_drewN w m _).trans (hc (k+1) q hq);have HG:=hid (show l.getD k 0=p∧l.getD (k+1) 0=q from ⟨getD_of_get hp,getD_of_get hq⟩)
   have s1:IntKind.i64.wrap ((k:Int)+1 - 1)=(k:Int):=by rw [IntWalk.i64_in _ (by omega)];omega
   have s2:((k:Int)+1).toNat=k+1:=by omega
   have s3:0<=(k:Int)+1:=by omega
   clear hc hq hp
   by_cases hg:q<=p
   ·go_wp2_with fail
    go_quiet (fail)
    clear s1 s2 s3
    go_wp2_with fail
    go_roundw
    case rel=>exact ⟨k+1,by omega,by go_num,fun i hi hl=>by
     by_cases e:i=k
     ·subst e;rw [HG.out.1,HG.out.2];exact hg
     ·exact HAL.out i (by omega) hl,_,rfl⟩
    case measure=>simp only [intOf];omega
   ·have G:=hid (show dnB l=false from decide_eq_false (fun ha=>hg (by have:=ha k (by have:=HL.out;omega);rw [HG.out.1,HG.out.2] at this;exact this)))
    exact zPeT0
  ·have HA:=hid (show dnB l=true from decide_eq_true (fun i hi=>HAL.out i (by have:=HL.out;omega) hi))
   exact zPeT1
theorem rUp31 (A:Option Addr) (n c:Nat) (l:List Int) (w:World) (hl:Ints w A n l) (hn:n<=maxLen):Calls Tryz.prog 172 #[.slice A n c] w fun e w'=>e=.returned (.bool (upB l))∧∃ q,w'=w.drewN q:=by
 have HE:=hid hl;have HL:=hid hl.len
 unfold maxLen at hn
 clear hl
 go_enter Tryz.func172,Tryz.ntmps172
 go_wp2_with fail
 go_loopw [3] (fun t wr=>∃ k:Nat,k<=n∧t=vI (k+1)∧(∀ i,i<k→i+1<l.length→l.getD i 0<=l.getD (i+1) 0)∧∃ q,wr=w.drewN q) (fun t _=>n+1 - (intOf t).toNat)
 case atStart=>exact ⟨0,by omega,rfl,fun i hi=>by omega,0,rfl⟩
 case round =>
  obtain ⟨k,hk,rfl,hall,nq,rfl⟩:=hrel;have HAL:=hid hall;clear hall
  by_cases hlt:k+1<n
  ·obtain ⟨q,hq⟩:=get_ex HL.out hlt
   obtain ⟨p,hp⟩:=get_ex HL.out (show k<n by omega);obtain ⟨b,off,rfl,hb,hc⟩:=HE.out.cells (by omega);have c0:∀ m,(w.drewN m).cell? ⟨b,off+k,none⟩=some (vI p):=fun m=>(World.cell?_drewN w m _).trans (hc k p hp);have c1:∀ m,(w.drewN m).cell? ⟨b,off+(k+1),none⟩=some (vI q):=fun m=>(World.cell?_drewN w m _).trans (hc (k+1) q hq);have HG:=hid (show l.getD k 0=p∧l.getD (k+1) 0=q from ⟨getD_of_get hp,getD_of_get hq⟩)
   have s1:IntKind.i64.wrap ((k:Int)+1 - 1)=(k:Int):=by rw [IntWalk.i64_in _ (by omega)];omega
   have s2:((k:Int)+1).toNat=k+1:=by omega
   have s3:0<=(k:Int)+1:=by omega
   clear hc hq hp
   by_cases hg:p<=q
   ·go_wp2_with fail
    go_quiet (fail)
    clear s1 s2 s3
    go_wp2_with fail
    go_roundw
    case rel=>exact ⟨k+1,by omega,by go_num,fun i hi hl=>by
     by_cases e:i=k
     ·subst e;rw [HG.out.1,HG.out.2];exact hg
     ·exact HAL.out i (by omega) hl,_,rfl⟩
    case measure=>simp only [intOf];omega
   ·have G:=hid (show upB l=false from decide_eq_false (fun ha=>hg (by have:=ha k (by have:=HL.out;omega);rw [HG.out.1,HG.out.2] at this;exact this)))
    exact zPeT0
  ·have HA:=hid (show upB l=true from decide_eq_true (fun i hi=>HAL.out i (by have:=HL.out;omega) hi))
   exact zPeT1
theorem xUp31 (A:Option Addr) (n c:Nat) (l:List Int) (w:World) (hl:Ints w A n l) (hn:n<=maxLen) (hb:∀ x ∈ l,0<=x∧x<=3000000000):Calls Tryz.prog 161 #[.slice A n c,vI (1)] w fun e w'=>e=.returned (.bool (upB l))∧∃ q,w'=w.drewN q:=by
 have HE:=hid hl;have HL:=hid hl.len
 unfold maxLen at hn
 clear hl;have HBD:=hid hb;clear hb
 go_enter Tryz.func161,Tryz.ntmps161
 go_wp2_with fail
 go_loopw [5] (fun t wr=>∃ k:Nat,k<=n∧t=vI (k+1)∧(∀ i,i<k→i+1<l.length→l.getD i 0<=l.getD (i+1) 0)∧∃ q,wr=w.drewN q) (fun t _=>n+1 - (intOf t).toNat)
 case atStart=>exact ⟨0,by omega,rfl,fun i hi=>by omega,0,rfl⟩
 case round =>
  obtain ⟨k,hk,rfl,hall,nq,rfl⟩:=hrel;have HAL:=hid hall;clear hall
  by_cases hlt:k+1<n
  ·obtain ⟨q,hq⟩:=get_ex HL.out hlt
   obtain ⟨p,hp⟩:=get_ex HL.out (show k<n by omega);obtain ⟨b,off,rfl,hb,hc⟩:=HE.out.cells (by omega);have c0:∀ m,(w.drewN m).cell? ⟨b,off+k,none⟩=some (vI p):=fun m=>(World.cell?_drewN w m _).trans (hc k p hp);have c1:∀ m,(w.drewN m).cell? ⟨b,off+(k+1),none⟩=some (vI q):=fun m=>(World.cell?_drewN w m _).trans (hc (k+1) q hq);have HG:=hid (show l.getD k 0=p∧l.getD (k+1) 0=q from ⟨getD_of_get hp,getD_of_get hq⟩);obtain ⟨p1,p2⟩:=HBD.out p (List.mem_of_getElem? hp);obtain ⟨q1,q2⟩:=HBD.out q (List.mem_of_getElem? hq)
   have s1:IntKind.i64.wrap ((k:Int)+1 - 1)=(k:Int):=by rw [IntWalk.i64_in _ (by omega)];omega
   have s2:((k:Int)+1).toNat=k+1:=by omega
   have s3:0<=(k:Int)+1:=by omega
   clear hc hq hp
   by_cases hg:p<=q
   ·go_wp2_with fail
    go_quiet (fail)
    clear s1 s2 s3
    go_wp2_with fail
    go_roundw
    case rel=>exact ⟨k+1,by omega,by go_num,fun i hi hl=>by
     by_cases e:i=k
     ·subst e;rw [HG.out.1,HG.out.2];exact hg
     ·exact HAL.out i (by omega) hl,_,rfl⟩
    case measure=>simp only [intOf];omega
   ·have G:=hid (show upB l=false from decide_eq_false (fun ha=>hg (by have:=ha k (by have:=HL.out;omega);rw [HG.out.1,HG.out.2] at this;exact this)))
    exact zPeT0
  ·have HA:=hid (show upB l=true from decide_eq_true (fun i hi=>HAL.out i (by have:=HL.out;omega) hi))
   exact zPeT1
theorem xDn31 (A:Option Addr) (n c:Nat) (l:List Int) (w:World) (hl:Ints w A n l) (hn:n<=maxLen) (hb:∀ x ∈ l,0<=x∧x<=3000000000):Calls Tryz.prog 161 #[.slice A n c,vI (-1)] w fun e w'=>e=.returned (.bool (dnB l))∧∃ q,w'=w.drewN q:=by
 have HE:=hid hl;have HL:=hid hl.len
 unfold maxLen at hn
 clear hl;have HBD:=hid hb;clear hb
 go_enter Tryz.func161,Tryz.ntmps161
 go_wp2_with fail
 go_loopw [5] (fun t wr=>∃ k:Nat,k<=n∧t=vI (k+1)∧(∀ i,i<k→i+1<l.length→l.getD (i+1) 0<=l.getD i 0)∧∃ q,wr=w.drewN q) (fun t _=>n+1 - (intOf t).toNat)
 case atStart=>exact ⟨0,by omega,rfl,fun i hi=>by omega,0,rfl⟩
 case round =>
  obtain ⟨k,hk,rfl,hall,nq,rfl⟩:=hrel;have HAL:=hid hall;clear hall
  by_cases hlt:k+1<n
  ·obtain ⟨q,hq⟩:=get_ex HL.out hlt
   obtain ⟨p,hp⟩:=get_ex HL.out (show k<n by omega);obtain ⟨b,off,rfl,hb,hc⟩:=HE.out.cells (by omega);have c0:∀ m,(w.drewN m).cell? ⟨b,off+k,none⟩=some (vI p):=fun m=>(World.cell?_drewN w m _).trans (hc k p hp);have c1:∀ m,(w.drewN m).cell? ⟨b,off+(k+1),none⟩=some (vI q):=fun m=>(World.cell?_drewN w m _).trans (hc (k+1) q hq);have HG:=hid (show l.getD k 0=p∧l.getD (k+1) 0=q from ⟨getD_of_get hp,getD_of_get hq⟩);obtain ⟨p1,p2⟩:=HBD.out p (List.mem_of_getElem? hp);obtain ⟨q1,q2⟩:=HBD.out q (List.mem_of_getElem? hq)
   have s1:IntKind.i64.wrap ((k:Int)+1 - 1)=(k:Int):=by rw [IntWalk.i64_in _ (by omega)];omega
   have s2:((k:Int)+1).toNat=k+1:=by omega
   have s3:0<=(k:Int)+1:=by omega
   have m1:IntKind.i64.wrap (-1 * q) = -q:=by rw [IntWalk.i64_in _ (by omega)];omega
   have m2:IntKind.i64.wrap (-1 * p) = -p:=by rw [IntWalk.i64_in _ (by omega)];omega
   clear hc hq hp
   by_cases hg:q<=p
   ·go_wp2_with fail
    go_quiet (fail)
    clear s1 s2 s3
    go_wp2_with fail
    go_roundw
    case rel=>exact ⟨k+1,by omega,by go_num,fun i hi hl=>by
     by_cases e:i=k
     ·subst e;rw [HG.out.1,HG.out.2];exact hg
     ·exact HAL.out i (by omega) hl,_,rfl⟩
    case measure=>simp only [intOf];omega
   ·have G:=hid (show dnB l=false from decide_eq_false (fun ha=>hg (by have:=ha k (by have:=HL.out;omega);rw [HG.out.1,HG.out.2] at this;exact this)))
    exact zPeT0
  ·have HA:=hid (show dnB l=true from decide_eq_true (fun i hi=>HAL.out i (by have:=HL.out;omega) hi))
   exact zPeT1
theorem all_same {α:Type} {l:List α} {f g:α→Bool} (h:∀ x ∈ l,f x=g x):l.all f=l.all g:=by
 induction l with
 | nil=>rfl
 | cons a t ih=>rw [List.all_cons,List.all_cons,h a (by simp),ih (fun x hx=>h x (List.mem_cons_of_mem _ hx))]
theorem xShp31 (p:Prf) (A:Option Addr) (n c:Nat) (rs:List Row) (w:World) (hok:p.ok) (hl:Tab w A n rs) (hn:n<=maxLen) (hr:∀ r ∈ rs,r.n<=maxLen):Calls Tryz.prog 155 #[.agg p.cells.toArray,.slice A n c] w fun e w'=>e=.returned (.bool (shpT (rowsL rs) p.sal.n p.sms.n))∧Below w.heap.size w w':=by
 have HE:=hid hl;have HL:=hid hl.top.len;have HR:=hid hr
 have HV:=hid (show shpT (rowsL rs) p.sal.n p.sms.n=(decide (rs.length=p.sal.n) && rs.all fun r=>decide (r.n=p.sms.n)) by
  unfold shpT rowsL
  rw [List.all_map,List.length_map]
  congr 1
  refine all_same (fun r hr=>?_)
  show decide (r.l.length=_)=_
  rw [(hl.row r hr).len])
 generalize shpT (rowsL rs) p.sal.n p.sms.n=B at *
 unfold maxLen at hn
 clear hl hr;have h1:=hok.al;have h2:=hok.ms
 unfold maxLen at h1 h2
 have HPC:=hid (show p.cells[3]? = some (.slice p.sal.A p.sal.n p.sal.c)∧p.cells[4]? = some (.slice p.sms.A p.sms.n p.sms.c) from ⟨rfl,rfl⟩);clear hok
 go_enter Tryz.func155,Tryz.ntmps155
 go_wp2_with fail
 have BP:Hid (Has _ w.heap.size p.cells):=hid (Has.new w p.cells.toArray 26);have HB:=hid (below_alloc1 w (.cells p.cells.toArray 26));replace HE:=hid (HE.out.below (below_alloc1 w (.cells p.cells.toArray 26)));generalize w.alloc (.cells p.cells.toArray 26)=w1 at *;have k3:w1.cell? ⟨w.heap.size,3,none⟩=some (.slice p.sal.A p.sal.n p.sal.c):=BP.out.cell 3 _ HPC.out.1;have k4:w1.cell? ⟨w.heap.size,4,none⟩=some (.slice p.sms.A p.sms.n p.sms.c):=BP.out.cell 4 _ HPC.out.2;clear HPC BP;generalize p.cells=C at *;generalize p.sal.A=A1 at *;generalize p.sal.n=N at *;generalize p.sal.c=c1 at *;generalize p.sms.A=A2 at *;generalize p.sms.n=M at *;generalize p.sms.c=c2 at *
 go_loop [9] (fun t=>∃ k:Nat,k<=n∧t=vI k∧((rs.take k).all fun r=>decide (r.n=M))=true) (fun t=>n - (intOf t).toNat)
 case atStart=>exact ⟨0,by omega,rfl,rfl⟩
 case round =>
  obtain ⟨k,hk,rfl,hall⟩:=hrel;have HAL:=hid hall;clear hall
  by_cases hlt:k<n
  ·obtain ⟨q,hq⟩:=get_ex HL.out hlt
   obtain ⟨b,off,rfl,hb,hc⟩:=HE.out.top.cells (by omega)
   have c0:w1.cell? ⟨b,off+k,none⟩=some (.slice q.A q.n q.c):=by have:=hc k q hq 0 _ rfl;simpa using this
   have HQ:=hid hq;have HT:=hid (take_succ_get rs k q hq);have hqn:=HR.out q (List.mem_of_getElem? hq)
   unfold maxLen at hqn
   clear hc hq
   by_cases hm:q.n=M
   ·have G1:=hid (show decide (q.n=M)=true from decide_eq_true hm)
    have f0:((q.n:Int) == (M:Int))=true:=by rw [beq_iff_eq];omega
    have f1:((q.n:Int) != (M:Int))=false:=by rw [bne,f0];rfl
    clear hm
    go_wp2_with fail
    go_round
    case rel=>exact ⟨k+1,by omega,by go_num,all_step HT.out HAL.out G1.out⟩
    case measure=>simp only [intOf];omega
   ·have G:=hid (show (rs.all fun r=>decide (r.n=M))=false from all_no HQ.out (decide_eq_false hm))
    have f0:((q.n:Int) == (M:Int))=false:=beq_of (by omega);have f1:=bne_of f0;clear hm
    go_wp2_with fail
    go_ret
    exact ⟨ret_bool (by rw [HV.out,G.out,Bool.and_false]),HB.out⟩
  ·have HA:=hid (show (rs.all fun r=>decide (r.n=M))=true from all_end (by rw [HL.out];omega) HAL.out)
   by_cases hN0:rs.length=N
   ·have G:=hid (show decide (rs.length=N)=true from decide_eq_true hN0)
    have e0:((n:Int) == (N:Int))=true:=by rw [beq_iff_eq];rw [HL.out] at hN0;omega
    clear hN0
    go_wp2_with fail
    go_ret
    exact ⟨ret_bool (by rw [HV.out,G.out,HA.out];rfl),HB.out⟩
   ·have G:=hid (show decide (rs.length=N)=false from decide_eq_false hN0)
    have e0:((n:Int) == (N:Int))=false:=beq_of (by rw [HL.out] at hN0;omega);clear hN0
    go_wp2_with fail
    go_ret
    exact ⟨ret_bool (by rw [HV.out,G.out];rfl),HB.out⟩
theorem rShp31 (A:Option Addr) (n c:Nat) (rs:List Row) (N M:Nat) (w:World) (hl:Tab w A n rs) (hn:n<=maxLen) (hN:N<=maxLen) (hM:M<=maxLen) (hr:∀ r ∈ rs,r.n<=maxLen):Calls Tryz.prog 166 #[.slice A n c,vI N,vI M] w fun e w'=>e=.returned (.bool (shpT (rowsL rs) N M))∧w=w':=by
 have HE:=hid hl;have HL:=hid hl.top.len;have HR:=hid hr
 have HV:=hid (show shpT (rowsL rs) N M=(decide (rs.length=N) && rs.all fun r=>decide (r.n=M)) by
  unfold shpT rowsL
  rw [List.all_map,List.length_map]
  congr 1
  refine all_same (fun r hr=>?_)
  show decide (r.l.length=_)=_
  rw [(hl.row r hr).len])
 generalize shpT (rowsL rs) N M=B at *
 unfold maxLen at hn
 clear hl hr
 unfold maxLen at hN hM
 by_cases hN0:rs.length=N
 rotate_left
 ·have G:=hid (show decide (rs.length=N)=false from decide_eq_false hN0)
  have e0:((n:Int) == (N:Int))=false:=beq_of (by rw [HL.out] at hN0;omega);have e1:=bne_of e0;clear hN0
  go_enter Tryz.func166,Tryz.ntmps166
  go_wp2_with fail
  go_ret
  exact ⟨ret_bool (by rw [HV.out,G.out];rfl),rfl⟩
 have G0:=hid (show decide (rs.length=N)=true from decide_eq_true hN0)
 have e0:((n:Int) == (N:Int))=true:=by rw [beq_iff_eq];rw [HL.out] at hN0;omega
 have e1:((n:Int) != (N:Int))=false:=by rw [bne,e0];rfl
 clear hN0
 go_enter Tryz.func166,Tryz.ntmps166
 go_wp2_with fail
 go_loop [15] (fun t=>∃ k:Nat,k<=n∧t=vI k∧((rs.take k).all fun r=>decide (r.n=M))=true) (fun t=>n - (intOf t).toNat)
 case atStart=>exact ⟨0,by omega,rfl,rfl⟩
 case round =>
  obtain ⟨k,hk,rfl,hall⟩:=hrel;have HAL:=hid hall;clear hall
  by_cases hlt:k<n
  ·obtain ⟨q,hq⟩:=get_ex HL.out hlt
   obtain ⟨b,off,rfl,hb,hc⟩:=HE.out.top.cells (by omega)
   have c0:w.cell? ⟨b,off+k,none⟩=some (.slice q.A q.n q.c):=by have:=hc k q hq 0 _ rfl;simpa using this
   have HQ:=hid hq;have HT:=hid (take_succ_get rs k q hq);have hqn:=HR.out q (List.mem_of_getElem? hq)
   unfold maxLen at hqn
   clear hc hq
   by_cases hm:q.n=M
   ·have G1:=hid (show decide (q.n=M)=true from decide_eq_true hm)
    have f0:((q.n:Int) == (M:Int))=true:=by rw [beq_iff_eq];omega
    have f1:((q.n:Int) != (M:Int))=false:=by rw [bne,f0];rfl
    clear hm
    go_wp2_with fail
    go_round
    case rel=>exact ⟨k+1,by omega,by go_num,all_step HT.out HAL.out G1.out⟩
    case measure=>simp only [intOf];omega
   ·have G:=hid (show (rs.all fun r=>decide (r.n=M))=false from all_no HQ.out (decide_eq_false hm))
    have f0:((q.n:Int) == (M:Int))=false:=beq_of (by omega);have f1:=bne_of f0;clear hm
    go_wp2_with fail
    go_ret
    exact ⟨ret_bool (by rw [HV.out,G.out,Bool.and_false]),rfl⟩
  ·have HA:=hid (show (rs.all fun r=>decide (r.n=M))=true from all_end (by rw [HL.out];omega) HAL.out)
   go_wp2_with fail
   go_ret
   exact ⟨ret_bool (by rw [HV.out,G0.out,HA.out];rfl),rfl⟩
end Go.Proofs.YtheepmnhpclimaaGreat
