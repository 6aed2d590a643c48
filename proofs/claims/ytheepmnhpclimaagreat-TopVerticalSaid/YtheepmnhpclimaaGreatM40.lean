/- M40: PfR, Vt, Pas, Path, Steer in one text. -/
import Derived.Test.YtheepmnhpclimaaGreatM18
import Derived.Test.YtheepmnhpclimaaGreatM39
import Derived.OwnWalk
import Derived.Test.YtheepmnhpclimaaGreatFxOps
import Derived.Lib.Hide
import Derived.WalkKit
import Derived.Deep.QuietTactic
import Derived.BigQuiet
import Derived.Test.YtheepmnhpclimaaGreatM11
import Derived.BigRegion
import Derived.Laws.NewBlocks
import Derived.Laws.Rows
namespace Go.Proofs.YtheepmnhpclimaaGreat
set_option linter.unusedSimpArgs false
set_option linter.unusedVariables false
open Go.RowKit

def BwB (V E:Int) (w:World) (e:Ending) (w':World):Prop:=e=.returned (.tuple #[vI V,vI E])∧Below w.heap.size w w'
end Go.Proofs.YtheepmnhpclimaaGreat

namespace Go.Proofs.YtheepmnhpclimaaGreat
set_option maxRecDepth 100000
set_option maxHeartbeats 1000000
set_option linter.unusedSimpArgs false
set_option linter.unusedVariables false
open Go.RowKit
open Go.Lib (hid)

theorem xAlt_yes (x:Int) (h:Vt.okAlt x) (w:World):Calls Tryz.prog 144 #[.int .i64 x] w fun e w'=>e=.returned (.bool true)∧w=w':=by
 obtain ⟨h0,h1⟩:=h
 go_enter Tryz.func144,Tryz.ntmps144
 go_wp2_with fail
 go_ret
 exact ⟨rfl,rfl⟩
theorem xAlt_no (x:Int) (h:¬ Vt.okAlt x) (w:World):Calls Tryz.prog 144 #[.int .i64 x] w fun e w'=>e=.returned (.bool false)∧w=w':=by
 have h':x < -200000∨6000000<x:=by unfold Vt.okAlt at h;omega
 clear h
 rcases h' with h | h
 ·have h0:¬ -200000≤x:=by omega
  go_enter Tryz.func144,Tryz.ntmps144
  go_wp2_with fail
  go_ret
  exact ⟨rfl,rfl⟩
 ·have h0 : -200000≤x:=by omega
  have h1:¬ x≤6000000:=by omega
  go_enter Tryz.func144,Tryz.ntmps144
  go_wp2_with fail
  go_ret
  exact ⟨rfl,rfl⟩
theorem xRate_yes (x:Int) (h:Vt.okRate x) (w:World):Calls Tryz.prog 146 #[.int .i64 x] w fun e w'=>e=.returned (.bool true)∧w=w':=by
 obtain ⟨h0,h1⟩:=h
 go_enter Tryz.func146,Tryz.ntmps146
 go_wp2_with fail
 go_ret
 exact ⟨rfl,rfl⟩
theorem xRate_no (x:Int) (h:¬ Vt.okRate x) (w:World):Calls Tryz.prog 146 #[.int .i64 x] w fun e w'=>e=.returned (.bool false)∧w=w':=by
 have h':x < -10000∨10000<x:=by unfold Vt.okRate at h;omega
 clear h
 rcases h' with h | h
 ·have h0:¬ -10000≤x:=by omega
  go_enter Tryz.func146,Tryz.ntmps146
  go_wp2_with fail
  go_ret
  exact ⟨rfl,rfl⟩
 ·have h0 : -10000≤x:=by omega
  have h1:¬ x≤10000:=by omega
  go_enter Tryz.func146,Tryz.ntmps146
  go_wp2_with fail
  go_ret
  exact ⟨rfl,rfl⟩
theorem xCommand (a t m:Int) (w:World) :
  Calls Tryz.prog 71 #[.int .i64 a,.int .i64 t,.int .i64 m] w fun e w'=>e=.returned (.tuple #[.int .i64 (Vt.cmV a t m),.int .i64 (Vt.cmE a t m)])∧∃ q,w'=w.drewN q:=by
 by_cases ha:Vt.okAlt a
 ·by_cases ht:Vt.okAlt t
  ·have HA:=hid (fun w=>xAlt_yes a ha w)
   have HT:=hid (fun w=>xAlt_yes t ht w)
   by_cases hm:m<0
   ·have E:=hid (Vt.okCm_no (a:=a) (t:=t) (m:=m) (fun h=>by have:=h.2.2;omega))
    clear ha ht
    go_enter Tryz.func71,Tryz.ntmps71
    go_wp2_with fail
    refine (HA.out _).mono ?_;rintro e w' ⟨rfl,rfl⟩
    go_wp2_with fail
    refine (HT.out _).mono ?_;rintro e w' ⟨rfl,rfl⟩
    go_wp2_with fail
    go_ret2
    exact ⟨ret_tup2 E.out.1.symm E.out.2.symm,0,rfl⟩
   ·by_cases hm2:10000<m
    ·have E:=hid (Vt.okCm_no (a:=a) (t:=t) (m:=m) (fun h=>by have:=h.2.2;omega))
     clear ha ht
     go_enter Tryz.func71,Tryz.ntmps71
     go_wp2_with fail
     refine (HA.out _).mono ?_;rintro e w' ⟨rfl,rfl⟩
     go_wp2_with fail
     refine (HT.out _).mono ?_;rintro e w' ⟨rfl,rfl⟩
     go_wp2_with fail
     go_ret2
     exact ⟨ret_tup2 E.out.1.symm E.out.2.symm,0,rfl⟩
    ·have hok:Vt.okCm a t m:=⟨ha,ht,by omega,by omega⟩
     obtain ⟨a0,a1⟩:=ha;obtain ⟨t0,t1⟩:=ht
     by_cases hlt:t<a
     ·have E:=hid (Vt.okCm_dn hok hlt)
      clear hok;obtain ⟨D,hD⟩:∃ D,a - t=D:=⟨_,rfl⟩;have h16:=Vt.ceil16 (d:=D) (by omega) (by omega)
      rw [hD] at E
      have hmg:=hid (show Vt.mag D m=min ((D+15) / 16) m from rfl);have HDe:=hid hD
      have d0:0≤D:=by omega
      have d1:D≤6200000:=by omega
      have e1:t - a = -D:=by omega
      clear hD;have HC:=hid (fun w=>xCeil D 16 ⟨by omega,by omega⟩ ⟨by decide,by decide⟩ w)
      rw [h16.1,h16.2] at HC
      have hab:=hid (fun w=>xAbs (-D) ⟨by omega,by omega⟩ w)
      rw [show satV (((-D).natAbs:Nat):Int)=D by rw [satV_mid ⟨by omega,by omega⟩];omega] at hab
      go_enter Tryz.func71,Tryz.ntmps71
      go_wp2_with fail
      refine (HA.out _).mono ?_;rintro e w' ⟨rfl,rfl⟩
      go_wp2_with fail
      refine (HT.out _).mono ?_;rintro e w' ⟨rfl,rfl⟩
      go_wp2_with fail
      refine (hab.out _).mono ?_;rintro e w' ⟨rfl,rfl⟩
      go_wp2_with fail
      refine (HC.out _).mono ?_;rintro e w' ⟨rfl,q,rfl⟩
      go_wp2_with fail
      go_ret2
      exact ⟨ret_tup2 (by rw [E.out.1,hmg.out]) E.out.2.symm,q,rfl⟩
     ·have E:=hid (Vt.okCm_up hok hlt)
      clear hok;obtain ⟨D,hD⟩:∃ D,t - a=D:=⟨_,rfl⟩;have h16:=Vt.ceil16 (d:=D) (by omega) (by omega)
      rw [hD] at E
      have hmg:=hid (show Vt.mag D m=min ((D+15) / 16) m from rfl);have HDe:=hid hD
      have d0:0≤D:=by omega
      have d1:D≤6200000:=by omega
      have e1:t - a=D:=by omega
      clear hD;have HC:=hid (fun w=>xCeil D 16 ⟨by omega,by omega⟩ ⟨by decide,by decide⟩ w)
      rw [h16.1,h16.2] at HC
      have hab:=hid (fun w=>xAbs (D) ⟨by omega,by omega⟩ w)
      rw [show satV (((D).natAbs:Nat):Int)=D by rw [satV_mid ⟨by omega,by omega⟩];omega] at hab
      go_enter Tryz.func71,Tryz.ntmps71
      go_wp2_with fail
      refine (HA.out _).mono ?_;rintro e w' ⟨rfl,rfl⟩
      go_wp2_with fail
      refine (HT.out _).mono ?_;rintro e w' ⟨rfl,rfl⟩
      go_wp2_with fail
      refine (hab.out _).mono ?_;rintro e w' ⟨rfl,rfl⟩
      go_wp2_with fail
      refine (HC.out _).mono ?_;rintro e w' ⟨rfl,q,rfl⟩
      go_wp2_with fail
      go_ret2
      exact ⟨ret_tup2 (by rw [E.out.1,hmg.out]) E.out.2.symm,q,rfl⟩
  ·have HA:=hid (fun w=>xAlt_yes a ha w)
   have HT:=hid (fun w=>xAlt_no t ht w);have E:=hid (Vt.okCm_no (a:=a) (t:=t) (m:=m) (fun h=>ht h.2.1));clear ha ht
   go_enter Tryz.func71,Tryz.ntmps71
   go_wp2_with fail
   refine (HA.out _).mono ?_;rintro e w' ⟨rfl,rfl⟩
   go_wp2_with fail
   refine (HT.out _).mono ?_;rintro e w' ⟨rfl,rfl⟩
   go_wp2_with fail
   go_ret2
   exact ⟨ret_tup2 E.out.1.symm E.out.2.symm,0,rfl⟩
 ·have HA:=hid (fun w=>xAlt_no a ha w)
  have E:=hid (Vt.okCm_no (a:=a) (t:=t) (m:=m) (fun h=>ha h.1));clear ha
  go_enter Tryz.func71,Tryz.ntmps71
  go_wp2_with fail
  refine (HA.out _).mono ?_;rintro e w' ⟨rfl,rfl⟩
  go_wp2_with fail
  go_ret2
  exact ⟨ret_tup2 E.out.1.symm E.out.2.symm,0,rfl⟩

theorem xLimit (l x:Int) (w:World) :
  Calls Tryz.prog 72 #[.int .i64 l,.int .i64 x] w fun e w'=>e=.returned (.tuple #[.int .i64 (Vt.lmV l x),.int .i64 (Vt.lmE l x)])∧w=w':=by
 by_cases hl:Vt.okRate l
 ·have HL:=hid (fun w=>xRate_yes l hl w)
  by_cases hx:Vt.okRate x
  ·have HX:=hid (fun w=>xRate_yes x hx w)
   have E:=hid (show Vt.lmV l x=Vt.clmp x (l - 40) (l+40)∧Vt.lmE l x=0 by unfold Vt.lmV Vt.lmE;rw [if_pos ⟨hl,hx⟩,if_pos ⟨hl,hx⟩];exact ⟨rfl,rfl⟩);obtain ⟨l0,l1⟩:=hl;obtain ⟨x0,x1⟩:=hx
   go_enter Tryz.func72,Tryz.ntmps72
   go_wp2_with fail
   refine (HL.out _).mono ?_;rintro e w' ⟨rfl,rfl⟩
   go_wp2_with fail
   refine (HX.out _).mono ?_;rintro e w' ⟨rfl,rfl⟩
   go_wp2_with fail
   refine (xClamp x (l - 40) (l+40) _).mono ?_;rintro e w' ⟨rfl,rfl⟩
   go_wp2_with fail
   go_ret2
   exact ⟨ret_tup2 (by rw [E.out.1];rfl) E.out.2.symm,rfl⟩
  ·have HX:=hid (fun w=>xRate_no x hx w)
   have E:=hid (show Vt.lmV l x=0∧Vt.lmE l x=2 by unfold Vt.lmV Vt.lmE;rw [if_neg (fun h=>hx h.2),if_neg (fun h=>hx h.2)];exact ⟨rfl,rfl⟩);clear hl hx
   go_enter Tryz.func72,Tryz.ntmps72
   go_wp2_with fail
   refine (HL.out _).mono ?_;rintro e w' ⟨rfl,rfl⟩
   go_wp2_with fail
   refine (HX.out _).mono ?_;rintro e w' ⟨rfl,rfl⟩
   go_wp2_with fail
   go_ret2
   exact ⟨ret_tup2 E.out.1.symm E.out.2.symm,rfl⟩
 ·have HL:=hid (fun w=>xRate_no l hl w)
  have E:=hid (show Vt.lmV l x=0∧Vt.lmE l x=2 by unfold Vt.lmV Vt.lmE;rw [if_neg (fun h=>hl h.1),if_neg (fun h=>hl h.1)];exact ⟨rfl,rfl⟩);clear hl
  go_enter Tryz.func72,Tryz.ntmps72
  go_wp2_with fail
  refine (HL.out _).mono ?_;rintro e w' ⟨rfl,rfl⟩
  go_wp2_with fail
  go_ret2
  exact ⟨ret_tup2 E.out.1.symm E.out.2.symm,rfl⟩

end Go.Proofs.YtheepmnhpclimaaGreat

namespace Go.Proofs.YtheepmnhpclimaaGreat
set_option maxRecDepth 100000
set_option maxHeartbeats 1000000
set_option linter.unusedSimpArgs false
set_option linter.unusedVariables false
open Go.RowKit
open Go.Lib (hid)

def AltRel (w:World) (B:Nat) (f:Pass→Int) (ps:List Pass) (n:Nat) (v i:Value) (wr:World):Prop :=
 ∃ k:Nat,k≤n∧i=vI k∧wr.ownsRow B 2 1 v k ((ps.take k).map fun p=>vI (f p))∧Below B w wr∧B≤wr.heap.size
def AltPost (f:Pass→Int) (ps:List Pass) (n:Nat) (w:World) (e:Ending) (w':World):Prop:=∃ A c,e=.returned (.slice A n c)∧Ints w' A n (ps.map f)∧Below w.heap.size w w'

theorem xalts (A:Option Addr) (n c:Nat) (ps:List Pass) (x y z:Value) (w:World) (hp:Passes w A n ps) (hn:n * 8≤140737488355328) :
  Calls Tryz.prog 69 #[.agg #[.slice A n c,x,y,z]] w (AltPost Pass.alt ps n w):=by
 have HP:=hid hp;have HL:=hid hp.len;obtain ⟨i0,hi,hz0,hz1,hz2⟩:=info_parts infoI64;clear hp
 go_enter Tryz.func69,Tryz.ntmps69
 go_wp2_with fail
 go_loopw [3,9] (fun v i wr=>AltRel w w.heap.size Pass.alt ps n v i wr) (fun _ i _=>n - (intOf i).toNat)
 case atStart=>exact ⟨0,by omega,rfl,World.ownsRow_nil _ _ _ _,(Below.refl _ _).alloc (Nat.le_refl _) _,by simp⟩
 case round =>
  obtain ⟨k,hk,rfl,hown,hB,hsz⟩:=hrel;have HO:=hid hown;have HB:=hid hB;clear hown hB
  by_cases hlt:k<n
  ·obtain ⟨q,hq⟩:=get_ex HL.out hlt
   obtain ⟨b,off,rfl,hb,hc⟩:=HP.out.cells (by omega);have hcw:=fun j v hv=>(HB.out.cell (p:=⟨b,_,none⟩) hb).trans (hc k q hq j v hv);have c0:wr.cell? ⟨b,off+k * 13,none⟩=some (vI q.alt):=hcw 0 _ rfl;have c1:=hcw 1 _ rfl;have c2:=hcw 2 _ rfl;have c3:=hcw 3 _ rfl;have c4:=hcw 4 _ rfl;have c5:=hcw 5 _ rfl;have c6:=hcw 6 _ rfl;have c7:=hcw 7 _ rfl;have c8:=hcw 8 _ rfl;have c9:=hcw 9 _ rfl;have c10:=hcw 10 _ rfl;have c11:=hcw 11 _ rfl;have c12:=hcw 12 _ rfl;have HQ:=hid hq;clear hc hcw hq;have h1:=hid ((HO.out.alloc (.cells #[vI q.alt,vI q.cas,vI q.tas,vI q.ground,vI q.tick,vI q.fuel,vI q.gl,vI q.gh,vI q.tl,vI q.th,vI q.fl,vI q.fh,.int .u8 q.phase] 62)).alloc (.cells #[vI q.alt] 2));have hts:=hid (show ((ps.take (k+1)).map fun p=>Value.int .i64 p.alt)=((ps.take k).map fun p=>Value.int .i64 p.alt) ++ [vI q.alt] by rw [take_succ_get ps k q HQ.out,List.map_append];rfl)
   go_wp2_with (at_builtin;refine wpList_append_own _ rfl _ _ 23 rfl w.heap.size 2 i0 (vI 0) 1 8 Tryz.underlying23 hi hz0 hz1 hz2 rfl (by decide) _ _ _ rfl h1.out ⟨wr.heap.size+1,0,none⟩ 1 1 [vI q.alt] rfl rfl (news_new _ _ (by simp) _ _ _ rfl) (by intro u hu;simp at hu;subst hu;rfl) (by unfold maxLen;omega) (by omega) (by simp;omega) ?_;intro v1 w1 hown1 hgrow1 hnil1)
   go_roundw
   case rel=>exact ⟨k+1,by omega,by go_num,by rw [hts.out];exact hown1,(((HB.out.alloc hsz _).alloc (by simp;omega) _).grown hgrow1 (by simp;omega) (own_block_ge HO.out)),Nat.le_trans (by simp;omega) hgrow1.size⟩
   case measure=>simp only [intOf];omega
  ·obtain ⟨A',c',rfl⟩:=own_form HO.out
   have HKN:=hid (show k=n by omega);have HI:=hid (Ints.of_own (xs:=(ps.take k).map Pass.alt) (by rw [List.map_map];exact HO.out))
   rw [show ps.take k=ps by rw [List.take_of_length_le (by have:=HL.out;omega)]] at HI
   go_wp2_with fail
   go_ret
   exact ⟨A',c',by rw [HKN.out];rfl,by rw [← HKN.out];exact HI.out,HB.out⟩

theorem xSpeed (A D:Option Addr) (n c m cm:Nat) (ps:List Pass) (d:List Int) (s:Int) (x y z:Value) (w:World) (hp:Passes w A n ps) (hd:Ints w D m d) (hn:n * 8≤140737488355328) (hm:m≤maxLen) (hs:I64 s) :
  Calls Tryz.prog 22 #[.agg #[.slice A n c,x,y,z],.slice D m cm,vI s] w (BwB (Pf.bwV (ps.map Pass.cas) d s) (Pf.bwE (ps.map Pass.cas) d s) w):=by
 have HP:=hid hp;have HD:=hid hd;have HL:=hid hp.len;obtain ⟨i0,hi,hz0,hz1,hz2⟩:=info_parts infoI64;clear hp hd
 go_enter Tryz.func22,Tryz.ntmps22
 go_wp2_with fail
 go_loopw [8,14] (fun v i wr=>AltRel w w.heap.size Pass.cas ps n v i wr) (fun _ i _=>n - (intOf i).toNat)
 case atStart=>exact ⟨0,by omega,rfl,World.ownsRow_nil _ _ _ _,(Below.refl _ _).alloc (Nat.le_refl _) _,by simp⟩
 case round =>
  obtain ⟨k,hk,rfl,hown,hB,hsz⟩:=hrel;have HO:=hid hown;have HB:=hid hB;clear hown hB
  by_cases hlt:k<n
  ·obtain ⟨q,hq⟩:=get_ex HL.out hlt
   obtain ⟨b,off,rfl,hb,hc⟩:=HP.out.cells (by omega);have hcw:=fun j v hv=>(HB.out.cell (p:=⟨b,_,none⟩) hb).trans (hc k q hq j v hv);have c0:wr.cell? ⟨b,off+k * 13,none⟩=some (vI q.alt):=hcw 0 _ rfl;have c1:=hcw 1 _ rfl;have c2:=hcw 2 _ rfl;have c3:=hcw 3 _ rfl;have c4:=hcw 4 _ rfl;have c5:=hcw 5 _ rfl;have c6:=hcw 6 _ rfl;have c7:=hcw 7 _ rfl;have c8:=hcw 8 _ rfl;have c9:=hcw 9 _ rfl;have c10:=hcw 10 _ rfl;have c11:=hcw 11 _ rfl;have c12:=hcw 12 _ rfl;have HQ:=hid hq;clear hc hcw hq;have h1:=hid ((HO.out.alloc (.cells #[vI q.alt,vI q.cas,vI q.tas,vI q.ground,vI q.tick,vI q.fuel,vI q.gl,vI q.gh,vI q.tl,vI q.th,vI q.fl,vI q.fh,.int .u8 q.phase] 62)).alloc (.cells #[vI q.cas] 2));have hts:=hid (show ((ps.take (k+1)).map fun p=>Value.int .i64 p.cas)=((ps.take k).map fun p=>Value.int .i64 p.cas) ++ [vI q.cas] by rw [take_succ_get ps k q HQ.out,List.map_append];rfl)
   go_wp2_with (at_builtin;refine wpList_append_own _ rfl _ _ 23 rfl w.heap.size 2 i0 (vI 0) 1 8 Tryz.underlying23 hi hz0 hz1 hz2 rfl (by decide) _ _ _ rfl h1.out ⟨wr.heap.size+1,0,none⟩ 1 1 [vI q.cas] rfl rfl (news_new _ _ (by simp) _ _ _ rfl) (by intro u hu;simp at hu;subst hu;rfl) (by unfold maxLen;omega) (by omega) (by simp;omega) ?_;intro v1 w1 hown1 hgrow1 hnil1)
   go_roundw
   case rel=>exact ⟨k+1,by omega,by go_num,by rw [hts.out];exact hown1,(((HB.out.alloc hsz _).alloc (by simp;omega) _).grown hgrow1 (by simp;omega) (own_block_ge HO.out)),Nat.le_trans (by simp;omega) hgrow1.size⟩
   case measure=>simp only [intOf];omega
  ·obtain ⟨A',c',rfl⟩:=own_form HO.out
   have HKN:=hid (show k=n by omega);have HI:=hid (Ints.of_own (xs:=(ps.take k).map Pass.cas) (by rw [List.map_map];exact HO.out))
   rw [show ps.take k=ps by rw [List.take_of_length_le (by have:=HL.out;omega)]] at HI
   go_wp2_with fail
   refine (between_any A' D k c' m cm (ps.map Pass.cas) d s wr HI.out (HD.out.below HB.out) (by unfold maxLen;omega) hm hs).mono ?_;rintro e w2 ⟨rfl,q,rfl⟩
   go_wp2_with fail
   go_ret2
   exact ⟨rfl,below_drewN HB.out q⟩

theorem xTarget (A D:Option Addr) (n c m cm:Nat) (ps:List Pass) (d:List Int) (s:Int) (x y z:Value) (w:World) (hp:Passes w A n ps) (hd:Ints w D m d) (hn:n * 8≤140737488355328) (hm:m≤maxLen) (hs:I64 s) :
  Calls Tryz.prog 21 #[.agg #[.slice A n c,x,y,z],.slice D m cm,vI s] w (BwB (Pf.bwV (ps.map Pass.alt) d s) (Pf.bwE (ps.map Pass.alt) d s) w):=by
 have HP:=hid hp;have HD:=hid hd;clear hp hd
 go_enter Tryz.func21,Tryz.ntmps21
 go_wp2_with fail
 refine (xalts A n c ps x y z _ (HP.out.below ((Below.refl _ _).alloc (Nat.le_refl _) _)) hn).mono ?_;rintro e w1 ⟨A',c',rfl,HI,hB⟩
 have hB0:Below w.heap.size w w1:=((Below.refl _ w).alloc (Nat.le_refl _) _).trans (hB.mono (by simp));clear hB
 go_wp2_with fail
 refine (between_any A' D n c' m cm (ps.map Pass.alt) d s w1 HI (HD.out.below hB0) (by unfold maxLen;omega) hm hs).mono ?_;rintro e w2 ⟨rfl,q,rfl⟩
 go_wp2_with fail
 go_ret2
 exact ⟨rfl,below_drewN hB0 q⟩

end Go.Proofs.YtheepmnhpclimaaGreat

namespace Go.Proofs.YtheepmnhpclimaaGreat
set_option maxRecDepth 100000
set_option maxHeartbeats 2000000
set_option linter.unusedSimpArgs false
set_option linter.unusedVariables false
open Go.RowKit
open Go.Lib (hid)

def PtRel (v d:List Int) (s0 g:Int) (m:Nat) (s t:Value):Prop:=∃ (k:Nat) (S:Int),k≤m∧t=vI k∧s=vI S∧0≤S∧S≤(d.drop k).sum∧Vt.ptw (v.drop k) (d.drop k) S g=Vt.ptw v d s0 g
theorem quiet_addn {P:Program} {f:FuncId} {args:Array Value} {w:World} {a n:Nat} {v:Value}
  (h:Calls P f args (w.drewN (a+n)) fun e w'=>e=.returned v∧∃ m,w'=(w.drewN (a+n)).drewN m) :
  Calls P f args (w.drewN (a+n)) fun e w''=>e=.returned v∧∃ m,w''=w.drewN (a+m) :=
 h.mono fun _ _ ⟨he,m,hm⟩=>⟨he,n+m,by rw [hm,World.drewN_drewN,Nat.add_assoc]⟩

theorem xPath (A D:Option Addr) (n c m cm:Nat) (ps:List Pass) (d:List Int) (s g:Int) (x y z:Value) (w:World) (hp:Passes w A n ps) (hd:Ints w D m d) (hn:n * 8≤140737488355328) (hm:m≤maxLen) (hs:I64 s) (hg:I64 g) :
  Calls Tryz.prog 70 #[.agg #[.slice A n c,x,y,z],.slice D m cm,vI s,vI g] w (BwB (Vt.ptV (ps.map Pass.alt) d s g) (Vt.ptE (ps.map Pass.alt) d s g) w):=by
 have HP:=hid hp;have HD:=hid hd;have HS:=hid hs;obtain ⟨s0,s1⟩:=hs;obtain ⟨g0,g1⟩:=hg;have hs:I64 s:=HS.out
 have hl:(ps.map Pass.alt).length=n:=by rw [List.length_map];exact hp.len
 have hld:=hd.len;have HL:=hid hl;have HLD:=hid hld;clear hl hld hp hd
 by_cases hb:Pf.bwE (ps.map Pass.alt) d s=0
 ·by_cases hg:g<1∨5000<g
  ·obtain ⟨e1,e2⟩:=Vt.ptE_g hb hg
   rw [e1,e2]
   have HB:=hid hb;clear e1 e2 hb
   rcases hg with hg | hg
   ·skip
    go_enter Tryz.func70,Tryz.ntmps70
    go_wp2_with fail
    refine (xalts A n c ps x y z _ (HP.out.below ((Below.refl _ _).alloc (Nat.le_refl _) _)) hn).mono ?_;rintro e w1 ⟨A',c',rfl,hI,hB⟩
    have hB0:Hid (Below w.heap.size w w1):=hid (((Below.refl _ w).alloc (Nat.le_refl _) _).trans (hB.mono (by simp)));have HI:=hid hI;clear hB hI
    go_wp2_with fail
    refine (between_any A' D n c' m cm (ps.map Pass.alt) d s w1 HI.out (HD.out.below hB0.out) (by unfold maxLen;omega) hm hs).mono ?_;rintro e w2 ⟨rfl,q,rfl⟩
    rw [HB.out]
    go_wp2_with fail
    go_ret2
    exact ⟨rfl,below_drewN hB0.out q⟩
   ·skip
    have hg2:¬ g<1:=by omega
    go_enter Tryz.func70,Tryz.ntmps70
    go_wp2_with fail
    refine (xalts A n c ps x y z _ (HP.out.below ((Below.refl _ _).alloc (Nat.le_refl _) _)) hn).mono ?_;rintro e w1 ⟨A',c',rfl,hI,hB⟩
    have hB0:Hid (Below w.heap.size w w1):=hid (((Below.refl _ w).alloc (Nat.le_refl _) _).trans (hB.mono (by simp)));have HI:=hid hI;clear hB hI
    go_wp2_with fail
    refine (between_any A' D n c' m cm (ps.map Pass.alt) d s w1 HI.out (HD.out.below hB0.out) (by unfold maxLen;omega) hm hs).mono ?_;rintro e w2 ⟨rfl,q,rfl⟩
    rw [HB.out]
    go_wp2_with fail
    go_ret2
    exact ⟨rfl,below_drewN hB0.out q⟩
  ·obtain ⟨e1,e2⟩:=Vt.ptE_ok hb hg
   rw [e1,e2]
   have he:Pf.chE (ps.map Pass.alt) d=0:=by
    rcases Pf.chE_cases (ps.map Pass.alt) d with h | h | h | h
    ·exact h
    all_goals (exfalso;have:=(Pf.bwE_ch (s:=s) (show Pf.chE (ps.map Pass.alt) d≠0 by omega)).1;omega)
   have hok:=Pf.chOk_of he
   have hin:0≤s∧s≤d.sum:=by
    rcases Int.lt_or_le s 0 with h | h
    ·have:=(Pf.bwE_out (s:=s) he (.inl h)).1;omega
    ·rcases Int.lt_or_le d.sum s with h2 | h2
     ·have:=(Pf.bwE_out (s:=s) he (.inr h2)).1;omega
     ·exact ⟨h,h2⟩
   obtain ⟨in0,in1⟩:=hin;have l1:=hok.len;have l2:=hok.two
   have hn64:n≤64:=by have:=HL.out;omega
   have hm64:m≤64:=by have:=HLD.out;omega
   have hnm:=hid (show n=m+1 by have:=HL.out;have:=HLD.out;omega)
   have gg0:¬ g<1:=by omega
   have gg1:¬ 5000<g:=by omega
   have HOK:=hid hok;have HB:=hid hb;have IN1:=hid in1;have hsum:=(Pf.sum_nn hok.ds).2
   have hsb:s≤8000000 * 64:=by have:=HLD.out;omega
   clear e1 e2 hb hg he hok l1 l2 hsum in1
   go_enter Tryz.func70,Tryz.ntmps70
   go_wp2_with fail
   refine (xalts A n c ps x y z _ (HP.out.below ((Below.refl _ _).alloc (Nat.le_refl _) _)) hn).mono ?_;rintro e w1 ⟨A',c',rfl,hI,hB⟩
   have hB0:Hid (Below w.heap.size w w1):=hid (((Below.refl _ w).alloc (Nat.le_refl _) _).trans (hB.mono (by simp)));have HI:=hid hI;clear hB hI
   go_wp2_with fail
   refine (between_any A' D n c' m cm (ps.map Pass.alt) d s w1 HI.out (HD.out.below hB0.out) (by unfold maxLen;omega) hm hs).mono ?_;rintro e w2 ⟨rfl,q,rfl⟩
   rw [HB.out]
   obtain ⟨V,hV⟩:∃ V,V=ps.map Pass.alt:=⟨_,rfl⟩
   rw [← hV] at HI HL HOK HB
   have HVV:=hid hV;clear hV
   go_wp2_with fail
   go_loop [2,13] (fun s' t=>PtRel V d s g m s' t) (fun _ t=>m - (intOf t).toNat)
   case atStart=>exact ⟨0,s,by omega,rfl,rfl,in0,by simpa using IN1.out,by simp⟩
   case round =>
    obtain ⟨k,S,hk,rfl,rfl,hS0,hS1,heq⟩:=hrel;have HEQ:=hid heq;have HS1:=hid hS1
    have hSb:S≤8000000 * 64:=by
     have h3:=(Pf.sum_nn (d:=d.drop k) (fun x hx=>HOK.out.ds x (List.mem_of_mem_drop hx))).2;have h4:=HLD.out
     rw [List.length_drop] at h3
     omega
    clear heq hS1
    by_cases hlt:k<m
    ·obtain ⟨X,hx⟩:=get_ex HLD.out hlt
     obtain ⟨a,ha⟩:=get_ex (k:=k) HL.out (by have:=hnm.out;omega);obtain ⟨b,hb⟩:=get_ex (k:=k+1) HL.out (by have:=hnm.out;omega);have HA:=hid ha;have HBB:=hid hb;have hxo:=HOK.out.ds X (List.mem_of_getElem? hx);have HX:=hid hx;obtain ⟨x0,x1⟩:=hxo;obtain ⟨bd,od,hDD,hbd,hcd⟩:=(HD.out.below hB0.out).cells (by omega);obtain ⟨bv,ov,hAA,hbv,hcv⟩:=HI.out.cells (by have:=hnm.out;omega);have hcell:=hcd k X hx;have cv0:=hcv k a ha;have cv1:=hcv (k+1) b hb;have HDE:=hid hDD;have HAE:=hid hAA;clear hx hcd hDD ha hb hcv hAA
     by_cases hle:X≤S
     ·have hnext:=hid (Vt.ptw_step (g:=g) HA.out HBB.out HX.out hle)
      have hds:=hid (drop_sum HX.out);obtain rfl:=HDE.out
      go_wp2_with fail
      go_round
      case rel=>exact ⟨k+1,S - X,by omega,by go_num,rfl,by omega,by have:=HS1.out;have:=hds.out;omega,by rw [← hnext.out];exact HEQ.out⟩
      case measure=>simp only [intOf];omega
     ·have hstop:=hid (Vt.ptw_stop (g:=g) HA.out HBB.out HX.out (show S<X by omega))
      have hab:=HOK.out.vs _ (List.mem_of_getElem? HA.out);have hbb:=HOK.out.vs _ (List.mem_of_getElem? HBB.out);have hsc:=Vt.rate_sc (g:=g) (x:=X) hab hbb (by omega) (by omega) (by omega);obtain ⟨r0,r1,r2,r3,r4,r5⟩:=hsc;obtain ⟨a1,a2⟩:=hab;obtain ⟨b1,b2⟩:=hbb;have H:=hid (fun w=>xMulDiv (b - a) g X ⟨by omega,by omega⟩ ⟨by omega,by omega⟩ ⟨by omega,by omega⟩ w)
      rw [r4] at H
      have hke:((k:Int) == (m:Int))=false:=beq_eq_false_iff_ne.2 (by omega);have w1h:IntKind.i64.wrap ((k:Int)+1)=(k:Int)+1:=IntWalk.i64_in _ (by omega)
      have w2h:((k:Int)+1).toNat=k+1:=by omega
      have w3h:0≤(k:Int)+1:=by omega
      have w4h:(k:Int)+1<n:=by have:=hnm.out;omega
      have w5h:(k:Int)<n:=by omega
      have w6h:(k:Int)<m:=by omega
      have w7h:IntKind.i64.wrap (b - a)=b - a:=IntWalk.i64_in _ (by omega);clear r4 r5 r0 r1;generalize Fx.scE 0 (b - a) g X=EE at *;generalize (b - a) * g / X=Z at *;obtain rfl:=HDE.out;obtain rfl:=HAE.out
      go_wp2_with fail
      go_quiet ((go_at_call 143;first | exact Calls.quiet_of (H.out _) | exact quiet_addn (H.out _)))
      go_wp2_with fail
      refine (xClamp Z (-10000) 10000 _).mono ?_;rintro e w4 ⟨rfl,rfl⟩
      go_wp2_with fail
      go_ret2
      exact ⟨ret_tup2 (by rw [← HVV.out,← HEQ.out,hstop.out];rfl) rfl,below_drewN hB0.out _⟩
    ·have hend:=hid (Vt.ptw_end (v:=V) (d:=d) (k:=k) (s:=S) (g:=g) (by have:=HLD.out;omega))
     have hkm:((k:Int) == (m:Int))=true:=beq_iff_eq.2 (by omega)
     go_wp2_with fail
     go_ret2
     exact ⟨ret_tup2 (by rw [← HVV.out,← HEQ.out,hend.out]) rfl,below_drewN hB0.out _⟩
 ·obtain ⟨e1,e2⟩:=Vt.ptE_bw (g:=g) hb
  rw [e1,e2]
  have hv0:Pf.bwV (ps.map Pass.alt) d s=0:=by unfold Pf.bwV;rw [if_neg hb]
  have hne:(Pf.bwE (ps.map Pass.alt) d s != 0)=true:=by rw [bne_iff_ne];exact hb
  clear e1 e2 hb;have HV0:=hid hv0;clear hv0
  go_enter Tryz.func70,Tryz.ntmps70
  go_wp2_with fail
  refine (xalts A n c ps x y z _ (HP.out.below ((Below.refl _ _).alloc (Nat.le_refl _) _)) hn).mono ?_;rintro e w1 ⟨A',c',rfl,hI,hB⟩
  have hB0:Hid (Below w.heap.size w w1):=hid (((Below.refl _ w).alloc (Nat.le_refl _) _).trans (hB.mono (by simp)));have HI:=hid hI;clear hB hI
  go_wp2_with fail
  refine (between_any A' D n c' m cm (ps.map Pass.alt) d s w1 HI.out (HD.out.below hB0.out) (by unfold maxLen;omega) hm hs).mono ?_;rintro e w2 ⟨rfl,q,rfl⟩
  rw [HV0.out]
  generalize Pf.bwE (ps.map Pass.alt) d s=EE at *
  go_wp2_with fail
  go_ret2
  exact ⟨rfl,below_drewN hB0.out q⟩

end Go.Proofs.YtheepmnhpclimaaGreat

namespace Go.Proofs.YtheepmnhpclimaaGreat
set_option maxRecDepth 100000
set_option maxHeartbeats 2000000
set_option linter.unusedSimpArgs false
set_option linter.unusedVariables false
open Go.RowKit
open Go.Lib (hid)

def StPost (T V S E:Int) (w:World) (e:Ending) (w':World):Prop:=e=.returned (.tuple #[vI T,vI V,vI S,vI E])∧Below w.heap.size w w'

theorem xSteer (A D:Option Addr) (n c m cm:Nat) (ps:List Pass) (d:List Int) (s g alt last:Int) (x y z:Value) (w:World) (hp:Passes w A n ps) (hd:Ints w D m d) (hn:n * 8≤140737488355328) (hm:m≤maxLen) (hs:I64 s) (hg:I64 g) (ha:I64 alt) (hl:I64 last) :
  Calls Tryz.prog 23 #[.agg #[.slice A n c,x,y,z],.slice D m cm,vI s,vI g,vI alt,vI last] w (StPost (Vt.stT (ps.map Pass.alt) (ps.map Pass.cas) d s g alt last) (Vt.stW (ps.map Pass.alt) (ps.map Pass.cas) d s g alt last) (Vt.stS (ps.map Pass.alt) (ps.map Pass.cas) d s g alt last) (Vt.stE (ps.map Pass.alt) (ps.map Pass.cas) d s g alt last) w):=by
 have HP:=hid hp;have HD:=hid hd;have HS:=hid hs;have HG:=hid hg;have HA:=hid ha;have HL:=hid hl;have hpv:=Vt.ptV_bd (ps.map Pass.alt) d s g;have hcv:=Vt.cmV_bd alt (Pf.bwV (ps.map Pass.alt) d s) 10000 (by omega) (by omega);obtain ⟨pv0,pv1⟩:=hpv;obtain ⟨cv0,cv1⟩:=hcv;obtain ⟨sa0,sa1⟩:=hs;obtain ⟨ga0,ga1⟩:=hg;obtain ⟨aa0,aa1⟩:=ha;obtain ⟨la0,la1⟩:=hl;clear hp hd
 by_cases hpe:Vt.ptE (ps.map Pass.alt) d s g=0
 ·have hbw:=Vt.ptE_0 hpe
  have HPE:=hid hpe;have HBW:=hid hbw;clear hpe hbw
  by_cases hok:Vt.stOk (ps.map Pass.alt) d s alt last
  ·have hse:Vt.stE (ps.map Pass.alt) (ps.map Pass.cas) d s g alt last=Pf.bwE (ps.map Pass.cas) d s:=by unfold Vt.stE;rw [if_neg (by have:=HPE.out;omega),if_pos hok]
   have HSE:=hid hse;have HOK:=hid hok;have hlo:=hok.2.2;obtain ⟨lo0,lo1⟩:=hlo;clear hse hok
   by_cases hsp:Pf.bwE (ps.map Pass.cas) d s=0
   ·have hz:Vt.stE (ps.map Pass.alt) (ps.map Pass.cas) d s g alt last=0:=by rw [HSE.out];exact hsp
    obtain ⟨e1,e2,e3⟩:=Vt.st_good hz
    rw [e1,e2,e3,hz]
    have HSP:=hid hsp;clear hsp hz e1 e2 e3
    go_enter Tryz.func23,Tryz.ntmps23
    go_wp2_with fail
    refine (xPath A D n c m cm ps d s g x y z _ (HP.out.below ((Below.refl _ _).alloc (Nat.le_refl _) _)) (HD.out.below ((Below.refl _ _).alloc (Nat.le_refl _) _)) hn hm HS.out HG.out).mono ?_;rintro e w1 ⟨rfl,hbx⟩
    have b0:w1.cell? ⟨w.heap.size,0,none⟩=some (.slice A n c):=(hbx.cell (p:=⟨w.heap.size,0,none⟩) (by simp)).trans (by simp [World.cell?_alloc_new]);have b1:w1.cell? ⟨w.heap.size,1,none⟩=some (x):=(hbx.cell (p:=⟨w.heap.size,1,none⟩) (by simp)).trans (by simp [World.cell?_alloc_new]);have b2:w1.cell? ⟨w.heap.size,2,none⟩=some (y):=(hbx.cell (p:=⟨w.heap.size,2,none⟩) (by simp)).trans (by simp [World.cell?_alloc_new]);have b3:w1.cell? ⟨w.heap.size,3,none⟩=some (z):=(hbx.cell (p:=⟨w.heap.size,3,none⟩) (by simp)).trans (by simp [World.cell?_alloc_new])
    have hlt:w.heap.size<w1.heap.size:=by have:=hbx.size;simp at this;omega
    have HW:=hid (bel_alloc hbx);clear hbx
    rw [HPE.out]
    go_wp2_with fail
    refine (xTarget A D n c m cm ps d s x y z w1 (HP.out.below HW.out) (HD.out.below HW.out) hn hm HS.out).mono ?_;rintro e w2 ⟨rfl,hbx⟩
    replace b0:w2.cell? ⟨w.heap.size,0,none⟩=some (.slice A n c):=(hbx.cell (p:=⟨w.heap.size,0,none⟩) hlt).trans b0;replace b1:w2.cell? ⟨w.heap.size,1,none⟩=some (x):=(hbx.cell (p:=⟨w.heap.size,1,none⟩) hlt).trans b1;replace b2:w2.cell? ⟨w.heap.size,2,none⟩=some (y):=(hbx.cell (p:=⟨w.heap.size,2,none⟩) hlt).trans b2;replace b3:w2.cell? ⟨w.heap.size,3,none⟩=some (z):=(hbx.cell (p:=⟨w.heap.size,3,none⟩) hlt).trans b3;replace hlt:w.heap.size<w2.heap.size:=Nat.lt_of_lt_of_le hlt hbx.size;replace HW:=hid (bel_trans HW.out hbx);clear hbx
    rw [HBW.out]
    go_wp2_with fail
    refine (xCommand alt (Pf.bwV (ps.map Pass.alt) d s) 10000 _).mono ?_;rintro e w3 ⟨rfl,q,rfl⟩
    replace b0:(w2.drewN q).cell? ⟨w.heap.size,0,none⟩=some (.slice A n c):=b0;replace b1:(w2.drewN q).cell? ⟨w.heap.size,1,none⟩=some (x):=b1;replace b2:(w2.drewN q).cell? ⟨w.heap.size,2,none⟩=some (y):=b2;replace b3:(w2.drewN q).cell? ⟨w.heap.size,3,none⟩=some (z):=b3;replace hlt:w.heap.size<(w2.drewN q).heap.size:=hlt;replace HW:=hid (below_drewN HW.out q);generalize w2.drewN q=w3 at *
    rw [Vt.cmE_ok HOK.out.1 HOK.out.2.1]
    have HE:=hid HOK.out;generalize Pf.bwV (ps.map Pass.alt) d s=TT at *;generalize Vt.cmV alt TT 10000=CV at *;generalize Vt.ptV (ps.map Pass.alt) d s g=PV at *
    go_wp2_with fail
    refine (xClamp (PV+CV) (-10000) 10000 _).mono ?_;rintro e w4 ⟨rfl,rfl⟩
    go_wp2_with fail
    refine (xLimit last (clampV (PV+CV) (-10000) 10000) _).mono ?_;rintro e w5 ⟨rfl,rfl⟩
    have hcb:=Vt.clmp_bd (PV+CV) (-10000) 10000 (by omega);have hlm:=Vt.lm_ok (l:=last) (x:=clampV (PV+CV) (-10000) 10000) ⟨lo0,lo1⟩ hcb
    rw [hlm.1,hlm.2]
    have hcl:clampV (PV+CV) (-10000) 10000=Vt.clmp (PV+CV) (-10000) 10000:=rfl
    rw [hcl]
    clear hcb hlm hcl;generalize Vt.clmp (Vt.clmp (PV+CV) (-10000) 10000) (last - 40) (last+40)=VS at *
    go_wp2_with fail
    refine (xSpeed A D n c m cm ps d s x y z w3 (HP.out.below HW.out) (HD.out.below HW.out) hn hm HS.out).mono ?_;rintro e w6 ⟨rfl,hbx⟩
    replace b0:w6.cell? ⟨w.heap.size,0,none⟩=some (.slice A n c):=(hbx.cell (p:=⟨w.heap.size,0,none⟩) hlt).trans b0;replace b1:w6.cell? ⟨w.heap.size,1,none⟩=some (x):=(hbx.cell (p:=⟨w.heap.size,1,none⟩) hlt).trans b1;replace b2:w6.cell? ⟨w.heap.size,2,none⟩=some (y):=(hbx.cell (p:=⟨w.heap.size,2,none⟩) hlt).trans b2;replace b3:w6.cell? ⟨w.heap.size,3,none⟩=some (z):=(hbx.cell (p:=⟨w.heap.size,3,none⟩) hlt).trans b3;replace hlt:w.heap.size<w6.heap.size:=Nat.lt_of_lt_of_le hlt hbx.size;replace HW:=hid (bel_trans HW.out hbx);clear hbx
    rw [HSP.out]
    go_wp2_with fail
    refine bodyPost_ret (results_tmp4 rfl _ _ _) rfl ?_
    exact ⟨rfl,HW.out⟩
   ·obtain ⟨e1,e2,e3⟩:=Vt.st_bad HSE.out hsp
    rw [e1,e2,e3,HSE.out]
    have hne:(Pf.bwE (ps.map Pass.cas) d s != 0)=true:=by rw [bne_iff_ne];exact hsp
    have HSPV:=hid (show Pf.bwV (ps.map Pass.cas) d s=0 by unfold Pf.bwV;rw [if_neg hsp]);clear hsp e1 e2 e3
    go_enter Tryz.func23,Tryz.ntmps23
    go_wp2_with fail
    refine (xPath A D n c m cm ps d s g x y z _ (HP.out.below ((Below.refl _ _).alloc (Nat.le_refl _) _)) (HD.out.below ((Below.refl _ _).alloc (Nat.le_refl _) _)) hn hm HS.out HG.out).mono ?_;rintro e w1 ⟨rfl,hbx⟩
    have b0:w1.cell? ⟨w.heap.size,0,none⟩=some (.slice A n c):=(hbx.cell (p:=⟨w.heap.size,0,none⟩) (by simp)).trans (by simp [World.cell?_alloc_new]);have b1:w1.cell? ⟨w.heap.size,1,none⟩=some (x):=(hbx.cell (p:=⟨w.heap.size,1,none⟩) (by simp)).trans (by simp [World.cell?_alloc_new]);have b2:w1.cell? ⟨w.heap.size,2,none⟩=some (y):=(hbx.cell (p:=⟨w.heap.size,2,none⟩) (by simp)).trans (by simp [World.cell?_alloc_new]);have b3:w1.cell? ⟨w.heap.size,3,none⟩=some (z):=(hbx.cell (p:=⟨w.heap.size,3,none⟩) (by simp)).trans (by simp [World.cell?_alloc_new])
    have hlt:w.heap.size<w1.heap.size:=by have:=hbx.size;simp at this;omega
    have HW:=hid (bel_alloc hbx);clear hbx
    rw [HPE.out]
    go_wp2_with fail
    refine (xTarget A D n c m cm ps d s x y z w1 (HP.out.below HW.out) (HD.out.below HW.out) hn hm HS.out).mono ?_;rintro e w2 ⟨rfl,hbx⟩
    replace b0:w2.cell? ⟨w.heap.size,0,none⟩=some (.slice A n c):=(hbx.cell (p:=⟨w.heap.size,0,none⟩) hlt).trans b0;replace b1:w2.cell? ⟨w.heap.size,1,none⟩=some (x):=(hbx.cell (p:=⟨w.heap.size,1,none⟩) hlt).trans b1;replace b2:w2.cell? ⟨w.heap.size,2,none⟩=some (y):=(hbx.cell (p:=⟨w.heap.size,2,none⟩) hlt).trans b2;replace b3:w2.cell? ⟨w.heap.size,3,none⟩=some (z):=(hbx.cell (p:=⟨w.heap.size,3,none⟩) hlt).trans b3;replace hlt:w.heap.size<w2.heap.size:=Nat.lt_of_lt_of_le hlt hbx.size;replace HW:=hid (bel_trans HW.out hbx);clear hbx
    rw [HBW.out]
    go_wp2_with fail
    refine (xCommand alt (Pf.bwV (ps.map Pass.alt) d s) 10000 _).mono ?_;rintro e w3 ⟨rfl,q,rfl⟩
    replace b0:(w2.drewN q).cell? ⟨w.heap.size,0,none⟩=some (.slice A n c):=b0;replace b1:(w2.drewN q).cell? ⟨w.heap.size,1,none⟩=some (x):=b1;replace b2:(w2.drewN q).cell? ⟨w.heap.size,2,none⟩=some (y):=b2;replace b3:(w2.drewN q).cell? ⟨w.heap.size,3,none⟩=some (z):=b3;replace hlt:w.heap.size<(w2.drewN q).heap.size:=hlt;replace HW:=hid (below_drewN HW.out q);generalize w2.drewN q=w3 at *
    rw [Vt.cmE_ok HOK.out.1 HOK.out.2.1]
    have HE:=hid HOK.out;generalize Pf.bwV (ps.map Pass.alt) d s=TT at *;generalize Vt.cmV alt TT 10000=CV at *;generalize Vt.ptV (ps.map Pass.alt) d s g=PV at *
    go_wp2_with fail
    refine (xClamp (PV+CV) (-10000) 10000 _).mono ?_;rintro e w4 ⟨rfl,rfl⟩
    go_wp2_with fail
    refine (xLimit last (clampV (PV+CV) (-10000) 10000) _).mono ?_;rintro e w5 ⟨rfl,rfl⟩
    have hcb:=Vt.clmp_bd (PV+CV) (-10000) 10000 (by omega);have hlm:=Vt.lm_ok (l:=last) (x:=clampV (PV+CV) (-10000) 10000) ⟨lo0,lo1⟩ hcb
    rw [hlm.1,hlm.2]
    have hcl:clampV (PV+CV) (-10000) 10000=Vt.clmp (PV+CV) (-10000) 10000:=rfl
    rw [hcl]
    clear hcb hlm hcl;generalize Vt.clmp (Vt.clmp (PV+CV) (-10000) 10000) (last - 40) (last+40)=VS at *
    go_wp2_with fail
    refine (xSpeed A D n c m cm ps d s x y z w3 (HP.out.below HW.out) (HD.out.below HW.out) hn hm HS.out).mono ?_;rintro e w6 ⟨rfl,hbx⟩
    replace b0:w6.cell? ⟨w.heap.size,0,none⟩=some (.slice A n c):=(hbx.cell (p:=⟨w.heap.size,0,none⟩) hlt).trans b0;replace b1:w6.cell? ⟨w.heap.size,1,none⟩=some (x):=(hbx.cell (p:=⟨w.heap.size,1,none⟩) hlt).trans b1;replace b2:w6.cell? ⟨w.heap.size,2,none⟩=some (y):=(hbx.cell (p:=⟨w.heap.size,2,none⟩) hlt).trans b2;replace b3:w6.cell? ⟨w.heap.size,3,none⟩=some (z):=(hbx.cell (p:=⟨w.heap.size,3,none⟩) hlt).trans b3;replace hlt:w.heap.size<w6.heap.size:=Nat.lt_of_lt_of_le hlt hbx.size;replace HW:=hid (bel_trans HW.out hbx);clear hbx
    rw [HSPV.out]
    generalize Pf.bwE (ps.map Pass.cas) d s=EE at *
    go_wp2_with fail
    refine bodyPost_ret (results_tmp4 rfl _ _ _) rfl ?_
    exact ⟨rfl,HW.out⟩
  ·have hse:Vt.stE (ps.map Pass.alt) (ps.map Pass.cas) d s g alt last=2:=by unfold Vt.stE;rw [if_neg (by have:=HPE.out;omega),if_neg hok]
   obtain ⟨e1,e2,e3⟩:=Vt.st_bad hse (by decide)
   rw [e1,e2,e3,hse]
   clear e1 e2 e3 hse
   by_cases hat:Vt.okAlt alt∧Vt.okAlt (Pf.bwV (ps.map Pass.alt) d s)
   ·have hlo:¬ Vt.okRate last:=fun h=>hok ⟨hat.1,hat.2,h⟩
    have HAT:=hid hat;have HLO:=hid hlo;clear hok hat hlo
    go_enter Tryz.func23,Tryz.ntmps23
    go_wp2_with fail
    refine (xPath A D n c m cm ps d s g x y z _ (HP.out.below ((Below.refl _ _).alloc (Nat.le_refl _) _)) (HD.out.below ((Below.refl _ _).alloc (Nat.le_refl _) _)) hn hm HS.out HG.out).mono ?_;rintro e w1 ⟨rfl,hbx⟩
    have b0:w1.cell? ⟨w.heap.size,0,none⟩=some (.slice A n c):=(hbx.cell (p:=⟨w.heap.size,0,none⟩) (by simp)).trans (by simp [World.cell?_alloc_new]);have b1:w1.cell? ⟨w.heap.size,1,none⟩=some (x):=(hbx.cell (p:=⟨w.heap.size,1,none⟩) (by simp)).trans (by simp [World.cell?_alloc_new]);have b2:w1.cell? ⟨w.heap.size,2,none⟩=some (y):=(hbx.cell (p:=⟨w.heap.size,2,none⟩) (by simp)).trans (by simp [World.cell?_alloc_new]);have b3:w1.cell? ⟨w.heap.size,3,none⟩=some (z):=(hbx.cell (p:=⟨w.heap.size,3,none⟩) (by simp)).trans (by simp [World.cell?_alloc_new])
    have hlt:w.heap.size<w1.heap.size:=by have:=hbx.size;simp at this;omega
    have HW:=hid (bel_alloc hbx);clear hbx
    rw [HPE.out]
    go_wp2_with fail
    refine (xTarget A D n c m cm ps d s x y z w1 (HP.out.below HW.out) (HD.out.below HW.out) hn hm HS.out).mono ?_;rintro e w2 ⟨rfl,hbx⟩
    replace b0:w2.cell? ⟨w.heap.size,0,none⟩=some (.slice A n c):=(hbx.cell (p:=⟨w.heap.size,0,none⟩) hlt).trans b0;replace b1:w2.cell? ⟨w.heap.size,1,none⟩=some (x):=(hbx.cell (p:=⟨w.heap.size,1,none⟩) hlt).trans b1;replace b2:w2.cell? ⟨w.heap.size,2,none⟩=some (y):=(hbx.cell (p:=⟨w.heap.size,2,none⟩) hlt).trans b2;replace b3:w2.cell? ⟨w.heap.size,3,none⟩=some (z):=(hbx.cell (p:=⟨w.heap.size,3,none⟩) hlt).trans b3;replace hlt:w.heap.size<w2.heap.size:=Nat.lt_of_lt_of_le hlt hbx.size;replace HW:=hid (bel_trans HW.out hbx);clear hbx
    rw [HBW.out]
    go_wp2_with fail
    refine (xCommand alt (Pf.bwV (ps.map Pass.alt) d s) 10000 _).mono ?_;rintro e w3 ⟨rfl,q,rfl⟩
    replace b0:(w2.drewN q).cell? ⟨w.heap.size,0,none⟩=some (.slice A n c):=b0;replace b1:(w2.drewN q).cell? ⟨w.heap.size,1,none⟩=some (x):=b1;replace b2:(w2.drewN q).cell? ⟨w.heap.size,2,none⟩=some (y):=b2;replace b3:(w2.drewN q).cell? ⟨w.heap.size,3,none⟩=some (z):=b3;replace hlt:w.heap.size<(w2.drewN q).heap.size:=hlt;replace HW:=hid (below_drewN HW.out q);generalize w2.drewN q=w3 at *
    rw [Vt.cmE_ok HAT.out.1 HAT.out.2]
    generalize Pf.bwV (ps.map Pass.alt) d s=TT at *;generalize Vt.cmV alt TT 10000=CV at *;generalize Vt.ptV (ps.map Pass.alt) d s g=PV at *
    go_wp2_with fail
    refine (xClamp (PV+CV) (-10000) 10000 _).mono ?_;rintro e w4 ⟨rfl,rfl⟩
    go_wp2_with fail
    refine (xLimit last (clampV (PV+CV) (-10000) 10000) _).mono ?_;rintro e w5 ⟨rfl,rfl⟩
    obtain ⟨l1,l2⟩:=Vt.lm_no (l:=last) (x:=clampV (PV+CV) (-10000) 10000) HLO.out
    rw [l1,l2]
    clear l1 l2
    go_wp2_with fail
    refine bodyPost_ret (results_tmp4 rfl _ _ _) rfl ?_
    exact ⟨rfl,HW.out⟩
   ·have HAT:=hid hat
    clear hok hat
    go_enter Tryz.func23,Tryz.ntmps23
    go_wp2_with fail
    refine (xPath A D n c m cm ps d s g x y z _ (HP.out.below ((Below.refl _ _).alloc (Nat.le_refl _) _)) (HD.out.below ((Below.refl _ _).alloc (Nat.le_refl _) _)) hn hm HS.out HG.out).mono ?_;rintro e w1 ⟨rfl,hbx⟩
    have b0:w1.cell? ⟨w.heap.size,0,none⟩=some (.slice A n c):=(hbx.cell (p:=⟨w.heap.size,0,none⟩) (by simp)).trans (by simp [World.cell?_alloc_new]);have b1:w1.cell? ⟨w.heap.size,1,none⟩=some (x):=(hbx.cell (p:=⟨w.heap.size,1,none⟩) (by simp)).trans (by simp [World.cell?_alloc_new]);have b2:w1.cell? ⟨w.heap.size,2,none⟩=some (y):=(hbx.cell (p:=⟨w.heap.size,2,none⟩) (by simp)).trans (by simp [World.cell?_alloc_new]);have b3:w1.cell? ⟨w.heap.size,3,none⟩=some (z):=(hbx.cell (p:=⟨w.heap.size,3,none⟩) (by simp)).trans (by simp [World.cell?_alloc_new])
    have hlt:w.heap.size<w1.heap.size:=by have:=hbx.size;simp at this;omega
    have HW:=hid (bel_alloc hbx);clear hbx
    rw [HPE.out]
    go_wp2_with fail
    refine (xTarget A D n c m cm ps d s x y z w1 (HP.out.below HW.out) (HD.out.below HW.out) hn hm HS.out).mono ?_;rintro e w2 ⟨rfl,hbx⟩
    replace b0:w2.cell? ⟨w.heap.size,0,none⟩=some (.slice A n c):=(hbx.cell (p:=⟨w.heap.size,0,none⟩) hlt).trans b0;replace b1:w2.cell? ⟨w.heap.size,1,none⟩=some (x):=(hbx.cell (p:=⟨w.heap.size,1,none⟩) hlt).trans b1;replace b2:w2.cell? ⟨w.heap.size,2,none⟩=some (y):=(hbx.cell (p:=⟨w.heap.size,2,none⟩) hlt).trans b2;replace b3:w2.cell? ⟨w.heap.size,3,none⟩=some (z):=(hbx.cell (p:=⟨w.heap.size,3,none⟩) hlt).trans b3;replace hlt:w.heap.size<w2.heap.size:=Nat.lt_of_lt_of_le hlt hbx.size;replace HW:=hid (bel_trans HW.out hbx);clear hbx
    rw [HBW.out]
    go_wp2_with fail
    refine (xCommand alt (Pf.bwV (ps.map Pass.alt) d s) 10000 _).mono ?_;rintro e w3 ⟨rfl,q,rfl⟩
    replace b0:(w2.drewN q).cell? ⟨w.heap.size,0,none⟩=some (.slice A n c):=b0;replace b1:(w2.drewN q).cell? ⟨w.heap.size,1,none⟩=some (x):=b1;replace b2:(w2.drewN q).cell? ⟨w.heap.size,2,none⟩=some (y):=b2;replace b3:(w2.drewN q).cell? ⟨w.heap.size,3,none⟩=some (z):=b3;replace hlt:w.heap.size<(w2.drewN q).heap.size:=hlt;replace HW:=hid (below_drewN HW.out q);generalize w2.drewN q=w3 at *;obtain ⟨l1,l2⟩:=Vt.cmE_no HAT.out
    rw [l1,l2]
    clear l1 l2;generalize Pf.bwV (ps.map Pass.alt) d s=TT at *
    go_wp2_with fail
    refine bodyPost_ret (results_tmp4 rfl _ _ _) rfl ?_
    exact ⟨rfl,HW.out⟩
 ·have hse:Vt.stE (ps.map Pass.alt) (ps.map Pass.cas) d s g alt last=Vt.ptE (ps.map Pass.alt) d s g:=by unfold Vt.stE;rw [if_pos hpe]
  obtain ⟨e1,e2,e3⟩:=Vt.st_bad hse hpe
  rw [e1,e2,e3,hse]
  have hne:(Vt.ptE (ps.map Pass.alt) d s g != 0)=true:=by rw [bne_iff_ne];exact hpe
  have HPV:=hid (show Vt.ptV (ps.map Pass.alt) d s g=0 by unfold Vt.ptV;rw [if_neg hpe]);clear hpe e1 e2 e3 hse
  go_enter Tryz.func23,Tryz.ntmps23
  go_wp2_with fail
  refine (xPath A D n c m cm ps d s g x y z _ (HP.out.below ((Below.refl _ _).alloc (Nat.le_refl _) _)) (HD.out.below ((Below.refl _ _).alloc (Nat.le_refl _) _)) hn hm HS.out HG.out).mono ?_;rintro e w1 ⟨rfl,hbx⟩
  have b0:w1.cell? ⟨w.heap.size,0,none⟩=some (.slice A n c):=(hbx.cell (p:=⟨w.heap.size,0,none⟩) (by simp)).trans (by simp [World.cell?_alloc_new]);have b1:w1.cell? ⟨w.heap.size,1,none⟩=some (x):=(hbx.cell (p:=⟨w.heap.size,1,none⟩) (by simp)).trans (by simp [World.cell?_alloc_new]);have b2:w1.cell? ⟨w.heap.size,2,none⟩=some (y):=(hbx.cell (p:=⟨w.heap.size,2,none⟩) (by simp)).trans (by simp [World.cell?_alloc_new]);have b3:w1.cell? ⟨w.heap.size,3,none⟩=some (z):=(hbx.cell (p:=⟨w.heap.size,3,none⟩) (by simp)).trans (by simp [World.cell?_alloc_new])
  have hlt:w.heap.size<w1.heap.size:=by have:=hbx.size;simp at this;omega
  have HW:=hid (bel_alloc hbx);clear hbx
  rw [HPV.out]
  generalize Vt.ptE (ps.map Pass.alt) d s g=EE at *
  go_wp2_with fail
  refine bodyPost_ret (results_tmp4 rfl _ _ _) rfl ?_
  exact ⟨rfl,HW.out⟩

end Go.Proofs.YtheepmnhpclimaaGreat

