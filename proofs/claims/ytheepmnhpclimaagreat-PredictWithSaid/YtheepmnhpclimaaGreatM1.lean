/- M1: Ang, AtVal, AtFns, BlPlain, Bxs, Two, Bxg, CsAllR, CsConfR, FxRoot, SimPlain, Stw, WiP in one text. -/
import Derived.Test.YtheepmnhpclimaaGreatFxOps
import Derived.Test.YtheepmnhpclimaaGreatFrame
import Derived.Test.YtheepmnhpclimaaGreatM3
import Derived.RegionTactic
import Derived.ChangeAlike
import Derived.BigRegion
import Derived.Deep.RegionHeld3
import Derived.Laws.NewBlocks
import Derived.Laws.Rows
import Derived.Test.YtheepmnhpclimaaGreatM11
import Derived.Test.YtheepmnhpclimaaGreatM12
import Derived.Test.YtheepmnhpclimaaGreatM8
import Derived.Maps.AppendAt
import Derived.Test.YtheepmnhpclimaaGreatFxScale
import Derived.Deep.MidRow
import Derived.Test.YtheepmnhpclimaaGreatM10
set_option linter.unusedSimpArgs false
set_option linter.unusedVariables false
set_option maxRecDepth 100000
set_option maxHeartbeats 2000000
namespace Go.Proofs
theorem zM10 {G : Prop} (h : G := by
  go_wp2_with fail
  refine (HB.out _).mono ?_;rintro e w1 ⟨rfl,rfl⟩
  go_wp2_with fail
  refine (HA.out _).mono ?_;rintro e w2 ⟨rfl,rfl⟩
  go_wp2_with fail
  refine (HC.out _).mono ?_;rintro e w3 ⟨rfl,rfl⟩
  go_wp2_with fail
  go_ret
  exact ⟨ret_int hv.out.symm,rfl⟩) : G := h
theorem zM11 {G : Prop} (h : G := by
  go_wp2_with fail
  refine (HC.out _).mono ?_;rintro e w3 ⟨rfl,rfl⟩
  go_wp2_with fail
  go_ret
  exact ⟨ret_int hv.out.symm,rfl⟩) : G := h
theorem zM12 {G : Prop} (h : G := by
  go_wp2_with fail
  go_region
  all_goals (go_wp2_with fail)
  all_goals (refine (H.out _).mono ?_;rintro e w' ⟨rfl,q,rfl⟩)
  all_goals (go_wp2_with fail)
  all_goals go_ret
  all_goals (exact ⟨ret_int (by rw [hv.out,hend.out]),below_drewN (((Below.refl _ _).alloc (Nat.le_refl _) _).alloc (by simp) _) _⟩)) : G := h
theorem zM13 {G : Prop} (h : G := by
  go_enter Tryz.func192,Tryz.ntmps192
  go_wp2
  go_ret
  exact ⟨ret_int HT1.out,rfl⟩) : G := h
theorem zM14 {G : Prop} (h : G := by
  go_enter Tryz.func247,Tryz.ntmps247
  go_wp2
  go_ret
  exact ⟨rfl,rfl⟩) : G := h
theorem zM15 {G : Prop} (h : G := by
  go_enter Tryz.func239,Tryz.ntmps239
  go_wp2
  go_ret
  exact ⟨ret_int HT1.out,rfl⟩) : G := h
end Go.Proofs
namespace Go.Proofs.YtheepmnhpclimaaGreat
open Go.RowKit
open Go.Lib (hid)
def nrm (a:Int):Int:=a % 129600000
theorem nrm_bd (a:Int):0<=nrm a∧nrm a<129600000:=by unfold nrm;omega
theorem nrm_I64 (a:Int):I64 (nrm a):=by have:=nrm_bd a;exact ⟨by omega,by omega⟩
def turnV (a b:Int):Int:=nrm (nrm a+nrm b)
def diffV (f t:Int):Int:=if 64800000<nrm (nrm t - nrm f) then nrm (nrm t - nrm f) - 129600000 else nrm (nrm t - nrm f)
theorem xNorm (a:Int) (ha:I64 a) (w:World):Calls Tryz.prog 239 #[.int .i64 a] w fun e w'=>e=.returned (.int .i64 (nrm a))∧w=w':=by
 have ht:=hid (tmod_cases a 129600000 (by decide));have hlo:=(tmod_bounds a 129600000 (by decide)).1;have hhi:=(tmod_bounds a 129600000 (by decide)).2;obtain ⟨a0,a1⟩:=ha
 by_cases hn:a.tmod 129600000<0
 ·have HT1:=hid (ht.out.1 hn)
  exact zM15
 ·have HT1:=hid (ht.out.2 hn)
  exact zM15
theorem xTurn (a b:Int) (ha:I64 a) (hb:I64 b) (w:World):Calls Tryz.prog 250 #[.int .i64 a,.int .i64 b] w fun e w'=>e=.returned (.int .i64 (turnV a b))∧w=w':=by
 have HA:=hid (xNorm a ha);have HB:=hid (xNorm b hb);have na:=nrm_bd a;have nb:=nrm_bd b;have HC:=hid (xNorm (nrm a+nrm b) ⟨by omega,by omega⟩);have hv:=hid (show turnV a b=nrm (nrm a+nrm b) from rfl);clear ha hb;generalize nrm a=x at *;generalize nrm b=y at *;obtain ⟨na0,na1⟩:=na;obtain ⟨nb0,nb1⟩:=nb
 go_enter Tryz.func250,Tryz.ntmps250
 go_wp2_with fail
 refine (HA.out _).mono ?_;rintro e w1 ⟨rfl,rfl⟩
 go_wp2_with fail
 refine (HB.out _).mono ?_;rintro e w2 ⟨rfl,rfl⟩
 exact zM11
theorem xDiff (a b:Int) (ha:I64 a) (hb:I64 b) (w:World):Calls Tryz.prog 208 #[.int .i64 a,.int .i64 b] w fun e w'=>e=.returned (.int .i64 (diffV a b))∧w=w':=by
 have HA:=hid (xNorm a ha);have HB:=hid (xNorm b hb);have na:=nrm_bd a;have nb:=nrm_bd b;have HC:=hid (xNorm (nrm b - nrm a) ⟨by omega,by omega⟩)
 have hv:=hid (show diffV a b=if 64800000<nrm (nrm b - nrm a) then nrm (nrm b - nrm a) - 129600000 else nrm (nrm b - nrm a) from rfl)
 clear ha hb;generalize nrm a=x at *;generalize nrm b=y at *;have nc:=nrm_bd (y - x);generalize nrm (y - x)=z at *;obtain ⟨na0,na1⟩:=na;obtain ⟨nb0,nb1⟩:=nb;obtain ⟨nc0,nc1⟩:=nc
 by_cases hz:64800000<z
 ·rw [if_pos hz] at hv
  go_enter Tryz.func208,Tryz.ntmps208
  exact zM10
 ·rw [if_neg hz] at hv
  go_enter Tryz.func208,Tryz.ntmps208
  exact zM10
theorem rNorm (a:Int) (ha:I64 a) (w:World):Calls Tryz.prog 192 #[.int .i64 a] w fun e w'=>e=.returned (.int .i64 (nrm a))∧w=w':=by
 have ht:=hid (tmod_cases a 129600000 (by decide));have hlo:=(tmod_bounds a 129600000 (by decide)).1;have hhi:=(tmod_bounds a 129600000 (by decide)).2;obtain ⟨a0,a1⟩:=ha
 by_cases hn:a.tmod 129600000<0
 ·have HT1:=hid (ht.out.1 hn)
  exact zM13
 ·have HT1:=hid (ht.out.2 hn)
  exact zM13
theorem rTurn (a b:Int) (ha:I64 a) (hb:I64 b) (w:World):Calls Tryz.prog 232 #[.int .i64 a,.int .i64 b] w fun e w'=>e=.returned (.int .i64 (turnV a b))∧w=w':=by
 have HA:=hid (rNorm a ha);have HB:=hid (rNorm b hb);have na:=nrm_bd a;have nb:=nrm_bd b;have HC:=hid (rNorm (nrm a+nrm b) ⟨by omega,by omega⟩);have hv:=hid (show turnV a b=nrm (nrm a+nrm b) from rfl);clear ha hb;generalize nrm a=x at *;generalize nrm b=y at *;obtain ⟨na0,na1⟩:=na;obtain ⟨nb0,nb1⟩:=nb
 go_enter Tryz.func232,Tryz.ntmps232
 go_wp2_with fail
 refine (HA.out _).mono ?_;rintro e w1 ⟨rfl,rfl⟩
 go_wp2_with fail
 refine (HB.out _).mono ?_;rintro e w2 ⟨rfl,rfl⟩
 exact zM11
theorem rDiff (a b:Int) (ha:I64 a) (hb:I64 b) (w:World):Calls Tryz.prog 122 #[.int .i64 a,.int .i64 b] w fun e w'=>e=.returned (.int .i64 (diffV a b))∧w=w':=by
 have HA:=hid (rNorm a ha);have HB:=hid (rNorm b hb);have na:=nrm_bd a;have nb:=nrm_bd b;have HC:=hid (rNorm (nrm b - nrm a) ⟨by omega,by omega⟩)
 have hv:=hid (show diffV a b=if 64800000<nrm (nrm b - nrm a) then nrm (nrm b - nrm a) - 129600000 else nrm (nrm b - nrm a) from rfl)
 clear ha hb;generalize nrm a=x at *;generalize nrm b=y at *;have nc:=nrm_bd (y - x);generalize nrm (y - x)=z at *;obtain ⟨na0,na1⟩:=na;obtain ⟨nb0,nb1⟩:=nb;obtain ⟨nc0,nc1⟩:=nc
 by_cases hz:64800000<z
 ·rw [if_pos hz] at hv
  go_enter Tryz.func122,Tryz.ntmps122
  exact zM10
 ·rw [if_neg hz] at hv
  go_enter Tryz.func122,Tryz.ntmps122
  exact zM10
theorem cval {F:FuncId} {args:Array Value} {w:World} {k l:IntKind} {X Y V E:Int} {R:World→Prop} (h:Calls Tryz.prog F args w fun e w'=>e=.returned (.tuple #[.int k X,.int l Y])∧R w') (hx:X=V) (hy:Y=E) :
  Calls Tryz.prog F args w fun e w'=>e=.returned (.tuple #[.int k V,.int l E])∧R w':=by subst hx hy;exact h
theorem floor_v (X Y:Int) (h1 : -4611686018427387904<=X) (h2:X<=4611686018427387904) (hY:0<Y):Fx.scV 0 X 1 Y=X / Y∧Fx.scE 0 X 1 Y=0 ∧ -4611686018427387904<=X / Y∧X / Y<=4611686018427387904:=by
 have e:Fx.rqz 0 (X * 1) Y=X / Y:=by unfold Fx.rqz Fx.rq;rw [if_neg (by omega),if_pos rfl,Int.mul_one]
 have b1 : -4611686018427387904<=X / Y:=by
  rw [Int.le_ediv_iff_mul_le hY]
  have:(-4611686018427387904) * Y<=(-4611686018427387904) * 1:=Int.mul_le_mul_of_nonpos_left (by omega) (by omega)
  omega
 have b2:X / Y<=4611686018427387904:=by
  have:X / Y<4611686018427387904+1:=by
   rw [Int.ediv_lt_iff_lt_mul hY]
   have:(4611686018427387904+1) * 1<=(4611686018427387904+1) * Y:=Int.mul_le_mul_of_nonneg_left (by omega) (by omega)
   omega
  omega
 have hr:Fx.inR (X / Y):=by unfold Fx.inR;omega
 rw [Fx.scV_eq 0 X 1 Y (by omega),Fx.scE_eq 0 X 1 Y (by omega),e,if_pos hr,if_pos hr]
 exact ⟨rfl,rfl,b1,b2⟩
structure TabAt (w:World) (b off:Nat) (L:List (Int × Int)):Prop where
 lt:b<w.heap.size
 cells:∀ k r,L[k]? = some r→w.cell? ⟨b,off+k * 2,none⟩=some (vI r.1)∧w.cell? ⟨b,off+k * 2+1,none⟩=some (vI r.2)
theorem TabAt.below {w w':World} {b off:Nat} {L:List (Int × Int)} (h:TabAt w b off L) (hb:Below w.heap.size w w'):TabAt w' b off L :=
 ⟨Nat.lt_of_lt_of_le h.lt hb.size,fun k r hr=>⟨(hb.cell (p:=⟨b,_,none⟩) h.lt).trans (h.cells k r hr).1,(hb.cell (p:=⟨b,_,none⟩) h.lt).trans (h.cells k r hr).2⟩⟩
def TabOk (L:List (Int × Int)):Prop:=2<=L.length∧L.length<=100∧(∀ r ∈ L,-100000<=r.1∧r.1<=100000 ∧ -4000000<=r.2∧r.2<=4000000)∧∀ k r s,L[k]? = some r→L[k+1]? = some s→r.1<s.1
theorem prod_bd {x y:Int} (hx : -8000000<=x∧x<=8000000) (hy : -100000000<=y∧y<=100000000) : -800000000000000<=x * y∧x * y<=800000000000000:=by
 have h1:x * y<=(x.natAbs * y.natAbs:Nat):=by rw [← Int.natAbs_mul];omega
 have h2 : -(x * y)<=(x.natAbs * y.natAbs:Nat):=by rw [← Int.natAbs_mul];omega
 have h3:x.natAbs * y.natAbs<=8000000 * 100000000:=Nat.mul_le_mul (by omega) (by omega)
 omega
def VRel (L:List (Int × Int)) (alt:Int) (v:Value):Prop:=∃ m:Nat,v=vI ((m:Int)+1)∧m+2<=L.length∧∀ j,1<=j→j<=m→∀ r,L[j]? = some r→r.1 * 100<alt
theorem value_any (b off n cp:Nat) (L:List (Int × Int)) (alt:Int) (w:World) (hn:n=L.length) (hok:TabOk L) (hT:TabAt w b off L) (ha0 : -200000<=alt) (ha1:alt<=6000000) :
  Calls Tryz.prog 219 #[.slice (some ⟨b,off,none⟩) n cp,vI alt] w fun e w'=>e=.returned (vI (At.tv L alt))∧Below w.heap.size w w':=by
 obtain ⟨o1,o2,o3,o4⟩:=hok;have hb:=hT.lt;have HT:=hid hT;have O3:=hid o3;have O4:=hid o4
 rw [← hn] at o1 o2
 have HN:=hid hn;clear hT o3 o4 hn
 go_enter Tryz.func219,Tryz.ntmps219
 go_wp2_with fail
 go_loop [5] (fun v=>VRel L alt v) (fun v=>n - (intOf v).toNat)
 case atStart=>exact ⟨0,rfl,by rw [← HN.out];omega,fun j j1 j2=>by omega⟩
 case round =>
  obtain ⟨m,rfl,hm,hlow⟩:=hrel
  rw [← HN.out] at hm
  have HL:=hid hlow;clear hlow;obtain ⟨⟨f0,v0⟩,e0⟩:∃ r,L[m]? = some r:=⟨_,List.getElem?_eq_getElem (by have:=HN.out;omega)⟩;obtain ⟨⟨f1,v1⟩,e1⟩:∃ r,L[m+1]? = some r:=⟨_,List.getElem?_eq_getElem (by have:=HN.out;omega)⟩;have B0:=O3.out _ (List.mem_of_getElem? e0);have B1:=O3.out _ (List.mem_of_getElem? e1);have hlt:f0<f1:=O4.out m _ _ e0 e1;obtain ⟨hc0,hc1⟩:=HT.out.cells m _ e0;obtain ⟨hd0,hd1⟩:=HT.out.cells (m+1) _ e1
  simp only at hc0 hc1 hd0 hd1 B0 B1
  obtain ⟨a1,a2,a3,a4⟩:=B0;obtain ⟨b1,b2,b3,b4⟩:=B1;have E0:=hid e0;have E1:=hid e1;clear e0 e1
  by_cases hgo:(m:Int)+1<n - 1∧f1 * 100<alt
  ·obtain ⟨g1,g2⟩:=hgo
   go_wp2_with fail
   go_round
   case rel =>
    refine ⟨m+1,by congr 1,by have:=HN.out;omega,fun j j1 j2 r hr=>?_⟩
    rcases Nat.lt_or_ge m j with h | h
    ·have hj:j=m+1:=by omega
     subst hj
     rw [E1.out] at hr
     obtain rfl:=Option.some.inj hr
     exact g2
    ·exact HL.out j j1 h r hr
   case measure=>simp only [intOf];omega
  ·have hv:=hid (At.tv_at L m _ _ alt E0.out E1.out HL.out (by
    by_cases g:(m:Int)+1<n - 1
    ·exact .inr (by show alt<=f1 * 100;have:¬ f1 * 100<alt:=fun h=>hgo ⟨g,h⟩;omega)
    ·exact .inl (by have:=HN.out;omega)))
   have hp:=prod_bd (x:=v1 - v0) (y:=alt - f0 * 100) (by omega) (by omega);obtain ⟨X,hX⟩:∃ X,(v1 - v0) * (alt - f0 * 100)=X:=⟨_,rfl⟩
   rw [hX] at hp
   obtain ⟨p1,p2⟩:=hp;obtain ⟨c1,c2,c3,c4⟩:=floor_v X ((f1 - f0) * 100) (by omega) (by omega) (by omega);have H:=hid (fun w=>cval (xFloor X ((f1 - f0) * 100) ⟨by omega,by omega⟩ ⟨by omega,by omega⟩ w) c1 c2);have hend:=hid (show At.interp (f0,v0) (f1,v1) alt=v0+X / ((f1 - f0) * 100) by unfold At.interp;rw [hX]);have n0:=World.new_ne w _ hc0;have n1:=World.new_ne w _ hc1;have n2:=World.new_ne w _ hd0;have n3:=World.new_ne w _ hd1;have xb : -4611686018427387904<=X / ((f1 - f0) * 100)∧X / ((f1 - f0) * 100)<=4611686018427387904:=⟨c3,c4⟩;have hwX:IntKind.i64.wrap X=X:=IntWalk.i64_in _ (by omega);clear c1 c2 c3 c4;generalize X / ((f1 - f0) * 100)=Z at *;obtain ⟨z1,z2⟩:=xb
   by_cases g1:(m:Int)+1<n - 1
   ·have g2:¬ f1 * 100<alt:=fun h=>hgo ⟨g1,h⟩
    clear hgo
    exact zM12
   ·clear hgo
    exact zM12
end Go.Proofs.YtheepmnhpclimaaGreat
namespace Go.Proofs.YtheepmnhpclimaaGreat
open Go.RowKit
def flat:List (Int × Int)→List Value
 | []=>[]
 | r :: t=>vI r.1 :: vI r.2 :: flat t
theorem flat_get:∀ (L:List (Int × Int)) (k:Nat) (r:Int × Int),L[k]? = some r→(flat L)[k * 2]? = some (vI r.1)∧(flat L)[k * 2+1]? = some (vI r.2)
 | [],k,r,h=>by simp at h
 | x :: t,0,r,h=>by simp at h;subst h;exact ⟨rfl,rfl⟩
 | x :: t,k+1,r,h=>by
  have h2:=flat_get t k r (by simpa using h)
  rw [show (k+1) * 2=k * 2+1+1 from by omega,show k * 2+1+1+1=(k * 2+1)+1+1 from rfl]
  simpa [flat] using h2
theorem tabAt_new (w:World) (L:List (Int × Int)) (cs:Array Value) (t:TypeId) (h:cs.toList=flat L):TabAt (w.alloc (.cells cs t)) w.heap.size 0 L:=by
 refine ⟨by simp,fun k r hr=>?_⟩
 obtain ⟨h1,h2⟩:=flat_get L k r hr
 rw [← h,Array.getElem?_toList] at h1 h2
 rw [World.cell?_alloc_new,World.cell?_alloc_new,Nat.zero_add]
 exact ⟨h1,h2⟩
def risesB:List (Int × Int)→Bool
 | a :: b :: t=>decide (a.1<b.1) && risesB (b :: t)
 | _=>true
theorem rises_ok:∀ (L:List (Int × Int)),risesB L=true→∀ k r s,L[k]? = some r→L[k+1]? = some s→r.1<s.1
 | [],_,k,r,s,h,_=>by simp at h
 | [x],_,k,r,s,_,h=>by simp at h
 | x :: y :: t,hB,k,r,s,h,h'=>by
  simp only [risesB,Bool.and_eq_true,decide_eq_true_eq] at hB
  cases k with
  | zero=>simp at h h';subst h h';exact hB.1
  | succ k=>exact rises_ok (y :: t) hB.2 k r s (by simpa using h) (by simpa using h')
def smallB (L:List (Int × Int)):Bool:=L.all fun r=>decide (-100000<=r.1) && decide (r.1<=100000) && decide (-4000000<=r.2) && decide (r.2<=4000000)
theorem tabOk_of (L:List (Int × Int)) (h1:2<=L.length) (h2:L.length<=100) (h3:smallB L=true) (h4:risesB L=true):TabOk L:=by
 refine ⟨h1,h2,fun r hr=>?_,rises_ok L h4⟩
 have:=List.all_eq_true.1 h3 r hr
 simp only [Bool.and_eq_true,decide_eq_true_eq] at this
 exact ⟨this.1.1.1,this.1.1.2,this.1.2,this.2⟩
theorem okP:TabOk At.tabP:=tabOk_of _ (by decide) (by decide) (by decide) (by decide)
theorem okR:TabOk At.tabR:=tabOk_of _ (by decide) (by decide) (by decide) (by decide)
theorem okT:TabOk At.tabT:=tabOk_of _ (by decide) (by decide) (by decide) (by decide)
def tabRPost (w:World) (e:Ending) (w':World):Prop:=∃ b,e=.returned (.slice (some ⟨b,0,none⟩) 14 14)∧TabAt w' b 0 At.tabR∧Below w.heap.size w w'
theorem tabR_any (w:World):Calls Tryz.prog 220 #[] w (tabRPost w):=by
 go_enter Tryz.func220,Tryz.ntmps220
 go_wp2
 go_ret
 exact ⟨w.heap.size,rfl,tabAt_new w At.tabR _ _ (by rfl),(Below.refl _ _).alloc (Nat.le_refl _) _⟩
def tabTPost (w:World) (e:Ending) (w':World):Prop:=∃ b,e=.returned (.slice (some ⟨b,0,none⟩) 4 4)∧TabAt w' b 0 At.tabT∧Below w.heap.size w w'
theorem tabT_any (w:World):Calls Tryz.prog 248 #[] w (tabTPost w):=by
 go_enter Tryz.func248,Tryz.ntmps248
 go_wp2
 go_ret
 exact ⟨w.heap.size,rfl,tabAt_new w At.tabT _ _ (by rfl),(Below.refl _ _).alloc (Nat.le_refl _) _⟩
theorem outside_yes (alt:Int) (h:alt < -200000∨6000000<alt) (w:World):Calls Tryz.prog 247 #[vI alt] w fun e w'=>e=.returned (.bool true)∧w=w':=by
 rcases h with h | h
 ·go_enter Tryz.func247,Tryz.ntmps247
  go_wp2
  go_ret
  exact ⟨rfl,rfl⟩
 ·have h':¬ alt < -200000:=by omega
  exact zM14
theorem outside_no (alt:Int) (h0 : -200000<=alt) (h1:alt<=6000000) (w:World):Calls Tryz.prog 247 #[vI alt] w fun e w'=>e=.returned (.bool false)∧w=w':=by
 have p1:¬ alt < -200000:=by omega
 have p2:¬ 6000000<alt:=by omega
 exact zM14
def inAlt (alt:Int):Prop := -200000<=alt∧alt<=6000000
instance (alt:Int):Decidable (inAlt alt):=by unfold inAlt;infer_instance
end Go.Proofs.YtheepmnhpclimaaGreat
namespace Go.Proofs.Cs
open Pf (inB)
def lowF (ws:Wins) (wish:List Int) (k:Nat):Nat→Int × Int:=fun j=>if j<k then (lo ws j,min (hi ws j) (wish.getD j 0)) else (lo ws j,hi ws j)
def lowL (ws:Wins) (wish:List Int):Wins:=(List.range ws.length).map (lowF ws wish ws.length)
theorem lowF_zero {ws:Wins} {wish:List Int} (j:Nat):ws.getD j (0,0)=lowF ws wish 0 j:=by unfold lowF lo hi;rw [if_neg (by omega)]
theorem lowF_cells {ws:Wins} {wish:List Int} (k:Nat):lowF ws wish k k=(lo ws k,hi ws k):=by unfold lowF;rw [if_neg (by omega)]
theorem lowL_len (ws:Wins) (wish:List Int):(lowL ws wish).length=ws.length:=by simp [lowL]
def belE (ws st:Wins) (wish:List Int):Int:=if chkE ws st≠0 then chkE ws st else if wish.length≠ws.length then 1 else if ∀ x ∈ wish,inB x then tgE (lowL ws wish) st else 2
theorem belE_chk {ws st:Wins} {wish:List Int} (h:chkE ws st≠0):belE ws st wish=chkE ws st:=by unfold belE;rw [if_pos h]
theorem belE_len {ws st:Wins} {wish:List Int} (h:chkE ws st=0) (h2:wish.length≠ws.length):belE ws st wish=1:=by unfold belE;rw [if_neg (by omega),if_pos h2]
theorem belE_rng {ws st:Wins} {wish:List Int} (h:chkE ws st=0) (h2:wish.length=ws.length) {x:Int} (hx:x ∈ wish) (h3:¬ inB x):belE ws st wish=2:=by unfold belE;rw [if_neg (by omega),if_neg (by omega),if_neg (fun k=>h3 (k x hx))]
theorem belE_ok {ws st:Wins} {wish:List Int} (h:chkE ws st=0) (h2:wish.length=ws.length) (h3:∀ x ∈ wish,inB x):belE ws st wish=tgE (lowL ws wish) st:=by unfold belE;rw [if_neg (by omega),if_neg (by omega),if_pos h3]
end Go.Proofs.Cs
namespace Go.Proofs.YtheepmnhpclimaaGreat
open Go.RowKit
structure BoxS (w:World) (N:Nat) (L:List (List Value)) (W:World):Prop where
 has:∀ (i:Nat) (cs:List Value),L[i]? = some cs→Has W (w.heap.size+i) cs
 len:L.length<=N
 B:Below w.heap.size w W
 sz:w.heap.size+N<=W.heap.size
section
variable {w W W1:World} {N:Nat} {L:List (List Value)}
theorem BoxS.below (h:BoxS w N L W) (hb:Below W.heap.size W W1):BoxS w N L W1:=⟨fun i cs hi=>(h.has i cs hi).below hb,h.len,bel_trans h.B hb,Nat.le_trans h.sz hb.size⟩
theorem BoxS.drew (h:BoxS w N L W):BoxS w N L W.drew:=h.below (Below.refl _ _).drew
theorem BoxS.drewN (h:BoxS w N L W) (n:Nat):BoxS w N L (W.drewN n):=h.below (below_drewN (Below.refl _ _) n)
theorem BoxS.alloc (h:BoxS w N L W) (o:Obj):BoxS w N L (W.alloc o):=h.below (below_alloc1 _ _)
theorem BoxS.set (h:BoxS w N L W) (b i:Nat) (hb:w.heap.size+N<=b) (v:Value):BoxS w N L (W.setCell ⟨b,i,none⟩ v) :=
 ⟨fun j cs hj=>(h.has j cs hj).other b i v (by have:=(List.getElem?_eq_some_iff.1 hj).1;have:=h.len;omega),h.len,h.B.setCell (p:=⟨b,i,none⟩) (by show w.heap.size<=b;omega) _,by simpa [World.setCell] using h.sz⟩
theorem BoxS.at (h:BoxS w N L W) (i:Nat) (cs:List Value) (hi:L[i]? = some cs) (j:Nat) (v:Value) (hj:cs[j]? = some v):W.cell? ⟨w.heap.size+i,j,none⟩=some v:=(h.has i cs hi).cell j v hj
theorem BoxS.fr (h:BoxS w N L W) (i:Nat) (cs:List Value) (hi:L[i]? = some cs) (o:Nat):W.frozen? ⟨w.heap.size+i,o,none⟩=false:=(h.has i cs hi).fr o
end
theorem boxS1 (w:World) (X0:Array Value) (t0:TypeId):BoxS w 1 [X0.toList] (w.alloc (.cells X0 t0)) :=
 ⟨fun i cs hi=>by
  match i,hi with
  | 0,hi=>injection hi with hi;subst hi;exact Has.new w _ _
  | i+1,hi=>simp at hi,by simp,below_alloc1 _ _,by simp⟩
theorem BoxS.more {w W:World} {N:Nat} {L:List (List Value)} (h:BoxS w N L W) (hN:L.length=N) (hW:W.heap.size=w.heap.size+N) (X:Array Value) (t:TypeId):BoxS w (N+1) (L ++ [X.toList]) (W.alloc (.cells X t))∧(W.alloc (.cells X t)).heap.size=w.heap.size+(N+1):=by
 refine ⟨⟨fun i cs hi=>?_,by simp;omega,h.B.alloc (by omega) _,by simp;omega⟩,by simp;omega⟩
 by_cases e:i<L.length
 ·rw [List.getElem?_append_left e] at hi
  exact (h.has i cs hi).alloc _
 ·rw [List.getElem?_append_right (by omega)] at hi
  match hk:i - L.length,hi with
  | 0,hi =>
   injection hi with hi
   subst hi
   exact Has.newAt W X t _ (by omega)
  | k+1,hi=>simp at hi
theorem boxS2 (w:World) (X0 X1:Array Value) (t0 t1:TypeId):BoxS w 2 [X0.toList,X1.toList] ((w.alloc (.cells X0 t0)).alloc (.cells X1 t1)):=((boxS1 w X0 t0).more rfl (by simp) X1 t1).1
theorem boxS3 (w:World) (X0 X1 X2:Array Value) (t0 t1 t2:TypeId):BoxS w 3 [X0.toList,X1.toList,X2.toList] (((w.alloc (.cells X0 t0)).alloc (.cells X1 t1)).alloc (.cells X2 t2)):=((boxS2 w X0 X1 t0 t1).more rfl (by simp) X2 t2).1
theorem Has.grown {W W1:World} {b:Nat} {cs:List Value} {row:Option Nat} (h:Has W b cs) (hg:W.grownBy W1 row) (hne:some b≠row):Has W1 b cs :=
 ⟨Nat.lt_of_lt_of_le h.lt hg.size,fun i v hv=>(World.cell?_of_block (a:=⟨b,i,none⟩) (hg.block b h.lt hne)).trans (h.cell i v hv),fun o=>(World.frozen?_of_block (a:=⟨b,o,none⟩) (hg.block b h.lt hne)).trans (h.fr o)⟩
theorem grown_of_below {W W1:World} (h:Below W.heap.size W W1) (row:Option Nat):W.grownBy W1 row:=⟨h.os,h.tape,h.output,h.size,fun k hk _=>h.block k hk⟩
theorem grown_set (W:World) (p:Addr) (v:Value):W.grownBy (W.setCell p v) (some p.block) :=
 have h:=(Below.refl p.block W).setCell (p:=p) (Nat.le_refl _) v
 ⟨h.os,h.tape,h.output,h.size,fun k hk hne=>by
  have hk2:p.block≠k:=fun e=>hne (by rw [e])
  simp [World.setCell,Array.getElem?_modify,hk2]⟩
structure Ow {α:Type} (f:α→List Value) (sz:Nat) (e:TypeId) (N:Nat) (l:List α) (v:Value) (wr:World):Prop where
 own:wr.ownsRow N e sz v l.length (l.flatMap f)
section
variable {α:Type} {f:α→List Value} {sz:Nat} {e:TypeId} {N:Nat} {l:List α} {v v1:Value} {wr w1:World}
theorem Ow.start (f:α→List Value) (sz:Nat) (e:TypeId) (N:Nat) (w:World):Ow f sz e N [] (.slice none 0 0) w:=⟨World.ownsRow_nil _ _ _ _⟩
theorem Ow.lt (h:Ow f sz e N l v wr) {k:Nat} (hk:v.ownBlock=some k):N<=k∧k<wr.heap.size:=h.own.lt k hk
theorem Ow.grown {row:Option Nat} (h:Ow f sz e N l v wr) (hg:wr.grownBy w1 row) (hne:v.ownBlock=none∨v.ownBlock≠row):Ow f sz e N l v w1:=⟨h.own.kept hg hne⟩
theorem Ow.below (h:Ow f sz e N l v wr) (hb:Below wr.heap.size wr w1):Ow f sz e N l v w1:=h.grown (grown_of_below hb none) (by cases v.ownBlock <;> simp)
theorem Ow.set (h:Ow f sz e N l v wr) (p:Addr) (x:Value) (hp:p.block<N):Ow f sz e N l v (wr.setCell p x):=h.grown (grown_set wr p x) (by
 cases hv:v.ownBlock with
 | none=>exact .inl rfl
 | some k=>refine .inr fun e=>?_;have:=(h.lt hv).1;injection e with e;omega)
theorem Ow.next {x:α} (hown:w1.ownsRow N e sz v1 (l.length+1) (l.flatMap f ++ f x)):Ow f sz e N (l ++ [x]) v1 w1 :=
 ⟨by rw [List.length_append,List.flatMap_append];simpa using hown⟩
theorem Ow.res {n:Nat} (hf:∀ x,(f x).length=sz) (h:Ow f sz e N l v wr) (hl:l.length=n):∃ A c,v=.slice A n c∧Recs f sz wr A n l∧CapOk A n c:=by
 subst hl;have ho:=h.own
 rcases h.own.2 with ⟨rfl,h0⟩ | ⟨g,cap,cur,rfl,_,_,hnc,hm,_⟩
 ·have h1:l=[]:=List.length_eq_zero_iff.1 h0
  subst h1
  exact ⟨none,0,rfl,Recs.nil f sz wr,Nat.le_refl _,Nat.zero_le _,fun _=>rfl⟩
 ·exact ⟨_,_,rfl,Recs.of_own hf rfl ho,hnc,hm,fun h=>by cases h⟩
theorem Ow.ints {n:Nat} {e:TypeId} {N:Nat} {wr:World} {l:List Int} {v:Value} (h:Ow oneI 1 e N l v wr) (hl:l.length=n):∃ A c,v=.slice A n c∧Ints wr A n l∧CapOk A n c:=by
 obtain ⟨A,c,h1,h2,h3⟩:=Ow.res (f:=oneI) (fun _=>rfl) h hl
 exact ⟨A,c,h1,ints_of_recs h2,h3⟩
end
theorem below_grown {B:Nat} {w wr w1:World} {row:Option Nat} (h:Below B w wr) (hB:B<=w.heap.size) (hg:wr.grownBy w1 row) (hr:∀ k,row=some k→B<=k):Below B w w1 :=
 ⟨hg.os.trans h.os,hg.tape.trans h.tape,hg.output.trans h.output,Nat.le_trans h.size hg.size,fun k hk=>(hg.block k (by have:=h.size;omega) (fun e=>by have:=hr k e.symm;omega)).trans (h.block k hk)⟩
section
variable {w W W1:World} {N:Nat} {L:List (List Value)}
theorem BoxS.grown {row:Option Nat} (h:BoxS w N L W) (hg:W.grownBy W1 row) (hr:∀ k,row=some k→w.heap.size+N<=k):BoxS w N L W1 :=
 ⟨fun i cs hi=>(h.has i cs hi).grown hg (by
  intro e
  have h1:=hr _ e.symm;have h2:=(List.getElem?_eq_some_iff.1 hi).1;have h3:=h.len
  omega),h.len,below_grown h.B (Nat.le_refl _) hg (fun k hk=>by have:=hr k hk;omega),Nat.le_trans h.sz hg.size⟩
end
section
variable {α:Type} {f:α→List Value} {sz:Nat} {e:TypeId} {N:Nat} {l:List α} {v:Value} {wr w1:World}
theorem Ow.alloc (h:Ow f sz e N l v wr) (o:Obj):Ow f sz e N l v (wr.alloc o):=h.below (below_alloc1 _ _)
theorem Ow.drew (h:Ow f sz e N l v wr):Ow f sz e N l v wr.drew:=h.below (Below.refl _ _).drew
theorem Ow.own_of {n:Nat} (h:Ow f sz e N l v wr) (hl:l.length=n) (hn:0<n):∃ g cap,v=.slice (some ⟨g,0,none⟩) n cap∧wr.ownsRow N e sz v n (l.flatMap f)∧n<=cap∧cap<=maxLen:=by
 subst hl
 rcases h.own.2 with ⟨h1,h0⟩ | ⟨g,cap,cur,h1,_,_,hnc,hm,_⟩
 ·omega
 ·exact ⟨g,cap,h1,h.own,hnc,hm⟩
end
structure RowRel (w:World) (L:Cs.Wins) (v:Value) (wr:World):Prop where
 s:wr.ownsRow w.heap.size 38 2 v L.length (L.flatMap win)
 bel:Below w.heap.size w wr
theorem RowRel.below {w wr w2:World} {L:Cs.Wins} {v:Value} (h:RowRel w L v wr) (hb:Below wr.heap.size wr w2):RowRel w L v w2:=⟨own_below h.s hb,bel_trans h.bel hb⟩
theorem RowRel.grow {w wr w1:World} {L:Cs.Wins} {v v1:Value} {o:Obj} {q:Int × Int} (h:RowRel w L v wr) (hown:w1.ownsRow w.heap.size 38 2 v1 (L.length+1) (L.flatMap win ++ win q)) (hg:(wr.alloc o).grownBy w1 v.ownBlock):RowRel w (L ++ [q]) v1 w1 :=
 ⟨by rw [flat_snoc,List.length_append];exact hown,(h.bel.alloc h.bel.size _).grown hg (by have:=h.bel.size;simp;omega) (own_block_ge h.s)⟩
theorem Blk0 (w:World) (cs:Array Value) (t:TypeId) (i:Nat):(w.alloc (.cells cs t)).frozen? ⟨w.heap.size,i,none⟩=false:=frozen_of_row _ _ _ _ _ (heap_alloc_new w _)
end Go.Proofs.YtheepmnhpclimaaGreat
namespace Go.Proofs.YtheepmnhpclimaaGreat
open Go.RowKit
open Go.Lib (hid)
def sqV (n:Int):Int:=(Fx.isq n.toNat:Int)
theorem len_any (n:Nat) (h0:0<n) (h1:n<9223372036854775808):∃ k:Nat,1<=k∧k<=63∧n<2 ^ k ∧
    ∀ w,Calls Tryz.prog 226 #[.int .u64 (n:Int)] w fun e w'=>e=.returned (.int .i64 (k:Int))∧w=w':=by
  obtain ⟨b1,b2,b3⟩:=Lib.bitLenAux_bounds 64 n (by omega) (by omega)
  have b0:Lib.bitLenAux 64 n<=63:=by
    rcases Nat.lt_or_ge 63 (Lib.bitLenAux 64 n) with h | h
    · exfalso
      have:2 ^ 63<=2 ^ (Lib.bitLenAux 64 n - 1):=Nat.pow_le_pow_right (by omega) (by omega)
      omega
    · exact h
  refine ⟨_,b1,b0,b3,fun w=>?_⟩
  refine (Tryz.bits_Len64 (n:Int) w (by omega) (by omega)).mono ?_
  rintro e w' ⟨rfl,hw⟩
  refine ⟨?_,hw.symm⟩
  rw [Int.toNat_natCast]
  rfl
def SRel (n:Nat) (v:Value):Prop:=∃ x:Nat,v=.int .i64 x∧0<x∧Fx.isq n<=x∧x<=4294967296
theorem two_pow_le (k:Nat) (h:k<=63):2 ^ ((k+1) / 2)<=4294967296:=by
 have:2 ^ ((k+1) / 2)<=2 ^ 32:=Nat.pow_le_pow_right (by decide) (by omega)
 exact this
set_option maxRecDepth 100000 in
set_option maxHeartbeats 1000000 in
theorem sqrt_pos (n k X:Nat) (h0:(0:Int)<n) (h1:(n:Int)<=9223372036854775807) (hk:k<=63) (w:World) (hX:X<=4294967296) (hX0:0<X) (hX1:Fx.isq n<=X)
    (eX:(2:Int) ^ ((k+1) / 2)=X)
    (hL:∀ w,Calls Tryz.prog 226 #[.int .u64 (n:Int)] w fun e w'=>e=.returned (.int .i64 (k:Int))∧w=w') :
    Calls Tryz.prog 178 #[.int .i64 n] w fun e w'=>e=.returned (.int .i64 (Fx.isq n:Int))∧w=w':=by
  have HL:=hid hL
  have HX:=hid (show SRel n (.int .i64 (wrap64 ((2:Int) ^ ((k+1) / 2)))) from ⟨X,by rw [eX,IntWalk.wrap64_in _ (by omega)],hX0,hX1,hX⟩)
  clear hL eX
  go_enter Tryz.func178,Tryz.ntmps178
  go_wp2_with (go_at_call 226;refine (HL.out _).mono ?_;rintro e w' ⟨rfl,rfl⟩)
  go_loop [3] (fun v=>SRel n v) (fun v=>(intOf v).toNat)
  case atStart=>exact HX.out
  case round =>
    obtain ⟨x,rfl,x0,x1,x2⟩:=hrel
    have hb:=Fx.newton_bound x0 x1
    have hge:=hid (Fx.newton_ge (n:=n) x0)
    have hst:=hid (Fx.newton_stop (n:=n) x0 x1)
    have hz:((x:Int) == 0)=false:=beq_eq_false_iff_ne.2 (by omega)
    obtain ⟨t,ht⟩:∃ t,n / x=t:=⟨_,rfl⟩
    have eT:(n:Int) / (x:Int)=(t:Int):=by rw [← ht];simp
    rw [ht] at hb hge hst
    have HI:=hid x1
    clear ht x1
    have hpos:0<(x+t) / 2:=Nat.lt_of_lt_of_le (Fx.isq_pos (by omega)) hge.out
    by_cases hc:(x:Int)<=((x:Int)+t) / 2
    · have he:=hid (hst.out (by omega))
      go_wp2_with fail
      go_ret
      exact ⟨ret_int (by rw [← he.out]),rfl⟩
    · go_wp2_with fail
      go_round
      case rel=>exact ⟨(x+t) / 2,by congr 1,hpos,hge.out,by omega⟩
      case measure=>simp only [intOf];omega
/-- Sqrt -/
theorem xSqrt (n:Int) (h1:n<=9223372036854775807) (w:World) :
    Calls Tryz.prog 178 #[.int .i64 n] w fun e w'=>e=.returned (.int .i64 (sqV n))∧w=w':=by
  by_cases h0:n<=0
  · have h2:n.toNat=0:=by omega
    have hv:=hid (show sqV n=0 by unfold sqV;rw [h2];rfl)
    clear h2
    go_enter Tryz.func178,Tryz.ntmps178
    go_wp2
    go_ret
    exact ⟨ret_int (by rw [hv.out]),rfl⟩
  · obtain ⟨m,rfl⟩:∃ m:Nat,n=m:=⟨n.toNat,by omega⟩
    obtain ⟨k,k1,k2,k3,hL⟩:=len_any m (by omega) (by omega)
    have e:sqV (m:Int)=(Fx.isq m:Int):=by unfold sqV;rw [Int.toNat_natCast]
    rw [e]
    exact sqrt_pos m k (2 ^ ((k+1) / 2)) (by omega) (by omega) k2 w (two_pow_le k k2) (Nat.two_pow_pos _) (Fx.newton_start k3) (by simp) hL
theorem sqV_bd (n:Int) (h1:n<=9223372036854775807):0<=sqV n∧sqV n<=3037000499∧sqV n * sqV n<=9223372036854775807:=by
 have h:=(Fx.isq_spec n.toNat).1
 have hn:n.toNat<=9223372036854775807:=by omega
 unfold sqV
 generalize Fx.isq n.toNat=r at *
 have hr:r<=3037000499:=by
  rcases Nat.lt_or_ge 3037000499 r with h' | h'
  ·exfalso
   have:=Nat.mul_le_mul (show 3037000500<=r from h') (show 3037000500<=r from h')
   omega
  ·exact h'
 refine ⟨by omega,by omega,?_⟩
 rw [← Int.natCast_mul];omega
end Go.Proofs.YtheepmnhpclimaaGreat
namespace Go.Proofs.YtheepmnhpclimaaGreat
open Go.RowKit
def ptB (x y:Int):Bool:=inB x (-2000000) 2000000 && inB y (-2000000) 2000000
theorem ptB_iff {x y:Int}:ptB x y=true ↔ (-2000000<=x∧x<=2000000)∧(-2000000<=y∧y<=2000000):=by simp [ptB,inB_iff]
theorem Has.setCells_other:∀ (vs:List Value) {W:World} {b:Nat} {cs:List Value} (h:Has W b cs) (c o:Nat) (hc:b≠c),Has (W.setCells c o vs) b cs
 | [],W,b,cs,h,c,o,hc=>h
 | v :: r,W,b,cs,h,c,o,hc=>Has.setCells_other r (h.other c o v hc) c (o+1) hc
theorem below_setCells:∀ (vs:List Value) {B:Nat} {w W:World} (h:Below B w W) (c o:Nat) (hc:B<=c),Below B w (W.setCells c o vs)
 | [],B,w,W,h,c,o,hc=>h
 | v :: r,B,w,W,h,c,o,hc=>below_setCells r (h.setCell (p:=⟨c,o,none⟩) hc v) c (o+1) hc
theorem fr_setCells:∀ (vs:List Value) (W:World) (c o:Nat) (a:Addr),(W.setCells c o vs).frozen? a=W.frozen? a
 | [],W,c,o,a=>rfl
 | v :: r,W,c,o,a=>(fr_setCells r (W.setCell ⟨c,o,none⟩ v) c (o+1) a).trans (World.frozen?_setCell _ _ _ _)
theorem size_setCells:∀ (vs:List Value) (W:World) (c o:Nat),(W.setCells c o vs).heap.size=W.heap.size
 | [],W,c,o=>rfl
 | v :: r,W,c,o=>(size_setCells r (W.setCell ⟨c,o,none⟩ v) c (o+1)).trans (by simp [World.setCell])
theorem Has.there {W:World} {b:Nat} {cs:List Value} (h:Has W b cs) {n:Nat} (hn:cs.length=n):W.there b 0 n:=fun j hj=>by
 rw [Nat.zero_add]
 exact ⟨by rw [h.cell j _ (List.getElem?_eq_getElem (by omega))];rfl,h.fr j⟩
theorem Has.setCells_same {W:World} {b:Nat} {cs vs:List Value} (h:Has W b cs) (hl:cs.length=vs.length):Has (W.setCells b 0 vs) b vs :=
 ⟨by rw [size_setCells];exact h.lt,fun i v hv=>by
  have hi:=(List.getElem?_eq_some_iff.1 hv).1;have k:=World.cell?_setCells_in b vs 0 W (fun j hj=>(h.there hl j hj).1) i hi
  rw [Nat.zero_add] at k
  rw [k,← hv,List.getElem?_eq_getElem hi],fun o=>by rw [fr_setCells];exact h.fr o⟩
def Named (w:World) (R:World→Prop):Prop:=∀ W,W=w→R W
theorem Named.mk {w:World} {R:World→Prop} (h:∀ W,W=w→R W):Named w R:=h
theorem store_named {P:Program} {ops:Array Oper} {rest:List Oper} {op:Oper} {a:Act} {w:World} {Q:Exit→Act→World→Prop} (ty:TypeId) (x y:Operand) (hgd:op.guard=none) (ho:op.op=.store ty x y)
  (b:Nat) (cells:Array Value) (hx:a.eval x=.pointer (some ⟨b,0,none⟩)) (hy:a.eval y=.agg cells) (hi:(P.info? ty).map (·.size)=some cells.size) (h1:cells.all (·.oneCell')=true)
  (h:Named w fun W=>W.there b 0 cells.size∧Named (W.setCells b 0 cells.toList) fun W2=>wpList P ops Q rest (a.put op.dst undef) W2):wpList P ops Q (op :: rest) a w :=
 wpList_store_mid hgd ty x y ho b 0 cells hx hy (h w rfl).1 hi h1 ((h w rfl).2 _ rfl)
theorem build_named {P:Program} {ops:Array Oper} {rest:List Oper} {op:Oper} {a:Act} {w:World} {Q:Exit→Act→World→Prop} (t:TypeId) (len:Nat) (parts:Array (Nat × Operand)) (hgd:op.guard=none) (ho:op.op=.buildSlice t len parts)
  (b:Nat) (hb:w.heap.size=b) (cells:Array Value) (e:TypeId) (hr:∀ W:World,(Instr.buildSlice t len (parts.map fun (i,x)=>(i,a.eval x))).run P W=.ok (.slice (some ⟨W.heap.size,0,none⟩) len len) (W.alloc (.cells cells e)))
  (h:Named (w.alloc (.cells cells e)) fun W=>wpList P ops Q rest (a.put op.dst (.slice (some ⟨b,0,none⟩) len len)) W):wpList P ops Q (op :: rest) a w :=
 wpList_plain hgd fun K hK=>by
  unfold Oper.wp execOp
  simp only [ho,Sem.run_bind,hr w,Result.andThen_ok,Sem.run_pure]
  subst hb
  exact hK _ _ (h _ rfl)
theorem res_cell1 {P:Program} {fn:Func} {t:Tmp} {ty:TypeId} (h:fn.results=#[.cell t ty]) (tmps:Array Value) (W:World) (b:Nat) (cs:List Value) (d:TypeDesc) (hp:tmps[t]?.getD undef=.pointer (some ⟨b,0,none⟩)) (hc:W.rangeAt b 0 cs) (hu:P.underlying ty=some d) (hd:d.isRow=true) (hi:(P.info? ty).map (·.size)=some cs.length) :
  (results fn tmps).run P W=.ok (.agg cs.toArray) W:=by
 have k:=run_loadVar_mid (P:=P) W b 0 ty cs d hc hu hd hi
 have e:(asAddr (.pointer (some ⟨b,0,none⟩))).run P W=.ok ⟨b,0,none⟩ W:=by simp [asAddr]
 simp [results,h,hp,Sem.run_bind,k,e]
def allocs:World→List (Array Value × TypeId)→World
 | w,[]=>w
 | w,x :: r=>allocs (w.alloc (.cells x.1 x.2)) r
theorem ints_has {W:World} {b:Nat} {cs:List Value} {xs:List Int} {n:Nat} (h:Has W b cs) (hc:cs=xs.map fun v=>vI v) (hn:xs.length=n):Ints W (some ⟨b,0,none⟩) n xs :=
 ⟨hn,fun _=>⟨b,0,rfl,h.lt,fun k v hk=>by
  rw [Nat.zero_add]
  exact h.cell k _ (by rw [hc,List.getElem?_map,hk];rfl)⟩⟩
theorem recs_has {α:Type} {f:α→List Value} {sz:Nat} (hf:∀ x,(f x).length=sz) {W:World} {b:Nat} {cs:List Value} {xs:List α} {n:Nat} (h:Has W b cs) (hc:cs=xs.flatMap f) (hn:xs.length=n):Recs f sz W (some ⟨b,0,none⟩) n xs :=
 ⟨hn,fun _=>⟨b,0,rfl,h.lt,fun k x hk j v hv=>by
  rw [Nat.zero_add]
  exact h.cell _ _ (by rw [hc];exact flatMap_get hf hv xs k hk)⟩⟩
end Go.Proofs.YtheepmnhpclimaaGreat
namespace Go.Proofs.YtheepmnhpclimaaGreat
open Tr
def shf (n:Int):Int:=(n+524288) / 1048576
theorem shf_mono {a b:Int} (h:a<=b):shf a<=shf b:=by unfold shf;omega
def wiB (e n:Int):Bool:=inB e (-400) 400 && inB n (-400) 400
def alV (co e n:Int):Int:=shf (e * sinV co+n * cosV co)
def acV (co e n:Int):Int:=shf (e * cosV co - n * sinV co)
theorem mul_bd {a x A X:Int} (h0 : -A<=a∧a<=A) (h1 : -X<=x∧x<=X) : -(A * X)<=a * x∧a * x<=A * X:=by
 have hA:0<=A:=by omega
 have hX:0<=X:=by omega
 constructor
 ·rcases Int.le_total 0 a with h | h
  ·have g1:=Int.mul_le_mul_of_nonneg_left h1.1 h
   have g2:=Int.mul_le_mul_of_nonneg_right h0.2 hX
   rw [Int.mul_neg] at g1
   omega
  ·have g1:=Int.mul_le_mul_of_nonpos_left h h1.2
   have g2:=Int.mul_le_mul_of_nonneg_right h0.1 hX
   rw [Int.neg_mul] at g2
   omega
 ·rcases Int.le_total 0 a with h | h
  ·have g1:=Int.mul_le_mul_of_nonneg_left h1.2 h
   have g2:=Int.mul_le_mul_of_nonneg_right h0.2 hX
   omega
  ·have g1:=Int.mul_le_mul_of_nonpos_left h h1.1
   have g2:=Int.mul_le_mul_of_nonneg_right h0.1 hX
   rw [Int.mul_neg] at g1
   rw [Int.neg_mul] at g2
   omega
theorem al_bd' {co e n:Int} (h:wiB e n=true):(-819200<=alV co e n∧alV co e n<=819200) ∧ -819200<=acV co e n∧acV co e n<=819200:=by
 unfold wiB at h
 rw [Bool.and_eq_true,inB_iff,inB_iff] at h
 have s:=sinV_bd co;have c:=cosV_bd co;have a1:=mul_bd (A:=400) (X:=1073741824) h.1 s;have a2:=mul_bd (A:=400) (X:=1073741824) h.2 c;have a3:=mul_bd (A:=400) (X:=1073741824) h.1 c;have a4:=mul_bd (A:=400) (X:=1073741824) h.2 s
 unfold alV acV shf
 generalize e * sinV co=p1 at *;generalize n * cosV co=p2 at *;generalize e * cosV co=p3 at *;generalize n * sinV co=p4 at *
 omega
end Go.Proofs.YtheepmnhpclimaaGreat
