/- M1: Ang, AtVal, AtFns, BlPlain, Bxs, Two, Bxg, CsAllR, CsConfR, FxRoot, SimPlain, Stw, WiP in one text. -/
import Derived.Test.YtedcanagfajcgaaGreatM53
import Derived.Deep.RegionHeld3
import Derived.Test.YtedcanagfajcgaaGreatM11
set_option linter.unusedSimpArgs false
set_option linter.unusedVariables false
set_option maxRecDepth 100000
set_option maxHeartbeats 4000000
namespace Go.Proofs
theorem Aad{G:Prop}(h:G:=by
  go_wp2_with fail
  refine (HB.out _).mono ?_;rintro e w1 ⟨rfl,rfl⟩
  go_wp2_with fail
  refine (HA.out _).mono ?_;rintro e w2 ⟨rfl,rfl⟩
  go_wp2_with fail
  refine (HC.out _).mono ?_;rintro e w3 ⟨rfl,rfl⟩
  go_wp2_with fail
  go_ret
  exact ⟨Af hv.out.symm,rfl⟩):G:=h
theorem AeU{G:Prop}(h:G:=by
  go_wp2_with fail
  refine (HC.out _).mono ?_;rintro e w3 ⟨rfl,rfl⟩
  go_wp2_with fail
  go_ret
  exact ⟨Af hv.out.symm,rfl⟩):G:=h
theorem AeV{G:Prop}(h:G:=by
  go_wp2_with fail
  go_region
  all_goals (go_wp2_with fail)
  all_goals (refine (H.out _).mono ?_;rintro e w' ⟨rfl,q,rfl⟩)
  all_goals (go_wp2_with fail)
  all_goals go_ret
  all_goals (exact ⟨Af (by rw [hv.out,hend.out]),Ag (((AJ _ _).alloc (Bn _) _).alloc (by simp) _) _⟩)):G:=h
theorem AeW{G:Prop}(h:G:=by
  go_enter Tryz.func154,Tryz.ntmps154
  go_wp2
  go_ret
  exact ⟨Af HT1.out,rfl⟩):G:=h
theorem AeX{G:Prop}(h:G:=by
  go_enter Tryz.func221,Tryz.ntmps221
  go_wp2
  go_ret
  exact ⟨rfl,rfl⟩):G:=h
theorem AeY{G:Prop}(h:G:=by
  go_enter Tryz.func211,Tryz.ntmps211
  go_wp2
  go_ret
  exact ⟨Af HT1.out,rfl⟩):G:=h
end Go.Proofs
namespace Go.Proofs.YtedcanagfajcgaaGreat
open Go.RowKit
open Go.Lib (hid)
def nrm (a:Int):Int:=a % 129600000
theorem Dh (a:Int):0<=nrm a∧nrm a<129600000:=by unfold nrm;omega
theorem S9 (a:Int):I64 (nrm a):=by have:=Dh a;exact ⟨by omega,by omega⟩
def EH (a b:Int):Int:=nrm (nrm a+nrm b)
def Mf (f t:Int):Int:=if 64800000<nrm (nrm t - nrm f) then nrm (nrm t - nrm f) - 129600000 else nrm (nrm t - nrm f)
theorem Ji (a:Int) (ha:I64 a) (w:World):Calls Tryz.prog 211 #[.int .i64 a] w fun e w'=>e=.returned (.int .i64 (nrm a))∧w=w':=by
 have ht:=hid (Lp a 129600000 (by decide));have hlo:=(EG a 129600000 (by decide)).1;have hhi:=(EG a 129600000 (by decide)).2;obtain ⟨a0,a1⟩:=ha
 by_cases hn:a.tmod 129600000<0
 ·have HT1:=hid (ht.out.1 hn)
  exact AeY
 ·have HT1:=hid (ht.out.2 hn)
  exact AeY
theorem AeS (a b:Int) (ha:I64 a) (hb:I64 b) (w:World):Calls Tryz.prog 224 #[.int .i64 a,.int .i64 b] w fun e w'=>e=.returned (.int .i64 (EH a b))∧w=w':=by
 have HA:=hid (Ji a ha);have HB:=hid (Ji b hb);have na:=Dh a;have nb:=Dh b;have HC:=hid (Ji (nrm a+nrm b) ⟨by omega,by omega⟩);have hv:=hid (show EH a b=nrm (nrm a+nrm b) from rfl);clear ha hb;generalize nrm a=x at *;generalize nrm b=y at *;obtain ⟨na0,na1⟩:=na;obtain ⟨nb0,nb1⟩:=nb
 go_enter Tryz.func224,Tryz.ntmps224
 go_wp2_with fail
 refine (HA.out _).mono ?_;rintro e w1 ⟨rfl,rfl⟩
 go_wp2_with fail
 refine (HB.out _).mono ?_;rintro e w2 ⟨rfl,rfl⟩
 exact AeU
theorem AeH (a b:Int) (ha:I64 a) (hb:I64 b) (w:World):Calls Tryz.prog 172 #[.int .i64 a,.int .i64 b] w fun e w'=>e=.returned (.int .i64 (Mf a b))∧w=w':=by
 have HA:=hid (Ji a ha);have HB:=hid (Ji b hb);have na:=Dh a;have nb:=Dh b;have HC:=hid (Ji (nrm b - nrm a) ⟨by omega,by omega⟩)
 have hv:=hid (show Mf a b=if 64800000<nrm (nrm b - nrm a) then nrm (nrm b - nrm a) - 129600000 else nrm (nrm b - nrm a) from rfl)
 clear ha hb;generalize nrm a=x at *;generalize nrm b=y at *;have nc:=Dh (y - x);generalize nrm (y - x)=z at *;obtain ⟨na0,na1⟩:=na;obtain ⟨nb0,nb1⟩:=nb;obtain ⟨nc0,nc1⟩:=nc
 by_cases hz:64800000<z
 ·rw [if_pos hz] at hv
  go_enter Tryz.func172,Tryz.ntmps172
  exact Aad
 ·rw [if_neg hz] at hv
  go_enter Tryz.func172,Tryz.ntmps172
  exact Aad
theorem IZ (a:Int) (ha:I64 a) (w:World):Calls Tryz.prog 154 #[.int .i64 a] w fun e w'=>e=.returned (.int .i64 (nrm a))∧w=w':=by
 have ht:=hid (Lp a 129600000 (by decide));have hlo:=(EG a 129600000 (by decide)).1;have hhi:=(EG a 129600000 (by decide)).2;obtain ⟨a0,a1⟩:=ha
 by_cases hn:a.tmod 129600000<0
 ·have HT1:=hid (ht.out.1 hn)
  exact AeW
 ·have HT1:=hid (ht.out.2 hn)
  exact AeW
theorem Aeu (a b:Int) (ha:I64 a) (hb:I64 b) (w:World):Calls Tryz.prog 204 #[.int .i64 a,.int .i64 b] w fun e w'=>e=.returned (.int .i64 (EH a b))∧w=w':=by
 have HA:=hid (IZ a ha);have HB:=hid (IZ b hb);have na:=Dh a;have nb:=Dh b;have HC:=hid (IZ (nrm a+nrm b) ⟨by omega,by omega⟩);have hv:=hid (show EH a b=nrm (nrm a+nrm b) from rfl);clear ha hb;generalize nrm a=x at *;generalize nrm b=y at *;obtain ⟨na0,na1⟩:=na;obtain ⟨nb0,nb1⟩:=nb
 go_enter Tryz.func204,Tryz.ntmps204
 go_wp2_with fail
 refine (HA.out _).mono ?_;rintro e w1 ⟨rfl,rfl⟩
 go_wp2_with fail
 refine (HB.out _).mono ?_;rintro e w2 ⟨rfl,rfl⟩
 exact AeU
theorem Aem (a b:Int) (ha:I64 a) (hb:I64 b) (w:World):Calls Tryz.prog 88 #[.int .i64 a,.int .i64 b] w fun e w'=>e=.returned (.int .i64 (Mf a b))∧w=w':=by
 have HA:=hid (IZ a ha);have HB:=hid (IZ b hb);have na:=Dh a;have nb:=Dh b;have HC:=hid (IZ (nrm b - nrm a) ⟨by omega,by omega⟩)
 have hv:=hid (show Mf a b=if 64800000<nrm (nrm b - nrm a) then nrm (nrm b - nrm a) - 129600000 else nrm (nrm b - nrm a) from rfl)
 clear ha hb;generalize nrm a=x at *;generalize nrm b=y at *;have nc:=Dh (y - x);generalize nrm (y - x)=z at *;obtain ⟨na0,na1⟩:=na;obtain ⟨nb0,nb1⟩:=nb;obtain ⟨nc0,nc1⟩:=nc
 by_cases hz:64800000<z
 ·rw [if_pos hz] at hv
  go_enter Tryz.func88,Tryz.ntmps88
  exact Aad
 ·rw [if_neg hz] at hv
  go_enter Tryz.func88,Tryz.ntmps88
  exact Aad
theorem AdM {F:FuncId} {args:Array Value} {w:World} {k l:IntKind} {X Y V E:Int} {R:World→Prop} (h:Calls Tryz.prog F args w fun e w'=>e=.returned (.tuple #[.int k X,.int l Y])∧R w') (hx:X=V) (hy:Y=E) :
  Calls Tryz.prog F args w fun e w'=>e=.returned (.tuple #[.int k V,.int l E])∧R w':=by subst hx hy;exact h
theorem Sc (X Y:Int) (h1 : -4611686018427387904<=X) (h2:X<=4611686018427387904) (hY:0<Y):Fx.scV 0 X 1 Y=X / Y∧Fx.scE 0 X 1 Y=0 ∧ -4611686018427387904<=X / Y∧X / Y<=4611686018427387904:=by
 have e:Fx.rqz 0 (X * 1) Y=X / Y:=by unfold Fx.rqz Fx.rq;rw [if_neg (by omega),if_pos rfl,Int.mul_one]
 have b1 : -4611686018427387904<=X / Y:=by
  rw [Int.le_ediv_iff_mul_le hY]
  have:(-4611686018427387904) * Y<=(-4611686018427387904) * 1:=Int.mul_le_mul_of_nonpos_left (by omega) (by omega)
  omega
 have b2:X / Y<=4611686018427387904:=by
  have:X / Y<4611686018427387904+1:=by
   rw [Int.ediv_lt_iff_lt_mul hY]
   have:(4611686018427387904+1) * 1<=(4611686018427387904+1) * Y:=Ef (by omega) (by omega)
   omega
  omega
 have hr:Fx.inR (X / Y):=by unfold Fx.inR;omega
 rw [Fx.scV_eq 0 X 1 Y (by omega),Fx.scE_eq 0 X 1 Y (by omega),e,if_pos hr,if_pos hr]
 exact ⟨rfl,rfl,b1,b2⟩
structure TabAt (w:World) (b off:Nat) (L:List (Int × Int)):Prop where
 lt:b<w.heap.size
 cells:∀ k r,L[k]? = some r→w.cell? ⟨b,off+k * 2,none⟩=some (vI r.1)∧w.cell? ⟨b,off+k * 2+1,none⟩=some (vI r.2)
theorem TabAt.below {w w':World} {b off:Nat} {L:List (Int × Int)} (h:TabAt w b off L) (hb:Below w.heap.size w w'):TabAt w' b off L :=
 ⟨Nat.lt_of_lt_of_le h.lt hb.size,fun k r hr=>⟨(hb.cell (p:=⟨b,_,none⟩) h.lt).trans (h.cells k r hr).1,(hb.cell (p:=⟨b,_,none⟩) h.lt).trans (h.cells k r hr).2⟩⟩
def LU (L:List (Int × Int)):Prop:=2<=L.length∧L.length<=100∧(∀ r ∈ L,-100000<=r.1∧r.1<=100000 ∧ -4000000<=r.2∧r.2<=4000000)∧∀ k r s,L[k]? = some r→L[k+1]? = some s→r.1<s.1
theorem NR {x y:Int} (hx : -8000000<=x∧x<=8000000) (hy : -100000000<=y∧y<=100000000) : -800000000000000<=x * y∧x * y<=800000000000000:=by
 have h1:x * y<=(x.natAbs * y.natAbs:Nat):=by rw [← Int.natAbs_mul];omega
 have h2 : -(x * y)<=(x.natAbs * y.natAbs:Nat):=by rw [← Int.natAbs_mul];omega
 have h3:x.natAbs * y.natAbs<=8000000 * 100000000:=Nat.mul_le_mul (by omega) (by omega)
 omega
def Afd (L:List (Int × Int)) (alt:Int) (v:Value):Prop:=∃ m:Nat,v=vI ((m:Int)+1)∧m+2<=L.length∧∀ j,1<=j→j<=m→∀ r,L[j]? = some r→r.1 * 100<alt
theorem MF (b off n cp:Nat) (L:List (Int × Int)) (alt:Int) (w:World) (hn:n=L.length) (hok:LU L) (hT:TabAt w b off L) (ha0 : -200000<=alt) (ha1:alt<=6000000) :
  Calls Tryz.prog 190 #[.slice (some ⟨b,off,none⟩) n cp,vI alt] w fun e w'=>e=.returned (vI (At.tv L alt))∧Below w.heap.size w w':=by
 obtain ⟨o1,o2,o3,o4⟩:=hok;have hb:=hT.lt;have HT:=hid hT;have O3:=hid o3;have O4:=hid o4
 rw [← hn] at o1 o2
 have HN:=hid hn;clear hT o3 o4 hn
 go_enter Tryz.func190,Tryz.ntmps190
 go_wp2_with fail
 go_loop [5] (fun v=>Afd L alt v) (fun v=>n - (intOf v).toNat)
 case atStart=>exact ⟨0,rfl,by rw [← HN.out];omega,fun j j1 j2=>by omega⟩
 case round =>
  obtain ⟨m,rfl,hm,hlow⟩:=hrel
  rw [← HN.out] at hm
  have HL:=hid hlow;clear hlow;obtain ⟨⟨f0,v0⟩,e0⟩:∃ r,L[m]? = some r:=⟨_,AQ (by have:=HN.out;omega)⟩;obtain ⟨⟨f1,v1⟩,e1⟩:∃ r,L[m+1]? = some r:=⟨_,AQ (by have:=HN.out;omega)⟩;have B0:=O3.out _ (Au e0);have B1:=O3.out _ (Au e1);have hlt:f0<f1:=O4.out m _ _ e0 e1;obtain ⟨hc0,hc1⟩:=HT.out.cells m _ e0;obtain ⟨hd0,hd1⟩:=HT.out.cells (m+1) _ e1
  simp only at hc0 hc1 hd0 hd1 B0 B1
  obtain ⟨a1,a2,a3,a4⟩:=B0;obtain ⟨b1,b2,b3,b4⟩:=B1;have E0:=hid e0;have E1:=hid e1;clear e0 e1
  by_cases hgo:(m:Int)+1<n - 1∧f1 * 100<alt
  ·obtain ⟨g1,g2⟩:=hgo
   go_wp2_with fail
   go_round
   case rel =>
    refine ⟨m+1,by congr 1,by have:=HN.out;omega,fun j j1 j2 r hr=>?_⟩
    rcases Nat.lt_or_ge m j with h | h
    ·have hj:j=m+1:=by omega
     subst hj
     rw [E1.out] at hr
     obtain rfl:=Option.some.inj hr
     exact g2
    ·exact HL.out j j1 h r hr
   case measure=>exact zMs
  ·have hv:=hid (At.tv_at L m _ _ alt E0.out E1.out HL.out (by
    by_cases g:(m:Int)+1<n - 1
    ·exact .inr (by show alt<=f1 * 100;have:¬ f1 * 100<alt:=fun h=>hgo ⟨g,h⟩;omega)
    ·exact .inl (by have:=HN.out;omega)))
   have hp:=NR (x:=v1 - v0) (y:=alt - f0 * 100) (by omega) (by omega);obtain ⟨X,hX⟩:∃ X,(v1 - v0) * (alt - f0 * 100)=X:=⟨_,rfl⟩
   rw [hX] at hp
   obtain ⟨p1,p2⟩:=hp;obtain ⟨c1,c2,c3,c4⟩:=Sc X ((f1 - f0) * 100) (by omega) (by omega) (by omega);have H:=hid (fun w=>AdM (xFloor X ((f1 - f0) * 100) ⟨by omega,by omega⟩ ⟨by omega,by omega⟩ w) c1 c2);have hend:=hid (show At.interp (f0,v0) (f1,v1) alt=v0+X / ((f1 - f0) * 100) by unfold At.interp;rw [hX]);have n0:=World.new_ne w _ hc0;have n1:=World.new_ne w _ hc1;have n2:=World.new_ne w _ hd0;have n3:=World.new_ne w _ hd1;have xb : -4611686018427387904<=X / ((f1 - f0) * 100)∧X / ((f1 - f0) * 100)<=4611686018427387904:=⟨c3,c4⟩;have hwX:IntKind.i64.wrap X=X:=iW _;clear c1 c2 c3 c4;generalize X / ((f1 - f0) * 100)=Z at *;obtain ⟨z1,z2⟩:=xb
   by_cases g1:(m:Int)+1<n - 1
   ·have g2:¬ f1 * 100<alt:=fun h=>hgo ⟨g1,h⟩
    clear hgo
    exact AeV
   ·clear hgo
    exact AeV
def VM:List (Int × Int)→List Value
 | []=>[]
 | r :: t=>vI r.1 :: vI r.2 :: VM t
theorem OT:∀ (L:List (Int × Int)) (k:Nat) (r:Int × Int),L[k]? = some r→(VM L)[k * 2]? = some (vI r.1)∧(VM L)[k * 2+1]? = some (vI r.2)
 | [],k,r,h=>by simp at h
 | x :: t,0,r,h=>by simp at h;subst h;exact ⟨rfl,rfl⟩
 | x :: t,k+1,r,h=>by
  have h2:=OT t k r (by simpa using h)
  rw [show (k+1) * 2=k * 2+1+1 from by omega,show k * 2+1+1+1=(k * 2+1)+1+1 from rfl]
  simpa [VM] using h2
theorem MC (w:World) (L:List (Int × Int)) (cs:Array Value) (t:TypeId) (h:cs.toList=VM L):TabAt (w.alloc (.cells cs t)) w.heap.size 0 L:=by
 refine ⟨by simp,fun k r hr=>?_⟩
 obtain ⟨h1,h2⟩:=OT L k r hr
 rw [← h,Array.getElem?_toList] at h1 h2
 rw [World.cell?_alloc_new,World.cell?_alloc_new,Nat.zero_add]
 exact ⟨h1,h2⟩
def N9:List (Int × Int)→Bool
 | a :: b :: t=>decide (a.1<b.1) && N9 (b :: t)
 | _=>true
theorem Pz:∀ (L:List (Int × Int)),N9 L=true→∀ k r s,L[k]? = some r→L[k+1]? = some s→r.1<s.1
 | [],_,k,r,s,h,_=>by simp at h
 | [x],_,k,r,s,_,h=>by simp at h
 | x :: y :: t,hB,k,r,s,h,h'=>by
  simp only [N9,Bool.and_eq_true,decide_eq_true_eq] at hB
  cases k with
  | zero=>simp at h h';subst h h';exact hB.1
  | succ k=>exact Pz (y :: t) hB.2 k r s (by simpa using h) (by simpa using h')
def AcR (L:List (Int × Int)):Bool:=L.all fun r=>decide (-100000<=r.1) && decide (r.1<=100000) && decide (-4000000<=r.2) && decide (r.2<=4000000)
theorem Lj (L:List (Int × Int)) (h1:2<=L.length) (h2:L.length<=100) (h3:AcR L=true) (h4:N9 L=true):LU L:=by
 refine ⟨h1,h2,fun r hr=>?_,Pz L h4⟩
 have:=List.all_eq_true.1 h3 r hr
 simp only [Bool.and_eq_true,decide_eq_true_eq] at this
 exact ⟨this.1.1.1,this.1.1.2,this.1.2,this.2⟩
theorem okP:LU At.tabP:=Lj _ (by decide) (by decide) (by decide) (by decide)
theorem okR:LU At.tabR:=Lj _ (by decide) (by decide) (by decide) (by decide)
theorem okT:LU At.tabT:=Lj _ (by decide) (by decide) (by decide) (by decide)
def XE (w:World) (e:Ending) (w':World):Prop:=∃ b,e=.returned (.slice (some ⟨b,0,none⟩) 14 14)∧TabAt w' b 0 At.tabR∧Below w.heap.size w w'
theorem XF (w:World):Calls Tryz.prog 191 #[] w (XE w):=by
 go_enter Tryz.func191,Tryz.ntmps191
 go_wp2
 go_ret
 exact ⟨w.heap.size,rfl,MC w At.tabR _ _ (by rfl),(AJ _ _).alloc (Bn _) _⟩
def XG (w:World) (e:Ending) (w':World):Prop:=∃ b,e=.returned (.slice (some ⟨b,0,none⟩) 4 4)∧TabAt w' b 0 At.tabT∧Below w.heap.size w w'
theorem XH (w:World):Calls Tryz.prog 222 #[] w (XG w):=by
 go_enter Tryz.func222,Tryz.ntmps222
 go_wp2
 go_ret
 exact ⟨w.heap.size,rfl,MC w At.tabT _ _ (by rfl),(AJ _ _).alloc (Bn _) _⟩
theorem Pk (alt:Int) (h:alt < -200000∨6000000<alt) (w:World):Calls Tryz.prog 221 #[vI alt] w fun e w'=>e=.returned (.bool true)∧w=w':=by
 rcases h with h | h
 ·go_enter Tryz.func221,Tryz.ntmps221
  go_wp2
  go_ret
  exact ⟨rfl,rfl⟩
 ·have h':¬ alt < -200000:=by omega
  exact AeX
theorem QI (alt:Int) (h0 : -200000<=alt) (h1:alt<=6000000) (w:World):Calls Tryz.prog 221 #[vI alt] w fun e w'=>e=.returned (.bool false)∧w=w':=by
 have p1:¬ alt < -200000:=by omega
 have p2:¬ 6000000<alt:=by omega
 exact AeX
def Ed (alt:Int):Prop := -200000<=alt∧alt<=6000000
instance (alt:Int):Decidable (Ed alt):=by unfold Ed;infer_instance
end Go.Proofs.YtedcanagfajcgaaGreat
namespace Go.Proofs.Cs
open Pf (inB)
def lowF (ws:Wins) (wish:List Int) (k:Nat):Nat→Int × Int:=fun j=>if j<k then (lo ws j,min (hi ws j) (wish.getD j 0)) else (lo ws j,hi ws j)
def lowL (ws:Wins) (wish:List Int):Wins:=(List.range ws.length).map (lowF ws wish ws.length)
theorem lowF_zero {ws:Wins} {wish:List Int} (j:Nat):ws.getD j (0,0)=lowF ws wish 0 j:=by unfold lowF lo hi;rw [if_neg (by omega)]
theorem lowF_cells {ws:Wins} {wish:List Int} (k:Nat):lowF ws wish k k=(lo ws k,hi ws k):=by unfold lowF;rw [if_neg (by omega)]
theorem lowL_len (ws:Wins) (wish:List Int):(lowL ws wish).length=ws.length:=by simp [lowL]
def belE (ws st:Wins) (wish:List Int):Int:=if chkE ws st≠0 then chkE ws st else if wish.length≠ws.length then 1 else if ∀ x ∈ wish,inB x then tgE (lowL ws wish) st else 2
theorem belE_chk {ws st:Wins} {wish:List Int} (h:chkE ws st≠0):belE ws st wish=chkE ws st:=by unfold belE;rw [if_pos h]
theorem belE_len {ws st:Wins} {wish:List Int} (h:chkE ws st=0) (h2:wish.length≠ws.length):belE ws st wish=1:=by unfold belE;rw [if_neg (by omega),if_pos h2]
theorem belE_rng {ws st:Wins} {wish:List Int} (h:chkE ws st=0) (h2:wish.length=ws.length) {x:Int} (hx:x ∈ wish) (h3:¬ inB x):belE ws st wish=2:=by unfold belE;rw [if_neg (by omega),if_neg (by omega),if_neg (fun k=>h3 (k x hx))]
theorem belE_ok {ws st:Wins} {wish:List Int} (h:chkE ws st=0) (h2:wish.length=ws.length) (h3:∀ x ∈ wish,inB x):belE ws st wish=tgE (lowL ws wish) st:=by unfold belE;rw [if_neg (by omega),if_neg (by omega),if_pos h3]
end Go.Proofs.Cs
namespace Go.Proofs.YtedcanagfajcgaaGreat
open Go.RowKit
structure BoxS (w:World) (N:Nat) (L:List (List Value)) (W:World):Prop where
 has:∀ (i:Nat) (cs:List Value),L[i]? = some cs→Has W (w.heap.size+i) cs
 len:L.length<=N
 B:Below w.heap.size w W
 sz:w.heap.size+N<=W.heap.size
section
variable {w W W1:World} {N:Nat} {L:List (List Value)}
theorem BoxS.below (h:BoxS w N L W) (hb:Below W.heap.size W W1):BoxS w N L W1:=⟨fun i cs hi=>(h.has i cs hi).below hb,h.len,Ae h.B hb,Nat.le_trans h.sz hb.size⟩
theorem BoxS.drew (h:BoxS w N L W):BoxS w N L W.drew:=h.below (AJ _ _).drew
theorem BoxS.drewN (h:BoxS w N L W) (n:Nat):BoxS w N L (W.drewN n):=h.below (Ag (AJ _ _) n)
theorem BoxS.alloc (h:BoxS w N L W) (o:Obj):BoxS w N L (W.alloc o):=h.below (Aa _ _)
theorem BoxS.set (h:BoxS w N L W) (b i:Nat) (hb:w.heap.size+N<=b) (v:Value):BoxS w N L (W.setCell ⟨b,i,none⟩ v) :=
 ⟨fun j cs hj=>(h.has j cs hj).other b i v (by have:=(List.getElem?_eq_some_iff.1 hj).1;have:=h.len;omega),h.len,h.B.setCell (p:=⟨b,i,none⟩) (by show w.heap.size<=b;omega) _,by simpa [World.setCell] using h.sz⟩
theorem BoxS.at (h:BoxS w N L W) (i:Nat) (cs:List Value) (hi:L[i]? = some cs) (j:Nat) (v:Value) (hj:cs[j]? = some v):W.cell? ⟨w.heap.size+i,j,none⟩=some v:=(h.has i cs hi).cell j v hj
theorem BoxS.fr (h:BoxS w N L W) (i:Nat) (cs:List Value) (hi:L[i]? = some cs) (o:Nat):W.frozen? ⟨w.heap.size+i,o,none⟩=false:=(h.has i cs hi).fr o
end
theorem DR (w:World) (X0:Array Value) (t0:TypeId):BoxS w 1 [X0.toList] (w.alloc (.cells X0 t0)) :=
 ⟨fun i cs hi=>by
  match i,hi with
  | 0,hi=>injection hi with hi;subst hi;exact Has.new w _ _
  | i+1,hi=>simp at hi,by simp,Aa _ _,by simp⟩
theorem BoxS.more {w W:World} {N:Nat} {L:List (List Value)} (h:BoxS w N L W) (hN:L.length=N) (hW:W.heap.size=w.heap.size+N) (X:Array Value) (t:TypeId):BoxS w (N+1) (L ++ [X.toList]) (W.alloc (.cells X t))∧(W.alloc (.cells X t)).heap.size=w.heap.size+(N+1):=by
 refine ⟨⟨fun i cs hi=>?_,by simp;omega,h.B.alloc (by omega) _,by simp;omega⟩,by simp;omega⟩
 by_cases e:i<L.length
 ·rw [List.getElem?_append_left e] at hi
  exact (h.has i cs hi).alloc _
 ·rw [List.getElem?_append_right (by omega)] at hi
  match hk:i - L.length,hi with
  | 0,hi =>
   injection hi with hi
   subst hi
   exact Has.newAt W X t _ (by omega)
  | k+1,hi=>simp at hi
theorem Dt (w:World) (X0 X1:Array Value) (t0 t1:TypeId):BoxS w 2 [X0.toList,X1.toList] ((w.alloc (.cells X0 t0)).alloc (.cells X1 t1)):=((DR w X0 t0).more rfl (by simp) X1 t1).1
theorem OH (w:World) (X0 X1 X2:Array Value) (t0 t1 t2:TypeId):BoxS w 3 [X0.toList,X1.toList,X2.toList] (((w.alloc (.cells X0 t0)).alloc (.cells X1 t1)).alloc (.cells X2 t2)):=((Dt w X0 X1 t0 t1).more rfl (by simp) X2 t2).1
theorem Has.grown {W W1:World} {b:Nat} {cs:List Value} {row:Option Nat} (h:Has W b cs) (hg:W.grownBy W1 row) (hne:some b≠row):Has W1 b cs :=
 ⟨Nat.lt_of_lt_of_le h.lt hg.size,fun i v hv=>(World.cell?_of_block (a:=⟨b,i,none⟩) (hg.block b h.lt hne)).trans (h.cell i v hv),fun o=>(World.frozen?_of_block (a:=⟨b,o,none⟩) (hg.block b h.lt hne)).trans (h.fr o)⟩
theorem En {W W1:World} (h:Below W.heap.size W W1) (row:Option Nat):W.grownBy W1 row:=⟨h.os,h.tape,h.output,h.size,fun k hk _=>h.block k hk⟩
theorem Ej (W:World) (p:Addr) (v:Value):W.grownBy (W.setCell p v) (some p.block) :=
 have h:=(AJ p.block W).setCell (p:=p) (Bn _) v
 ⟨h.os,h.tape,h.output,h.size,fun k hk hne=>by
  have hk2:p.block≠k:=fun e=>hne (by rw [e])
  simp [World.setCell,Array.getElem?_modify,hk2]⟩
structure Ow {α:Type} (f:α→List Value) (sz:Nat) (e:TypeId) (N:Nat) (l:List α) (v:Value) (wr:World):Prop where
 own:wr.ownsRow N e sz v l.length (l.flatMap f)
section
variable {α:Type} {f:α→List Value} {sz:Nat} {e:TypeId} {N:Nat} {l:List α} {v v1:Value} {wr w1:World}
theorem Ow.start (f:α→List Value) (sz:Nat) (e:TypeId) (N:Nat) (w:World):Ow f sz e N [] (.slice none 0 0) w:=⟨World.ownsRow_nil _ _ _ _⟩
theorem Ow.lt (h:Ow f sz e N l v wr) {k:Nat} (hk:v.ownBlock=some k):N<=k∧k<wr.heap.size:=h.own.lt k hk
theorem Ow.grown {row:Option Nat} (h:Ow f sz e N l v wr) (hg:wr.grownBy w1 row) (hne:v.ownBlock=none∨v.ownBlock≠row):Ow f sz e N l v w1:=⟨h.own.kept hg hne⟩
theorem Ow.below (h:Ow f sz e N l v wr) (hb:Below wr.heap.size wr w1):Ow f sz e N l v w1:=h.grown (En hb none) (by cases v.ownBlock <;> simp)
theorem Ow.set (h:Ow f sz e N l v wr) (p:Addr) (x:Value) (hp:p.block<N):Ow f sz e N l v (wr.setCell p x):=h.grown (Ej wr p x) (by
 cases hv:v.ownBlock with
 | none=>exact .inl rfl
 | some k=>refine .inr fun e=>?_;have:=(h.lt hv).1;injection e with e;omega)
theorem Ow.next {x:α} (hown:w1.ownsRow N e sz v1 (l.length+1) (l.flatMap f ++ f x)):Ow f sz e N (l ++ [x]) v1 w1 :=
 ⟨by rw [List.length_append,List.flatMap_append];simpa using hown⟩
theorem Ow.res {n:Nat} (hf:∀ x,(f x).length=sz) (h:Ow f sz e N l v wr) (hl:l.length=n):∃ A c,v=.slice A n c∧Recs f sz wr A n l∧BS A n c:=by
 subst hl;have ho:=h.own
 rcases h.own.2 with ⟨rfl,h0⟩ | ⟨g,cap,cur,rfl,_,_,hnc,hm,_⟩
 ·have h1:l=[]:=List.length_eq_zero_iff.1 h0
  subst h1
  exact ⟨none,0,rfl,Recs.nil f sz wr,Bn _,Nat.zero_le _,fun _=>rfl⟩
 ·exact ⟨_,_,rfl,Recs.of_own hf rfl ho,hnc,hm,fun h=>by cases h⟩
theorem Ow.ints {n:Nat} {e:TypeId} {N:Nat} {wr:World} {l:List Int} {v:Value} (h:Ow G9 1 e N l v wr) (hl:l.length=n):∃ A c,v=.slice A n c∧Ints wr A n l∧BS A n c:=by
 obtain ⟨A,c,h1,h2,h3⟩:=Ow.res (f:=G9) (fun _=>rfl) h hl
 exact ⟨A,c,h1,Fj h2,h3⟩
end
theorem F6 {B:Nat} {w wr w1:World} {row:Option Nat} (h:Below B w wr) (hB:B<=w.heap.size) (hg:wr.grownBy w1 row) (hr:∀ k,row=some k→B<=k):Below B w w1 :=
 ⟨hg.os.trans h.os,hg.tape.trans h.tape,hg.output.trans h.output,Nat.le_trans h.size hg.size,fun k hk=>(hg.block k (by have:=h.size;omega) (fun e=>by have:=hr k e.symm;omega)).trans (h.block k hk)⟩
section
variable {w W W1:World} {N:Nat} {L:List (List Value)}
theorem BoxS.grown {row:Option Nat} (h:BoxS w N L W) (hg:W.grownBy W1 row) (hr:∀ k,row=some k→w.heap.size+N<=k):BoxS w N L W1 :=
 ⟨fun i cs hi=>(h.has i cs hi).grown hg (by
  intro e
  have h1:=hr _ e.symm;have h2:=(List.getElem?_eq_some_iff.1 hi).1;have h3:=h.len
  omega),h.len,F6 h.B (Bn _) hg (fun k hk=>by have:=hr k hk;omega),Nat.le_trans h.sz hg.size⟩
end
section
variable {α:Type} {f:α→List Value} {sz:Nat} {e:TypeId} {N:Nat} {l:List α} {v:Value} {wr w1:World}
theorem Ow.alloc (h:Ow f sz e N l v wr) (o:Obj):Ow f sz e N l v (wr.alloc o):=h.below (Aa _ _)
theorem Ow.drew (h:Ow f sz e N l v wr):Ow f sz e N l v wr.drew:=h.below (AJ _ _).drew
theorem Ow.own_of {n:Nat} (h:Ow f sz e N l v wr) (hl:l.length=n) (hn:0<n):∃ g cap,v=.slice (some ⟨g,0,none⟩) n cap∧wr.ownsRow N e sz v n (l.flatMap f)∧n<=cap∧cap<=maxLen:=by
 subst hl
 rcases h.own.2 with ⟨h1,h0⟩ | ⟨g,cap,cur,h1,_,_,hnc,hm,_⟩
 ·omega
 ·exact ⟨g,cap,h1,h.own,hnc,hm⟩
end
open Go.Lib (hid)
structure RowRel (w:World) (L:Cs.Wins) (v:Value) (wr:World):Prop where
 s:wr.ownsRow w.heap.size 44 2 v L.length (L.flatMap win)
 bel:Below w.heap.size w wr
theorem RowRel.below {w wr w2:World} {L:Cs.Wins} {v:Value} (h:RowRel w L v wr) (hb:Below wr.heap.size wr w2):RowRel w L v w2:=⟨GK h.s hb,Ae h.bel hb⟩
theorem RowRel.grow {w wr w1:World} {L:Cs.Wins} {v v1:Value} {o:Obj} {q:Int × Int} (h:RowRel w L v wr) (hown:w1.ownsRow w.heap.size 44 2 v1 (L.length+1) (L.flatMap win ++ win q)) (hg:(wr.alloc o).grownBy w1 v.ownBlock):RowRel w (L ++ [q]) v1 w1 :=
 ⟨by rw [GD,List.length_append];exact hown,(h.bel.alloc h.bel.size _).grown hg (by have:=h.bel.size;simp;omega) (Bq h.s)⟩
def Al1 (ws st:Cs.Wins) (n:Nat) (w:World) (v t:Value) (wr:World):Prop:=∃ i:Nat,i<=n∧t=vI i∧RowRel w (Cs.sU ws st i) v wr
def Al2 (ws st:Cs.Wins) (n:Nat) (w:World) (v t:Value) (wr:World):Prop:=∃ i:Nat,i<=n∧t=vI i∧RowRel w (Cs.sU ws st n ++ Cs.pU ws st n i) v wr
def Al3 (ws st:Cs.Wins) (n i:Nat) (w:World) (v t:Value) (wr:World):Prop:=∃ k:Nat,i<k∧k<=n∧t=vI k∧RowRel w (Cs.sU ws st n ++ (Cs.pU ws st n i ++ Cs.rU ws st i k)) v wr
theorem AbW (ws st:Cs.Wins) (n i j:Nat) (hn:n<=64) (hi:i<n) (hj:j<=n):(Cs.sU ws st n ++ (Cs.pU ws st n i ++ Cs.rU ws st i j)).length<=4300:=by
 rw [List.length_append]
 have h1:=WU ws st n i j hn hi hj;have h2:=Cs.sU_len ws st n
 omega
theorem Afz (A S:Option Addr) (n cn m cm:Nat) (ws st:Cs.Wins) (w:World) (hw:Pairs w A n ws) (hs:Pairs w S m st) (hn:n<=maxLen) (hm:m<=maxLen) (hmc:m<=cm) (hcm:cm<=maxLen) :
  Calls Tryz.prog 97 #[.slice A n cn,.slice S m cm] w (JX ws st w):=by
 have HC:=hid (AcE A S n cn m cm ws st w hw hs hn hm)
 by_cases he:Cs.chkE ws st=0
 ·rw [he] at HC
  have hok:=Cs.csOk_of he
  have hn64:n<=64:=by have:=hok.len;have:=hw.len;omega
  have HN:=hid hw.len;have HE:=hid he;have HOK:=hid hok;have HX:=hid (fun W i j (hb:Below w.heap.size w W) (hij:i<=j) (hj:j<n)=>Zt A S n cn m cm i j ws st W (hw.below hb) (hs.below hb) hmc hcm hok hij hj);obtain ⟨i0,hi,hz0,hz1,hz2⟩:=info_parts O6;clear hw hs he hok hn hm
  go_enter Tryz.func97,Tryz.ntmps97
  go_wp2_with fail
  refine HC.out.mono ?_;rintro e w1 ⟨rfl,hB1⟩
  have HB1:=hid hB1;clear hB1
  go_wp2_with fail
  go_loopw [7,19] (fun v t wr=>Al1 ws st n w v t wr) (fun _ t _=>n - (intOf t).toNat)
  case atStart=>exact ⟨0,by omega,rfl,⟨World.ownsRow_nil _ _ _ _,HB1.out⟩⟩
  case round =>
   obtain ⟨i,hi',rfl,hR1⟩:=hrel;have HR1:=hid hR1;clear hR1
   by_cases hlt:i<n
   ·have HXX:=hid (HX.out wr i i HR1.out.bel (Bn _) hlt)
    by_cases hc:0<Cs.exc ws st i i
    ·have hgr:=hid (show Cs.sU ws st (i+1)=Cs.sU ws st i ++ [((i:Int),(i:Int))] by rw [Cs.sU_succ];unfold Cs.sgl;rw [if_pos hc])
     have hle:(Cs.sU ws st i).length<=100:=by have:=Cs.sU_len ws st i;omega
     generalize Cs.exc ws st i i=V at *
     go_wp2_with fail
     refine HXX.out.mono ?_;rintro e wr2 ⟨rfl,hB2⟩
     have HR:=hid (HR1.out.below hB2);clear hB2;have hww:w.heap.size<=wr2.heap.size:=HR.out.bel.size
     go_wp2_with (at_builtin;refine wpList_append_own_at _ rfl _ _ 137 rfl w.heap.size 44 i0 (.agg #[vI 0,vI 0]) 2 16 Tryz.underlying137 hi hz0 hz1 hz2 rfl (by decide) _ _ _ rfl (HR.out.s.alloc _) ⟨wr2.heap.size,0,none⟩ 1 1 (win ((i:Int),(i:Int))) rfl rfl (AY _ _ rfl _ _ _ rfl) (by intro u hu;simp [win] at hu;rcases hu with rfl | rfl <;> rfl) (by unfold maxLen;omega) (by omega) (by have:=HR.out.bel.size;simp;omega) ?_;intro v1 w3 hown1 hgrow1 hnil1 hblk1)
     go_roundw
     case rel=>exact ⟨i+1,by omega,by go_num,by rw [hgr.out];exact HR.out.grow hown1 hgrow1⟩
     case measure=>exact zMs
    ·have hsm:=hid (show Cs.sU ws st (i+1)=Cs.sU ws st i by rw [Cs.sU_succ];unfold Cs.sgl;rw [if_neg hc,List.append_nil])
     generalize Cs.exc ws st i i=V at *
     go_wp2_with fail
     refine HXX.out.mono ?_;rintro e wr2 ⟨rfl,hB2⟩
     have HR:=hid (HR1.out.below hB2);clear hB2
     go_wp2_with fail
     go_roundw
     case rel=>exact ⟨i+1,by omega,by go_num,by rw [hsm.out];exact HR.out⟩
     case measure=>exact zMs
   ·have hin:=hid (show i=n by omega)
    go_wp2_with fail
    go_loopw [7,37] (fun v t wr=>Al2 ws st n w v t wr) (fun _ t _=>n - (intOf t).toNat)
    case atStart=>exact ⟨0,by omega,rfl,by rw [← hin.out];simp [Cs.pU];exact HR1.out⟩
    case round =>
     obtain ⟨i,hi',rfl,hR0⟩:=hrel;have HR0:=hid hR0;clear hR0
     by_cases hlt:i<n
     ·obtain ⟨wo,rfl⟩:∃ wo:World,wo=wr:=⟨_,rfl⟩
      go_wp2_with fail
      go_loopw [7,10] (fun v t wr=>Al3 ws st n i w v t wr) (fun _ t _=>n - (intOf t).toNat)
      case atStart=>exact ⟨i+1,by omega,by omega,by go_num,by rw [Cs.rU_nil ws st i (i+1) (by omega),List.append_nil];exact HR0.out⟩
      case round =>
       obtain ⟨k,hik,hk,rfl,hR1⟩:=hrel;have HR1:=hid hR1;clear hR1
       by_cases hlt2:k<n
       ·have HXX:=hid (HX.out wr i k HR1.out.bel (by omega) hlt2)
        have hne:((i:Int) == (k:Int))=false:=BA.2 (by omega)
        by_cases hc:0<Cs.exc ws st i k
        ·have hgr:=hid (show Cs.sU ws st n ++ (Cs.pU ws st n i ++ Cs.rU ws st i (k+1))=(Cs.sU ws st n ++ (Cs.pU ws st n i ++ Cs.rU ws st i k)) ++ [((i:Int),(k:Int))] by rw [Cs.rU_succ,List.append_assoc,List.append_assoc];unfold Cs.row;rw [if_pos ⟨hik,hc⟩])
         have hle:(Cs.sU ws st n ++ (Cs.pU ws st n i ++ Cs.rU ws st i k)).length<=4300:=AbW ws st n i k hn64 hlt hk;generalize Cs.exc ws st i k=V at *
         go_wp2_with fail
         refine HXX.out.mono ?_;rintro e wr2 ⟨rfl,hB2⟩
         have HR:=hid (HR1.out.below hB2);clear hB2;have hww:w.heap.size<=wr2.heap.size:=HR.out.bel.size
         go_wp2_with (at_builtin;refine wpList_append_own_at _ rfl _ _ 137 rfl w.heap.size 44 i0 (.agg #[vI 0,vI 0]) 2 16 Tryz.underlying137 hi hz0 hz1 hz2 rfl (by decide) _ _ _ rfl (HR.out.s.alloc _) ⟨wr2.heap.size,0,none⟩ 1 1 (win ((i:Int),(k:Int))) rfl rfl (AY _ _ rfl _ _ _ rfl) (by intro u hu;simp [win] at hu;rcases hu with rfl | rfl <;> rfl) (by unfold maxLen;omega) (by omega) (by have:=HR.out.bel.size;simp;omega) ?_;intro v1 w3 hown1 hgrow1 hnil1 hblk1)
         go_roundw
         case rel=>exact ⟨k+1,by omega,by omega,by go_num,by rw [hgr.out];exact HR.out.grow hown1 hgrow1⟩
         case measure=>exact zMs
        ·have hsm:=hid (show Cs.rU ws st i (k+1)=Cs.rU ws st i k by rw [Cs.rU_succ];unfold Cs.row;rw [if_neg (fun h=>hc h.2),List.append_nil])
         generalize Cs.exc ws st i k=V at *
         go_wp2_with fail
         refine HXX.out.mono ?_;rintro e wr2 ⟨rfl,hB2⟩
         have HR:=hid (HR1.out.below hB2);clear hB2
         go_wp2_with fail
         go_roundw
         case rel=>exact ⟨k+1,by omega,by omega,by go_num,by rw [hsm.out];exact HR.out⟩
         case measure=>exact zMs
       ·have hkn:=hid (show k=n by omega)
        have hend:=hid (show Cs.pU ws st n i ++ Cs.rU ws st i k=Cs.pU ws st n (i+1) by rw [Cs.pU_succ,hkn.out])
        go_wp2_with fail
        go_roundw
        case rel=>exact ⟨i+1,by omega,by go_num,by rw [← hend.out];exact HR1.out⟩
        case measure=>exact zMs
     ·have hin2:=hid (show i=n by omega)
      have hcl:=hid (show Cs.confL ws st=Cs.sU ws st n ++ Cs.pU ws st n i by unfold Cs.confL;rw [HN.out,hin2.out]);obtain ⟨A',c',hv'⟩:=Gh HR0.out.s;subst hv';have HO:=hid HR0.out.s
      go_wp2_with fail
      go_ret2
      refine ⟨fun _=>⟨A',c',?_,?_⟩,fun h=>absurd HE.out h,HR0.out.bel⟩
      ·rw [hcl.out];rfl
      ·exact Recs.of_own Dm rfl (by rw [hcl.out];exact HO.out)
 ·have hne:(Cs.chkE ws st != 0)=true:=by rw [bne_iff_ne];exact he
  have HE:=hid he;have hp:∀ e w',e=.returned (.tuple #[.slice none 0 0,vI (Cs.chkE ws st)])→Below w.heap.size w w'→JX ws st w e w':=fun e w' h1 h2=>⟨fun h=>absurd h he,fun _=>h1,h2⟩;have HP:=hid hp;clear he hp hw hs;generalize Cs.chkE ws st=E at *
  go_enter Tryz.func97,Tryz.ntmps97
  go_wp2_with fail
  refine HC.out.mono ?_;rintro e w1 ⟨rfl,hB1⟩
  go_wp2_with fail
  go_ret2
  exact HP.out _ _ rfl hB1
def cfP (ws st:Cs.Wins):Int × Int:=if Cs.chkE ws st=0 then (Cs.confL ws st).headD (0,0) else (0,0)
def cfB (ws st:Cs.Wins):Bool:=decide (Cs.chkE ws st=0) && !(Cs.confL ws st).isEmpty
def Ni (ws st:Cs.Wins) (w:World) (e:Ending) (w':World):Prop:=e=.returned (.tuple #[.agg #[vI (cfP ws st).1,vI (cfP ws st).2],.bool (cfB ws st),vI (Cs.chkE ws st)])∧Below w.heap.size w w'
theorem Ox (w:World) (cs:Array Value) (t:TypeId) (i:Nat):(w.alloc (.cells cs t)).frozen? ⟨w.heap.size,i,none⟩=false:=frozen_of_row _ _ _ _ _ (heap_alloc_new w _)
theorem Ol (w:World) (g:Nat) (v u x y:Value) (h0:w.cell? ⟨g,0,none⟩=some x) (h1:w.cell? ⟨g,1,none⟩=some y) :
  ((w.setCell ⟨g,0,none⟩ v).setCell ⟨g,1,none⟩ u).cell? ⟨g,0,none⟩=some v∧((w.setCell ⟨g,0,none⟩ v).setCell ⟨g,1,none⟩ u).cell? ⟨g,1,none⟩=some u∧∀ w0:World,w0.heap.size<=g→Below w0.heap.size w0 w→Below w0.heap.size w0 ((w.setCell ⟨g,0,none⟩ v).setCell ⟨g,1,none⟩ u):=by
 refine ⟨?_,?_,fun w0 hg hb=>(hb.setCell (p:=⟨g,0,none⟩) hg _).setCell (p:=⟨g,1,none⟩) hg _⟩
 ·rw [World.cell?_setCell_other _ ⟨g,1,none⟩ ⟨g,0,none⟩ _ (by intro e;injection e with _ e;omega),World.cell?_setCell_same w ⟨g,0,none⟩ _ h0]
 ·rw [World.cell?_setCell_same _ ⟨g,1,none⟩ _ (by rw [World.cell?_setCell_other w ⟨g,0,none⟩ ⟨g,1,none⟩ _ (by intro e;injection e with _ e;omega)];exact h1)]
theorem Vr {ws st:Cs.Wins} (h:Cs.chkE ws st≠0):cfP ws st=(0,0)∧cfB ws st=false:=by unfold cfP cfB;rw [if_neg h];simp [h]
theorem R4 {ws st:Cs.Wins} (h:Cs.chkE ws st=0) (h2:Cs.confL ws st=[]):cfP ws st=(0,0)∧cfB ws st=false:=by unfold cfP cfB;rw [if_pos h,h2];simp
theorem R5 {ws st:Cs.Wins} {p:Int × Int} {t:Cs.Wins} (h:Cs.chkE ws st=0) (h2:Cs.confL ws st=p :: t):cfP ws st=p∧cfB ws st=true:=by unfold cfP cfB;rw [if_pos h,h2];simp [h]
theorem Iy (A S:Option Addr) (n cn m cm:Nat) (ws st:Cs.Wins) (w:World) (hw:Pairs w A n ws) (hs:Pairs w S m st) (hn:n<=maxLen) (hm:m<=maxLen) (hmc:m<=cm) (hcm:cm<=maxLen) :
  Calls Tryz.prog 36 #[.slice A n cn,.slice S m cm] w (Ni ws st w):=by
 have HC:=hid (fun W (h:Below w.heap.size w W)=>Afz A S n cn m cm ws st W (hw.below h) (hs.below h) hn hm hmc hcm);clear hw hs
 by_cases he:Cs.chkE ws st=0
 ·by_cases hcf:Cs.confL ws st=[]
  ·have E:=hid (R4 he hcf)
   have HE:=hid he
   have HC2:=hid (fun W (h:Below w.heap.size w W)=>(HC.out W h).mono (R':=fun e w'=>∃ A' c',e=.returned (.tuple #[.slice A' 0 c',vI 0])∧Below W.heap.size W w') fun e w' h=>by
    obtain ⟨A',c',h1,_⟩:=h.1 he
    rw [hcf] at h1
    exact ⟨A',c',h1,h.2.2⟩)
   clear he hcf HC
   go_enter Tryz.func36,Tryz.ntmps36
   go_wp2_with fail
   refine (HC2.out _ ((AJ _ _).alloc (Bn _) _)).mono ?_;rintro e w1 ⟨A',c',rfl,hB1⟩
   have k0:w1.cell? ⟨w.heap.size,0,none⟩=some (vI 0):=(hB1.cell (p:=⟨w.heap.size,0,none⟩) (by simp)).trans (by simp [World.cell?_alloc_new]);have k1:w1.cell? ⟨w.heap.size,1,none⟩=some (vI 0):=(hB1.cell (p:=⟨w.heap.size,1,none⟩) (by simp)).trans (by simp [World.cell?_alloc_new]);have f0:w1.frozen? ⟨w.heap.size,0,none⟩=false:=(hB1.frozen (p:=⟨w.heap.size,0,none⟩) (by simp)).trans (Ox w _ _ 0);have f1:w1.frozen? ⟨w.heap.size,1,none⟩=false:=(hB1.frozen (p:=⟨w.heap.size,1,none⟩) (by simp)).trans (Ox w _ _ 1);have HB1:=hid (Ap hB1);have KK:=hid (And.intro k0 k1);clear hB1
   go_wp2_with fail
   have r:=hid (Ol w1 w.heap.size (vI 0) (vI 0) _ _ KK.out.1 KK.out.2);obtain ⟨r0,r1,rB⟩:=r.out;have rB2:=hid (rB w (Bn _) HB1.out);clear rB r
   exact bodyPost_ret (v:=.tuple #[.agg #[vI 0,vI 0],.bool false,vI 0]) (by simp [results,Tryz.results36,go_sem,r0,r1]) rfl ⟨by rw [E.out.1,E.out.2,HE.out],rB2.out⟩
  ·obtain ⟨p,t,hpt⟩:∃ p t,Cs.confL ws st=p :: t:=by
    cases h:Cs.confL ws st with
    | nil=>exact absurd h hcf
    | cons p t=>exact ⟨p,t,rfl⟩
   have E:=hid (R5 he hpt);have HE:=hid he;have hlen:0<(Cs.confL ws st).length:=List.length_pos_iff.2 hcf
   have HC2:=hid (fun W (h:Below w.heap.size w W)=>(HC.out W h).mono (R':=fun e w'=>∃ b off c',e=.returned (.tuple #[.slice (some ⟨b,off,none⟩) (Cs.confL ws st).length c',vI 0])∧b<w'.heap.size∧w'.cell? ⟨b,off,none⟩=some (vI p.1)∧w'.cell? ⟨b,off+1,none⟩=some (vI p.2)∧Below W.heap.size W w') fun e w' h=>by
    obtain ⟨A',c',h1,h2⟩:=h.1 he;obtain ⟨b,off,rfl,hb,c0,c1⟩:=h2.cell (k:=0) (p:=p) (by rw [hpt];rfl)
    refine ⟨b,off,c',h1,hb,by simpa using c0,by simpa using c1,h.2.2⟩)
   clear he hcf hpt HC;generalize (Cs.confL ws st).length=L at *
   go_enter Tryz.func36,Tryz.ntmps36
   go_wp2_with fail
   refine (HC2.out _ ((AJ _ _).alloc (Bn _) _)).mono ?_;rintro e w1 ⟨b,off,c',rfl,hbb,q0,q1,hB1⟩
   have k0:w1.cell? ⟨w.heap.size,0,none⟩=some (vI 0):=(hB1.cell (p:=⟨w.heap.size,0,none⟩) (by simp)).trans (by simp [World.cell?_alloc_new]);have k1:w1.cell? ⟨w.heap.size,1,none⟩=some (vI 0):=(hB1.cell (p:=⟨w.heap.size,1,none⟩) (by simp)).trans (by simp [World.cell?_alloc_new]);have f0:w1.frozen? ⟨w.heap.size,0,none⟩=false:=(hB1.frozen (p:=⟨w.heap.size,0,none⟩) (by simp)).trans (Ox w _ _ 0);have f1:w1.frozen? ⟨w.heap.size,1,none⟩=false:=(hB1.frozen (p:=⟨w.heap.size,1,none⟩) (by simp)).trans (Ox w _ _ 1);have HB1:=hid (Ap hB1);have KK:=hid (And.intro k0 k1);clear hB1
   go_wp2_with fail
   have r:=hid (Ol w1 w.heap.size (vI p.1) (vI p.2) _ _ KK.out.1 KK.out.2);obtain ⟨r0,r1,rB⟩:=r.out;have rB2:=hid (rB w (Bn _) HB1.out);clear rB r
   exact bodyPost_ret (v:=.tuple #[.agg #[vI p.1,vI p.2],.bool true,vI 0]) (by simp [results,Tryz.results36,go_sem,r0,r1]) rfl ⟨by rw [E.out.1,E.out.2,HE.out],rB2.out⟩
 ·have E:=hid (Vr he)
  have hne:(Cs.chkE ws st != 0)=true:=by rw [bne_iff_ne];exact he
  have HC2:=hid (fun W (h:Below w.heap.size w W)=>(HC.out W h).mono (R':=fun e w'=>e=.returned (.tuple #[.slice none 0 0,vI (Cs.chkE ws st)])∧Below W.heap.size W w') fun e w' h=>⟨h.2.1 he,h.2.2⟩);clear he HC;obtain ⟨EV,hEV⟩:∃ x,Cs.chkE ws st=x:=⟨_,rfl⟩
  rw [hEV] at hne HC2
  have HE:=hid hEV;clear hEV
  go_enter Tryz.func36,Tryz.ntmps36
  go_wp2_with fail
  refine (HC2.out _ ((AJ _ _).alloc (Bn _) _)).mono ?_;rintro e w1 ⟨rfl,hB1⟩
  have k0:w1.cell? ⟨w.heap.size,0,none⟩=some (vI 0):=(hB1.cell (p:=⟨w.heap.size,0,none⟩) (by simp)).trans (by simp [World.cell?_alloc_new]);have k1:w1.cell? ⟨w.heap.size,1,none⟩=some (vI 0):=(hB1.cell (p:=⟨w.heap.size,1,none⟩) (by simp)).trans (by simp [World.cell?_alloc_new]);have f0:w1.frozen? ⟨w.heap.size,0,none⟩=false:=(hB1.frozen (p:=⟨w.heap.size,0,none⟩) (by simp)).trans (Ox w _ _ 0);have f1:w1.frozen? ⟨w.heap.size,1,none⟩=false:=(hB1.frozen (p:=⟨w.heap.size,1,none⟩) (by simp)).trans (Ox w _ _ 1);have HB1:=hid (Ap hB1);have KK:=hid (And.intro k0 k1);clear hB1
  go_wp2_with fail
  have r:=hid (Ol w1 w.heap.size (vI 0) (vI 0) _ _ KK.out.1 KK.out.2);obtain ⟨r0,r1,rB⟩:=r.out;have rB2:=hid (rB w (Bn _) HB1.out);clear rB r
  exact bodyPost_ret (v:=.tuple #[.agg #[vI 0,vI 0],.bool false,vI EV]) (by simp [results,Tryz.results36,go_sem,r0,r1]) rfl ⟨by rw [E.out.1,E.out.2,HE.out],rB2.out⟩
def sqV (n:Int):Int:=(Fx.isq n.toNat:Int)
theorem len_any (n:Nat) (h0:0<n) (h1:n<9223372036854775808):∃ k:Nat,1<=k∧k<=63∧n<2 ^ k ∧
    ∀ w,Calls Tryz.prog 197 #[.int .u64 (n:Int)] w fun e w'=>e=.returned (.int .i64 (k:Int))∧w=w':=by
  obtain ⟨b1,b2,b3⟩:=Lib.bitLenAux_bounds 64 n (by omega) (by omega)
  have b0:Lib.bitLenAux 64 n<=63:=by
    rcases Nat.lt_or_ge 63 (Lib.bitLenAux 64 n) with h | h
    · exfalso
      have:2 ^ 63<=2 ^ (Lib.bitLenAux 64 n - 1):=Nat.pow_le_pow_right (by omega) (by omega)
      omega
    · exact h
  refine ⟨_,b1,b0,b3,fun w=>?_⟩
  refine (Tryz.bits_Len64 (n:Int) w (by omega) (by omega)).mono ?_
  rintro e w' ⟨rfl,hw⟩
  refine ⟨?_,hw.symm⟩
  rw [Int.toNat_natCast]
  rfl
def Ady (n:Nat) (v:Value):Prop:=∃ x:Nat,v=.int .i64 x∧0<x∧Fx.isq n<=x∧x<=4294967296
theorem Rq (k:Nat) (h:k<=63):2 ^ ((k+1) / 2)<=4294967296:=by
 have:2 ^ ((k+1) / 2)<=2 ^ 32:=Nat.pow_le_pow_right (by decide) (by omega)
 exact this
set_option maxRecDepth 100000 in
set_option maxHeartbeats 1000000 in
theorem sqrt_pos (n k X:Nat) (h0:(0:Int)<n) (h1:(n:Int)<=9223372036854775807) (hk:k<=63) (w:World) (hX:X<=4294967296) (hX0:0<X) (hX1:Fx.isq n<=X)
    (eX:(2:Int) ^ ((k+1) / 2)=X)
    (hL:∀ w,Calls Tryz.prog 197 #[.int .u64 (n:Int)] w fun e w'=>e=.returned (.int .i64 (k:Int))∧w=w') :
    Calls Tryz.prog 131 #[.int .i64 n] w fun e w'=>e=.returned (.int .i64 (Fx.isq n:Int))∧w=w':=by
  have HL:=hid hL
  have HX:=hid (show Ady n (.int .i64 (wrap64 ((2:Int) ^ ((k+1) / 2)))) from ⟨X,by rw [eX,IntWalk.wrap64_in _ (by omega)],hX0,hX1,hX⟩)
  clear hL eX
  go_enter Tryz.func131,Tryz.ntmps131
  go_wp2_with (go_at_call 197;refine (HL.out _).mono ?_;rintro e w' ⟨rfl,rfl⟩)
  go_loop [3] (fun v=>Ady n v) (fun v=>(intOf v).toNat)
  case atStart=>exact HX.out
  case round =>
    obtain ⟨x,rfl,x0,x1,x2⟩:=hrel
    have hb:=Fx.newton_bound x0 x1
    have hge:=hid (Fx.newton_ge (n:=n) x0)
    have hst:=hid (Fx.newton_stop (n:=n) x0 x1)
    have hz:((x:Int) == 0)=false:=BA.2 (by omega)
    obtain ⟨t,ht⟩:∃ t,n / x=t:=⟨_,rfl⟩
    have eT:(n:Int) / (x:Int)=(t:Int):=by rw [← ht];simp
    rw [ht] at hb hge hst
    have HI:=hid x1
    clear ht x1
    have hpos:0<(x+t) / 2:=Nat.lt_of_lt_of_le (Fx.isq_pos (by omega)) hge.out
    by_cases hc:(x:Int)<=((x:Int)+t) / 2
    · have he:=hid (hst.out (by omega))
      go_wp2_with fail
      go_ret
      exact ⟨Af (by rw [← he.out]),rfl⟩
    · go_wp2_with fail
      go_round
      case rel=>exact ⟨(x+t) / 2,by congr 1,hpos,hge.out,by omega⟩
      case measure=>exact zMs
/-- Sqrt -/
theorem xSqrt (n:Int) (h1:n<=9223372036854775807) (w:World) :
    Calls Tryz.prog 131 #[.int .i64 n] w fun e w'=>e=.returned (.int .i64 (sqV n))∧w=w':=by
  by_cases h0:n<=0
  · have h2:n.toNat=0:=by omega
    have hv:=hid (show sqV n=0 by unfold sqV;rw [h2];rfl)
    clear h2
    go_enter Tryz.func131,Tryz.ntmps131
    go_wp2
    go_ret
    exact ⟨Af (by rw [hv.out]),rfl⟩
  · obtain ⟨m,rfl⟩:∃ m:Nat,n=m:=⟨n.toNat,by omega⟩
    obtain ⟨k,k1,k2,k3,hL⟩:=len_any m (by omega) (by omega)
    have e:sqV (m:Int)=(Fx.isq m:Int):=by unfold sqV;rw [Int.toNat_natCast]
    rw [e]
    exact sqrt_pos m k (2 ^ ((k+1) / 2)) (by omega) (by omega) k2 w (Rq k k2) (Nat.two_pow_pos _) (Fx.newton_start k3) (by simp) hL
theorem EJ (n:Int) (h1:n<=9223372036854775807):0<=sqV n∧sqV n<=3037000499∧sqV n * sqV n<=9223372036854775807:=by
 have h:=(Fx.isq_spec n.toNat).1
 have hn:n.toNat<=9223372036854775807:=by omega
 unfold sqV
 generalize Fx.isq n.toNat=r at *
 have hr:r<=3037000499:=by
  rcases Nat.lt_or_ge 3037000499 r with h' | h'
  ·exfalso
   have:=Nat.mul_le_mul (show 3037000500<=r from h') (show 3037000500<=r from h')
   omega
  ·exact h'
 refine ⟨by omega,by omega,?_⟩
 rw [← Int.natCast_mul];omega
def ptB (x y:Int):Bool:=inB x (-2000000) 2000000 && inB y (-2000000) 2000000
theorem Eg {x y:Int}:ptB x y=true ↔ (-2000000<=x∧x<=2000000)∧(-2000000<=y∧y<=2000000):=by simp [ptB,Al]
theorem Has.setCells_other:∀ (vs:List Value) {W:World} {b:Nat} {cs:List Value} (h:Has W b cs) (c o:Nat) (hc:b≠c),Has (W.setCells c o vs) b cs
 | [],W,b,cs,h,c,o,hc=>h
 | v :: r,W,b,cs,h,c,o,hc=>Has.setCells_other r (h.other c o v hc) c (o+1) hc
theorem F7:∀ (vs:List Value) {B:Nat} {w W:World} (h:Below B w W) (c o:Nat) (hc:B<=c),Below B w (W.setCells c o vs)
 | [],B,w,W,h,c,o,hc=>h
 | v :: r,B,w,W,h,c,o,hc=>F7 r (h.setCell (p:=⟨c,o,none⟩) hc v) c (o+1) hc
theorem JM:∀ (vs:List Value) (W:World) (c o:Nat) (a:Addr),(W.setCells c o vs).frozen? a=W.frozen? a
 | [],W,c,o,a=>rfl
 | v :: r,W,c,o,a=>(JM r (W.setCell ⟨c,o,none⟩ v) c (o+1) a).trans (World.frozen?_setCell _ _ _ _)
theorem Hr:∀ (vs:List Value) (W:World) (c o:Nat),(W.setCells c o vs).heap.size=W.heap.size
 | [],W,c,o=>rfl
 | v :: r,W,c,o=>(Hr r (W.setCell ⟨c,o,none⟩ v) c (o+1)).trans (by simp [World.setCell])
theorem Has.there {W:World} {b:Nat} {cs:List Value} (h:Has W b cs) {n:Nat} (hn:cs.length=n):W.there b 0 n:=fun j hj=>by
 rw [Nat.zero_add]
 exact ⟨by rw [h.cell j _ (AQ (by omega))];rfl,h.fr j⟩
theorem Has.setCells_same {W:World} {b:Nat} {cs vs:List Value} (h:Has W b cs) (hl:cs.length=vs.length):Has (W.setCells b 0 vs) b vs :=
 ⟨by rw [Hr];exact h.lt,fun i v hv=>by
  have hi:=(List.getElem?_eq_some_iff.1 hv).1;have k:=World.cell?_setCells_in b vs 0 W (fun j hj=>(h.there hl j hj).1) i hi
  rw [Nat.zero_add] at k
  rw [k,← hv,AQ hi],fun o=>by rw [JM];exact h.fr o⟩
def Named (w:World) (R:World→Prop):Prop:=∀ W,W=w→R W
theorem Named.mk {w:World} {R:World→Prop} (h:∀ W,W=w→R W):Named w R:=h
theorem PO {P:Program} {ops:Array Oper} {rest:List Oper} {op:Oper} {a:Act} {w:World} {Q:Exit→Act→World→Prop} (ty:TypeId) (x y:Operand) (hgd:op.guard=none) (ho:op.op=.store ty x y)
  (b:Nat) (cells:Array Value) (hx:a.eval x=.pointer (some ⟨b,0,none⟩)) (hy:a.eval y=.agg cells) (hi:(P.info? ty).map (·.size)=some cells.size) (h1:cells.all (·.oneCell')=true)
  (h:Named w fun W=>W.there b 0 cells.size∧Named (W.setCells b 0 cells.toList) fun W2=>wpList P ops Q rest (a.put op.dst undef) W2):wpList P ops Q (op :: rest) a w :=
 wpList_store_mid hgd ty x y ho b 0 cells hx hy (h w rfl).1 hi h1 ((h w rfl).2 _ rfl)
theorem AZ {P:Program} {ops:Array Oper} {rest:List Oper} {op:Oper} {a:Act} {w:World} {Q:Exit→Act→World→Prop} (t:TypeId) (len:Nat) (parts:Array (Nat × Operand)) (hgd:op.guard=none) (ho:op.op=.buildSlice t len parts)
  (b:Nat) (hb:w.heap.size=b) (cells:Array Value) (e:TypeId) (hr:∀ W:World,(Instr.buildSlice t len (parts.map fun (i,x)=>(i,a.eval x))).run P W=.ok (.slice (some ⟨W.heap.size,0,none⟩) len len) (W.alloc (.cells cells e)))
  (h:Named (w.alloc (.cells cells e)) fun W=>wpList P ops Q rest (a.put op.dst (.slice (some ⟨b,0,none⟩) len len)) W):wpList P ops Q (op :: rest) a w :=
 wpList_plain hgd fun K hK=>by
  unfold Oper.wp execOp
  simp only [ho,Sem.run_bind,hr w,Result.andThen_ok,Sem.run_pure]
  subst hb
  exact hK _ _ (h _ rfl)
theorem UJ {P:Program} {fn:Func} {t:Tmp} {ty:TypeId} (h:fn.results=#[.cell t ty]) (tmps:Array Value) (W:World) (b:Nat) (cs:List Value) (d:TypeDesc) (hp:tmps[t]?.getD undef=.pointer (some ⟨b,0,none⟩)) (hc:W.rangeAt b 0 cs) (hu:P.underlying ty=some d) (hd:d.isRow=true) (hi:(P.info? ty).map (·.size)=some cs.length) :
  (results fn tmps).run P W=.ok (.agg cs.toArray) W:=by
 have k:=run_loadVar_mid (P:=P) W b 0 ty cs d hc hu hd hi
 have e:(asAddr (.pointer (some ⟨b,0,none⟩))).run P W=.ok ⟨b,0,none⟩ W:=by simp [asAddr]
 simp [results,h,hp,Sem.run_bind,k,e]
def AbY:World→List (Array Value × TypeId)→World
 | w,[]=>w
 | w,x :: r=>AbY (w.alloc (.cells x.1 x.2)) r
theorem Wq {W:World} {b:Nat} {cs:List Value} {xs:List Int} {n:Nat} (h:Has W b cs) (hc:cs=xs.map fun v=>vI v) (hn:xs.length=n):Ints W (some ⟨b,0,none⟩) n xs :=
 ⟨hn,fun _=>⟨b,0,rfl,h.lt,fun k v hk=>by
  rw [Nat.zero_add]
  exact h.cell k _ (by rw [hc,List.getElem?_map,hk];rfl)⟩⟩
theorem K9 {α:Type} {f:α→List Value} {sz:Nat} (hf:∀ x,(f x).length=sz) {W:World} {b:Nat} {cs:List Value} {xs:List α} {n:Nat} (h:Has W b cs) (hc:cs=xs.flatMap f) (hn:xs.length=n):Recs f sz W (some ⟨b,0,none⟩) n xs :=
 ⟨hn,fun _=>⟨b,0,rfl,h.lt,fun k x hk j v hv=>by
  rw [Nat.zero_add]
  exact h.cell _ _ (by rw [hc];exact DU hf hv xs k hk)⟩⟩
open Tr
def shf (n:Int):Int:=(n+524288) / 1048576
theorem I8 {a b:Int} (h:a<=b):shf a<=shf b:=by unfold shf;omega
def wiB (e n:Int):Bool:=inB e (-400) 400 && inB n (-400) 400
def alV (co e n:Int):Int:=shf (e * sinV co+n * cosV co)
def acV (co e n:Int):Int:=shf (e * cosV co - n * sinV co)
theorem mul_bd {a x A X:Int} (h0 : -A<=a∧a<=A) (h1 : -X<=x∧x<=X) : -(A * X)<=a * x∧a * x<=A * X:=by
 have hA:0<=A:=by omega
 have hX:0<=X:=by omega
 constructor
 ·rcases Int.le_total 0 a with h | h
  ·have g1:=Ef h1.1 h
   have g2:=CR h0.2 hX
   rw [Int.mul_neg] at g1
   omega
  ·have g1:=Int.mul_le_mul_of_nonpos_left h h1.2
   have g2:=CR h0.1 hX
   rw [Int.neg_mul] at g2
   omega
 ·rcases Int.le_total 0 a with h | h
  ·have g1:=Ef h1.2 h
   have g2:=CR h0.2 hX
   omega
  ·have g1:=Int.mul_le_mul_of_nonpos_left h h1.1
   have g2:=CR h0.1 hX
   rw [Int.mul_neg] at g1
   rw [Int.neg_mul] at g2
   omega
theorem Il {co e n:Int} (h:wiB e n=true):(-819200<=alV co e n∧alV co e n<=819200) ∧ -819200<=acV co e n∧acV co e n<=819200:=by
 unfold wiB at h
 rw [Bool.and_eq_true,Al,Al] at h
 have s:=Dj co;have c:=DJ co;have a1:=mul_bd (A:=400) (X:=1073741824) h.1 s;have a2:=mul_bd (A:=400) (X:=1073741824) h.2 c;have a3:=mul_bd (A:=400) (X:=1073741824) h.1 c;have a4:=mul_bd (A:=400) (X:=1073741824) h.2 s
 unfold alV acV shf
 generalize e * sinV co=p1 at *;generalize n * cosV co=p2 at *;generalize e * cosV co=p3 at *;generalize n * sinV co=p4 at *
 omega
