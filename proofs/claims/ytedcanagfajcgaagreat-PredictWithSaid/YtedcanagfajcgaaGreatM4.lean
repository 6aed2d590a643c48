/- M4: AtR, Fu, Ln, Wg1 in one text. -/
import Derived.Test.YtedcanagfajcgaaGreatM1
import Derived.Test.YtedcanagfajcgaaGreatM18
import Derived.Test.YtedcanagfajcgaaGreatM26
import Derived.Test.YtedcanagfajcgaaGreatM9
set_option linter.unusedSimpArgs false
set_option linter.unusedVariables false
set_option maxRecDepth 100000
set_option maxHeartbeats 2000000
namespace Go.Proofs
theorem Adc{G:Prop}(h:G:=by
  go_enter Tryz.func102,Tryz.ntmps102
  go_wp2_with fail
  refine (HP.out _).mono ?_;rintro e' w1 ⟨rfl,hB⟩
  have HB:=hid (Ap hB);clear hB
  go_wp2_with fail
  refine (HS.out _).mono ?_;rintro e' wx ⟨rfl,rfl⟩
  go_wp2_with fail
  go_ret3
  exact HF.out _ HB.out):G:=h
theorem Ae0{G:Prop}(h:G:=by
  have HV:=hid (Aav (px:=px) (py:=py) (qx:=qx) (qy:=qy) (by rw [HE.out];decide));have z1:(px == qx)=true:=beq_iff_eq.2 hz.1;have z2:(py == qy)=true:=beq_iff_eq.2 hz.2;clear hz hb
  go_wp2_with fail
  go_ret2
  exact ⟨Ay HV.out.symm HE.out.symm,HB.out⟩):G:=h
theorem Aag{G:Prop}(h:G:=by
  go_wp2_with fail
  go_ret
  exact ⟨Af HF.out.symm,Aa _ _⟩):G:=h
theorem Ae1{G:Prop}(h:G:=by
  have HV:=hid (Aav (px:=px) (py:=py) (qx:=qx) (qy:=qy) (by rw [HE.out];decide));clear hl
  go_wp2_with fail
  go_ret2
  exact ⟨Ay HV.out.symm HE.out.symm,HB.out⟩):G:=h
theorem Ae2{G:Prop}(h:G:=by
  go_wp2_with fail
  refine (HC.out _).mono ?_;rintro e w1 ⟨rfl,hB⟩
  have HB:=hid (Ap hB);clear hB
  go_wp2_with fail
  go_ret
  exact ⟨Af HF.out.symm,HB.out⟩):G:=h
theorem Ade{G:Prop}(h:G:=by
  go_wp2
  go_ret
  exact ⟨Ao (by rw [hv.out,Bool.eq_iff_iff];simp;try omega),rfl⟩):G:=h
theorem Ae3{G:Prop}(h:G:=by
  go_enter Tryz.func51,Tryz.ntmps51
  go_wp2
  go_ret
  exact ⟨Af HF.out.symm,Aa _ _⟩):G:=h
end Go.Proofs
namespace Go.Proofs.YtedcanagfajcgaaGreat
open Go.RowKit
open Go.Lib (hid)
structure U9 (w:World) (b c:Nat) (L:List (Int × Int)):Prop where
 lb:b<w.heap.size
 lc:c<w.heap.size
 cells:∀ k r,L[k]? = some r→w.cell? ⟨b,k,none⟩=some (vI r.1)∧w.cell? ⟨c,k,none⟩=some (vI r.2)
theorem KI (w:World) (L:List (Int × Int)) (x y:Array Value) (t u:TypeId) (hx:x.toList=L.map fun r=>vI r.1) (hy:y.toList=L.map fun r=>vI r.2) :
  U9 ((w.alloc (.cells x t)).alloc (.cells y u)) w.heap.size (w.heap.size+1) L:=by
 refine ⟨by simp;omega,by simp,fun k r hr=>⟨?_,?_⟩⟩
 ·rw [World.cell?_alloc_lt (w.alloc (.cells x t)) _ ⟨w.heap.size,k,none⟩ (by simp),World.cell?_alloc_new,← Array.getElem?_toList,hx,List.getElem?_map,hr];rfl
 ·have e:w.heap.size+1=(w.alloc (.cells x t)).heap.size:=by simp
  rw [e,World.cell?_alloc_new,← Array.getElem?_toList,hy,List.getElem?_map,hr];rfl
def Lb (L:List (Int × Int)) (n:Nat) (w:World) (e:Ending) (w':World):Prop :=
 ∃ b c,e=.returned (.tuple #[.slice (some ⟨b,0,none⟩) n n,.slice (some ⟨c,0,none⟩) n n])∧U9 w' b c L∧Below w.heap.size w w'
theorem UL (w:World):Calls Tryz.prog 226 #[vI 2] w (Lb At.tabR 14 w):=by
 go_enter Tryz.func226,Tryz.ntmps226
 go_wp2
 go_ret2
 exact ⟨w.heap.size,w.heap.size+1,rfl,KI w At.tabR _ _ _ _ (by rfl) (by rfl),((AJ _ _).alloc (Bn _) _).alloc (by simp) _⟩
theorem UM (w:World):Calls Tryz.prog 226 #[vI 3] w (Lb At.tabT 4 w):=by
 go_enter Tryz.func226,Tryz.ntmps226
 go_wp2
 go_ret2
 exact ⟨w.heap.size,w.heap.size+1,rfl,KI w At.tabT _ _ _ _ (by rfl) (by rfl),((AJ _ _).alloc (Bn _) _).alloc (by simp) _⟩
def Afb (L:List (Int × Int)) (alt:Int) (v:Value):Prop:=∃ m:Nat,v=vI (m:Int)∧m+2<=L.length∧∀ j,1<=j→j<=m→∀ r,L[j]? = some r→r.1 * 100<alt
theorem Ld (t:Int) (n:Nat) (L:List (Int × Int)) (alt:Int) (w:World) (hn:n=L.length) (hok:LU L) (ha0 : -200000<=alt) (ha1:alt<=6000000)
  (hlast:∀ r,L[n - 1]? = some r→alt<=r.1 * 100) (hR:∀ w,Calls Tryz.prog 226 #[vI t] w (Lb L n w)) :
  Calls Tryz.prog 200 #[vI t,vI alt] w fun e w'=>e=.returned (vI (At.tv L alt))∧Below w.heap.size w w':=by
 obtain ⟨o1,o2,o3,o4⟩:=hok;have HR:=hid hR;have O3:=hid o3;have O4:=hid o4
 rw [← hn] at o1 o2
 have HN:=hid hn;have HLAST:=hid hlast;clear hR o3 o4 hn hlast
 go_enter Tryz.func200,Tryz.ntmps200
 go_wp2_with fail
 refine (HR.out _).mono ?_;rintro e w1 ⟨b,c,rfl,hC,hB⟩
 have HC:=hid hC;have HB:=hid hB;clear hC hB
 go_wp2_with fail
 go_loop [7] (fun v=>Afb L alt v) (fun v=>n - (intOf v).toNat)
 case atStart=>exact ⟨0,rfl,by rw [← HN.out];omega,fun j j1 j2=>by omega⟩
 case round =>
  obtain ⟨m,rfl,hm,hlow⟩:=hrel
  rw [← HN.out] at hm
  have HL:=hid hlow;clear hlow;obtain ⟨⟨f0,v0⟩,e0⟩:∃ r,L[m]? = some r:=⟨_,AQ (by have:=HN.out;omega)⟩;obtain ⟨⟨f1,v1⟩,e1⟩:∃ r,L[m+1]? = some r:=⟨_,AQ (by have:=HN.out;omega)⟩;have B0:=O3.out _ (Au e0);have B1:=O3.out _ (Au e1);have hlt:f0<f1:=O4.out m _ _ e0 e1;obtain ⟨hc0,hc1⟩:=HC.out.cells m _ e0;obtain ⟨hd0,hd1⟩:=HC.out.cells (m+1) _ e1
  simp only at hc0 hc1 hd0 hd1 B0 B1
  obtain ⟨a1,a2,a3,a4⟩:=B0;obtain ⟨b1,b2,b3,b4⟩:=B1;have E0:=hid e0;have E1:=hid e1;clear e0 e1
  by_cases g2:f1 * 100<alt
  ·have hnl:m+2≠n:=fun h=>by
    have h1:L[n - 1]? = some (f1,v1):=by rw [show n - 1=m+1 from by omega];exact E1.out
    have:=HLAST.out _ h1
    simp only at this
    omega
   go_wp2_with fail
   go_round
   case rel =>
    refine ⟨m+1,by congr 1,by have:=HN.out;omega,fun j j1 j2 r hr=>?_⟩
    rcases Nat.lt_or_ge m j with h | h
    ·have hj:j=m+1:=by omega
     subst hj
     rw [E1.out] at hr
     obtain rfl:=Option.some.inj hr
     exact g2
    ·exact HL.out j j1 h r hr
   case measure=>exact zMs
  ·have hv:=hid (At.tv_at L m _ _ alt E0.out E1.out HL.out (.inr (by show alt<=f1 * 100;omega)))
   have hp:=NR (x:=v1 - v0) (y:=alt - f0 * 100) (by omega) (by omega);obtain ⟨X,hX⟩:∃ X,(v1 - v0) * (alt - f0 * 100)=X:=⟨_,rfl⟩
   rw [hX] at hp
   obtain ⟨p1,p2⟩:=hp
   have hY:(f1 - f0) * 100=f1 * 100 - f0 * 100:=by omega
   obtain ⟨c1,c2,c3,c4⟩:=Sc X (f1 * 100 - f0 * 100) (by omega) (by omega) (by omega);have H:=hid (fun w=>Ux (AdM (rFloor X (f1 * 100 - f0 * 100) ⟨by omega,by omega⟩ ⟨by omega,by omega⟩ w) c1 c2));have hend:=hid (show At.interp (f0,v0) (f1,v1) alt=v0+X / (f1 * 100 - f0 * 100) by unfold At.interp;rw [← hX];simp only;rw [hY]);have xb : -4611686018427387904<=X / (f1 * 100 - f0 * 100)∧X / (f1 * 100 - f0 * 100)<=4611686018427387904:=⟨c3,c4⟩;have hwX:IntKind.i64.wrap X=X:=iW _;have w1h:=iW (v1 - v0);have w2h:=iW (alt - f0 * 100);have w3h:=iW (f1 * 100 - f0 * 100);have w4h:=iW (f0 * 100);have w5h:=iW (f1 * 100);have w6h:=iW ((m:Int)+1)
   have w7h:((m:Int)+1).toNat=m+1:=by omega
   have w8h:0<=(m:Int)+1:=by omega
   have w9h:(m:Int)+1<n:=by omega
   have w10h:(m:Int)<n:=by omega
   clear c1 c2 c3 c4 hY;generalize X / (f1 * 100 - f0 * 100)=Z at *;obtain ⟨z1,z2⟩:=xb
   go_wp2_with fail
   go_quiet (fail)
   go_wp2_with fail
   go_quiet ((go_at_call 198;first | exact Eo (H.out _) | exact Calls.quiet_of_same (H.out _)))
   go_wp2_with fail
   go_ret
   exact ⟨Af (by rw [hv.out,hend.out]),Ag HB.out _⟩
theorem Zz (alt:Int) (h:Ed alt) (w:World):Calls Tryz.prog 200 #[vI 2,vI alt] w fun e w'=>e=.returned (vI (At.vR alt))∧Below w.heap.size w w':=by
 have:=Ld 2 14 At.tabR alt w rfl okR h.1 h.2 (fun r hr=>by obtain rfl:=Option.some.inj hr;exact h.2) UL
 rw [At.tv_R] at this;exact this
theorem ZA (alt:Int) (h:Ed alt) (w:World):Calls Tryz.prog 200 #[vI 3,vI alt] w fun e w'=>e=.returned (vI (At.vT alt))∧Below w.heap.size w w':=by
 have:=Ld 3 4 At.tabT alt w rfl okT h.1 h.2 (fun r hr=>by obtain rfl:=Option.some.inj hr;exact h.2) UM
 rw [At.tv_T] at this;exact this
theorem Agt (n m:Int) (w:World):Calls Tryz.prog 125 #[vI n,vI m] w fun e w'=>e=.returned (.bool (inB n 0 m))∧w=w':=by
 have hv:=hid (show inB n 0 m=(decide (0<=n) && decide (n<=m)) from rfl)
 by_cases h1:n<0
 ·go_enter Tryz.func125,Tryz.ntmps125
  exact Ade
 by_cases h2:m<n
 ·go_enter Tryz.func125,Tryz.ntmps125
  exact Ade
 ·go_enter Tryz.func125,Tryz.ntmps125
  exact Ade
theorem Ik {a:Acc} (h:a.B=false):a.E=2:=by unfold Acc.E;rw [h,if_neg (by decide)]
theorem Qb {a:Acc} (h:a.B=true):a.E=0:=by unfold Acc.E;rw [if_pos h]
theorem OC {a:Acc} {W:World} {b:Nat} (h:Has W b a.cells):W.cell? ⟨b,0,none⟩=some (vI a.em)∧W.cell? ⟨b,1,none⟩=some (vI a.ld)∧W.cell? ⟨b,2,none⟩=some (vI a.rs)∧W.cell? ⟨b,3,none⟩=some (vI a.bu):=⟨h.cell 0 _ rfl,h.cell 1 _ rfl,h.cell 2 _ rfl,h.cell 3 _ rfl⟩
theorem Gv (a:Acc) (w:World):Calls Tryz.prog 51 #[.agg #[vI a.em,vI a.ld,vI a.rs,vI a.bu]] w fun e w'=>e=.returned (vI a.E)∧Below w.heap.size w w':=by
 have HB:=hid (show a.B=(inB a.em 1 3000000000 && inB a.ld 0 (3000000000 - a.em) && inB a.rs 0 a.ld && inB a.bu 0 a.ld) from rfl)
 by_cases h1:a.em<1
 ·have HF:=hid (Ik (a:=a) (by rw [HB.out];unfold inB;simp;omega))
  exact Ae3
 by_cases h2:3000000000<a.em
 ·have HF:=hid (Ik (a:=a) (by rw [HB.out];unfold inB;simp;omega))
  exact Ae3
 have G0:=hid (show inB a.em 1 3000000000=true by unfold inB;simp;omega)
 go_enter Tryz.func51,Tryz.ntmps51
 go_wp2_with fail
 refine (Agt _ _ _).mono ?_;rintro e wx ⟨rfl,rfl⟩
 cases g:inB a.ld 0 (3000000000 - a.em)
 ·have HF:=hid (Ik (a:=a) (by rw [HB.out,g];simp))
  clear g
  exact Aag
 have G1:=hid g;clear g
 go_wp2_with fail
 refine (Agt _ _ _).mono ?_;rintro e wx ⟨rfl,rfl⟩
 cases g:inB a.rs 0 a.ld
 ·have HF:=hid (Ik (a:=a) (by rw [HB.out,g];simp))
  clear g
  exact Aag
 have G2:=hid g;clear g
 go_wp2_with fail
 refine (Agt _ _ _).mono ?_;rintro e wx ⟨rfl,rfl⟩
 cases g:inB a.bu 0 a.ld
 ·have HF:=hid (Ik (a:=a) (by rw [HB.out,g];simp))
  clear g
  exact Aag
 have G3:=hid g;clear g;have HF:=hid (Qb (a:=a) (by rw [HB.out,G0.out,G1.out,G2.out,G3.out];rfl))
 exact Aag
theorem Oo (a:Acc) (w:World):Calls Tryz.prog 17 #[.agg #[vI a.em,vI a.ld,vI a.rs,vI a.bu]] w fun e w'=>e=.returned (vI a.left)∧Below w.heap.size w w':=by
 cases hb:a.B
 ·have HF:=hid (show a.left=0 by unfold Acc.left;rw [hb,if_neg (by decide)])
  have HC:=hid (fun W=>Gv a W)
  rw [Ik hb] at HC
  clear hb
  go_enter Tryz.func17,Tryz.ntmps17
  exact Ae2
 have HF:=hid (show a.left=a.ld - a.bu from if_pos hb);have HC:=hid (fun W=>Gv a W)
 rw [Qb hb] at HC
 have hd:=Dv hb;clear hb
 go_enter Tryz.func17,Tryz.ntmps17
 go_wp2_with fail
 refine (HC.out _).mono ?_;rintro e w1 ⟨rfl,hB⟩
 have KB:Hid (Has w1 w.heap.size a.cells):=hid ((Has.new w #[vI a.em,vI a.ld,vI a.rs,vI a.bu] 33).below hB);have HB:=hid (Ap hB);clear hB;have k0:w1.cell? ⟨w.heap.size,0,none⟩=some (vI a.em):=KB.out.cell 0 _ rfl;have k1:w1.cell? ⟨w.heap.size,1,none⟩=some (vI a.ld):=KB.out.cell 1 _ rfl;have k2:w1.cell? ⟨w.heap.size,2,none⟩=some (vI a.rs):=KB.out.cell 2 _ rfl;have k3:w1.cell? ⟨w.heap.size,3,none⟩=some (vI a.bu):=KB.out.cell 3 _ rfl
 go_wp2_with fail
 go_ret
 exact ⟨Af HF.out.symm,HB.out⟩
theorem TT (a:Acc) (w:World):Calls Tryz.prog 178 #[.agg #[vI a.em,vI a.ld,vI a.rs,vI a.bu]] w fun e w'=>e=.returned (vI a.mass)∧Below w.heap.size w w':=by
 cases hb:a.B
 ·have HF:=hid (show a.mass=0 by unfold Acc.mass;rw [hb,if_neg (by decide)])
  have HC:=hid (fun W=>Gv a W)
  rw [Ik hb] at HC
  clear hb
  go_enter Tryz.func178,Tryz.ntmps178
  exact Ae2
 have HF:=hid (show a.mass=a.em+(a.ld - a.bu) from if_pos hb);have HC:=hid (fun W=>Gv a W)
 rw [Qb hb] at HC
 have HL:=hid (fun W=>Oo a W)
 rw [show a.left=a.ld - a.bu from if_pos hb] at HL
 have hd:=Dv hb;clear hb
 go_enter Tryz.func178,Tryz.ntmps178
 go_wp2_with fail
 refine (HC.out _).mono ?_;rintro e w1 ⟨rfl,hB⟩
 have KB:Hid (Has w1 w.heap.size a.cells):=hid ((Has.new w #[vI a.em,vI a.ld,vI a.rs,vI a.bu] 33).below hB);have HB:=hid (Ap hB);clear hB;have k0:w1.cell? ⟨w.heap.size,0,none⟩=some (vI a.em):=KB.out.cell 0 _ rfl;have k1:w1.cell? ⟨w.heap.size,1,none⟩=some (vI a.ld):=KB.out.cell 1 _ rfl;have k2:w1.cell? ⟨w.heap.size,2,none⟩=some (vI a.rs):=KB.out.cell 2 _ rfl;have k3:w1.cell? ⟨w.heap.size,3,none⟩=some (vI a.bu):=KB.out.cell 3 _ rfl
 go_wp2_with fail
 go_region_held3 (fun W=>W.cell? ⟨w.heap.size,0,none⟩=some (vI a.em)∧W.cell? ⟨w.heap.size,1,none⟩=some (vI a.ld)∧W.cell? ⟨w.heap.size,2,none⟩=some (vI a.rs)∧W.cell? ⟨w.heap.size,3,none⟩=some (vI a.bu)) ((first | exact OC (Hid.out (by assumption)) | exact OC (Has.drew (Hid.out (by assumption))))) ((go_at_call 17;refine (HL.out _).mono ?_;rintro e wx ⟨rfl,hB⟩;have KC:Hid (Has wx w.heap.size a.cells):=hid (Has.below (by first | exact Hid.out (by assumption) | exact Has.drew (Hid.out (by assumption))) hB);have BB:Hid (Below w.heap.size w wx):=hid (Ae (by first | exact Hid.out (by assumption) | exact Below.drew (Hid.out (by assumption))) hB);clear hB))
 all_goals (
  go_wp2_with fail
  go_ret
  exact ⟨Af (by rw [HF.out];exact (iW _)),BB.out⟩)
open Tr
def ptC (p:Int × Int):List Value:=(lz2 p.1 p.2)
def lnB (px py qx qy:Int):Bool:=ptB px py && ptB qx qy
def coE (px py qx qy:Int):Int:=if lnB px py qx qy=false then 1 else if px=qx∧py=qy then 10 else 0
noncomputable def coV (px py qx qy:Int):Int:=if coE px py qx qy≠0 then 0 else atV (qx - px) (qy - py)
theorem Aat {px py qx qy:Int} (h:lnB px py qx qy=false):coE px py qx qy=1:=if_pos h
theorem Vu {px py qx qy:Int} (h:lnB px py qx qy=true) (h2:px=qx∧py=qy):coE px py qx qy=10:=by unfold coE;rw [h,if_neg (by decide),if_pos h2]
theorem Aas {px py qx qy:Int} (h:lnB px py qx qy=true) (h2:¬ (px=qx∧py=qy)):coE px py qx qy=0:=by unfold coE;rw [h,if_neg (by decide),if_neg h2]
theorem Aav {px py qx qy:Int} (h:coE px py qx qy≠0):coV px py qx qy=0:=if_pos h
theorem Aau {px py qx qy:Int} (h:coE px py qx qy=0):coV px py qx qy=atV (qx - px) (qy - py):=by unfold coV;rw [h,if_neg (by decide)]
theorem QA {px py qx qy:Int} (h:lnB px py qx qy=true):(-2000000<=px∧px<=2000000)∧(-2000000<=py∧py<=2000000)∧(-2000000<=qx∧qx<=2000000)∧(-2000000<=qy∧qy<=2000000):=by
 unfold lnB at h
 rw [Bool.and_eq_true] at h
 have h1:=Eg.1 h.1;have h2:=Eg.1 h.2
 exact ⟨h1.1,h1.2,h2.1,h2.2⟩
theorem at0 {px py qx qy:Int} (h:lnB px py qx qy=true) (h2:¬ (px=qx∧py=qy)):atE (qx - px) (qy - py)=0:=by
 have:=QA h
 exact KD (by simp [Ch];omega) (by omega)
def AdA (l:List (Int × Int)) (n:Nat) (w:World) (t:Value) (wr:World):Prop:=∃ k:Nat,k<=n∧t=vI k∧((l.take k).all fun p=>ptB p.1 p.2)=true∧Below w.heap.size w wr
theorem YF {α:Type} {l:List α} {f:α→Bool} {k:Nat} {q:α} (h:l[k]? = some q) (hf:f q=false):l.all f=false:=by
 rw [List.all_eq_false];exact ⟨q,Au h,by rw [hf];decide⟩
theorem AfQ (A:Option Addr) (n c:Nat) (l:List (Int × Int)) (w:World) (hl:Recs ptC 2 w A n l) (hn:n<=maxLen):Calls Tryz.prog 168 #[.slice A n c] w fun e w'=>e=.returned (.bool (l.all fun p=>ptB p.1 p.2))∧Below w.heap.size w w':=by
 have HE:=hid hl;have HL:=hid hl.len
 unfold maxLen at hn
 clear hl
 go_enter Tryz.func168,Tryz.ntmps168
 go_wp2_with fail
 go_loopw [7] (fun t wr=>AdA l n w t wr) (fun t _=>n - (intOf t).toNat)
 case atStart=>exact ⟨0,by omega,rfl,by simp,AJ _ _⟩
 case round =>
  obtain ⟨k,hk,rfl,hall,hB⟩:=hrel;have HB1:=hid hB;have HAL:=hid hall;clear hall hB
  by_cases hlt:k<n
  ·obtain ⟨q,hq⟩:=Am HL.out hlt
   obtain ⟨b,off,rfl,hb,hc⟩:=HE.out.cells (by omega);have c0:wr.cell? ⟨b,off+k * 2,none⟩=some (vI q.1):=(HB1.out.cell (p:=⟨b,_,none⟩) hb).trans (hc k q hq 0 _ rfl);have c1:wr.cell? ⟨b,off+k * 2+1,none⟩=some (vI q.2):=(HB1.out.cell (p:=⟨b,_,none⟩) hb).trans (hc k q hq 1 _ rfl);have HQ:=hid hq;have HT:=hid (Aq l k q hq);clear hc hq
   go_wp2_with fail
   refine (Ada _ _ _).mono ?_;rintro e w2 ⟨rfl,hB⟩
   have HB2:=hid (Ae HB1.out (Ap hB));clear hB
   cases g1:ptB q.1 q.2
   ·have G:=hid (show (l.all fun p=>ptB p.1 p.2)=false from YF HQ.out g1)
    clear g1
    go_wp2_with fail
    go_ret
    exact ⟨Ao (by rw [G.out]),HB2.out⟩
   have G1:=hid g1;clear g1
   go_wp2_with fail
   go_roundw
   case rel=>exact ⟨k+1,by omega,by go_num,by rw [HT.out,List.all_append,HAL.out];simp [G1.out],HB2.out⟩
   case measure=>exact zMs
  ·have HA:=hid (show (l.all fun p=>ptB p.1 p.2)=true by have:=HAL.out;rwa [CY (by rw [HL.out];omega)] at this)
   go_wp2_with fail
   go_ret
   exact ⟨Ao (by rw [HA.out]),HB1.out⟩
theorem AeT (px py qx qy:Int) (T:TypeId) (w:World) (H:Nat) (hH:w.heap.size=H):Calls Tryz.prog 168 #[.slice (some ⟨H,0,none⟩) 2 2] (w.alloc (.cells #[vI px,vI py,vI qx,vI qy] T)) fun e w'=>e=.returned (.bool (lnB px py qx qy))∧Below w.heap.size w w':=by
 subst hH
 refine (AfQ _ 2 2 [(px,py),(qx,qy)] _ (Recs.of_alloc (f:=ptC) (sz:=2) (fun _=>rfl) w _ T [(px,py),(qx,qy)] 2 rfl rfl _ rfl) (by unfold maxLen;omega)).mono fun e w' ⟨h1,h2⟩=>⟨?_,Ap h2⟩
 rw [h1]
 simp [lnB]
theorem Aex (px py qx qy:Int) (w:World):Calls Tryz.prog 148 #[.agg #[vI px,vI py],.agg #[vI qx,vI qy],.agg #[vI qx,vI qy]] w fun e w'=>e=.returned (.bool (lnB px py qx qy))∧Below w.heap.size w w':=by
 have hv:=hid (show lnB px py qx qy=(ptB px py && ptB qx qy) from rfl)
 go_enter Tryz.func148,Tryz.ntmps148
 go_wp2_with fail
 refine (QW _ _ _).mono ?_;rintro e w1 ⟨rfl,hB⟩
 have B1:Hid (Has w1 (w.heap.size+1) (lz2 qx qy)):=hid (((Has.newAt (w.alloc _) _ _ (w.heap.size+1) (by simp)).alloc _).below hB);have B2:Hid (Has w1 (w.heap.size+1+1) (lz2 qx qy)):=hid ((Has.newAt ((w.alloc _).alloc _) _ _ (w.heap.size+1+1) (by simp)).below hB);have HB:=hid ((Da w _ _ _).trans (hB.mono (by simp;omega)));clear hB
 cases h1:ptB px py
 ·have G:=hid h1
  clear h1
  go_wp2_with fail
  go_ret
  exact ⟨Ao (by rw [hv.out,G.out];rfl),HB.out⟩
 have G1:=hid h1;clear h1;have k0:w1.cell? ⟨w.heap.size+1,0,none⟩=some (vI qx):=B1.out.cell 0 _ rfl;have k1:w1.cell? ⟨w.heap.size+1,1,none⟩=some (vI qy):=B1.out.cell 1 _ rfl
 go_wp2_with fail
 refine (QW _ _ _).mono ?_;rintro e w2 ⟨rfl,hB⟩
 replace B2:=hid (B2.out.below hB);replace HB:=hid (Ae HB.out hB);clear hB k0 k1
 cases h1:ptB qx qy
 ·have G:=hid h1
  clear h1
  go_wp2_with fail
  go_ret
  exact ⟨Ao (by rw [hv.out,G1.out,G.out];rfl),HB.out⟩
 have G2:=hid h1;clear h1;have k0:w2.cell? ⟨w.heap.size+1+1,0,none⟩=some (vI qx):=B2.out.cell 0 _ rfl;have k1:w2.cell? ⟨w.heap.size+1+1,1,none⟩=some (vI qy):=B2.out.cell 1 _ rfl
 go_wp2_with fail
 refine (QW _ _ _).mono ?_;rintro e w3 ⟨rfl,hB⟩
 replace HB:=hid (Ae HB.out hB);clear hB;have h1:=G2.out
 go_wp2_with fail
 go_ret
 exact ⟨Ao (by rw [hv.out,G1.out,G2.out];simp),HB.out⟩
theorem AfR (px py qx qy:Int) (hx : -9223372036854775808<=qx - px∧qx - px<=9223372036854775807) (hy : -9223372036854775808<=qy - py∧qy - py<=9223372036854775807) (w:World):Calls Tryz.prog 169 #[.agg #[vI px,vI py],.agg #[vI qx,vI qy]] w fun e w'=>e=.returned (.agg #[vI (qx - px),vI (qy - py)])∧Below w.heap.size w w':=by
 obtain ⟨x0,x1⟩:=hx;obtain ⟨y0,y1⟩:=hy
 go_enter Tryz.func169,Tryz.ntmps169
 go_wp2_with fail
 exact bodyPost_ret (v:=.agg #[vI (qx - px),vI (qy - py)]) (by simp [results,Tryz.results169,go_sem]) rfl ⟨rfl,Da w _ _ _⟩
theorem ZY (px py qx qy:Int) (w:World):Calls Tryz.prog 101 #[.agg #[vI px,vI py],.agg #[vI qx,vI qy]] w fun e w'=>e=.returned (.tuple #[vI (coV px py qx qy),vI (coE px py qx qy)])∧Below w.heap.size w w':=by
 go_enter Tryz.func101,Tryz.ntmps101
 go_wp2_with fail
 refine (AeT px py qx qy _ _ _ (by simp)).mono ?_;rintro e w1 ⟨rfl,hB⟩
 have K1:Hid (Has w1 w.heap.size (lz2 px py)):=hid (((Has.new w _ _).alloc _).below hB);have K2:Hid (Has w1 (w.heap.size+1) (lz2 qx qy)):=hid ((Has.newAt (w.alloc _) _ _ (w.heap.size+1) (by simp)).below hB);have HB:=hid ((Cg w _ _).trans (hB.mono (by simp;omega)));clear hB
 cases hl:lnB px py qx qy
 ·have HE:=hid (Aat hl)
  exact Ae1
 have hb:=QA hl;have HLN:=hid hl;clear hl;have k0:w1.cell? ⟨w.heap.size,0,none⟩=some (vI px):=K1.out.cell 0 _ rfl;have k1:w1.cell? ⟨w.heap.size,1,none⟩=some (vI py):=K1.out.cell 1 _ rfl;have k2:w1.cell? ⟨w.heap.size+1,0,none⟩=some (vI qx):=K2.out.cell 0 _ rfl;have k3:w1.cell? ⟨w.heap.size+1,1,none⟩=some (vI qy):=K2.out.cell 1 _ rfl
 by_cases hz:px=qx∧py=qy
 ·have HE:=hid (Vu HLN.out hz)
  exact Ae0
 have HE:=hid (Aas HLN.out hz);have HV:=hid (Aau HE.out);have HAT:=hid (fun w'=>XT (qx - px) (qy - py) ⟨by omega,by omega⟩ ⟨by omega,by omega⟩ w')
 rw [at0 HLN.out hz] at HAT
 have HVC:=hid (AfR px py qx qy ⟨by omega,by omega⟩ ⟨by omega,by omega⟩)
 rcases (show (px == qx)=false∨((px == qx)=true∧(py == qy)=false) by
  cases h:(px == qx)
  ·exact .inl rfl
  ·refine .inr ⟨rfl,BA.2 fun h2=>hz ⟨beq_iff_eq.1 h,h2⟩⟩) with z1 | ⟨z1,z2⟩
 all_goals (
  clear hz;obtain ⟨⟨p0,p1⟩,⟨p2,p3⟩,⟨r0,r1⟩,r2,r3⟩:=hb
  go_wp2_with fail
  refine (HVC.out _).mono ?_;rintro e w2 ⟨rfl,hB⟩
  replace HB:=hid (Ae HB.out hB);clear hB k0 k1 k2 k3
  go_wp2_with fail
  refine (HAT.out _).mono ?_;rintro e w3 ⟨rfl,hB⟩
  replace HB:=hid (Ae HB.out (Ap hB));clear hB
  go_wp2_with fail
  go_ret2
  exact ⟨Ay HV.out.symm HE.out.symm,HB.out⟩)
theorem Zm (px py qx qy:Int) (w:World):Calls Tryz.prog 82 #[.agg #[vI px,vI py],.agg #[vI qx,vI qy]] w fun e w'=>e=.returned (.tuple #[vI (coV px py qx qy),vI (coE px py qx qy)])∧Below w.heap.size w w':=by
 go_enter Tryz.func82,Tryz.ntmps82
 go_wp2_with fail
 refine (Aex px py qx qy _).mono ?_;rintro e w1 ⟨rfl,hB⟩
 have K1:Hid (Has w1 w.heap.size (lz2 px py)):=hid (((Has.new w _ _).alloc _).below hB);have K2:Hid (Has w1 (w.heap.size+1) (lz2 qx qy)):=hid ((Has.newAt (w.alloc _) _ _ (w.heap.size+1) (by simp)).below hB);have HB:=hid ((Cg w _ _).trans (hB.mono (by simp;omega)));clear hB
 cases hl:lnB px py qx qy
 ·have HE:=hid (Aat hl)
  exact Ae1
 have hb:=QA hl;have HLN:=hid hl;clear hl;have k0:w1.cell? ⟨w.heap.size,0,none⟩=some (vI px):=K1.out.cell 0 _ rfl;have k1:w1.cell? ⟨w.heap.size,1,none⟩=some (vI py):=K1.out.cell 1 _ rfl;have k2:w1.cell? ⟨w.heap.size+1,0,none⟩=some (vI qx):=K2.out.cell 0 _ rfl;have k3:w1.cell? ⟨w.heap.size+1,1,none⟩=some (vI qy):=K2.out.cell 1 _ rfl
 by_cases hz:px=qx∧py=qy
 ·have HE:=hid (Vu HLN.out hz)
  exact Ae0
 have HE:=hid (Aas HLN.out hz);have HV:=hid (Aau HE.out);have HAT:=hid (fun w'=>WW (qx - px) (qy - py) ⟨by omega,by omega⟩ ⟨by omega,by omega⟩ w')
 rw [at0 HLN.out hz] at HAT
 rcases (show (px == qx)=false∨((px == qx)=true∧(py == qy)=false) by
  cases h:(px == qx)
  ·exact .inl rfl
  ·refine .inr ⟨rfl,BA.2 fun h2=>hz ⟨beq_iff_eq.1 h,h2⟩⟩) with z1 | ⟨z1,z2⟩
 all_goals (
  clear hz;obtain ⟨⟨p0,p1⟩,⟨p2,p3⟩,⟨r0,r1⟩,r2,r3⟩:=hb
  go_wp2_with fail
  refine (HAT.out _).mono ?_;rintro e w3 ⟨rfl,hB⟩
  replace HB:=hid (Ae HB.out hB);clear hB
  go_wp2_with fail
  go_ret2
  exact ⟨Ay HV.out.symm HE.out.symm,HB.out⟩)
def Kw (co tas e n:Int) (w:World) (e':Ending) (w':World):Prop:=∃ d:Int,e'=.returned (.tuple #[vI (gsV co tas e n),vI d,vI (gsE co tas e n)])∧Below w.heap.size w w'
theorem Cx {co tas e n E:Int} {w w':World} (hE:gsE co tas e n=E) (h0:E≠0) (hb:Below w.heap.size w w'):Kw co tas e n w (.returned (.tuple #[vI 0,vI 0,vI E])) w' :=
 ⟨0,ES (by unfold gsV;rw [if_neg (by rw [hE];exact h0)]) rfl hE.symm,hb⟩
theorem Wm {co tas e n:Int} (h:(wiB e n && inB tas 1 4000)=false):gsE co tas e n=1:=if_pos h
theorem Wn {co tas e n:Int} (h:(wiB e n && inB tas 1 4000)=true) (h2:tas * 1024<=Bo (acV co e n)):gsE co tas e n=10:=by unfold gsE;rw [h,if_neg (by decide),if_pos h2]
theorem AaK {co tas e n:Int} (h:(wiB e n && inB tas 1 4000)=true) (h2:¬ tas * 1024<=Bo (acV co e n)) (h3:alV co e n+gsR co tas e n<1024):gsE co tas e n=10:=by unfold gsE;rw [h,if_neg (by decide),if_neg h2,if_pos h3]
theorem Wl {co tas e n:Int} (h:(wiB e n && inB tas 1 4000)=true) (h2:¬ tas * 1024<=Bo (acV co e n)) (h3:¬ alV co e n+gsR co tas e n<1024):gsE co tas e n=0∧gsV co tas e n=alV co e n+gsR co tas e n:=by
 have e:gsE co tas e n=0:=by unfold gsE;rw [h,if_neg (by decide),if_neg h2,if_neg h3]
 exact ⟨e,if_pos e⟩
theorem Ht {T:Int} (h0:0<=T) (h1:T<=4096000):0<=T * T∧T * T<=16777216000000:=by
 have:=Int.mul_le_mul h1 h1 h0 (by decide);have:=BM h0 h0
 omega
theorem EK {T:Int} (h0 : -819200<=T) (h1:T<=819200):0<=T * T∧T * T<=671088640000:=by
 have:=mul_bd (A:=819200) (X:=819200) ⟨h0,h1⟩ ⟨h0,h1⟩
 have:0<=T * T:=by
  rcases Int.le_total 0 T with h | h
  ·exact BM h h
  ·exact Int.mul_nonneg_of_nonpos_of_nonpos h h
 omega
theorem Z6 (co tas e n:Int) (hco:I64 co) (w:World):Calls Tryz.prog 102 #[vI co,vI tas,.agg #[vI e,vI n]] w (Kw co tas e n w):=by
 have HP:=hid (fun W=>LB co e n hco W);have HS:=hid (fun W=>Aab tas W);clear hco
 cases g:wiB e n
 ·rw [show ptE e n=1 by unfold ptE;rw [g];rfl,show ptA co e n=0 by unfold ptA;rw [g];rfl,show ptX co e n=0 by unfold ptX;rw [g];rfl] at HP
  have HF:=hid (fun (e':Ending) (w':World) (hb:Below w.heap.size w w')=>Cx (co:=co) (tas:=tas) (Wm (by rw [g];rfl)) (by decide) hb);clear g
  go_enter Tryz.func102,Tryz.ntmps102
  go_wp2_with fail
  refine (HP.out _).mono ?_;rintro e' w1 ⟨rfl,hB⟩
  have HB:=hid (Ap hB);clear hB
  go_wp2_with fail
  go_ret3
  exact HF.out (.returned (.tuple #[])) _ HB.out
 rw [show ptE e n=0 by unfold ptE;rw [g];rfl,show ptA co e n=alV co e n by unfold ptA;rw [g];rfl,show ptX co e n=acV co e n by unfold ptX;rw [g];rfl] at HP
 cases g2:inB tas 1 4000
 ·have HF:=hid (fun (w':World) (hb:Below w.heap.size w w')=>Cx (co:=co) (tas:=tas) (Wm (by rw [g,g2];rfl)) (by decide) hb)
  rw [g2] at HS
  clear g g2;generalize alV co e n=al at *;generalize acV co e n=ac at *
  exact Adc
 have hg:(wiB e n && inB tas 1 4000)=true:=by rw [g,g2];rfl
 obtain ⟨t0,t1⟩:=Al.1 g2;obtain ⟨⟨a0,a1⟩,b0,b1⟩:=Il (co:=co) g
 rw [g2] at HS
 have HR:=hid (show gsR co tas e n=sqV (tas * 1024 * (tas * 1024) - acV co e n * acV co e n) from rfl);have q1:=Ht (T:=tas * 1024) (by omega) (by omega);have q2:=EK b0 b1;clear g g2
 by_cases h0:tas * 1024<=acV co e n
 ·have HF:=hid (fun (w':World) (hb:Below w.heap.size w w')=>Cx (Wn (co:=co) hg (by unfold Bo;omega)) (by decide) hb)
  clear HR q1 q2 hg;generalize alV co e n=al at *;generalize acV co e n=ac at *
  exact Adc
 by_cases h1:tas * 1024 <= -acV co e n
 ·have HF:=hid (fun (w':World) (hb:Below w.heap.size w w')=>Cx (Wn (co:=co) hg (by unfold Bo;omega)) (by decide) hb)
  clear HR q1 q2 hg;generalize alV co e n=al at *;generalize acV co e n=ac at *
  exact Adc
 have hn:¬ tas * 1024<=Bo (acV co e n):=by unfold Bo;omega
 have HQ:=hid (fun W=>xSqrt (tas * 1024 * (tas * 1024) - acV co e n * acV co e n) (by omega) W);have hr:=EJ (tas * 1024 * (tas * 1024) - acV co e n * acV co e n) (by omega)
 rw [← HR.out] at HQ hr
 have u1:IntKind.i64.wrap (tas * 1024 * (tas * 1024))=tas * 1024 * (tas * 1024):=Bc (by omega) (by omega);have u2:IntKind.i64.wrap (acV co e n * acV co e n)=acV co e n * acV co e n:=Bc (by omega) (by omega);have u3:IntKind.i64.wrap (tas * 1024 * (tas * 1024) - acV co e n * acV co e n)=tas * 1024 * (tas * 1024) - acV co e n * acV co e n:=Bc (by omega) (by omega);obtain ⟨r0,r1,_⟩:=hr
 by_cases h3:alV co e n+gsR co tas e n<1024
 ·have HF:=hid (fun (w':World) (hb:Below w.heap.size w w')=>Cx (AaK (co:=co) hg hn h3) (by decide) hb)
  clear HR q1 q2 hg hn;generalize gsR co tas e n=R at *;generalize alV co e n=al at *;generalize acV co e n=ac at *
  go_enter Tryz.func102,Tryz.ntmps102
  go_wp2_with fail
  refine (HP.out _).mono ?_;rintro e' w1 ⟨rfl,hB⟩
  have HB:=hid (Ap hB);clear hB
  go_wp2_with fail
  refine (HS.out _).mono ?_;rintro e' wx ⟨rfl,rfl⟩
  go_wp2_with fail
  refine (HQ.out _).mono ?_;rintro e' wx ⟨rfl,rfl⟩
  go_wp2_with fail
  go_ret3
  exact HF.out _ HB.out
 obtain ⟨z0,z1⟩:=Wl (co:=co) hg hn h3;have HAT:=hid (fun W=>XT (-acV co e n) (gsR co tas e n) (by unfold I64;omega) (by unfold I64;omega) W);have hat:=Qd (-acV co e n) (gsR co tas e n);have HDF:=hid (fun W=>AeH 0 (atV (-acV co e n) (gsR co tas e n)) (by unfold I64;omega) (by unfold I64;omega) W);have HF:=hid (fun (d:Int) (w':World) (hb:Below w.heap.size w w')=>(show Kw co tas e n w (.returned (.tuple #[vI (alV co e n+gsR co tas e n),vI d,vI 0])) w' from ⟨d,ES z1.symm rfl z0.symm,hb⟩));clear HR q1 q2 hg hn z0 z1 hat;generalize Mf 0 (atV (-acV co e n) (gsR co tas e n))=D at *;generalize atV (-acV co e n) (gsR co tas e n)=AT at *;generalize atE (-acV co e n) (gsR co tas e n)=AE at *;generalize gsR co tas e n=R at *;generalize alV co e n=al at *;generalize acV co e n=ac at *
 go_enter Tryz.func102,Tryz.ntmps102
 go_wp2_with fail
 refine (HP.out _).mono ?_;rintro e' w1 ⟨rfl,hB⟩
 have HB:=hid (Ap hB);clear hB
 go_wp2_with fail
 refine (HS.out _).mono ?_;rintro e' wx ⟨rfl,rfl⟩
 go_wp2_with fail
 refine (HQ.out _).mono ?_;rintro e' wx ⟨rfl,rfl⟩
 go_wp2_with fail
 refine (HAT.out _).mono ?_;rintro e' w2 ⟨rfl,hB⟩
 replace HB:=hid (Ae HB.out hB);clear hB
 go_wp2_with fail
 refine (HDF.out _).mono ?_;rintro e' wx ⟨rfl,rfl⟩
 go_wp2_with fail
 go_ret3
 exact HF.out _ _ HB.out
