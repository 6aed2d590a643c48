
/- The reference of layer 1: quotient computes what the plain words of FxPlain say. -/
import Derived.Test.YtheepmnhpclimaaGreatM17
import Derived.Deep.DeepCutAuto
import Derived.Laws.BitsAllLaws
set_option linter.unusedSimpArgs false
set_option linter.unusedVariables false
set_option maxRecDepth 100000
set_option maxHeartbeats 2000000
namespace Go.Proofs
theorem zFxQuo0 {G : Prop} (h : G := by
  have e1:(ql:Int)<18446744073709551615:=by omega
  clear g
  go_wp2_with fail
  go_meet
  have hq:=HQ.out
  simp only [if_true] at hq
  exact ⟨by congr 1;omega,by congr 1;omega,rfl⟩) : G := h
theorem zFxQuo1 {G : Prop} (h : G := by
  have o:=hid (sg_neg (Q:=Q) (by have:=HXY.out;have:=G1.out;omega));have B3:=hid g3;have B2:=hid g2;clear g3
  go_upto_region 21 with fail
  clear e3 g2 e1 e2 bz hr hD hql hcb
  go_wp2_with fail
  go_ret2
  exact ⟨ret_tup2R (by rw [o.out.1];have:=HXY.out;have:=G1.out;have:=HZ.out;have:=Hy64.out;have:=B3.out;have:=B2.out;unfold wrap64;simp only [wrapu];omega) o.out.2.symm,rfl⟩) : G := h
theorem zFxQuo2 {G : Prop} (h : G := by
  have G:=hid g;clear g
  go_wp2_with fail
  go_meet
  have hq:=HQ.out;have g:=G.out
  simp only [if_true] at hq
  exact ⟨by congr 1;omega,by congr 1;omega,rfl⟩) : G := h
theorem zFxQuo3 {G : Prop} (h : G := by
  go_wp2_with fail
  go_ret2
  exact ⟨ret_tup2R o.out.1.symm o.out.2.symm,rfl⟩) : G := h
theorem zFxQuo4 {G : Prop} (h : G := by
  have o:=hid (sg_edge);have G3:=hid g3;clear g3
  go_wp2_with fail
  go_ret2
  have g3:=G3.out
  exact ⟨ret_tup2R (by rw [show Q=9223372036854775808 from by have:=HXY.out;have:=G1.out;omega];exact o.out.1.symm) (by rw [show Q=9223372036854775808 from by have:=HXY.out;have:=G1.out;omega];exact o.out.2.symm),rfl⟩) : G := h
theorem zFxQuo5 {G : Prop} (h : G := by
  go_meet
  have hq:=HQ.out
  simp only [Bool.false_eq_true,if_false,Nat.add_zero] at hq
  exact ⟨by congr 1;omega,by congr 1;omega,rfl⟩) : G := h
theorem zFxQuo6 {G : Prop} (h : G := by
  have o:=hid (sg_neg (Q:=Q) (by have:=HXY.out;have:=G1.out;omega));have G3:=hid g3;clear g3
  go_wp2_with fail
  go_ret2
  have g3:=G3.out
  exact ⟨ret_tup2R (by rw [o.out.1];have:=HXY.out;have:=G1.out;have:=HZ.out;have:=Hy64.out;have:=G3.out;unfold wrap64;simp only [wrapu];omega) o.out.2.symm,rfl⟩) : G := h
theorem zFxQuo7 {G : Prop} (h : G := by
  have o:=hid (sg_pos (Q:=Q) (by have:=HXY.out;have:=G1.out;omega));have B3:=hid g3;have B2:=hid g2;clear g3
  go_wp2_with fail
  go_ret2
  exact ⟨ret_tup2R (by rw [o.out.1];have:=HXY.out;have:=G1.out;have:=B3.out;have:=B2.out;unfold wrap64;omega) o.out.2.symm,rfl⟩) : G := h
theorem zFxQuo8 {G : Prop} (h : G := by
  subst ha;have g3:((r:Int) == 0)=true:=beq_iff_eq.2 g1
  have g4:((r:Int) != 0)=false:=by rw [bne,g3];rfl
  have G1:=hid g1;clear g1
  go_wp2_with fail
  go_meet
  exact ⟨rfl,rfl⟩) : G := h
theorem zFxQuo9 {G : Prop} (h : G := by
  subst ha;have g3:((r:Int) == 0)=false:=beq_eq_false_iff_ne.2 g1
  have g4:((r:Int) != 0)=true:=by rw [bne,g3];rfl
  go_wp2_with fail
  go_meet
  exact ⟨rfl,rfl⟩) : G := h
theorem zFxQuo10 {G : Prop} (h : G := by
  subst ha;have g3:((r:Int) == D - r)=true:=beq_iff_eq.2 g2;have G2:=hid g2;clear g2
  go_wp2_with fail
  go_meet
  exact ⟨rfl,rfl⟩) : G := h
end Go.Proofs
namespace Go.Proofs.YtheepmnhpclimaaGreat
open Go.RowKit
open Go.Lib (hid)
theorem sg_out {Q:Nat} {neg:Bool} (h:9223372036854775808<Q):Fx.sgV Q neg=0∧Fx.sgE Q neg=2:=by
 cases neg
 ·simp only [Fx.sgV,Fx.sgE,Bool.false_eq_true,if_false]
  rw [if_neg (by omega),if_neg (by omega)];exact ⟨rfl,rfl⟩
 ·simp only [Fx.sgV,Fx.sgE,if_true]
  rw [if_neg (by omega),if_neg (by omega)];exact ⟨rfl,rfl⟩
theorem sg_pos {Q:Nat} (h:Q<9223372036854775808):Fx.sgV Q false=Q∧Fx.sgE Q false=0:=by
 simp only [Fx.sgV,Fx.sgE,Bool.false_eq_true,if_false]
 rw [if_pos h,if_pos h];exact ⟨rfl,rfl⟩
theorem sg_edge:Fx.sgV 9223372036854775808 false=0∧Fx.sgE 9223372036854775808 false=2:=by
 simp only [Fx.sgV,Fx.sgE,Bool.false_eq_true,if_false]
 rw [if_neg (by decide),if_neg (by decide)];exact ⟨rfl,rfl⟩
theorem sg_neg {Q:Nat} (h:Q<=9223372036854775808):Fx.sgV Q true = -(Q:Int)∧Fx.sgE Q true=0:=by
 simp only [Fx.sgV,Fx.sgE,if_true]
 rw [if_pos h,if_pos h];exact ⟨rfl,rfl⟩
theorem u64_not (a:Nat) (ha:a<18446744073709551616):bits .xor .u64 IntKind.u64.max (a:Int)=((18446744073709551615 - a:Nat):Int):=by
 have hm:IntKind.u64.max=((18446744073709551615:Nat):Int):=rfl
 rw [hm,u64_xor_nat _ _ (by decide) ha]
 congr 1
 have h1:=BitVec.toNat_not (x:=BitVec.ofNat 64 a);have h2:(~~~(BitVec.ofNat 64 a))=BitVec.allOnes 64 ^^^ BitVec.ofNat 64 a:=(BitVec.allOnes_xor).symm
 rw [h2,BitVec.toNat_xor,BitVec.toNat_ofNat,BitVec.toNat_allOnes,Nat.mod_eq_of_lt (by simpa using ha)] at h1
 exact h1
theorem ret_tup2R {k l:IntKind} {a b c d:Int} (h:a=c) (h':b=d):Ending.returned (.tuple #[.int k a,.int l b])=.returned (.tuple #[.int k c,.int l d]):=by rw [h,h']
theorem rhn_neg {a b c:Int} {neg:Bool} (hn:Fx.negOf a b c=neg) (hc:c<0):(!(decide (a<0) == decide (b<0))) = !neg:=by
 subst hn;unfold Fx.negOf;rw [decide_eq_true hc];cases decide (a<0) <;> cases decide (b<0) <;> rfl
theorem rhn_pos {a b c:Int} {neg:Bool} (hn:Fx.negOf a b c=neg) (hc:¬ c<0):(!(decide (a<0) == decide (b<0)))=neg:=by
 subst hn;unfold Fx.negOf;rw [decide_eq_false hc];cases decide (a<0) <;> cases decide (b<0) <;> rfl
theorem quo_0p (a b c:Int) (A B D hi lo qh ql r:Nat) (w:World) (hcb:(c == 0)=false) (hn:Fx.negOf a b c=false)
  (hr:(r:Int)<D) (hD:(D:Int)<=18446744073709551615) (hqh:qh<9223372036854775808) (hql:(ql:Int)<=18446744073709551615)
  (hsA:∀ w,Calls Tryz.prog 245 #[.int .i64 a] w fun e w'=>e=.returned (.int .u64 (A:Int))∧w=w')
  (hsB:∀ w,Calls Tryz.prog 245 #[.int .i64 b] w fun e w'=>e=.returned (.int .u64 (B:Int))∧w=w')
  (hsD:∀ w,Calls Tryz.prog 245 #[.int .i64 c] w fun e w'=>e=.returned (.int .u64 (D:Int))∧w=w')
  (hM:∀ w,Calls Tryz.prog 244 #[.int .u64 A,.int .u64 B] w fun e w'=>e=.returned (.tuple #[.int .u64 (hi:Int),.int .u64 (lo:Int)])∧w=w')
  (hV:∀ w,Calls Tryz.prog 246 #[.int .u64 hi,.int .u64 lo,.int .u64 D] w fun e w'=>e=.returned (.tuple #[.int .u64 (qh:Int),.int .u64 (ql:Int),.int .u64 (r:Int)])∧w=w') :
  Calls Tryz.prog 217 #[.int .i64 a,.int .i64 b,.int .i64 c,.int .i64 0] w fun e w' =>
   e=.returned (.tuple #[.int .i64 (Fx.sgV (qh * 18446744073709551616+ql+(if Fx.away 0 false r D then 1 else 0)) false),.int .i64 (Fx.sgE (qh * 18446744073709551616+ql+(if Fx.away 0 false r D then 1 else 0)) false)])∧w=w':=by
 have HA:=hid hsA;have HB:=hid hsB;have HD:=hid hsD;have HM:=hid hM;have HV:=hid hV;have HN:=hid hn;have Hqh:=hid hqh;clear hsA hsB hsD hM hV hn hqh;obtain ⟨aw,haw⟩:∃ aw,Fx.away 0 false r D=aw:=⟨_,rfl⟩
 rw [haw]
 have HAW:=hid haw;clear haw
 obtain ⟨Q,hQ⟩:∃ Q,qh * 18446744073709551616+ql+(if aw then 1 else 0)=Q:=⟨_,rfl⟩
 rw [hQ]
 have HQ:=hid hQ;clear hQ
 go_enter Tryz.func217,Tryz.ntmps217
 go_upto_if 26 with fail
 go_cut [10] (fun s10 wx=>s10=.bool false∧w=wx)
 case first =>
  by_cases hc:c<0
  ·have h1:(!(decide (a<0) == decide (b<0)))=true:=rhn_neg HN.out hc
   go_wp2_with fail
   go_meet
   exact ⟨rfl,rfl⟩
  ·have h1:(!(decide (a<0) == decide (b<0)))=false:=rhn_pos HN.out hc
   go_wp2_with fail
   go_meet
   exact ⟨rfl,rfl⟩
 case rest =>
  obtain ⟨rfl,rfl⟩:=hcut
  go_wp2_with fail
  refine (HA.out _).mono ?_;rintro e w' ⟨rfl,rfl⟩
  go_wp2_with fail
  refine (HB.out _).mono ?_;rintro e w' ⟨rfl,rfl⟩
  go_wp2_with fail
  refine (HM.out _).mono ?_;rintro e w' ⟨rfl,rfl⟩
  go_wp2_with fail
  refine (HD.out _).mono ?_;rintro e w' ⟨rfl,rfl⟩
  go_wp2_with fail
  refine (HV.out _).mono ?_;rintro e w' ⟨rfl,rfl⟩
  go_wp2_with fail
  refine (HD.out _).mono ?_;rintro e w' ⟨rfl,rfl⟩
  go_upto_region 9 with fail
  go_cut [17] (fun s17 wx=>s17=.bool aw∧w=wx)
  case first =>
   have ha:aw=false:=by rw [← HAW.out];simp [Fx.away]
   subst ha
   go_wp2_with fail
   go_meet
   exact ⟨rfl,rfl⟩
  case rest =>
   obtain ⟨rfl,rfl⟩:=hcut
   go_upto_if 77 with fail
   go_cut [13,14] (fun s13 s14 wx=>s13=.int .u64 ((Q / 18446744073709551616:Nat):Int)∧s14=.int .u64 ((Q % 18446744073709551616:Nat):Int)∧w=wx)
   case first =>
    have bqh:(qh:Int)<9223372036854775808:=by have:=Hqh.out;omega
    cases aw
    ·go_wp2_with fail
     exact zFxQuo5
    ·by_cases g:(ql:Int)=18446744073709551615
     ·have e0:IntKind.u64.wrap ((ql:Int)+1)=0:=by rw [wrapu];omega
      exact zFxQuo2
     ·have e0:((ql:Int)+1 == 0)=false:=beq_eq_false_iff_ne.2 (by omega)
      exact zFxQuo0
   case rest =>
    obtain ⟨rfl,rfl,rfl⟩:=hcut;obtain ⟨x,hx⟩:∃ x,Q / 18446744073709551616=x:=⟨_,rfl⟩;obtain ⟨y,hy⟩:∃ y,Q % 18446744073709551616=y:=⟨_,rfl⟩
    have hQxy:Q=x * 18446744073709551616+y:=by omega
    rw [hx,hy]
    have hy64:y<18446744073709551616:=by omega
    have HXY:=hid hQxy;obtain ⟨z,hz⟩:∃ z,18446744073709551615 - y=z:=⟨_,rfl⟩;have hxor:=u64_not y hy64
    rw [hz] at hxor
    have HZ:=hid hz
    have bz:(z:Int)<=18446744073709551615:=by omega
    have Hy64:=hid hy64;clear hx hy hQxy hz hy64
    by_cases g1:(x:Int)=0
    ·have e1:((x:Int) == 0)=true:=beq_iff_eq.2 g1
     have e2:((x:Int) != 0)=false:=by rw [bne,e1];rfl
     have G1:=hid g1;clear g1
     by_cases g2:9223372036854775808<(y:Int)
     ·have o:=hid (sg_out (Q:=Q) (neg:=false) (by have:=HXY.out;omega))
      exact zFxQuo3
     ·by_cases g3:(y:Int)=9223372036854775808
      ·have e3:((y:Int) == 9223372036854775808)=true:=beq_iff_eq.2 g3
       exact zFxQuo4
      ·have e3:((y:Int) == 9223372036854775808)=false:=beq_eq_false_iff_ne.2 g3
       exact zFxQuo7
    ·have e1:((x:Int) == 0)=false:=beq_eq_false_iff_ne.2 g1
     have e2:((x:Int) != 0)=true:=by rw [bne,e1];rfl
     have o:=hid (sg_out (Q:=Q) (neg:=false) (by have:=HXY.out;omega))
     exact zFxQuo3
theorem quo_0n (a b c:Int) (A B D hi lo qh ql r:Nat) (w:World) (hcb:(c == 0)=false) (hn:Fx.negOf a b c=true)
  (hr:(r:Int)<D) (hD:(D:Int)<=18446744073709551615) (hqh:qh<9223372036854775808) (hql:(ql:Int)<=18446744073709551615)
  (hsA:∀ w,Calls Tryz.prog 245 #[.int .i64 a] w fun e w'=>e=.returned (.int .u64 (A:Int))∧w=w')
  (hsB:∀ w,Calls Tryz.prog 245 #[.int .i64 b] w fun e w'=>e=.returned (.int .u64 (B:Int))∧w=w')
  (hsD:∀ w,Calls Tryz.prog 245 #[.int .i64 c] w fun e w'=>e=.returned (.int .u64 (D:Int))∧w=w')
  (hM:∀ w,Calls Tryz.prog 244 #[.int .u64 A,.int .u64 B] w fun e w'=>e=.returned (.tuple #[.int .u64 (hi:Int),.int .u64 (lo:Int)])∧w=w')
  (hV:∀ w,Calls Tryz.prog 246 #[.int .u64 hi,.int .u64 lo,.int .u64 D] w fun e w'=>e=.returned (.tuple #[.int .u64 (qh:Int),.int .u64 (ql:Int),.int .u64 (r:Int)])∧w=w') :
  Calls Tryz.prog 217 #[.int .i64 a,.int .i64 b,.int .i64 c,.int .i64 0] w fun e w' =>
   e=.returned (.tuple #[.int .i64 (Fx.sgV (qh * 18446744073709551616+ql+(if Fx.away 0 true r D then 1 else 0)) true),.int .i64 (Fx.sgE (qh * 18446744073709551616+ql+(if Fx.away 0 true r D then 1 else 0)) true)])∧w=w':=by
 have HA:=hid hsA;have HB:=hid hsB;have HD:=hid hsD;have HM:=hid hM;have HV:=hid hV;have HN:=hid hn;have Hqh:=hid hqh;clear hsA hsB hsD hM hV hn hqh;obtain ⟨aw,haw⟩:∃ aw,Fx.away 0 true r D=aw:=⟨_,rfl⟩
 rw [haw]
 have HAW:=hid haw;clear haw
 obtain ⟨Q,hQ⟩:∃ Q,qh * 18446744073709551616+ql+(if aw then 1 else 0)=Q:=⟨_,rfl⟩
 rw [hQ]
 have HQ:=hid hQ;clear hQ
 go_enter Tryz.func217,Tryz.ntmps217
 go_upto_if 26 with fail
 go_cut [10] (fun s10 wx=>s10=.bool true∧w=wx)
 case first =>
  by_cases hc:c<0
  ·have h1:(!(decide (a<0) == decide (b<0)))=false:=rhn_neg HN.out hc
   go_wp2_with fail
   go_meet
   exact ⟨rfl,rfl⟩
  ·have h1:(!(decide (a<0) == decide (b<0)))=true:=rhn_pos HN.out hc
   go_wp2_with fail
   go_meet
   exact ⟨rfl,rfl⟩
 case rest =>
  obtain ⟨rfl,rfl⟩:=hcut
  go_wp2_with fail
  refine (HA.out _).mono ?_;rintro e w' ⟨rfl,rfl⟩
  go_wp2_with fail
  refine (HB.out _).mono ?_;rintro e w' ⟨rfl,rfl⟩
  go_wp2_with fail
  refine (HM.out _).mono ?_;rintro e w' ⟨rfl,rfl⟩
  go_wp2_with fail
  refine (HD.out _).mono ?_;rintro e w' ⟨rfl,rfl⟩
  go_wp2_with fail
  refine (HV.out _).mono ?_;rintro e w' ⟨rfl,rfl⟩
  go_wp2_with fail
  refine (HD.out _).mono ?_;rintro e w' ⟨rfl,rfl⟩
  go_upto_region 9 with fail
  go_cut [17] (fun s17 wx=>s17=.bool aw∧w=wx)
  case first =>
   by_cases g1:(r:Int)=0
   ·have ha:aw=false:=by rw [← HAW.out];simp [Fx.away];omega
    exact zFxQuo8
   ·have ha:aw=true:=by rw [← HAW.out];simp [Fx.away];omega
    exact zFxQuo9
  case rest =>
   obtain ⟨rfl,rfl⟩:=hcut
   go_upto_if 77 with fail
   go_cut [13,14] (fun s13 s14 wx=>s13=.int .u64 ((Q / 18446744073709551616:Nat):Int)∧s14=.int .u64 ((Q % 18446744073709551616:Nat):Int)∧w=wx)
   case first =>
    have bqh:(qh:Int)<9223372036854775808:=by have:=Hqh.out;omega
    cases aw
    ·go_wp2_with fail
     exact zFxQuo5
    ·by_cases g:(ql:Int)=18446744073709551615
     ·have e0:IntKind.u64.wrap ((ql:Int)+1)=0:=by rw [wrapu];omega
      exact zFxQuo2
     ·have e0:((ql:Int)+1 == 0)=false:=beq_eq_false_iff_ne.2 (by omega)
      exact zFxQuo0
   case rest =>
    obtain ⟨rfl,rfl,rfl⟩:=hcut;obtain ⟨x,hx⟩:∃ x,Q / 18446744073709551616=x:=⟨_,rfl⟩;obtain ⟨y,hy⟩:∃ y,Q % 18446744073709551616=y:=⟨_,rfl⟩
    have hQxy:Q=x * 18446744073709551616+y:=by omega
    rw [hx,hy]
    have hy64:y<18446744073709551616:=by omega
    have HXY:=hid hQxy;obtain ⟨z,hz⟩:∃ z,18446744073709551615 - y=z:=⟨_,rfl⟩;have hxor:=u64_not y hy64
    rw [hz] at hxor
    have HZ:=hid hz
    have bz:(z:Int)<=18446744073709551615:=by omega
    have Hy64:=hid hy64;clear hx hy hQxy hz hy64
    by_cases g1:(x:Int)=0
    ·have e1:((x:Int) == 0)=true:=beq_iff_eq.2 g1
     have e2:((x:Int) != 0)=false:=by rw [bne,e1];rfl
     have G1:=hid g1;clear g1
     by_cases g2:9223372036854775808<(y:Int)
     ·have o:=hid (sg_out (Q:=Q) (neg:=true) (by have:=HXY.out;omega))
      exact zFxQuo3
     ·by_cases g3:(y:Int)=9223372036854775808
      ·have e3:((y:Int) == 9223372036854775808)=true:=beq_iff_eq.2 g3
       exact zFxQuo6
      ·have e3:((y:Int) == 9223372036854775808)=false:=beq_eq_false_iff_ne.2 g3
       exact zFxQuo1
    ·have e1:((x:Int) == 0)=false:=beq_eq_false_iff_ne.2 g1
     have e2:((x:Int) != 0)=true:=by rw [bne,e1];rfl
     have o:=hid (sg_out (Q:=Q) (neg:=true) (by have:=HXY.out;omega))
     exact zFxQuo3
theorem quo_1p (a b c:Int) (A B D hi lo qh ql r:Nat) (w:World) (hcb:(c == 0)=false) (hn:Fx.negOf a b c=false)
  (hr:(r:Int)<D) (hD:(D:Int)<=18446744073709551615) (hqh:qh<9223372036854775808) (hql:(ql:Int)<=18446744073709551615)
  (hsA:∀ w,Calls Tryz.prog 245 #[.int .i64 a] w fun e w'=>e=.returned (.int .u64 (A:Int))∧w=w')
  (hsB:∀ w,Calls Tryz.prog 245 #[.int .i64 b] w fun e w'=>e=.returned (.int .u64 (B:Int))∧w=w')
  (hsD:∀ w,Calls Tryz.prog 245 #[.int .i64 c] w fun e w'=>e=.returned (.int .u64 (D:Int))∧w=w')
  (hM:∀ w,Calls Tryz.prog 244 #[.int .u64 A,.int .u64 B] w fun e w'=>e=.returned (.tuple #[.int .u64 (hi:Int),.int .u64 (lo:Int)])∧w=w')
  (hV:∀ w,Calls Tryz.prog 246 #[.int .u64 hi,.int .u64 lo,.int .u64 D] w fun e w'=>e=.returned (.tuple #[.int .u64 (qh:Int),.int .u64 (ql:Int),.int .u64 (r:Int)])∧w=w') :
  Calls Tryz.prog 217 #[.int .i64 a,.int .i64 b,.int .i64 c,.int .i64 1] w fun e w' =>
   e=.returned (.tuple #[.int .i64 (Fx.sgV (qh * 18446744073709551616+ql+(if Fx.away 1 false r D then 1 else 0)) false),.int .i64 (Fx.sgE (qh * 18446744073709551616+ql+(if Fx.away 1 false r D then 1 else 0)) false)])∧w=w':=by
 have HA:=hid hsA;have HB:=hid hsB;have HD:=hid hsD;have HM:=hid hM;have HV:=hid hV;have HN:=hid hn;have Hqh:=hid hqh;clear hsA hsB hsD hM hV hn hqh;obtain ⟨aw,haw⟩:∃ aw,Fx.away 1 false r D=aw:=⟨_,rfl⟩
 rw [haw]
 have HAW:=hid haw;clear haw
 obtain ⟨Q,hQ⟩:∃ Q,qh * 18446744073709551616+ql+(if aw then 1 else 0)=Q:=⟨_,rfl⟩
 rw [hQ]
 have HQ:=hid hQ;clear hQ
 go_enter Tryz.func217,Tryz.ntmps217
 go_upto_if 26 with fail
 go_cut [10] (fun s10 wx=>s10=.bool false∧w=wx)
 case first =>
  by_cases hc:c<0
  ·have h1:(!(decide (a<0) == decide (b<0)))=true:=rhn_neg HN.out hc
   go_wp2_with fail
   go_meet
   exact ⟨rfl,rfl⟩
  ·have h1:(!(decide (a<0) == decide (b<0)))=false:=rhn_pos HN.out hc
   go_wp2_with fail
   go_meet
   exact ⟨rfl,rfl⟩
 case rest =>
  obtain ⟨rfl,rfl⟩:=hcut
  go_wp2_with fail
  refine (HA.out _).mono ?_;rintro e w' ⟨rfl,rfl⟩
  go_wp2_with fail
  refine (HB.out _).mono ?_;rintro e w' ⟨rfl,rfl⟩
  go_wp2_with fail
  refine (HM.out _).mono ?_;rintro e w' ⟨rfl,rfl⟩
  go_wp2_with fail
  refine (HD.out _).mono ?_;rintro e w' ⟨rfl,rfl⟩
  go_wp2_with fail
  refine (HV.out _).mono ?_;rintro e w' ⟨rfl,rfl⟩
  go_wp2_with fail
  refine (HD.out _).mono ?_;rintro e w' ⟨rfl,rfl⟩
  go_upto_region 11 with fail
  go_cut [17] (fun s17 wx=>s17=.bool aw∧w=wx)
  case first =>
   by_cases g1:(r:Int)=0
   ·have ha:aw=false:=by rw [← HAW.out];simp [Fx.away];omega
    exact zFxQuo8
   ·have ha:aw=true:=by rw [← HAW.out];simp [Fx.away];omega
    exact zFxQuo9
  case rest =>
   obtain ⟨rfl,rfl⟩:=hcut
   go_upto_if 77 with fail
   go_cut [13,14] (fun s13 s14 wx=>s13=.int .u64 ((Q / 18446744073709551616:Nat):Int)∧s14=.int .u64 ((Q % 18446744073709551616:Nat):Int)∧w=wx)
   case first =>
    have bqh:(qh:Int)<9223372036854775808:=by have:=Hqh.out;omega
    cases aw
    ·go_wp2_with fail
     exact zFxQuo5
    ·by_cases g:(ql:Int)=18446744073709551615
     ·have e0:IntKind.u64.wrap ((ql:Int)+1)=0:=by rw [wrapu];omega
      exact zFxQuo2
     ·have e0:((ql:Int)+1 == 0)=false:=beq_eq_false_iff_ne.2 (by omega)
      exact zFxQuo0
   case rest =>
    obtain ⟨rfl,rfl,rfl⟩:=hcut;obtain ⟨x,hx⟩:∃ x,Q / 18446744073709551616=x:=⟨_,rfl⟩;obtain ⟨y,hy⟩:∃ y,Q % 18446744073709551616=y:=⟨_,rfl⟩
    have hQxy:Q=x * 18446744073709551616+y:=by omega
    rw [hx,hy]
    have hy64:y<18446744073709551616:=by omega
    have HXY:=hid hQxy;obtain ⟨z,hz⟩:∃ z,18446744073709551615 - y=z:=⟨_,rfl⟩;have hxor:=u64_not y hy64
    rw [hz] at hxor
    have HZ:=hid hz
    have bz:(z:Int)<=18446744073709551615:=by omega
    have Hy64:=hid hy64;clear hx hy hQxy hz hy64
    by_cases g1:(x:Int)=0
    ·have e1:((x:Int) == 0)=true:=beq_iff_eq.2 g1
     have e2:((x:Int) != 0)=false:=by rw [bne,e1];rfl
     have G1:=hid g1;clear g1
     by_cases g2:9223372036854775808<(y:Int)
     ·have o:=hid (sg_out (Q:=Q) (neg:=false) (by have:=HXY.out;omega))
      exact zFxQuo3
     ·by_cases g3:(y:Int)=9223372036854775808
      ·have e3:((y:Int) == 9223372036854775808)=true:=beq_iff_eq.2 g3
       exact zFxQuo4
      ·have e3:((y:Int) == 9223372036854775808)=false:=beq_eq_false_iff_ne.2 g3
       exact zFxQuo7
    ·have e1:((x:Int) == 0)=false:=beq_eq_false_iff_ne.2 g1
     have e2:((x:Int) != 0)=true:=by rw [bne,e1];rfl
     have o:=hid (sg_out (Q:=Q) (neg:=false) (by have:=HXY.out;omega))
     exact zFxQuo3
theorem quo_1n (a b c:Int) (A B D hi lo qh ql r:Nat) (w:World) (hcb:(c == 0)=false) (hn:Fx.negOf a b c=true)
  (hr:(r:Int)<D) (hD:(D:Int)<=18446744073709551615) (hqh:qh<9223372036854775808) (hql:(ql:Int)<=18446744073709551615)
  (hsA:∀ w,Calls Tryz.prog 245 #[.int .i64 a] w fun e w'=>e=.returned (.int .u64 (A:Int))∧w=w')
  (hsB:∀ w,Calls Tryz.prog 245 #[.int .i64 b] w fun e w'=>e=.returned (.int .u64 (B:Int))∧w=w')
  (hsD:∀ w,Calls Tryz.prog 245 #[.int .i64 c] w fun e w'=>e=.returned (.int .u64 (D:Int))∧w=w')
  (hM:∀ w,Calls Tryz.prog 244 #[.int .u64 A,.int .u64 B] w fun e w'=>e=.returned (.tuple #[.int .u64 (hi:Int),.int .u64 (lo:Int)])∧w=w')
  (hV:∀ w,Calls Tryz.prog 246 #[.int .u64 hi,.int .u64 lo,.int .u64 D] w fun e w'=>e=.returned (.tuple #[.int .u64 (qh:Int),.int .u64 (ql:Int),.int .u64 (r:Int)])∧w=w') :
  Calls Tryz.prog 217 #[.int .i64 a,.int .i64 b,.int .i64 c,.int .i64 1] w fun e w' =>
   e=.returned (.tuple #[.int .i64 (Fx.sgV (qh * 18446744073709551616+ql+(if Fx.away 1 true r D then 1 else 0)) true),.int .i64 (Fx.sgE (qh * 18446744073709551616+ql+(if Fx.away 1 true r D then 1 else 0)) true)])∧w=w':=by
 have HA:=hid hsA;have HB:=hid hsB;have HD:=hid hsD;have HM:=hid hM;have HV:=hid hV;have HN:=hid hn;have Hqh:=hid hqh;clear hsA hsB hsD hM hV hn hqh;obtain ⟨aw,haw⟩:∃ aw,Fx.away 1 true r D=aw:=⟨_,rfl⟩
 rw [haw]
 have HAW:=hid haw;clear haw
 obtain ⟨Q,hQ⟩:∃ Q,qh * 18446744073709551616+ql+(if aw then 1 else 0)=Q:=⟨_,rfl⟩
 rw [hQ]
 have HQ:=hid hQ;clear hQ
 go_enter Tryz.func217,Tryz.ntmps217
 go_upto_if 26 with fail
 go_cut [10] (fun s10 wx=>s10=.bool true∧w=wx)
 case first =>
  by_cases hc:c<0
  ·have h1:(!(decide (a<0) == decide (b<0)))=false:=rhn_neg HN.out hc
   go_wp2_with fail
   go_meet
   exact ⟨rfl,rfl⟩
  ·have h1:(!(decide (a<0) == decide (b<0)))=true:=rhn_pos HN.out hc
   go_wp2_with fail
   go_meet
   exact ⟨rfl,rfl⟩
 case rest =>
  obtain ⟨rfl,rfl⟩:=hcut
  go_wp2_with fail
  refine (HA.out _).mono ?_;rintro e w' ⟨rfl,rfl⟩
  go_wp2_with fail
  refine (HB.out _).mono ?_;rintro e w' ⟨rfl,rfl⟩
  go_wp2_with fail
  refine (HM.out _).mono ?_;rintro e w' ⟨rfl,rfl⟩
  go_wp2_with fail
  refine (HD.out _).mono ?_;rintro e w' ⟨rfl,rfl⟩
  go_wp2_with fail
  refine (HV.out _).mono ?_;rintro e w' ⟨rfl,rfl⟩
  go_wp2_with fail
  refine (HD.out _).mono ?_;rintro e w' ⟨rfl,rfl⟩
  go_upto_region 11 with fail
  go_cut [17] (fun s17 wx=>s17=.bool aw∧w=wx)
  case first =>
   have ha:aw=false:=by rw [← HAW.out];simp [Fx.away]
   subst ha
   go_wp2_with fail
   go_meet
   exact ⟨rfl,rfl⟩
  case rest =>
   obtain ⟨rfl,rfl⟩:=hcut
   go_upto_if 77 with fail
   go_cut [13,14] (fun s13 s14 wx=>s13=.int .u64 ((Q / 18446744073709551616:Nat):Int)∧s14=.int .u64 ((Q % 18446744073709551616:Nat):Int)∧w=wx)
   case first =>
    have bqh:(qh:Int)<9223372036854775808:=by have:=Hqh.out;omega
    cases aw
    ·go_wp2_with fail
     exact zFxQuo5
    ·by_cases g:(ql:Int)=18446744073709551615
     ·have e0:IntKind.u64.wrap ((ql:Int)+1)=0:=by rw [wrapu];omega
      exact zFxQuo2
     ·have e0:((ql:Int)+1 == 0)=false:=beq_eq_false_iff_ne.2 (by omega)
      exact zFxQuo0
   case rest =>
    obtain ⟨rfl,rfl,rfl⟩:=hcut;obtain ⟨x,hx⟩:∃ x,Q / 18446744073709551616=x:=⟨_,rfl⟩;obtain ⟨y,hy⟩:∃ y,Q % 18446744073709551616=y:=⟨_,rfl⟩
    have hQxy:Q=x * 18446744073709551616+y:=by omega
    rw [hx,hy]
    have hy64:y<18446744073709551616:=by omega
    have HXY:=hid hQxy;obtain ⟨z,hz⟩:∃ z,18446744073709551615 - y=z:=⟨_,rfl⟩;have hxor:=u64_not y hy64
    rw [hz] at hxor
    have HZ:=hid hz
    have bz:(z:Int)<=18446744073709551615:=by omega
    have Hy64:=hid hy64;clear hx hy hQxy hz hy64
    by_cases g1:(x:Int)=0
    ·have e1:((x:Int) == 0)=true:=beq_iff_eq.2 g1
     have e2:((x:Int) != 0)=false:=by rw [bne,e1];rfl
     have G1:=hid g1;clear g1
     by_cases g2:9223372036854775808<(y:Int)
     ·have o:=hid (sg_out (Q:=Q) (neg:=true) (by have:=HXY.out;omega))
      exact zFxQuo3
     ·by_cases g3:(y:Int)=9223372036854775808
      ·have e3:((y:Int) == 9223372036854775808)=true:=beq_iff_eq.2 g3
       exact zFxQuo6
      ·have e3:((y:Int) == 9223372036854775808)=false:=beq_eq_false_iff_ne.2 g3
       exact zFxQuo1
    ·have e1:((x:Int) == 0)=false:=beq_eq_false_iff_ne.2 g1
     have e2:((x:Int) != 0)=true:=by rw [bne,e1];rfl
     have o:=hid (sg_out (Q:=Q) (neg:=true) (by have:=HXY.out;omega))
     exact zFxQuo3
theorem quo_2p (a b c:Int) (A B D hi lo qh ql r:Nat) (w:World) (hcb:(c == 0)=false) (hn:Fx.negOf a b c=false)
  (hr:(r:Int)<D) (hD:(D:Int)<=18446744073709551615) (hqh:qh<9223372036854775808) (hql:(ql:Int)<=18446744073709551615)
  (hsA:∀ w,Calls Tryz.prog 245 #[.int .i64 a] w fun e w'=>e=.returned (.int .u64 (A:Int))∧w=w')
  (hsB:∀ w,Calls Tryz.prog 245 #[.int .i64 b] w fun e w'=>e=.returned (.int .u64 (B:Int))∧w=w')
  (hsD:∀ w,Calls Tryz.prog 245 #[.int .i64 c] w fun e w'=>e=.returned (.int .u64 (D:Int))∧w=w')
  (hM:∀ w,Calls Tryz.prog 244 #[.int .u64 A,.int .u64 B] w fun e w'=>e=.returned (.tuple #[.int .u64 (hi:Int),.int .u64 (lo:Int)])∧w=w')
  (hV:∀ w,Calls Tryz.prog 246 #[.int .u64 hi,.int .u64 lo,.int .u64 D] w fun e w'=>e=.returned (.tuple #[.int .u64 (qh:Int),.int .u64 (ql:Int),.int .u64 (r:Int)])∧w=w') :
  Calls Tryz.prog 217 #[.int .i64 a,.int .i64 b,.int .i64 c,.int .i64 2] w fun e w' =>
   e=.returned (.tuple #[.int .i64 (Fx.sgV (qh * 18446744073709551616+ql+(if Fx.away 2 false r D then 1 else 0)) false),.int .i64 (Fx.sgE (qh * 18446744073709551616+ql+(if Fx.away 2 false r D then 1 else 0)) false)])∧w=w':=by
 have HA:=hid hsA;have HB:=hid hsB;have HD:=hid hsD;have HM:=hid hM;have HV:=hid hV;have HN:=hid hn;have Hqh:=hid hqh;clear hsA hsB hsD hM hV hn hqh;obtain ⟨aw,haw⟩:∃ aw,Fx.away 2 false r D=aw:=⟨_,rfl⟩
 rw [haw]
 have HAW:=hid haw;clear haw
 obtain ⟨Q,hQ⟩:∃ Q,qh * 18446744073709551616+ql+(if aw then 1 else 0)=Q:=⟨_,rfl⟩
 rw [hQ]
 have HQ:=hid hQ;clear hQ
 go_enter Tryz.func217,Tryz.ntmps217
 go_upto_if 26 with fail
 go_cut [10] (fun s10 wx=>s10=.bool false∧w=wx)
 case first =>
  by_cases hc:c<0
  ·have h1:(!(decide (a<0) == decide (b<0)))=true:=rhn_neg HN.out hc
   go_wp2_with fail
   go_meet
   exact ⟨rfl,rfl⟩
  ·have h1:(!(decide (a<0) == decide (b<0)))=false:=rhn_pos HN.out hc
   go_wp2_with fail
   go_meet
   exact ⟨rfl,rfl⟩
 case rest =>
  obtain ⟨rfl,rfl⟩:=hcut
  go_wp2_with fail
  refine (HA.out _).mono ?_;rintro e w' ⟨rfl,rfl⟩
  go_wp2_with fail
  refine (HB.out _).mono ?_;rintro e w' ⟨rfl,rfl⟩
  go_wp2_with fail
  refine (HM.out _).mono ?_;rintro e w' ⟨rfl,rfl⟩
  go_wp2_with fail
  refine (HD.out _).mono ?_;rintro e w' ⟨rfl,rfl⟩
  go_wp2_with fail
  refine (HV.out _).mono ?_;rintro e w' ⟨rfl,rfl⟩
  go_wp2_with fail
  refine (HD.out _).mono ?_;rintro e w' ⟨rfl,rfl⟩
  go_upto_region 13 with fail
  go_cut [17] (fun s17 wx=>s17=.bool aw∧w=wx)
  case first =>
   by_cases g1:(D:Int) - r<r
   ·have ha:aw=true:=by rw [← HAW.out];simp [Fx.away];omega
    subst ha
    go_wp2_with fail
    go_meet
    exact ⟨rfl,rfl⟩
   ·by_cases g2:(r:Int)=D - r
    ·have ha:aw=true:=by rw [← HAW.out];simp [Fx.away];omega
     exact zFxQuo10
    ·have ha:aw=false:=by rw [← HAW.out];simp [Fx.away];omega
     subst ha;have g3:((r:Int) == D - r)=false:=beq_eq_false_iff_ne.2 g2
     go_wp2_with fail
     go_meet
     exact ⟨rfl,rfl⟩
  case rest =>
   obtain ⟨rfl,rfl⟩:=hcut
   go_upto_if 77 with fail
   go_cut [13,14] (fun s13 s14 wx=>s13=.int .u64 ((Q / 18446744073709551616:Nat):Int)∧s14=.int .u64 ((Q % 18446744073709551616:Nat):Int)∧w=wx)
   case first =>
    have bqh:(qh:Int)<9223372036854775808:=by have:=Hqh.out;omega
    cases aw
    ·go_wp2_with fail
     exact zFxQuo5
    ·by_cases g:(ql:Int)=18446744073709551615
     ·have e0:IntKind.u64.wrap ((ql:Int)+1)=0:=by rw [wrapu];omega
      exact zFxQuo2
     ·have e0:((ql:Int)+1 == 0)=false:=beq_eq_false_iff_ne.2 (by omega)
      exact zFxQuo0
   case rest =>
    obtain ⟨rfl,rfl,rfl⟩:=hcut;obtain ⟨x,hx⟩:∃ x,Q / 18446744073709551616=x:=⟨_,rfl⟩;obtain ⟨y,hy⟩:∃ y,Q % 18446744073709551616=y:=⟨_,rfl⟩
    have hQxy:Q=x * 18446744073709551616+y:=by omega
    rw [hx,hy]
    have hy64:y<18446744073709551616:=by omega
    have HXY:=hid hQxy;obtain ⟨z,hz⟩:∃ z,18446744073709551615 - y=z:=⟨_,rfl⟩;have hxor:=u64_not y hy64
    rw [hz] at hxor
    have HZ:=hid hz
    have bz:(z:Int)<=18446744073709551615:=by omega
    have Hy64:=hid hy64;clear hx hy hQxy hz hy64
    by_cases g1:(x:Int)=0
    ·have e1:((x:Int) == 0)=true:=beq_iff_eq.2 g1
     have e2:((x:Int) != 0)=false:=by rw [bne,e1];rfl
     have G1:=hid g1;clear g1
     by_cases g2:9223372036854775808<(y:Int)
     ·have o:=hid (sg_out (Q:=Q) (neg:=false) (by have:=HXY.out;omega))
      exact zFxQuo3
     ·by_cases g3:(y:Int)=9223372036854775808
      ·have e3:((y:Int) == 9223372036854775808)=true:=beq_iff_eq.2 g3
       exact zFxQuo4
      ·have e3:((y:Int) == 9223372036854775808)=false:=beq_eq_false_iff_ne.2 g3
       exact zFxQuo7
    ·have e1:((x:Int) == 0)=false:=beq_eq_false_iff_ne.2 g1
     have e2:((x:Int) != 0)=true:=by rw [bne,e1];rfl
     have o:=hid (sg_out (Q:=Q) (neg:=false) (by have:=HXY.out;omega))
     exact zFxQuo3
theorem quo_2n (a b c:Int) (A B D hi lo qh ql r:Nat) (w:World) (hcb:(c == 0)=false) (hn:Fx.negOf a b c=true)
  (hr:(r:Int)<D) (hD:(D:Int)<=18446744073709551615) (hqh:qh<9223372036854775808) (hql:(ql:Int)<=18446744073709551615)
  (hsA:∀ w,Calls Tryz.prog 245 #[.int .i64 a] w fun e w'=>e=.returned (.int .u64 (A:Int))∧w=w')
  (hsB:∀ w,Calls Tryz.prog 245 #[.int .i64 b] w fun e w'=>e=.returned (.int .u64 (B:Int))∧w=w')
  (hsD:∀ w,Calls Tryz.prog 245 #[.int .i64 c] w fun e w'=>e=.returned (.int .u64 (D:Int))∧w=w')
  (hM:∀ w,Calls Tryz.prog 244 #[.int .u64 A,.int .u64 B] w fun e w'=>e=.returned (.tuple #[.int .u64 (hi:Int),.int .u64 (lo:Int)])∧w=w')
  (hV:∀ w,Calls Tryz.prog 246 #[.int .u64 hi,.int .u64 lo,.int .u64 D] w fun e w'=>e=.returned (.tuple #[.int .u64 (qh:Int),.int .u64 (ql:Int),.int .u64 (r:Int)])∧w=w') :
  Calls Tryz.prog 217 #[.int .i64 a,.int .i64 b,.int .i64 c,.int .i64 2] w fun e w' =>
   e=.returned (.tuple #[.int .i64 (Fx.sgV (qh * 18446744073709551616+ql+(if Fx.away 2 true r D then 1 else 0)) true),.int .i64 (Fx.sgE (qh * 18446744073709551616+ql+(if Fx.away 2 true r D then 1 else 0)) true)])∧w=w':=by
 have HA:=hid hsA;have HB:=hid hsB;have HD:=hid hsD;have HM:=hid hM;have HV:=hid hV;have HN:=hid hn;have Hqh:=hid hqh;clear hsA hsB hsD hM hV hn hqh;obtain ⟨aw,haw⟩:∃ aw,Fx.away 2 true r D=aw:=⟨_,rfl⟩
 rw [haw]
 have HAW:=hid haw;clear haw
 obtain ⟨Q,hQ⟩:∃ Q,qh * 18446744073709551616+ql+(if aw then 1 else 0)=Q:=⟨_,rfl⟩
 rw [hQ]
 have HQ:=hid hQ;clear hQ
 go_enter Tryz.func217,Tryz.ntmps217
 go_upto_if 26 with fail
 go_cut [10] (fun s10 wx=>s10=.bool true∧w=wx)
 case first =>
  by_cases hc:c<0
  ·have h1:(!(decide (a<0) == decide (b<0)))=false:=rhn_neg HN.out hc
   go_wp2_with fail
   go_meet
   exact ⟨rfl,rfl⟩
  ·have h1:(!(decide (a<0) == decide (b<0)))=true:=rhn_pos HN.out hc
   go_wp2_with fail
   go_meet
   exact ⟨rfl,rfl⟩
 case rest =>
  obtain ⟨rfl,rfl⟩:=hcut
  go_wp2_with fail
  refine (HA.out _).mono ?_;rintro e w' ⟨rfl,rfl⟩
  go_wp2_with fail
  refine (HB.out _).mono ?_;rintro e w' ⟨rfl,rfl⟩
  go_wp2_with fail
  refine (HM.out _).mono ?_;rintro e w' ⟨rfl,rfl⟩
  go_wp2_with fail
  refine (HD.out _).mono ?_;rintro e w' ⟨rfl,rfl⟩
  go_wp2_with fail
  refine (HV.out _).mono ?_;rintro e w' ⟨rfl,rfl⟩
  go_wp2_with fail
  refine (HD.out _).mono ?_;rintro e w' ⟨rfl,rfl⟩
  go_upto_region 13 with fail
  go_cut [17] (fun s17 wx=>s17=.bool aw∧w=wx)
  case first =>
   by_cases g1:(D:Int) - r<r
   ·have ha:aw=true:=by rw [← HAW.out];simp [Fx.away];omega
    subst ha
    go_wp2_with fail
    go_meet
    exact ⟨rfl,rfl⟩
   ·by_cases g2:(r:Int)=D - r
    ·have ha:aw=false:=by rw [← HAW.out];simp [Fx.away];omega
     exact zFxQuo10
    ·have ha:aw=false:=by rw [← HAW.out];simp [Fx.away];omega
     subst ha;have g3:((r:Int) == D - r)=false:=beq_eq_false_iff_ne.2 g2
     go_wp2_with fail
     go_meet
     exact ⟨rfl,rfl⟩
  case rest =>
   obtain ⟨rfl,rfl⟩:=hcut
   go_upto_if 77 with fail
   go_cut [13,14] (fun s13 s14 wx=>s13=.int .u64 ((Q / 18446744073709551616:Nat):Int)∧s14=.int .u64 ((Q % 18446744073709551616:Nat):Int)∧w=wx)
   case first =>
    have bqh:(qh:Int)<9223372036854775808:=by have:=Hqh.out;omega
    cases aw
    ·go_wp2_with fail
     exact zFxQuo5
    ·by_cases g:(ql:Int)=18446744073709551615
     ·have e0:IntKind.u64.wrap ((ql:Int)+1)=0:=by rw [wrapu];omega
      exact zFxQuo2
     ·have e0:((ql:Int)+1 == 0)=false:=beq_eq_false_iff_ne.2 (by omega)
      exact zFxQuo0
   case rest =>
    obtain ⟨rfl,rfl,rfl⟩:=hcut;obtain ⟨x,hx⟩:∃ x,Q / 18446744073709551616=x:=⟨_,rfl⟩;obtain ⟨y,hy⟩:∃ y,Q % 18446744073709551616=y:=⟨_,rfl⟩
    have hQxy:Q=x * 18446744073709551616+y:=by omega
    rw [hx,hy]
    have hy64:y<18446744073709551616:=by omega
    have HXY:=hid hQxy;obtain ⟨z,hz⟩:∃ z,18446744073709551615 - y=z:=⟨_,rfl⟩;have hxor:=u64_not y hy64
    rw [hz] at hxor
    have HZ:=hid hz
    have bz:(z:Int)<=18446744073709551615:=by omega
    have Hy64:=hid hy64;clear hx hy hQxy hz hy64
    by_cases g1:(x:Int)=0
    ·have e1:((x:Int) == 0)=true:=beq_iff_eq.2 g1
     have e2:((x:Int) != 0)=false:=by rw [bne,e1];rfl
     have G1:=hid g1;clear g1
     by_cases g2:9223372036854775808<(y:Int)
     ·have o:=hid (sg_out (Q:=Q) (neg:=true) (by have:=HXY.out;omega))
      exact zFxQuo3
     ·by_cases g3:(y:Int)=9223372036854775808
      ·have e3:((y:Int) == 9223372036854775808)=true:=beq_iff_eq.2 g3
       exact zFxQuo6
      ·have e3:((y:Int) == 9223372036854775808)=false:=beq_eq_false_iff_ne.2 g3
       exact zFxQuo1
    ·have e1:((x:Int) == 0)=false:=beq_eq_false_iff_ne.2 g1
     have e2:((x:Int) != 0)=true:=by rw [bne,e1];rfl
     have o:=hid (sg_out (Q:=Q) (neg:=true) (by have:=HXY.out;omega))
     exact zFxQuo3
theorem quo_zero (a b:Int) (m:Nat) (w:World) :
  Calls Tryz.prog 217 #[.int .i64 a,.int .i64 b,.int .i64 0,.int .i64 m] w fun e w'=>e=.returned (.tuple #[.int .i64 0,.int .i64 1])∧w=w':=by
 go_enter Tryz.func217,Tryz.ntmps217
 go_wp2
 go_ret2
 exact ⟨rfl,rfl⟩
theorem quo_hi (N D:Nat) (hN:N<18446744073709551616 * 9223372036854775808):N / D / 18446744073709551616<9223372036854775808:=by
 have h:=Nat.div_le_self N D
 rw [Nat.div_lt_iff_lt_mul (by decide),Nat.mul_comm]
 exact Nat.lt_of_le_of_lt h hN
theorem natAbs_le (a:Int) (h0 : -9223372036854775808<=a) (h1:a<=9223372036854775807):a.natAbs<=9223372036854775808:=by omega
theorem prod_lt {A B:Nat} (hA:A<=9223372036854775808) (hB:B<=9223372036854775808):A * B<18446744073709551616 * 9223372036854775808 :=
 Nat.lt_of_le_of_lt (Nat.mul_le_mul hA hB) (by decide)
theorem split64' (N:Nat):N / 18446744073709551616 * 18446744073709551616+N % 18446744073709551616=N:=by omega
theorem quo_any (a b c:Int) (m:Nat) (hm:m=0∨m=1∨m=2) (a0 : -9223372036854775808<=a) (a1:a<=9223372036854775807) (b0 : -9223372036854775808<=b) (b1:b<=9223372036854775807)
  (c0 : -9223372036854775808<=c) (c1:c<=9223372036854775807) (w:World) :
  Calls Tryz.prog 217 #[.int .i64 a,.int .i64 b,.int .i64 c,.int .i64 m] w fun e w'=>e=.returned (.tuple #[.int .i64 (Fx.scV m a b c),.int .i64 (Fx.scE m a b c)])∧w=w':=by
 by_cases hz:c=0
 ·subst hz
  exact (quo_zero a b m w).mono fun e w' ⟨he,hw⟩=>⟨by rw [he];simp [Fx.scV,Fx.scE],hw⟩
 have hzb:(c == 0)=false:=beq_eq_false_iff_ne.2 hz
 have hD:0<c.natAbs:=by omega
 have hA:=natAbs_le a a0 a1;have hB:=natAbs_le b b0 b1;have hC:=natAbs_le c c0 c1;have hM:=fun w=>product_any a.natAbs b.natAbs (Nat.lt_of_le_of_lt hA (by decide)) (Nat.lt_of_le_of_lt hB (by decide)) w;have hsA:=fun w=>rsize_any a a0 a1 w;have hsB:=fun w=>rsize_any b b0 b1 w;have hsD:=fun w=>rsize_any c c0 c1 w;have hP:=prod_lt hA hB;have hV:=fun w=>divide_any (a.natAbs * b.natAbs / 18446744073709551616) (a.natAbs * b.natAbs % 18446744073709551616) c.natAbs (Nat.div_lt_of_lt_mul (Nat.lt_of_lt_of_le hP (by decide))) (Nat.mod_lt _ (by decide)) hD (Nat.lt_of_le_of_lt hC (by decide)) w
 rw [split64'] at hV
 have hr:((a.natAbs * b.natAbs % c.natAbs:Nat):Int)<(c.natAbs:Int):=Int.ofNat_lt.2 (Nat.mod_lt _ hD)
 have hD':(c.natAbs:Int)<=18446744073709551615:=by omega
 have hqh:=quo_hi (a.natAbs * b.natAbs) c.natAbs hP
 have hql:((a.natAbs * b.natAbs / c.natAbs % 18446744073709551616:Nat):Int)<=18446744073709551615:=by have:=Nat.mod_lt (a.natAbs * b.natAbs / c.natAbs) (show 0<18446744073709551616 by decide);omega
 rw [Fx.scV,Fx.scE,if_neg hz,if_neg hz]
 unfold Fx.mag
 obtain ⟨neg,hn⟩:∃ neg,Fx.negOf a b c=neg:=⟨_,rfl⟩
 rw [hn]
 rw [← split64' (a.natAbs * b.natAbs / c.natAbs)]
 rcases hm with rfl | rfl | rfl <;> cases neg
 ·exact quo_0p a b c _ _ _ _ _ _ _ _ w hzb hn hr hD' hqh hql hsA hsB hsD hM hV
 ·exact quo_0n a b c _ _ _ _ _ _ _ _ w hzb hn hr hD' hqh hql hsA hsB hsD hM hV
 ·exact quo_1p a b c _ _ _ _ _ _ _ _ w hzb hn hr hD' hqh hql hsA hsB hsD hM hV
 ·exact quo_1n a b c _ _ _ _ _ _ _ _ w hzb hn hr hD' hqh hql hsA hsB hsD hM hV
 ·exact quo_2p a b c _ _ _ _ _ _ _ _ w hzb hn hr hD' hqh hql hsA hsB hsD hM hV
 ·exact quo_2n a b c _ _ _ _ _ _ _ _ w hzb hn hr hD' hqh hql hsA hsB hsD hM hV
end Go.Proofs.YtheepmnhpclimaaGreat
