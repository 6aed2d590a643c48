/- M53: FxScale, FxQuo, FxOps in one text. -/
import Derived.Test.YtedcanagfajcgaaGreatM17
import Derived.Deep.DeepCutAuto
import Derived.Test.YtedcanagfajcgaaGreatM3
set_option linter.unusedSimpArgs false
set_option linter.unusedVariables false
set_option maxRecDepth 100000
set_option maxHeartbeats 8000000
namespace Go.Proofs.YtedcanagfajcgaaGreat
open Go.RowKit
open Go.Lib (hid)
theorem Ay {k l:IntKind} {a b c d:Int} (h:a=c) (h':b=d):Ending.returned (.tuple #[.int k a,.int l b])=.returned (.tuple #[.int k c,.int l d]):=by rw [h,h']
theorem Af {k:IntKind} {a b:Int} (h:a=b):Ending.returned (.int k a)=.returned (.int k b):=by rw [h]
theorem Li (a:Int) (h0 : -9223372036854775808<=a) (h1:a<=9223372036854775807) (w:World) :
    Calls Tryz.prog 212 #[.int .i64 a] w fun e w'=>e=.returned (.int .u64 (a.natAbs:Int))∧w'=w:=by
  by_cases h:a<0
  · go_enter Tryz.func212,Tryz.ntmps212
    go_wp2
    go_ret
    exact ⟨Af (by rw [Du,Du];omega),rfl⟩
  · go_enter Tryz.func212,Tryz.ntmps212
    go_wp2
    go_ret
    exact ⟨Af (by omega),rfl⟩
theorem Lh (q:Nat) (neg:Bool) (hq:q<18446744073709551616) (w:World) :
    Calls Tryz.prog 215 #[.int .u64 q,.bool neg] w fun e w'=>e=.returned (.tuple #[.int .i64 (Fx.sgV q neg),.int .i64 (Fx.sgE q neg)])∧w'=w:=by
  cases neg
  · by_cases h:(q:Int)<9223372036854775808
    · go_enter Tryz.func215,Tryz.ntmps215
      go_wp2
      go_ret2
      exact ⟨Ay (by simp only [Fx.sgV];rw [if_neg (by simp),if_pos (by omega)]) (by simp only [Fx.sgE];rw [if_neg (by simp),if_pos (by omega)]),rfl⟩
    · go_enter Tryz.func215,Tryz.ntmps215
      go_wp2
      go_ret2
      exact ⟨Ay (by simp only [Fx.sgV];rw [if_neg (by simp),if_neg (by omega)]) (by simp only [Fx.sgE];rw [if_neg (by simp),if_neg (by omega)]),rfl⟩
  · by_cases h:(q:Int)<=9223372036854775808
    · go_enter Tryz.func215,Tryz.ntmps215
      go_wp2
      go_ret2
      exact ⟨Ay (by simp only [Fx.sgV];rw [if_pos trivial,if_pos (by omega)];simp only [Du,wrap64];omega) (by simp only [Fx.sgE];rw [if_pos trivial,if_pos (by omega)]),rfl⟩
    · go_enter Tryz.func215,Tryz.ntmps215
      go_wp2
      go_ret2
      exact ⟨Ay (by simp only [Fx.sgV];rw [if_pos trivial,if_neg (by omega)]) (by simp only [Fx.sgE];rw [if_pos trivial,if_neg (by omega)]),rfl⟩
theorem Rh (a b:Int) (m:Nat) (w:World) :
    Calls Tryz.prog 173 #[.int .i64 a,.int .i64 b,.int .i64 0,.int .u8 m] w fun e w'=>e=.returned (.tuple #[.int .i64 0,.int .i64 1])∧w'=w:=by
  go_enter Tryz.func173,Tryz.ntmps173
  go_wp2
  go_ret2
  exact ⟨rfl,rfl⟩
theorem UO (a b c:Int) (m:Nat) (neg:Bool) (A B D hi lo:Nat) (w:World) (hc:(c == 0)=false) (hfar:(D:Int)<=hi)
    (hsA:∀ w,Calls Tryz.prog 212 #[.int .i64 a] w fun e w'=>e=.returned (.int .u64 (A:Int))∧w'=w)
    (hsB:∀ w,Calls Tryz.prog 212 #[.int .i64 b] w fun e w'=>e=.returned (.int .u64 (B:Int))∧w'=w)
    (hsD:∀ w,Calls Tryz.prog 212 #[.int .i64 c] w fun e w'=>e=.returned (.int .u64 (D:Int))∧w'=w)
    (hM:∀ w,Calls Tryz.prog 213 #[.int .u64 A,.int .u64 B] w fun e w'=>e=.returned (.tuple #[.int .u64 (hi:Int),.int .u64 (lo:Int)])∧w'=w)
    (hn:(!((!(decide (a<0) == decide (b<0))) == decide (c<0)))=neg) :
    Calls Tryz.prog 173 #[.int .i64 a,.int .i64 b,.int .i64 c,.int .u8 m] w fun e w'=>e=.returned (.tuple #[.int .i64 0,.int .i64 2])∧w'=w:=by
  have HA:=hid hsA;have HB:=hid hsB;have HD:=hid hsD;have HM:=hid hM;clear hsA hsB hsD hM
  go_enter Tryz.func173,Tryz.ntmps173
  go_wp2_with fail
  refine (HD.out _).mono ?_;rintro e w' ⟨rfl,rfl⟩
  go_wp2_with fail
  refine (HA.out _).mono ?_;rintro e w' ⟨rfl,rfl⟩
  go_wp2_with fail
  refine (HB.out _).mono ?_;rintro e w' ⟨rfl,rfl⟩
  go_wp2_with fail
  refine (HM.out _).mono ?_;rintro e w' ⟨rfl,rfl⟩
  go_wp2_with fail
  go_ret2
  exact ⟨rfl,rfl⟩
theorem AcQ (q:Nat) (neg:Bool) (h:(q:Int)=18446744073709551615):Fx.sgV (q+1) neg=0∧Fx.sgE (q+1) neg=2:=by
  cases neg
  · simp only [Fx.sgV,Fx.sgE,Bool.false_eq_true,if_false]
    rw [if_neg (by omega),if_neg (by omega)];exact ⟨rfl,rfl⟩
  · simp only [Fx.sgV,Fx.sgE,if_true]
    rw [if_neg (by omega),if_neg (by omega)];exact ⟨rfl,rfl⟩
theorem Xn (m:Nat) (mi:Int) (neg:Bool) (hm:m=0∧mi=0∨m=1∧mi=1∨m=2∧mi=2) (a b c:Int) (A B D hi lo q r:Nat) (w:World) (hc:(c == 0)=false) (hnear:¬ (D:Int)<=hi) (hr:(r:Int)<D) (hD:(D:Int)<=18446744073709551615) (hq:q<18446744073709551616)
    (hsA:∀ w,Calls Tryz.prog 212 #[.int .i64 a] w fun e w'=>e=.returned (.int .u64 (A:Int))∧w'=w)
    (hsB:∀ w,Calls Tryz.prog 212 #[.int .i64 b] w fun e w'=>e=.returned (.int .u64 (B:Int))∧w'=w)
    (hsD:∀ w,Calls Tryz.prog 212 #[.int .i64 c] w fun e w'=>e=.returned (.int .u64 (D:Int))∧w'=w)
    (hM:∀ w,Calls Tryz.prog 213 #[.int .u64 A,.int .u64 B] w fun e w'=>e=.returned (.tuple #[.int .u64 (hi:Int),.int .u64 (lo:Int)])∧w'=w)
    (hn:(!((!(decide (a<0) == decide (b<0))) == decide (c<0)))=neg)
    (hV:∀ w,Calls Tryz.prog 214 #[.int .u64 hi,.int .u64 lo,.int .u64 D] w fun e w'=>e=.returned (.tuple #[.int .u64 (q:Int),.int .u64 (r:Int)])∧∃ n,w'=w.drewN n) :
    Calls Tryz.prog 173 #[.int .i64 a,.int .i64 b,.int .i64 c,.int .u8 mi] w fun e w' =>
      e=.returned (.tuple #[.int .i64 (Fx.sgV (q+(if Fx.away m neg r D then 1 else 0)) neg),.int .i64 (Fx.sgE (q+(if Fx.away m neg r D then 1 else 0)) neg)])∧∃ n,w'=w.drewN n:=by
  have HV:=hid hV;have HA:=hid hsA;have HB:=hid hsB;have HD:=hid hsD;have HM:=hid hM;clear hV hsA hsB hsD hM;obtain ⟨aw,haw⟩:∃ aw,Fx.away m neg r D=aw:=⟨_,rfl⟩
  rw [haw]
  have HAW:=hid haw;clear haw
  obtain ⟨R,hR⟩:∃ R,q+(if aw then 1 else 0)=R:=⟨_,rfl⟩
  rw [hR]
  have HR:=hid hR;clear hR;have S0:=hid (fun W=>Lh q neg hq W)
  by_cases hmx:(q:Int)=18446744073709551615
  · have hs:=hid (AcQ q neg hmx)
    have hmb:((q:Int) == 18446744073709551615)=true:=beq_iff_eq.2 hmx;clear hmx
    rcases hm with ⟨rfl,rfl⟩ | ⟨rfl,rfl⟩ | ⟨rfl,rfl⟩ <;> cases neg
    all_goals
      go_enter Tryz.func173,Tryz.ntmps173
      go_wp2_with (first
        | (with_reducible refine (HD.out _).mono ?_;rintro e w' ⟨rfl,rfl⟩)
        | (with_reducible refine (HA.out _).mono ?_;rintro e w' ⟨rfl,rfl⟩)
        | (with_reducible refine (HB.out _).mono ?_;rintro e w' ⟨rfl,rfl⟩)
        | (with_reducible refine (HM.out _).mono ?_;rintro e w' ⟨rfl,rfl⟩)
        | (with_reducible refine (HV.out _).mono ?_;rintro e w' ⟨rfl,n1,rfl⟩)
        | (with_reducible refine (S0.out _).mono ?_;rintro e w' ⟨rfl,rfl⟩))
      all_goals
        go_ret2
        first
          | (have e:aw=false:=by rw [← HAW.out];(try simp only [BA,ne_eq,beq_iff_eq] at *);simp [Fx.away];try omega
             subst e;have h:=HR.out;simp only [if_true,Bool.false_eq_true,if_false,Nat.add_zero] at h;subst h;exact ⟨rfl,_,rfl⟩)
          | (have e:aw=true:=by rw [← HAW.out];(try simp only [BA,ne_eq,beq_iff_eq] at *);simp [Fx.away];try omega
             subst e;have h:=HR.out;simp only [if_true] at h;subst h;exact ⟨by rw [hs.out.1,hs.out.2];rfl,_,rfl⟩)
  · have hmb : ((q:Int) == 18446744073709551615)=false:=BA.2 hmx
    have hw1:IntKind.u64.wrap ((q:Int)+1)=(q:Int)+1:=by rw [Du];omega
    have S1:=hid (fun W=>show Calls Tryz.prog 215 #[.int .u64 ((q:Int)+1),.bool neg] W _ from Lh (q+1) neg (by omega) W);clear hmx
    rcases hm with ⟨rfl,rfl⟩ | ⟨rfl,rfl⟩ | ⟨rfl,rfl⟩ <;> cases neg
    all_goals
      go_enter Tryz.func173,Tryz.ntmps173
      go_wp2_with (first
        | (with_reducible refine (HD.out _).mono ?_;rintro e w' ⟨rfl,rfl⟩)
        | (with_reducible refine (HA.out _).mono ?_;rintro e w' ⟨rfl,rfl⟩)
        | (with_reducible refine (HB.out _).mono ?_;rintro e w' ⟨rfl,rfl⟩)
        | (with_reducible refine (HM.out _).mono ?_;rintro e w' ⟨rfl,rfl⟩)
        | (with_reducible refine (HV.out _).mono ?_;rintro e w' ⟨rfl,n1,rfl⟩)
        | (with_reducible refine (S0.out _).mono ?_;rintro e w' ⟨rfl,rfl⟩)
        | (with_reducible refine (S1.out _).mono ?_;rintro e w' ⟨rfl,rfl⟩))
      all_goals
        go_ret2
        first
          | (have e:aw=false:=by rw [← HAW.out];(try simp only [BA,ne_eq,beq_iff_eq] at *);simp [Fx.away];try omega
             subst e;have h:=HR.out;simp only [if_true,Bool.false_eq_true,if_false,Nat.add_zero] at h;subst h;exact ⟨rfl,_,rfl⟩)
          | (have e:aw=true:=by rw [← HAW.out];(try simp only [BA,ne_eq,beq_iff_eq] at *);simp [Fx.away];try omega
             subst e;have h:=HR.out;simp only [if_true,Bool.false_eq_true,if_false,Nat.add_zero] at h;subst h;exact ⟨rfl,_,rfl⟩)
theorem Jw (a:Int) (h0 : -9223372036854775808<=a) (h1:a<=9223372036854775807):a.natAbs<=9223372036854775808:=by omega
theorem YU (N D hi m:Nat) (neg:Bool) (h:D<=N / 18446744073709551616) (hD:0<D):Fx.sgV (Fx.mag m neg N D) neg=0∧Fx.sgE (Fx.mag m neg N D) neg=2:=by
  have h1:D * 18446744073709551616<=N:=(Nat.le_div_iff_mul_le (by decide)).1 h;have h2:18446744073709551616<=N / D:=(Nat.le_div_iff_mul_le hD).2 (by rw [Nat.mul_comm];exact h1);have h3:18446744073709551616<=Fx.mag m neg N D:=Nat.le_trans h2 (Cn _ _);generalize Fx.mag m neg N D=x at *
  cases neg
  · simp only [Fx.sgV,Fx.sgE,Bool.false_eq_true,if_false]
    rw [if_neg (by omega),if_neg (by omega)];exact ⟨rfl,rfl⟩
  · simp only [Fx.sgV,Fx.sgE,if_true]
    rw [if_neg (by omega),if_neg (by omega)];exact ⟨rfl,rfl⟩
theorem Za (N D:Nat) (h:¬ D<=N / 18446744073709551616):N / D<18446744073709551616:=by
  have h1:N / 18446744073709551616<D:=Nat.lt_of_not_le h
  rw [Nat.div_lt_iff_lt_mul (by decide)] at h1
  rw [Nat.div_lt_iff_lt_mul (Nat.pos_of_ne_zero (fun h0=>by rw [h0] at h1;omega)),Nat.mul_comm];exact h1
theorem AaL (a b c:Int):(!((!(decide (a<0) == decide (b<0))) == decide (c<0)))=Fx.negOf a b c:=rfl
theorem ZH (N:Nat):N / 18446744073709551616 * 18446744073709551616+N % 18446744073709551616=N:=by omega
theorem Mx (a b c:Int) (m:Nat) (hm:m=0∨m=1∨m=2) (a0 : -9223372036854775808<=a) (a1:a<=9223372036854775807) (b0 : -9223372036854775808<=b) (b1:b<=9223372036854775807)
    (c0 : -9223372036854775808<=c) (c1:c<=9223372036854775807) (w:World) :
    Calls Tryz.prog 173 #[.int .i64 a,.int .i64 b,.int .i64 c,.int .u8 m] w fun e w'=>e=.returned (.tuple #[.int .i64 (Fx.scV m a b c),.int .i64 (Fx.scE m a b c)])∧∃ n,w'=w.drewN n:=by
  by_cases hz:c=0
  · subst hz
    exact (Rh a b m w).mono fun e w' ⟨he,hw⟩=>⟨by rw [he];simp [Fx.scV,Fx.scE],0,hw⟩
  have hzb:(c == 0)=false:=BA.2 hz
  have hD:0<c.natAbs:=by omega
  have hA:=Jw a a0 a1;have hB:=Jw b b0 b1;have hC:=Jw c c0 c1;have hM:=fun w=>Tryz.bits_Mul64 a.natAbs b.natAbs (Nat.lt_of_le_of_lt hA (by decide)) (Nat.lt_of_le_of_lt hB (by decide)) w;have hsA:=fun w=>Li a a0 a1 w;have hsB:=fun w=>Li b b0 b1 w;have hsD:=fun w=>Li c c0 c1 w;have hlo:a.natAbs * b.natAbs % 18446744073709551616<18446744073709551616:=Nat.mod_lt _ (by decide);have hspl:=ZH (a.natAbs * b.natAbs)
  by_cases hfar:(c.natAbs:Int)<=((a.natAbs * b.natAbs / 18446744073709551616:Nat):Int)
  · have h:=YU (a.natAbs * b.natAbs) c.natAbs 0 m (Fx.negOf a b c) (Int.ofNat_le.1 hfar) hD
    refine (UO a b c m (Fx.negOf a b c) _ _ _ _ _ w hzb hfar hsA hsB hsD hM (AaL a b c)).mono fun e w' ⟨he,hw⟩=>⟨?_,0,hw⟩
    rw [he,Fx.scV,Fx.scE,if_neg hz,if_neg hz,h.1,h.2]
  · have hnl:¬ c.natAbs<=a.natAbs * b.natAbs / 18446744073709551616:=fun h=>hfar (Int.ofNat_le.2 h)
    have hq:=Za _ _ hnl;have hr:((a.natAbs * b.natAbs % c.natAbs:Nat):Int)<(c.natAbs:Int):=Int.ofNat_lt.2 (Nat.mod_lt _ hD)
    have hD':(c.natAbs:Int)<=18446744073709551615:=by omega
    have hV:=fun w=>Ur (a.natAbs * b.natAbs / 18446744073709551616) (a.natAbs * b.natAbs % 18446744073709551616) c.natAbs (Nat.lt_of_not_le hnl) (Nat.lt_of_le_of_lt hC (by decide)) hlo w
    rw [hspl] at hV
    have hno:=AaL a b c
    rw [Fx.scV,Fx.scE,if_neg hz,if_neg hz]
    unfold Fx.mag
    generalize Fx.negOf a b c=neg at *
    exact Xn m _ neg (by rcases hm with rfl | rfl | rfl <;> simp) a b c _ _ _ _ _ _ _ w hzb hfar hr hD' hq hsA hsB hsD hM hno hV
theorem ZQ (a:Nat) (ha:a<18446744073709551616):bits .xor .u64 IntKind.u64.max (a:Int)=((18446744073709551615 - a:Nat):Int):=by
  have hm:IntKind.u64.max=((18446744073709551615:Nat):Int):=rfl
  rw [hm,u64_xor_nat _ _ (by decide) ha]
  congr 1
  have h1:=BitVec.toNat_not (x:=BitVec.ofNat 64 a);have h2:(~~~(BitVec.ofNat 64 a))=BitVec.allOnes 64 ^^^ BitVec.ofNat 64 a:=(BitVec.allOnes_xor).symm
  rw [h2,BitVec.toNat_xor,BitVec.toNat_ofNat,BitVec.toNat_allOnes,Nat.mod_eq_of_lt (by simpa using ha)] at h1
  exact h1
theorem UK {k l:IntKind} {a b c d:Int} (h:a=c) (h':b=d):Ending.returned (.tuple #[.int k a,.int l b])=.returned (.tuple #[.int k c,.int l d]):=by rw [h,h']
theorem Zu {a b c:Int} {neg:Bool} (hn:Fx.negOf a b c=neg) (hc:c<0):(!(decide (a<0) == decide (b<0))) = !neg:=by
  subst hn;unfold Fx.negOf;rw [Ct hc];cases decide (a<0) <;> cases decide (b<0) <;> rfl
theorem Zv {a b c:Int} {neg:Bool} (hn:Fx.negOf a b c=neg) (hc:¬ c<0):(!(decide (a<0) == decide (b<0)))=neg:=by
  subst hn;unfold Fx.negOf;rw [BJ hc];cases decide (a<0) <;> cases decide (b<0) <;> rfl
theorem AcC (m:Nat) (mi:Int) (neg:Bool) (hm:m=0∧mi=0∨m=1∧mi=1∨m=2∧mi=2) (a b c:Int) (A B D hi lo qh ql r:Nat) (w:World) (hcb:(c == 0)=false) (hn:Fx.negOf a b c=neg)
    (hr:(r:Int)<D) (hD:(D:Int)<=18446744073709551615) (hqh:qh<9223372036854775808) (hql:(ql:Int)<=18446744073709551615)
    (hsA:∀ w,Calls Tryz.prog 238 #[.int .i64 a] w fun e w'=>e=.returned (.int .u64 (A:Int))∧w=w')
    (hsB:∀ w,Calls Tryz.prog 238 #[.int .i64 b] w fun e w'=>e=.returned (.int .u64 (B:Int))∧w=w')
    (hsD:∀ w,Calls Tryz.prog 238 #[.int .i64 c] w fun e w'=>e=.returned (.int .u64 (D:Int))∧w=w')
    (hM:∀ w,Calls Tryz.prog 237 #[.int .u64 A,.int .u64 B] w fun e w'=>e=.returned (.tuple #[.int .u64 (hi:Int),.int .u64 (lo:Int)])∧w=w')
    (hV:∀ w,Calls Tryz.prog 239 #[.int .u64 hi,.int .u64 lo,.int .u64 D] w fun e w'=>e=.returned (.tuple #[.int .u64 (qh:Int),.int .u64 (ql:Int),.int .u64 (r:Int)])∧w=w') :
    Calls Tryz.prog 225 #[.int .i64 a,.int .i64 b,.int .i64 c,.int .i64 mi] w fun e w' =>
      e=.returned (.tuple #[.int .i64 (Fx.sgV (qh * 18446744073709551616+ql+(if Fx.away m neg r D then 1 else 0)) neg),.int .i64 (Fx.sgE (qh * 18446744073709551616+ql+(if Fx.away m neg r D then 1 else 0)) neg)])∧w=w':=by
  have HA:=hid hsA;have HB:=hid hsB;have HD:=hid hsD;have HM:=hid hM;have HV:=hid hV;have HN:=hid hn;have Hqh:=hid hqh;clear hsA hsB hsD hM hV hn hqh;obtain ⟨aw,haw⟩:∃ aw,Fx.away m neg r D=aw:=⟨_,rfl⟩
  rw [haw]
  have HAW:=hid haw;clear haw
  obtain ⟨Q,hQ⟩:∃ Q,qh * 18446744073709551616+ql+(if aw then 1 else 0)=Q:=⟨_,rfl⟩
  rw [hQ]
  have HQ:=hid hQ;clear hQ
  rcases hm with ⟨rfl,rfl⟩ | ⟨rfl,rfl⟩ | ⟨rfl,rfl⟩ <;> cases neg
  all_goals
    go_enter Tryz.func225,Tryz.ntmps225
    go_upto_if 26 with fail
    go_cut [10] (fun s10 wx=>s10=.bool (Fx.negOf a b c)∧w=wx)
    case first =>
      by_cases hc:c<0
      · have h1:=Zu HN.out hc
        clear HAW HQ
        simp only [Bool.not_true,Bool.not_false] at h1
        go_wp2_with fail
        go_meet
        exact ⟨by rw [HN.out],rfl⟩
      · have h1:=Zv HN.out hc
        clear HAW HQ
        go_wp2_with fail
        go_meet
        exact ⟨by rw [HN.out],rfl⟩
    rw [HN.out] at hcut
    obtain ⟨rfl,rfl⟩:=hcut
    go_wp2_with fail
    refine (HA.out _).mono ?_;rintro e w' ⟨rfl,rfl⟩
    go_wp2_with fail
    refine (HB.out _).mono ?_;rintro e w' ⟨rfl,rfl⟩
    go_wp2_with fail
    refine (HM.out _).mono ?_;rintro e w' ⟨rfl,rfl⟩
    go_wp2_with fail
    refine (HD.out _).mono ?_;rintro e w' ⟨rfl,rfl⟩
    go_wp2_with fail
    refine (HV.out _).mono ?_;rintro e w' ⟨rfl,rfl⟩
    go_wp2_with fail
    refine (HD.out _).mono ?_;rintro e w' ⟨rfl,rfl⟩
  all_goals
    first
      | (have q:Hid (Fx.away 0 _ r D=aw):=HAW
         clear q
         go_upto_region 9 with fail)
      | (have q:Hid (Fx.away 1 _ r D=aw):=HAW
         clear q
         go_upto_region 11 with fail)
      | go_upto_region 13 with fail
    go_cut [17] (fun s17 wx=>s17=.bool aw∧w=wx)
    case first =>
      by_cases g2:(r:Int)=D - r
      · have g3:((r:Int) == D - r)=true:=beq_iff_eq.2 g2
        have G2:=hid g2;clear g2
        go_wp2
        all_goals (have:=G2.out;go_meet;exact ⟨congrArg Value.bool (by rw [← HAW.out,Bool.eq_iff_iff];(try simp only [BA,bne_iff_ne,bne_eq_false_iff_eq,ne_eq,beq_iff_eq] at *);simp [Fx.away];try omega),rfl⟩)
      · have g3:((r:Int) == D - r)=false:=BA.2 g2
        go_wp2
        all_goals (go_meet;exact ⟨congrArg Value.bool (by rw [← HAW.out,Bool.eq_iff_iff];(try simp only [BA,bne_iff_ne,bne_eq_false_iff_eq,ne_eq,beq_iff_eq] at *);simp [Fx.away];try omega),rfl⟩)
    case rest =>
      obtain ⟨rfl,rfl⟩:=hcut
      go_upto_if 77 with fail
      go_cut [13,14] (fun s13 s14 wx=>s13=.int .u64 ((Q / 18446744073709551616:Nat):Int)∧s14=.int .u64 ((Q % 18446744073709551616:Nat):Int)∧w=wx)
      case first =>
        have bqh:(qh:Int)<9223372036854775808:=by have:=Hqh.out;omega
        cases aw
        · go_wp2_with fail
          go_meet
          have hq:=HQ.out
          simp only [Bool.false_eq_true,if_false,Nat.add_zero] at hq
          exact ⟨by congr 1;omega,by congr 1;omega,rfl⟩
        · by_cases g:(ql:Int)=18446744073709551615
          · have e0:IntKind.u64.wrap ((ql:Int)+1)=0:=by rw [Du];omega
            have G:=hid g;clear g
            go_wp2_with fail
            go_meet
            have hq:=HQ.out;have g:=G.out
            simp only [if_true] at hq
            exact ⟨by congr 1;omega,by congr 1;omega,rfl⟩
          · have e0:((ql:Int)+1 == 0)=false:=BA.2 (by omega)
            have e1:(ql:Int)<18446744073709551615:=by omega
            clear g
            go_wp2_with fail
            go_meet
            have hq:=HQ.out
            simp only [if_true] at hq
            exact ⟨by congr 1;omega,by congr 1;omega,rfl⟩
      case rest =>
        obtain ⟨rfl,rfl,rfl⟩:=hcut;obtain ⟨x,hx⟩:∃ x,Q / 18446744073709551616=x:=⟨_,rfl⟩;obtain ⟨y,hy⟩:∃ y,Q % 18446744073709551616=y:=⟨_,rfl⟩
        have hQxy:Q=x * 18446744073709551616+y:=by omega
        rw [hx,hy]
        have hy64:y<18446744073709551616:=by omega
        obtain ⟨z,hz⟩:∃ z,18446744073709551615 - y=z:=⟨_,rfl⟩;have hxor:=ZQ y hy64
        rw [hz] at hxor
        have hx2:bits .xor .u64 IntKind.u64.max 9223372036854775808=9223372036854775807:=by decide
        have bz:(z:Int)<=18446744073709551615:=by omega
        have HZ:=hid (And.intro hQxy (And.intro hz hy64));clear hx hy hQxy hz hy64 hr hD hql HQ HAW
        go_wp2
        all_goals (go_ret2;have:=HZ.out;refine ⟨UK ?_ ?_,rfl⟩ <;> (simp only [hx2,wrap64,Du,Fx.sgV,Fx.sgE,if_true,Bool.false_eq_true,if_false];(repeat' split) <;> omega))
theorem WV (a b:Int) (m:Nat) (w:World) :
    Calls Tryz.prog 225 #[.int .i64 a,.int .i64 b,.int .i64 0,.int .i64 m] w fun e w'=>e=.returned (.tuple #[.int .i64 0,.int .i64 1])∧w=w':=by
  go_enter Tryz.func225,Tryz.ntmps225
  go_wp2
  go_ret2
  exact ⟨rfl,rfl⟩
theorem AcB (N D:Nat) (hN:N<18446744073709551616 * 9223372036854775808):N / D / 18446744073709551616<9223372036854775808:=by
  have h:=Nat.div_le_self N D
  rw [Nat.div_lt_iff_lt_mul (by decide),Nat.mul_comm]
  exact Nat.lt_of_le_of_lt h hN
theorem Ju (a:Int) (h0 : -9223372036854775808<=a) (h1:a<=9223372036854775807):a.natAbs<=9223372036854775808:=by omega
theorem Zh {A B:Nat} (hA:A<=9223372036854775808) (hB:B<=9223372036854775808):A * B<18446744073709551616 * 9223372036854775808 :=
  Nat.lt_of_le_of_lt (Nat.mul_le_mul hA hB) (by decide)
theorem PN (N:Nat):N / 18446744073709551616 * 18446744073709551616+N % 18446744073709551616=N:=by omega
theorem Zi (a b c:Int) (m:Nat) (hm:m=0∨m=1∨m=2) (a0 : -9223372036854775808<=a) (a1:a<=9223372036854775807) (b0 : -9223372036854775808<=b) (b1:b<=9223372036854775807)
    (c0 : -9223372036854775808<=c) (c1:c<=9223372036854775807) (w:World) :
    Calls Tryz.prog 225 #[.int .i64 a,.int .i64 b,.int .i64 c,.int .i64 m] w fun e w'=>e=.returned (.tuple #[.int .i64 (Fx.scV m a b c),.int .i64 (Fx.scE m a b c)])∧w=w':=by
  by_cases hz:c=0
  · subst hz
    exact (WV a b m w).mono fun e w' ⟨he,hw⟩=>⟨by rw [he];simp [Fx.scV,Fx.scE],hw⟩
  have hzb:(c == 0)=false:=BA.2 hz
  have hD:0<c.natAbs:=by omega
  have hA:=Ju a a0 a1;have hB:=Ju b b0 b1;have hC:=Ju c c0 c1;have hM:=fun w=>Pn a.natAbs b.natAbs (Nat.lt_of_le_of_lt hA (by decide)) (Nat.lt_of_le_of_lt hB (by decide)) w;have hsA:=fun w=>JB a a0 a1 w;have hsB:=fun w=>JB b b0 b1 w;have hsD:=fun w=>JB c c0 c1 w;have hP:=Zh hA hB;have hV:=fun w=>Ql (a.natAbs * b.natAbs / 18446744073709551616) (a.natAbs * b.natAbs % 18446744073709551616) c.natAbs (Nat.div_lt_of_lt_mul (Nat.lt_of_lt_of_le hP (by decide))) (Nat.mod_lt _ (by decide)) hD (Nat.lt_of_le_of_lt hC (by decide)) w
  rw [PN] at hV
  have hr:((a.natAbs * b.natAbs % c.natAbs:Nat):Int)<(c.natAbs:Int):=Int.ofNat_lt.2 (Nat.mod_lt _ hD)
  have hD':(c.natAbs:Int)<=18446744073709551615:=by omega
  have hqh:=AcB (a.natAbs * b.natAbs) c.natAbs hP
  have hql:((a.natAbs * b.natAbs / c.natAbs % 18446744073709551616:Nat):Int)<=18446744073709551615:=by have:=Nat.mod_lt (a.natAbs * b.natAbs / c.natAbs) (show 0<18446744073709551616 by decide);omega
  rw [Fx.scV,Fx.scE,if_neg hz,if_neg hz]
  unfold Fx.mag
  obtain ⟨neg,hn⟩:∃ neg,Fx.negOf a b c=neg:=⟨_,rfl⟩
  rw [hn]
  rw [← PN (a.natAbs * b.natAbs / c.natAbs)]
  exact AcC m _ neg (by rcases hm with rfl | rfl | rfl <;> simp) a b c _ _ _ _ _ _ _ _ w hzb hn hr hD' hqh hql hsA hsB hsD hM hV
def I64 (a:Int):Prop := -9223372036854775808<=a∧a<=9223372036854775807
def Oa (x:Int):Int:=if 9223372036854775807<x then 9223372036854775807 else if x < -9223372036854775808 then -9223372036854775808 else x
theorem Gm {x:Int} (h:I64 x):Oa x=x:=by unfold I64 at h;unfold Oa;rw [if_neg (by omega),if_neg (by omega)]
def Afs (n:Bool):Int:=if n then -9223372036854775808 else 9223372036854775807
theorem scale_down (a b c:Int) (ha:I64 a) (hb:I64 b) (hc:I64 c) (w:World) :
    Calls Tryz.prog 173 #[.int .i64 a,.int .i64 b,.int .i64 c,.int .u8 0] w fun e w'=>e=.returned (.tuple #[.int .i64 (Fx.scV 0 a b c),.int .i64 (Fx.scE 0 a b c)])∧∃ n,w'=w.drewN n :=
  Mx a b c 0 (.inl rfl) ha.1 ha.2 hb.1 hb.2 hc.1 hc.2 w
theorem quo_down (a b c:Int) (ha:I64 a) (hb:I64 b) (hc:I64 c) (w:World) :
    Calls Tryz.prog 225 #[.int .i64 a,.int .i64 b,.int .i64 c,.int .i64 0] w fun e w'=>e=.returned (.tuple #[.int .i64 (Fx.scV 0 a b c),.int .i64 (Fx.scE 0 a b c)])∧w=w' :=
  Zi a b c 0 (.inl rfl) ha.1 ha.2 hb.1 hb.2 hc.1 hc.2 w
theorem scale_up (a b c:Int) (ha:I64 a) (hb:I64 b) (hc:I64 c) (w:World) :
    Calls Tryz.prog 173 #[.int .i64 a,.int .i64 b,.int .i64 c,.int .u8 1] w fun e w'=>e=.returned (.tuple #[.int .i64 (Fx.scV 1 a b c),.int .i64 (Fx.scE 1 a b c)])∧∃ n,w'=w.drewN n :=
  Mx a b c 1 (.inr (.inl rfl)) ha.1 ha.2 hb.1 hb.2 hc.1 hc.2 w
theorem EG (a b:Int) (hb:0<b) : -b<a.tmod b∧a.tmod b<b:=by
 have h1:=Int.emod_nonneg a (show b≠0 by omega);have h2:=Int.emod_lt_of_pos a hb;have h3:=Int.tmod_eq_emod (a:=a) (b:=b);have h4:=Int.tmod_lt_of_pos a hb
 refine ⟨?_,h4⟩
 rw [h3]
 split
 ·omega
 ·rename_i hd
  have:a % b≠0:=fun h0=>hd (.inr (Int.dvd_of_emod_eq_zero h0))
  omega
theorem Lp (a b:Int) (hb:0<b):(a.tmod b<0→a.tmod b+b=a % b)∧(¬ a.tmod b<0→a.tmod b=a % b):=by
 have h1:=Int.emod_nonneg a (show b≠0 by omega);have h2:=Int.emod_lt_of_pos a hb;have h3:=Int.tmod_eq_emod (a:=a) (b:=b)
 split at h3 <;> constructor <;> omega
theorem NL:I64 1:=⟨by decide,by decide⟩
theorem xFloor (a b:Int) (ha:I64 a) (hb:I64 b) (w:World) :
    Calls Tryz.prog 126 #[.int .i64 a,.int .i64 b] w fun e w'=>e=.returned (.tuple #[.int .i64 (Fx.scV 0 a 1 b),.int .i64 (Fx.scE 0 a 1 b)])∧∃ n,w'=w.drewN n:=by
  have H:=hid (scale_down a 1 b ha NL hb)
  go_enter Tryz.func126,Tryz.ntmps126
  go_wp2_with fail
  refine (H.out _).mono ?_;rintro e w' ⟨rfl,n,rfl⟩
  go_wp2_with fail
  go_ret2
  exact ⟨rfl,n,rfl⟩
theorem xCeil (a b:Int) (ha:I64 a) (hb:I64 b) (w:World) :
    Calls Tryz.prog 103 #[.int .i64 a,.int .i64 b] w fun e w'=>e=.returned (.tuple #[.int .i64 (Fx.scV 1 a 1 b),.int .i64 (Fx.scE 1 a 1 b)])∧∃ n,w'=w.drewN n:=by
  have H:=hid (scale_up a 1 b ha NL hb)
  go_enter Tryz.func103,Tryz.ntmps103
  go_wp2_with fail
  refine (H.out _).mono ?_;rintro e w' ⟨rfl,n,rfl⟩
  go_wp2_with fail
  go_ret2
  exact ⟨rfl,n,rfl⟩
theorem rFloor (a b:Int) (ha:I64 a) (hb:I64 b) (w:World) :
    Calls Tryz.prog 198 #[.int .i64 a,.int .i64 b] w fun e w'=>e=.returned (.tuple #[.int .i64 (Fx.scV 0 a 1 b),.int .i64 (Fx.scE 0 a 1 b)])∧w=w':=by
  have H:=hid (quo_down a 1 b ha NL hb)
  go_enter Tryz.func198,Tryz.ntmps198
  go_wp2_with fail
  refine (H.out _).mono ?_;rintro e w' ⟨rfl,rfl⟩
  go_wp2_with fail
  go_ret2
  exact ⟨rfl,rfl⟩
set_option maxRecDepth 100000 in
set_option maxHeartbeats 1000000 in
theorem rSub (a b:Int) (ha:I64 a) (hb:I64 b) (w:World) :
    Calls Tryz.prog 152 #[.int .i64 a,.int .i64 b] w fun e w'=>e=.returned (.int .i64 (Oa (a - b)))∧w=w':=by
  obtain ⟨a0,a1⟩:=ha
  obtain ⟨b0,b1⟩:=hb
  rcases Int.lt_or_le a 0 with pa | pa
  all_goals rcases Int.lt_or_le b 0 with pb | pb
  all_goals (go_enter Tryz.func152,Tryz.ntmps152)
  all_goals (go_wp2)
  all_goals go_ret
  all_goals (refine ⟨Af ?_,rfl⟩)
  all_goals (simp only [Afs,Oa,Du,wrap64,decide_eq_true_eq,if_true,Bool.not_eq_true',Bool.not_eq_false',decide_eq_false_iff_not,beq_iff_eq,BA,ne_eq,decide_eq_decide] at *)
  all_goals (repeat' split)
  all_goals omega
theorem xAbs (a:Int) (ha:I64 a) (w:World) :
    Calls Tryz.prog 130 #[.int .i64 a] w fun e w'=>e=.returned (.int .i64 (Oa (a.natAbs:Int)))∧w=w':=by
  obtain ⟨a0,a1⟩:=ha
  by_cases h1:a = -9223372036854775808
  · subst h1
    go_enter Tryz.func130,Tryz.ntmps130
    go_wp2
    go_ret
    exact ⟨Af (by decide),rfl⟩
  · have hb:(a == -9223372036854775808)=false:=BA.2 h1
    have hv:=hid (Gm (x:=(a.natAbs:Int)) ⟨by omega,by omega⟩)
    have H1:=hid h1
    have b1 : -9223372036854775807<=a:=by omega
    clear h1
    rcases Int.lt_or_le a 0 with pa | pa
    · have hn:=hid (show (a.natAbs:Int) = -a by omega)
      go_enter Tryz.func130,Tryz.ntmps130
      go_wp2
      go_ret
      exact ⟨Af (by rw [hv.out,hn.out]),rfl⟩
    · have hn:=hid (show (a.natAbs:Int)=a by omega)
      go_enter Tryz.func130,Tryz.ntmps130
      go_wp2
      go_ret
      exact ⟨Af (by rw [hv.out,hn.out]),rfl⟩
theorem rAbs (a:Int) (ha:I64 a) (w:World) :
    Calls Tryz.prog 85 #[.int .i64 a] w fun e w'=>e=.returned (.int .i64 (Oa (a.natAbs:Int)))∧w=w':=by
  have h0:I64 0:=⟨by decide,by decide⟩
  have HS:=hid (rSub 0 a h0 ha)
  obtain ⟨a0,a1⟩:=ha
  rcases Int.lt_or_le a 0 with pa | pa
  · have hn:=hid (show (a.natAbs:Int)=0 - a by omega)
    go_enter Tryz.func85,Tryz.ntmps85
    go_wp2_with fail
    refine (HS.out _).mono ?_;rintro e w' ⟨rfl,rfl⟩
    go_wp2_with fail
    go_ret
    exact ⟨Af (by rw [hn.out];first | rfl | rw [Int.zero_sub]),rfl⟩
  · have hv:=hid (Gm (x:=(a.natAbs:Int)) ⟨by omega,by omega⟩)
    have hn:=hid (show (a.natAbs:Int)=a by omega)
    go_enter Tryz.func85,Tryz.ntmps85
    go_wp2
    go_ret
    exact ⟨Af (by rw [hv.out,hn.out]),rfl⟩
