/- M17: FxDiv, FxDivAny, FxRef in one text. -/
import Derived.Test.YtedcanagfajcgaaGreatChecked
import Derived.Test.YtedcanagfajcgaaGreatFxPlain
import Derived.Test.YtedcanagfajcgaaGreatShelf
import Derived.WalkKit
import Derived.WalkLawsBesides
import Derived.Deep.QuietTactic
import Derived.BigQuiet
import Derived.Lib.Mul64
import Derived.Lib.ItoaNum
import Derived.Lib.Hide
set_option linter.unusedSimpArgs false
set_option linter.unusedVariables false
set_option maxRecDepth 100000
set_option maxHeartbeats 1000000
namespace Go.Proofs
theorem MP{G:Prop}(h:G:=by
  have hE:(q2:Int) - 1=Q0:=by omega
  have hqz:¬ (q2:Int)<1:=by omega
  clear HE
  go_wp2_with fail
  go_ret2
  exact ⟨by rfl,rfl⟩):G:=h
end Go.Proofs
namespace Go.Proofs.YtedcanagfajcgaaGreat
open Go.RowKit
open Go.Lib (hid)
theorem Du (a:Int):IntKind.u64.wrap a=a % 18446744073709551616:=by rw [IntKind.wrap_u64]
theorem Mm (a:Nat) (ha:a<18446744073709551616):bits .and .u64 (a:Int) 4294967295=((a % 4294967296:Nat):Int):=by
  have h:=bits_and_u64_nat a 4294967295 ha (by omega);have e:a &&& 4294967295=a % 4294967296:=Nat.and_two_pow_sub_one_eq_mod a 32
  rw [e] at h
  exact h
theorem orN (a b s:Nat) (h:a * 2 ^ s+b<18446744073709551616) (hb:b<2 ^ s):bits .or .u64 ((a * 2 ^ s:Nat):Int) (b:Int)=((a * 2 ^ s+b:Nat):Int):=by
  have h1:=bits_or_u64_nat (a * 2 ^ s) b (by omega) (by omega)
  have e:a * 2 ^ s ||| b=a * 2 ^ s+b:=by rw [Nat.mul_comm,← Nat.two_pow_add_eq_or_of_lt hb]
  rw [e] at h1
  exact h1
theorem Acm (y:Nat) (h0:0<y) (h1:y<18446744073709551616):∃ s:Nat,s<=63∧9223372036854775808<=y * 2 ^ s∧y * 2 ^ s<18446744073709551616 ∧
    ∀ w,Calls Tryz.prog 231 #[.int .u64 y] w fun e w'=>e=.returned (.int .i64 (s:Int))∧w'=w:=by
  obtain ⟨b1,b2,b3⟩:=Lib.bitLenAux_bounds 64 y (by omega) (by omega)
  have b0:Lib.bitLenAux 64 y<=64:=by
    rcases Nat.lt_or_ge 64 (Lib.bitLenAux 64 y) with h | h
    · exfalso
      have:2 ^ 64<=2 ^ (Lib.bitLenAux 64 y - 1):=Nat.pow_le_pow_right (by omega) (by omega)
      omega
    · exact h
  have hb:Lib.bitLen y=Lib.bitLenAux 64 y:=rfl;generalize hk:Lib.bitLenAux 64 y=k at *
  refine ⟨64 - k,by omega,?_,?_,fun w=>?_⟩
  · have e:2 ^ (k - 1) * 2 ^ (64 - k)=9223372036854775808:=by rw [← Nat.pow_add,show k - 1+(64 - k)=63 from by omega]
    have:=Nat.mul_le_mul_right (2 ^ (64 - k)) b2
    omega
  · have e:2 ^ k * 2 ^ (64 - k)=18446744073709551616:=by rw [← Nat.pow_add,show k+(64 - k)=64 from by omega]
    have:=Nat.mul_lt_mul_of_pos_right b3 (Nat.two_pow_pos (64 - k))
    omega
  · refine (Tryz.bits_LeadingZeros64 (y:Int) w (by omega) (by omega)).mono ?_
    rintro e w' ⟨rfl,rfl⟩
    refine ⟨?_,rfl⟩
    rw [Int.toNat_natCast,hb]
    congr 2
    omega
def YC (u y1 y0 d:Nat) (q rh:Value):Prop:=∃ Q R:Nat,q=.int .u64 Q∧rh=.int .u64 R∧Fx.KInv u y1 y0 d Q R∧Q<=4294967297
theorem Qk (hi lo y s Y y1 y0 u Z d1 d0 g1 k1 Q1 R1 g0 k0 Q0 R0:Nat) (p1:hi<y) (p2:y<18446744073709551616) (p3:lo<18446744073709551616) (p4:0<hi) (hs:s<=63) (w:World)
    (lz:∀ w,Calls Tryz.prog 231 #[.int .u64 y] w fun e w'=>e=.returned (.int .i64 s)∧w'=w)
    (eY:IntKind.u64.wrap (↑y * 2 ^ s) = ↑Y) (eY1:(Y:Int) / 4294967296 = ↑y1) (eY0:bits .and .u64 (↑Y) 4294967295 = ↑y0)
    (eU:bits .or .u64 (IntKind.u64.wrap (↑hi * 2 ^ s)) (↑lo / 2 ^ (64 - s)) = ↑u) (eZ:IntKind.u64.wrap (↑lo * 2 ^ s) = ↑Z) (eD1:(Z:Int) / 4294967296 = ↑d1) (eD0:bits .and .u64 (↑Z) 4294967295 = ↑d0)
    (eG:(u:Int) / ↑y1 = ↑g1) (eK:IntKind.u64.wrap (↑u - IntKind.u64.wrap (↑g1 * ↑y1)) = ↑k1)
    (b1:2147483648<=y1) (b1':y1<4294967296) (b0:y0<4294967296) (bd1:d1<4294967296) (bd0:d0<4294967296) (bu:u<18446744073709551616)
    (hu:u<y1 * 4294967296+y0) (hK1:Fx.KInv u y1 y0 d1 g1 k1) (hG1:g1<=4294967297)
    (hQ1:(u * 4294967296+d1) / (y1 * 4294967296+y0)=Q1)
    (eR1:IntKind.u64.wrap (IntKind.u64.wrap (IntKind.u64.wrap (↑u * 4294967296) + ↑d1) - IntKind.u64.wrap (↑Q1 * ↑Y)) = ↑R1)
    (eG0:(R1:Int) / ↑y1 = ↑g0) (eK0:IntKind.u64.wrap (↑R1 - IntKind.u64.wrap (↑g0 * ↑y1)) = ↑k0)
    (hK0:Fx.KInv R1 y1 y0 d0 g0 k0) (hG0:g0<=4294967297) (hr1:R1<y1 * 4294967296+y0) (br1:R1<18446744073709551616)
    (hQ0:(R1 * 4294967296+d0) / (y1 * 4294967296+y0)=Q0) (bQ1:Q1<4294967296) (bQ0:Q0<4294967296)
    (eR0:IntKind.u64.wrap (IntKind.u64.wrap (IntKind.u64.wrap (↑R1 * 4294967296) + ↑d0) - IntKind.u64.wrap (↑Q0 * ↑Y)) = ↑R0)
     :
    Calls Tryz.prog 214 #[.int .u64 hi,.int .u64 lo,.int .u64 y] w fun e w'=>e=.returned (.tuple #[.int .u64 ((Q1 * 4294967296+Q0:Nat):Int),.int .u64 ((R0 / 2 ^ s:Nat):Int)])∧w'=w:=by
  have HL:=hid lz;have HQ1:=hid hQ1;have HQ0:=hid hQ0;clear lz hQ1 hQ0
  go_enter Tryz.func214,Tryz.ntmps214
  go_wp2_with (go_at_call 231;refine (HL.out _).mono ?_;rintro e w' ⟨rfl,rfl⟩)
  go_loop [15,16] (fun q rh=>YC u y1 y0 d1 q rh) (fun q _=>(intOf q).toNat)
  case atStart=>exact ⟨g1,k1,rfl,rfl,hK1,hG1⟩
  case round =>
    obtain ⟨q,rh,rfl,rfl,hK,hq⟩:=hrel
    have hrh:(rh:Int)<=4294967295:=by have:=hK.rh_lt;omega
    have HK:=hid hK;clear hK
    by_cases hc:(4294967296:Int)<=q
    · have hc':4294967296<=q∨4294967296 * rh+d1<q * y0:=.inl (by omega)
      have hlow:=(Fx.k_lower hu bd1 HK.out hc').1;have HC:=hid hc';clear hc'
      by_cases hb:(4294967296:Int)<=rh+y1
      · have HE:q - 1=Q1:=(Fx.k_break b1 b0 hu bd1 HK.out HC.out (by omega)).trans HQ1.out
        have hE:(q:Int) - 1=Q1:=by omega
        have hqz:¬ (q:Int)<1:=by omega
        clear HE
        go_wp2_with fail
        go_loop [18,16] (fun q rh=>YC R1 y1 y0 d0 q rh) (fun q _=>(intOf q).toNat)
        case atStart=>exact ⟨g0,k0,rfl,rfl,hK0,hG0⟩
        case round =>
          clear HK;obtain ⟨q2,rh2,rfl,rfl,hK,hq2⟩:=hrel
          have hrh:(rh2:Int)<=4294967295:=by have:=hK.rh_lt;omega
          have HK:=hid hK;clear hK
          by_cases hc:(4294967296:Int)<=q2
          · have hc':4294967296<=q2∨4294967296 * rh2+d0<q2 * y0:=.inl (by omega)
            have hlow:=(Fx.k_lower hr1 bd0 HK.out hc').1;have HC:=hid hc';clear hc'
            by_cases hb:(4294967296:Int)<=rh2+y1
            · have HE:q2 - 1=Q0:=(Fx.k_break b1 b0 hr1 bd0 HK.out HC.out (by omega)).trans HQ0.out
              exact MP
            · have HN:=hid (Fx.k_next hr1 bd0 HK.out HC.out (by omega))
              go_wp2_with fail
              go_round
              case rel=>exact ⟨q2 - 1,rh2+y1,by congr 1;omega,by congr 1,HN.out,by omega⟩
              case measure=>simp only [intOf];omega
          · have hm:q2 * y0<18446744073709551616:=Fx.mul_lt_64 (by omega) b0
            have hm1:(q2:Int) * (y0:Int)<=18446744073709551615:=by rw [← Int.natCast_mul];omega
            have hm0:0<=(q2:Int) * (y0:Int):=by rw [← Int.natCast_mul];omega
            clear hm
            by_cases hc2:4294967296 * (rh2:Int)+d0<(q2:Int) * y0
            · have hc':4294967296<=q2∨4294967296 * rh2+d0<q2 * y0:=.inr (by rw [← Int.natCast_mul] at hc2;omega)
              have hlow:=(Fx.k_lower hr1 bd0 HK.out hc').1;have HC:=hid hc';clear hc'
              by_cases hb:(4294967296:Int)<=rh2+y1
              · have HE:q2 - 1=Q0:=(Fx.k_break b1 b0 hr1 bd0 HK.out HC.out (by omega)).trans HQ0.out
                exact MP
              · have HN:=hid (Fx.k_next hr1 bd0 HK.out HC.out (by omega))
                go_wp2_with fail
                go_round
                case rel=>exact ⟨q2 - 1,rh2+y1,by congr 1;omega,by congr 1,HN.out,by omega⟩
                case measure=>simp only [intOf];omega
            · have HE:q2=Q0:=(Fx.k_exit (by omega) HK.out (by rw [← Int.natCast_mul] at hc2;omega)).trans HQ0.out
              subst HE
              go_wp2_with fail
              go_ret2
              exact ⟨by rfl,rfl⟩
      · have HN:=hid (Fx.k_next hu bd1 HK.out HC.out (by omega))
        go_wp2_with fail
        go_round
        case rel=>exact ⟨q - 1,rh+y1,by congr 1;omega,by congr 1,HN.out,by omega⟩
        case measure=>simp only [intOf];omega
    · have hm : q * y0<18446744073709551616:=Fx.mul_lt_64 (by omega) b0
      have hm1:(q:Int) * (y0:Int)<=18446744073709551615:=by rw [← Int.natCast_mul];omega
      have hm0:0<=(q:Int) * (y0:Int):=by rw [← Int.natCast_mul];omega
      clear hm
      by_cases hc2:4294967296 * (rh:Int)+d1<(q:Int) * y0
      · have hc':4294967296<=q∨4294967296 * rh+d1<q * y0:=.inr (by rw [← Int.natCast_mul] at hc2;omega)
        have hlow:=(Fx.k_lower hu bd1 HK.out hc').1;have HC:=hid hc';clear hc'
        by_cases hb:(4294967296:Int)<=rh+y1
        · have HE:q - 1=Q1:=(Fx.k_break b1 b0 hu bd1 HK.out HC.out (by omega)).trans HQ1.out
          have hE:(q:Int) - 1=Q1:=by omega
          have hqz:¬ (q:Int)<1:=by omega
          clear HE
          go_wp2_with fail
          go_loop [18,16] (fun q rh=>YC R1 y1 y0 d0 q rh) (fun q _=>(intOf q).toNat)
          case atStart=>exact ⟨g0,k0,rfl,rfl,hK0,hG0⟩
          case round =>
            clear HK;obtain ⟨q2,rh2,rfl,rfl,hK,hq2⟩:=hrel
            have hrh:(rh2:Int)<=4294967295:=by have:=hK.rh_lt;omega
            have HK:=hid hK;clear hK
            by_cases hc:(4294967296:Int)<=q2
            · have hc':4294967296<=q2∨4294967296 * rh2+d0<q2 * y0:=.inl (by omega)
              have hlow:=(Fx.k_lower hr1 bd0 HK.out hc').1;have HC:=hid hc';clear hc'
              by_cases hb:(4294967296:Int)<=rh2+y1
              · have HE:q2 - 1=Q0:=(Fx.k_break b1 b0 hr1 bd0 HK.out HC.out (by omega)).trans HQ0.out
                exact MP
              · have HN:=hid (Fx.k_next hr1 bd0 HK.out HC.out (by omega))
                go_wp2_with fail
                go_round
                case rel=>exact ⟨q2 - 1,rh2+y1,by congr 1;omega,by congr 1,HN.out,by omega⟩
                case measure=>simp only [intOf];omega
            · have hm:q2 * y0<18446744073709551616:=Fx.mul_lt_64 (by omega) b0
              have hm1:(q2:Int) * (y0:Int)<=18446744073709551615:=by rw [← Int.natCast_mul];omega
              have hm0:0<=(q2:Int) * (y0:Int):=by rw [← Int.natCast_mul];omega
              clear hm
              by_cases hc2:4294967296 * (rh2:Int)+d0<(q2:Int) * y0
              · have hc':4294967296<=q2∨4294967296 * rh2+d0<q2 * y0:=.inr (by rw [← Int.natCast_mul] at hc2;omega)
                have hlow:=(Fx.k_lower hr1 bd0 HK.out hc').1;have HC:=hid hc';clear hc'
                by_cases hb:(4294967296:Int)<=rh2+y1
                · have HE:q2 - 1=Q0:=(Fx.k_break b1 b0 hr1 bd0 HK.out HC.out (by omega)).trans HQ0.out
                  exact MP
                · have HN:=hid (Fx.k_next hr1 bd0 HK.out HC.out (by omega))
                  go_wp2_with fail
                  go_round
                  case rel=>exact ⟨q2 - 1,rh2+y1,by congr 1;omega,by congr 1,HN.out,by omega⟩
                  case measure=>simp only [intOf];omega
              · have HE:q2=Q0:=(Fx.k_exit (by omega) HK.out (by rw [← Int.natCast_mul] at hc2;omega)).trans HQ0.out
                subst HE
                go_wp2_with fail
                go_ret2
                exact ⟨by rfl,rfl⟩
        · have HN:=hid (Fx.k_next hu bd1 HK.out HC.out (by omega))
          go_wp2_with fail
          go_round
          case rel=>exact ⟨q - 1,rh+y1,by congr 1;omega,by congr 1,HN.out,by omega⟩
          case measure=>simp only [intOf];omega
      · have HE:q=Q1:=(Fx.k_exit (by omega) HK.out (by rw [← Int.natCast_mul] at hc2;omega)).trans HQ1.out
        subst HE
        go_wp2_with fail
        go_loop [18,16] (fun q rh=>YC R1 y1 y0 d0 q rh) (fun q _=>(intOf q).toNat)
        case atStart=>exact ⟨g0,k0,rfl,rfl,hK0,hG0⟩
        case round =>
          clear HK;obtain ⟨q2,rh2,rfl,rfl,hK,hq2⟩:=hrel
          have hrh:(rh2:Int)<=4294967295:=by have:=hK.rh_lt;omega
          have HK:=hid hK;clear hK
          by_cases hc:(4294967296:Int)<=q2
          · have hc':4294967296<=q2∨4294967296 * rh2+d0<q2 * y0:=.inl (by omega)
            have hlow:=(Fx.k_lower hr1 bd0 HK.out hc').1;have HC:=hid hc';clear hc'
            by_cases hb:(4294967296:Int)<=rh2+y1
            · have HE:q2 - 1=Q0:=(Fx.k_break b1 b0 hr1 bd0 HK.out HC.out (by omega)).trans HQ0.out
              exact MP
            · have HN:=hid (Fx.k_next hr1 bd0 HK.out HC.out (by omega))
              go_wp2_with fail
              go_round
              case rel=>exact ⟨q2 - 1,rh2+y1,by congr 1;omega,by congr 1,HN.out,by omega⟩
              case measure=>simp only [intOf];omega
          · have hm:q2 * y0<18446744073709551616:=Fx.mul_lt_64 (by omega) b0
            have hm1:(q2:Int) * (y0:Int)<=18446744073709551615:=by rw [← Int.natCast_mul];omega
            have hm0:0<=(q2:Int) * (y0:Int):=by rw [← Int.natCast_mul];omega
            clear hm
            by_cases hc2:4294967296 * (rh2:Int)+d0<(q2:Int) * y0
            · have hc':4294967296<=q2∨4294967296 * rh2+d0<q2 * y0:=.inr (by rw [← Int.natCast_mul] at hc2;omega)
              have hlow:=(Fx.k_lower hr1 bd0 HK.out hc').1;have HC:=hid hc';clear hc'
              by_cases hb:(4294967296:Int)<=rh2+y1
              · have HE:q2 - 1=Q0:=(Fx.k_break b1 b0 hr1 bd0 HK.out HC.out (by omega)).trans HQ0.out
                exact MP
              · have HN:=hid (Fx.k_next hr1 bd0 HK.out HC.out (by omega))
                go_wp2_with fail
                go_round
                case rel=>exact ⟨q2 - 1,rh2+y1,by congr 1;omega,by congr 1,HN.out,by omega⟩
                case measure=>simp only [intOf];omega
            · have HE:q2=Q0:=(Fx.k_exit (by omega) HK.out (by rw [← Int.natCast_mul] at hc2;omega)).trans HQ0.out
              subst HE
              go_wp2_with fail
              go_ret2
              exact ⟨by rfl,rfl⟩
theorem Gr (a:Nat) (ha:a<18446744073709551616):IntKind.u64.wrap (a:Int)=(a:Int):=by rw [Du];omega
theorem MH (A D P R:Nat) (h:A * 4294967296+D=P+R) (hR:R<18446744073709551616) :
  IntKind.u64.wrap (IntKind.u64.wrap (IntKind.u64.wrap ((A:Int) * 4294967296)+(D:Int)) - IntKind.u64.wrap ((P:Nat):Int))=(R:Int):=by
 simp only [Du]
 omega
theorem WI {a Z:Nat} (h:a % 18446744073709551616=Z):Z<18446744073709551616:=by omega
theorem I9 (Z:Nat):Z / 4294967296 * 4294967296+Z % 4294967296=Z:=by omega
theorem OM (Y u d:Nat) (h1:9223372036854775808<=Y) (h2:Y<18446744073709551616) (hu:u<Y) (hd:d<4294967296) :
  ∃ g k Q R:Nat,u / (Y / 4294967296)=g∧u=g * (Y / 4294967296)+k∧k<4294967296∧Fx.KInv u (Y / 4294967296) (Y % 4294967296) d g k∧g<=4294967297 ∧
   (u * 4294967296+d) / (Y / 4294967296 * 4294967296+Y % 4294967296)=Q∧Q<4294967296∧R<Y∧u * 4294967296+d=Q * Y+R:=by
 have b1:2147483648<=Y / 4294967296:=by omega
 have b1':Y / 4294967296<4294967296:=by omega
 have b0:Y % 4294967296<4294967296:=by omega
 have hs:=I9 Y;have hK:=Fx.k_start (u:=u) b1 b1' b0 hd;have hG:=Fx.k_small (u:=u) b1 b0 (by rw [hs];exact hu);have e:=Nat.div_add_mod (u * 4294967296+d) Y;have m:=Nat.mod_lt (u * 4294967296+d) (show 0<Y by omega)
 have q:(u * 4294967296+d) / Y<4294967296:=by rw [Nat.div_lt_iff_lt_mul (by omega)];omega
 refine ⟨_,u % (Y / 4294967296),_,_,rfl,hK.sum.symm,hK.rh_lt,hK,hG,rfl,?_,m,?_⟩
 ·rw [hs];exact q
 ·rw [hs,Nat.mul_comm _ Y];exact e.symm
theorem AdN (hi lo s u:Nat) (hs:s<=63) (p3:lo<18446744073709551616) (hu:u<18446744073709551616) (hue:hi * 2 ^ s+lo / 2 ^ (64 - s)=u) :
  bits .or .u64 (IntKind.u64.wrap (↑hi * 2 ^ s)) (↑lo / 2 ^ (64 - s))=(u:Int):=by
 have hA:lo / 2 ^ (64 - s)<2 ^ s:=by
  rw [Nat.div_lt_iff_lt_mul (Nat.two_pow_pos _),Nat.mul_comm,Fx.pow64 hs];exact p3
 have c1:(hi:Int) * 2 ^ s=((hi * 2 ^ s:Nat):Int):=by simp
 have c2:(lo:Int) / 2 ^ (64 - s)=((lo / 2 ^ (64 - s):Nat):Int):=by simp
 have h3:=Nat.le_add_right (hi * 2 ^ s) (lo / 2 ^ (64 - s))
 rw [hue] at h3
 rw [c1,c2,Gr _ (Nat.lt_of_le_of_lt h3 hu),orN _ _ _ (by rw [hue];exact hu) hA,hue]
theorem AdO (y s Y:Nat) (h:Y<18446744073709551616) (hYe:y * 2 ^ s=Y):IntKind.u64.wrap (↑y * 2 ^ s)=(Y:Int):=by
 have c1:(y:Int) * 2 ^ s=((y * 2 ^ s:Nat):Int):=by simp
 rw [c1,hYe,Gr _ h]
theorem AdP (lo s Z:Nat) (hZe:lo * 2 ^ s % 18446744073709551616=Z):IntKind.u64.wrap (↑lo * 2 ^ s)=(Z:Int):=by
 have c1:(lo:Int) * 2 ^ s=((lo * 2 ^ s:Nat):Int):=by simp
 rw [c1,Du,← hZe]
 omega
theorem Aax (u P k:Nat) (h:u=P+k) (hk:k<4294967296):IntKind.u64.wrap (↑u - IntKind.u64.wrap ((P:Nat):Int))=(k:Int):=by
 rw [Du,Du]
 omega
theorem OI (a b c:Nat) (h:a / b=c):(a:Int) / (b:Int)=(c:Int):=by rw [← h];simp
theorem KF (a:Nat):(a:Int) / 4294967296=((a / 4294967296:Nat):Int):=by omega
theorem Us (hi lo y:Nat) (p1:hi<y) (p2:y<18446744073709551616) (p3:lo<18446744073709551616) (p4:0<hi) (w:World) :
  Calls Tryz.prog 214 #[.int .u64 hi,.int .u64 lo,.int .u64 y] w fun e w'=>e=.returned (.tuple #[.int .u64 (((hi * 18446744073709551616+lo) / y:Nat):Int),.int .u64 (((hi * 18446744073709551616+lo) % y:Nat):Int)])∧w'=w:=by
 have hy:0<y:=Nat.lt_of_le_of_lt (Nat.zero_le _) p1;obtain ⟨s,hs,hY1,hY2,lz⟩:=Acm y hy p2;have htop:=Fx.d64_top p1 p3 hs;have hsum:=hid (Fx.d64_sum (hi:=hi) (lo:=lo) hs);obtain ⟨Y,hYe⟩:∃ Y,y * 2 ^ s=Y:=⟨_,rfl⟩;obtain ⟨Z,hZe⟩:∃ Z,lo * 2 ^ s % 18446744073709551616=Z:=⟨_,rfl⟩;obtain ⟨u,hue⟩:∃ u,hi * 2 ^ s+lo / 2 ^ (64 - s)=u:=⟨_,rfl⟩
 rw [hYe] at hY1 hY2
 rw [hYe,hue] at htop
 have hsum':=hsum.out
 rw [hue,hZe] at hsum'
 have hZ:=WI hZe;have hu64:u<18446744073709551616:=Nat.lt_trans htop hY2;obtain ⟨g1,k1,Q1,R1,a1,a2,a3,a4,a5,a6,a7,a8,a9⟩:=OM Y u (Z / 4294967296) hY1 hY2 htop (Nat.div_lt_of_lt_mul hZ);obtain ⟨g0,k0,Q0,R0,c1,c2,c3,c4,c5,c6,c7,c8,c9⟩:=OM Y R1 (Z % 4294967296) hY1 hY2 a8 (Nat.mod_lt _ (by decide));have hend:=Fx.d64_end hy hYe.symm hsum' (I9 Z).symm a9 c9 c8
 rw [hend.1,hend.2]
 have hsp:=I9 Y;have hR1:R1<18446744073709551616:=Nat.lt_trans a8 hY2;have hR0:R0<18446744073709551616:=Nat.lt_trans c8 hY2
 refine Qk hi lo y s Y (Y / 4294967296) (Y % 4294967296) u Z (Z / 4294967296) (Z % 4294967296) g1 k1 Q1 R1 g0 k0 Q0 R0
  p1 p2 p3 p4 hs w lz (AdO _ _ _ hY2 hYe) (KF _) (Mm _ hY2) (AdN _ _ _ _ hs p3 hu64 hue) (AdP _ _ _ hZe) (KF _) (Mm _ hZ) (OI _ _ _ a1) ?_
  ?_ ?_ ?_ ?_ ?_ hu64 (by rw [hsp];exact htop) a4 a5 a6 ?_ (OI _ _ _ c1) ?_ c4 c5 (by rw [hsp];exact a8) hR1 c6 a7 c7 ?_
 ·rw [← Int.natCast_mul];exact Aax _ _ _ a2 a3
 ·clear hsum hsum' lz hue hend hZe hYe a9 c9 a2 c2 a4 c4;omega
 ·clear hsum hsum' lz hue hend hZe hYe a9 c9 a2 c2 a4 c4;omega
 ·exact Nat.mod_lt _ (by decide)
 ·exact Nat.div_lt_of_lt_mul hZ
 ·exact Nat.mod_lt _ (by decide)
 ·rw [← Int.natCast_mul];exact MH _ _ _ _ a9 hR1
 ·rw [← Int.natCast_mul];exact Aax _ _ _ c2 c3
 ·rw [← Int.natCast_mul];exact MH _ _ _ _ c9 hR0
theorem OO (lo y:Nat) (p1:0<y) (p2:y<18446744073709551616) (p3:lo<18446744073709551616) (w:World) :
  Calls Tryz.prog 214 #[.int .u64 0,.int .u64 lo,.int .u64 y] w fun e w'=>e=.returned (.tuple #[.int .u64 ((lo / y:Nat):Int),.int .u64 ((lo % y:Nat):Int)])∧∃ n,w'=w.drewN n:=by
 have hy:((y:Int) == 0)=false:=by rw [beq_eq_false_iff_ne];omega
 have hy2:¬ (y:Int)<=0:=by omega
 go_enter Tryz.func214,Tryz.ntmps214
 go_wp2
 go_quiet (fail)
 have hq:IntKind.u64.wrap ((lo:Int) / (y:Int))=((lo / y:Nat):Int):=by
  have h2:lo / y<=lo:=Nat.div_le_self _ _
  rw [← Int.natCast_ediv,Gr _ (by omega)]
 go_wp2
 go_ret2
 refine ⟨?_,_,rfl⟩
 show Ending.returned (.tuple #[.int .u64 _,.int .u64 _])=_
 rw [hq,← Int.natCast_emod]
theorem Ur (hi lo y:Nat) (p1:hi<y) (p2:y<18446744073709551616) (p3:lo<18446744073709551616) (w:World) :
  Calls Tryz.prog 214 #[.int .u64 hi,.int .u64 lo,.int .u64 y] w fun e w'=>e=.returned (.tuple #[.int .u64 (((hi * 18446744073709551616+lo) / y:Nat):Int),.int .u64 (((hi * 18446744073709551616+lo) % y:Nat):Int)])∧∃ n,w'=w.drewN n:=by
 rcases Nat.eq_zero_or_pos hi with h | h
 ·subst h
  have:=OO lo y p1 p2 p3 w
  rw [Nat.zero_mul,Nat.zero_add]
  exact this
 ·exact (Us hi lo y p1 p2 p3 h w).mono fun e w' ⟨he,hw⟩=>⟨he,0,hw⟩
theorem Pw {k:IntKind} {a b:Int} (h:a=b):Ending.returned (.int k a)=.returned (.int k b):=by rw [h]
theorem JB (a:Int) (h0 : -9223372036854775808<=a) (h1:a<=9223372036854775807) (w:World) :
  Calls Tryz.prog 238 #[.int .i64 a] w fun e w'=>e=.returned (.int .u64 (a.natAbs:Int))∧w=w':=by
 by_cases h:a<0
 ·go_enter Tryz.func238,Tryz.ntmps238
  go_wp2
  go_ret
  exact ⟨Pw (by omega),rfl⟩
 ·go_enter Tryz.func238,Tryz.ntmps238
  go_wp2
  go_ret
  exact ⟨Pw (by omega),rfl⟩
theorem Aft (a b:Nat):(a:Int) * (b:Int)=((a * b:Nat):Int):=(Int.natCast_mul a b).symm
theorem Afh (a b:Nat):(a:Int)+(b:Int)=((a+b:Nat):Int):=(Int.natCast_add a b).symm
theorem Afo (a:Nat):(a:Int) / 4294967296=((a / 4294967296:Nat):Int):=by omega
theorem AfI (a:Nat):IntKind.u64.wrap ((a:Int) * 4294967296)=((a % 4294967296 * 4294967296:Nat):Int):=by rw [Du];omega
theorem Afx (a b:Nat) (ha:a<4294967296) (hb:b<4294967296):bits .or .u64 ((a * 4294967296:Nat):Int) (b:Int)=((a * 4294967296+b:Nat):Int):=by
 have h:=orN a b 32 (by omega) hb
 exact h
theorem Zg (x y n l:Nat) (hn:n=x % 4294967296 * (y / 4294967296)+(x / 4294967296 * (y % 4294967296)+x % 4294967296 * (y % 4294967296) / 4294967296) % 4294967296) (hl:l=x % 4294967296 * (y % 4294967296)) :
  n % 4294967296 * 4294967296+l % 4294967296=x * y % 18446744073709551616:=by
 have e:x * y=(x / 4294967296) * (y / 4294967296) * (4294967296 * 4294967296)+((x / 4294967296) * (y % 4294967296)+(x % 4294967296) * (y / 4294967296)) * 4294967296+(x % 4294967296) * (y % 4294967296):=by
  have hx:=I9 x;have hy:=I9 y;generalize x / 4294967296=x1 at *;generalize x % 4294967296=x0 at *;generalize y / 4294967296=y1 at *;generalize y % 4294967296=y0 at *
  rw [← hx,← hy]
  generalize 4294967296=B
  simp only [Nat.add_mul,Nat.mul_add,Nat.mul_assoc,Nat.mul_left_comm,Nat.mul_comm,Nat.add_assoc,Nat.add_left_comm,Nat.add_comm]
 rw [e,hn,hl]
 generalize x / 4294967296 * (y / 4294967296)=a at *;generalize x / 4294967296 * (y % 4294967296)=b at *;generalize x % 4294967296 * (y / 4294967296)=c at *;generalize x % 4294967296 * (y % 4294967296)=d at *
 omega
theorem Pn (x y:Nat) (hx:x<18446744073709551616) (hy:y<18446744073709551616) (w:World) :
  Calls Tryz.prog 237 #[.int .u64 x,.int .u64 y] w fun e w'=>e=.returned (.tuple #[.int .u64 ((x * y / 18446744073709551616:Nat):Int),.int .u64 ((x * y % 18446744073709551616:Nat):Int)])∧w=w':=by
 obtain ⟨bd,bt,bw,hhi⟩:=Lib.mul64_hi x y hx hy;have ba:=Lib.half_mul_le (a:=x / 4294967296) (b:=y / 4294967296) (by omega) (by omega);have bb:=Lib.half_mul_le (a:=x / 4294967296) (b:=y % 4294967296) (by omega) (by omega);have bc:=Lib.half_mul_le (a:=x % 4294967296) (b:=y / 4294967296) (by omega) (by omega)
 have ba':x / 4294967296 * (y / 4294967296)<18446744073709551616:=by omega
 have bb':x / 4294967296 * (y % 4294967296)<18446744073709551616:=by omega
 have bc':x % 4294967296 * (y / 4294967296)<18446744073709551616:=by omega
 have bw':x % 4294967296 * (y / 4294967296)+(x / 4294967296 * (y % 4294967296)+x % 4294967296 * (y % 4294967296) / 4294967296) % 4294967296<18446744073709551616:=by omega
 have hhi':x / 4294967296 * (y / 4294967296)+(x / 4294967296 * (y % 4294967296)+x % 4294967296 * (y % 4294967296) / 4294967296) / 4294967296+(x % 4294967296 * (y / 4294967296)+(x / 4294967296 * (y % 4294967296)+x % 4294967296 * (y % 4294967296) / 4294967296) % 4294967296) / 4294967296=x * y / 18446744073709551616:=by
  rw [← hhi,Nat.add_comm (x % 4294967296 * (y / 4294967296))]
 have bh1:x / 4294967296 * (y / 4294967296)+(x / 4294967296 * (y % 4294967296)+x % 4294967296 * (y % 4294967296) / 4294967296) / 4294967296<18446744073709551616:=by omega
 have bh:x / 4294967296 * (y / 4294967296)+(x / 4294967296 * (y % 4294967296)+x % 4294967296 * (y % 4294967296) / 4294967296) / 4294967296+(x % 4294967296 * (y / 4294967296)+(x / 4294967296 * (y % 4294967296)+x % 4294967296 * (y % 4294967296) / 4294967296) % 4294967296) / 4294967296<18446744073709551616:=by omega
 have hlo:=Zg x y _ _ rfl rfl;have hlo2:x * y % 18446744073709551616<18446744073709551616:=Nat.mod_lt _ (by decide);have m1:(x % 4294967296 * (y / 4294967296)+(x / 4294967296 * (y % 4294967296)+x % 4294967296 * (y % 4294967296) / 4294967296) % 4294967296) % 4294967296<4294967296:=Nat.mod_lt _ (by decide);have m2:x % 4294967296 * (y % 4294967296) % 4294967296<4294967296:=Nat.mod_lt _ (by decide)
 go_enter Tryz.func237,Tryz.ntmps237
 go_wp2
 simp only [Mm x hx,Mm y hy,Afo,Aft,Afh,Gr _ bd,Gr _ bb',Gr _ bt,Mm _ bt,Gr _ bc',Gr _ bw',Gr _ ba',Gr _ bh1,Gr _ bh,Mm _ bd,AfI]
 rw [hhi']
 rw [Afx _ _ m1 m2,hlo]
 go_ret2
 exact ⟨rfl,rfl⟩
def AbN (N c:Nat) (s0 s1 s6 s7 s8 s9:Value):Prop :=
 ∃ k h l r qh ql:Nat,s0=.int .u64 h∧s1=.int .u64 l∧s6=.int .u64 qh∧s7=.int .u64 ql∧s8=.int .u64 r∧s9=.int .i64 k∧k<=128∧Fx.DInv N c k h l r qh ql
theorem or1 (a b:Nat) (ha:a<18446744073709551616) (hb:b<18446744073709551616):bits .or .u64 (IntKind.u64.wrap ((a:Int) * 2)) ((b:Int) / 9223372036854775808)=((2 * a % 18446744073709551616+b / 9223372036854775808:Nat):Int):=by
 have e1:IntKind.u64.wrap ((a:Int) * 2)=((a % 9223372036854775808 * 2 ^ 1:Nat):Int):=by rw [Du];omega
 have e2:(b:Int) / 9223372036854775808=((b / 9223372036854775808:Nat):Int):=by omega
 rw [e1,e2,orN _ _ 1 (by omega) (by omega)]
 omega
theorem ZF (a:Nat):IntKind.u64.wrap ((a:Int) * 2)=((2 * a % 18446744073709551616:Nat):Int):=by rw [Du];omega
theorem Acy (a:Nat):bits .or .u64 ((2 * a % 18446744073709551616:Nat):Int) 1=((2 * a % 18446744073709551616+1:Nat):Int):=by
 have h:=orN (a % 9223372036854775808) 1 1 (by omega) (by decide)
 have e:a % 9223372036854775808 * 2 ^ 1=2 * a % 18446744073709551616:=by omega
 rw [e] at h
 exact h
theorem Afw (a b:Nat) (ha:a<9223372036854775808) (hb:b<18446744073709551616):bits .or .u64 ((a:Int) * 2) ((b:Int) / 9223372036854775808)=((2 * a+b / 9223372036854775808:Nat):Int):=by
 have h:=or1 a b (by omega) hb
 rw [show IntKind.u64.wrap ((a:Int) * 2)=(a:Int) * 2 from by rw [Du];omega] at h
 rw [h];omega
theorem Aaw {N c k h l r qh ql:Nat} {x:Int} (H:Fx.DInv N c k h l r qh ql) (hN:N<18446744073709551616 * 18446744073709551616) (h3:0<c) (h4:c<18446744073709551616) (hk:k<128)
  (hle:c<=2 * r+h / 9223372036854775808) (hx:x=((2 * r+h / 9223372036854775808 - c:Nat):Int)) :
  AbN N c (.int .u64 (bits .or .u64 (IntKind.u64.wrap (↑h * 2)) (↑l / 9223372036854775808))) (.int .u64 (IntKind.u64.wrap (↑l * 2))) (.int .u64 (bits .or .u64 (IntKind.u64.wrap (↑qh * 2)) (↑ql / 9223372036854775808)))
   (.int .u64 (bits .or .u64 (IntKind.u64.wrap (↑ql * 2)) 1)) (.int .u64 x) (.int .i64 (↑k+1)):=by
 rw [or1 h l H.hh H.hl,ZF l,or1 qh ql H.hqh H.hql,ZF ql,Acy ql,hx]
 exact ⟨k+1,_,_,_,_,_,rfl,rfl,rfl,rfl,rfl,rfl,by omega,(Fx.d_step hN h3 hk H).1 hle⟩
theorem Afn {N c k h l r qh ql:Nat} {x:Int} (H:Fx.DInv N c k h l r qh ql) (hN:N<18446744073709551616 * 18446744073709551616) (h3:0<c) (hk:k<128)
  (hle:¬ c<=2 * r+h / 9223372036854775808) (hx:x=((2 * r+h / 9223372036854775808:Nat):Int)) :
  AbN N c (.int .u64 (bits .or .u64 (IntKind.u64.wrap (↑h * 2)) (↑l / 9223372036854775808))) (.int .u64 (IntKind.u64.wrap (↑l * 2))) (.int .u64 (bits .or .u64 (IntKind.u64.wrap (↑qh * 2)) (↑ql / 9223372036854775808)))
   (.int .u64 (IntKind.u64.wrap (↑ql * 2))) (.int .u64 x) (.int .i64 (↑k+1)):=by
 rw [or1 h l H.hh H.hl,ZF l,or1 qh ql H.hqh H.hql,ZF ql,hx]
 exact ⟨k+1,_,_,_,_,_,rfl,rfl,rfl,rfl,rfl,rfl,by omega,(Fx.d_step hN h3 hk H).2 hle⟩
theorem Ql (hi lo c:Nat) (h1:hi<18446744073709551616) (h2:lo<18446744073709551616) (h3:0<c) (h4:c<18446744073709551616) (w:World) :
  Calls Tryz.prog 239 #[.int .u64 hi,.int .u64 lo,.int .u64 c] w fun e w' =>
   e=.returned (.tuple #[.int .u64 (((hi * 18446744073709551616+lo) / c / 18446744073709551616:Nat):Int),.int .u64 (((hi * 18446744073709551616+lo) / c % 18446744073709551616:Nat):Int),.int .u64 (((hi * 18446744073709551616+lo) % c:Nat):Int)])∧w=w':=by
 have hN:hi * 18446744073709551616+lo<18446744073709551616 * 18446744073709551616:=by omega
 have hst:=hid (Fx.d_start h1 h2 rfl h3);have HN:=hid hN;have H1:=hid h1;have H2:=hid h2;have H4:=hid h4;clear hN;obtain ⟨N,hNe⟩:∃ N,hi * 18446744073709551616+lo=N:=⟨_,rfl⟩
 rw [hNe] at hst HN
 rw [hNe]
 clear hNe h1 h2
 go_enter Tryz.func239,Tryz.ntmps239
 go_wp2
 go_loop [0,1,6,7,8,9] (fun s0 s1 s6 s7 s8 s9=>AbN N c s0 s1 s6 s7 s8 s9) (fun _ _ _ _ _ s9=>128 - (intOf s9).toNat)
 case atStart=>exact ⟨0,hi,lo,0,0,0,rfl,rfl,rfl,rfl,rfl,rfl,by omega,hst.out⟩
 case round =>
  obtain ⟨k,h,l,r,qh,ql,rfl,rfl,rfl,rfl,rfl,rfl,hk,H⟩:=hrel;have HH:=hid H
  have bh:(h:Int)<=18446744073709551615:=by have:=H.hh;omega
  have bl:(l:Int)<=18446744073709551615:=by have:=H.hl;omega
  have br:(r:Int)<=18446744073709551615:=by have:=Nat.lt_trans H.hr h4;omega
  have bqh:(qh:Int)<=18446744073709551615:=by have:=H.hqh;omega
  have bql:(ql:Int)<=18446744073709551615:=by have:=H.hql;omega
  clear H
  by_cases hlt:(k:Int)<128
  ·by_cases hr:9223372036854775808<=(r:Int)
   ·have ht:((r:Int) / 9223372036854775808 == 1)=true:=beq_iff_eq.2 (by omega)
    go_wp2_with fail
    go_round
    case rel=>exact Aaw HH.out HN.out h3 H4.out (by omega) (by omega) (by have hrc:=HH.out.hr;rw [or1 _ _ (by omega) (by omega),Du];omega)
    case measure=>simp only [intOf];omega
   ·have ht:((r:Int) / 9223372036854775808 == 1)=false:=beq_eq_false_iff_ne.2 (by omega)
    have o:=Afw r h (by omega) (by omega)
    by_cases hB:(c:Int)<=bits .or .u64 ((r:Int) * 2) ((h:Int) / 9223372036854775808)
    ·have O:=hid o
     clear o
     go_wp2_with fail
     go_round
     case rel=>exact Aaw HH.out HN.out h3 H4.out (by omega) (by rw [O.out] at hB;omega) (by rw [O.out,Du];rw [O.out] at hB;omega)
     case measure=>simp only [intOf];omega
    ·have O:=hid o
     clear o
     go_wp2_with fail
     go_round
     case rel=>exact Afn HH.out HN.out h3 (by omega) (by rw [O.out] at hB;omega) O.out
     case measure=>simp only [intOf];omega
  ·have hk':k=128:=by omega
   have hd:=hid (Fx.d_done (by rw [← hk'];exact HH.out));clear hk'
   go_wp2_with fail
   go_ret3
   exact ⟨by rw [hd.out.1,hd.out.2.1,hd.out.2.2];rfl,rfl⟩
