
/- Layer 1, package fixed: size, signed and scale compute what the plain words of FxPlain say. -/
import Derived.Test.YtheepmnhpclimaaGreatM17
set_option linter.unusedSimpArgs false
set_option linter.unusedVariables false
set_option maxHeartbeats 2000000
namespace Go.Proofs
theorem zFxScale0 {G : Prop} (h : G := by
  have hmb:((q:Int) == 18446744073709551615)=true:=beq_iff_eq.2 hmx;have hmx':=hid hmx;clear hmx
  go_enter Tryz.func209,Tryz.ntmps209
  go_wp2_with fail
  refine (HD.out _).mono ?_;rintro e w' ⟨rfl,rfl⟩
  go_wp2_with fail
  refine (HA.out _).mono ?_;rintro e w' ⟨rfl,rfl⟩
  go_wp2_with fail
  refine (HB.out _).mono ?_;rintro e w' ⟨rfl,rfl⟩
  go_wp2_with fail
  refine (HM.out _).mono ?_;rintro e w' ⟨rfl,rfl⟩
  go_wp2_with fail
  refine (HV.out _).mono ?_;rintro e w' ⟨rfl,n1,rfl⟩
  go_wp2_with fail
  go_ret2
  exact ⟨by rw [hs.out.1,hs.out.2];rfl,_,rfl⟩) : G := h
theorem zFxScale1 {G : Prop} (h : G := by
  have hq1:q+1<18446744073709551616:=by omega
  have hw1:IntKind.u64.wrap ((q:Int)+1)=((q+1:Nat):Int):=by rw [wrapu];omega
  clear hmx
  go_enter Tryz.func209,Tryz.ntmps209
  go_wp2_with fail
  refine (HD.out _).mono ?_;rintro e w' ⟨rfl,rfl⟩
  go_wp2_with fail
  refine (HA.out _).mono ?_;rintro e w' ⟨rfl,rfl⟩
  go_wp2_with fail
  refine (HB.out _).mono ?_;rintro e w' ⟨rfl,rfl⟩
  go_wp2_with fail
  refine (HM.out _).mono ?_;rintro e w' ⟨rfl,rfl⟩
  go_wp2_with fail
  refine (HV.out _).mono ?_;rintro e w' ⟨rfl,n1,rfl⟩
  go_wp2_with fail
  rw [show ((q:Int)+1)=((q+1:Nat):Int) from by omega]
  refine (signed_any (q+1) false hq1 _).mono ?_;rintro e w' ⟨rfl,rfl⟩
  go_wp2_with fail
  go_ret2
  exact ⟨rfl,_,rfl⟩) : G := h
theorem zFxScale2 {G : Prop} (h : G := by
  rw [hway]
  simp only [if_true,Bool.false_eq_true,if_false]
  clear hway
  go_enter Tryz.func209,Tryz.ntmps209
  go_wp2_with fail
  refine (HD.out _).mono ?_;rintro e w' ⟨rfl,rfl⟩
  go_wp2_with fail
  refine (HA.out _).mono ?_;rintro e w' ⟨rfl,rfl⟩
  go_wp2_with fail
  refine (HB.out _).mono ?_;rintro e w' ⟨rfl,rfl⟩
  go_wp2_with fail
  refine (HM.out _).mono ?_;rintro e w' ⟨rfl,rfl⟩
  go_wp2_with fail
  refine (HV.out _).mono ?_;rintro e w' ⟨rfl,n1,rfl⟩
  go_wp2_with fail
  refine (signed_any q true hq _).mono ?_;rintro e w' ⟨rfl,rfl⟩
  go_wp2_with fail
  go_ret2
  exact ⟨rfl,_,rfl⟩) : G := h
theorem zFxScale3 {G : Prop} (h : G := by
  go_enter Tryz.func209,Tryz.ntmps209
  go_wp2_with fail
  refine (HD.out _).mono ?_;rintro e w' ⟨rfl,rfl⟩
  go_wp2_with fail
  refine (HA.out _).mono ?_;rintro e w' ⟨rfl,rfl⟩
  go_wp2_with fail
  refine (HB.out _).mono ?_;rintro e w' ⟨rfl,rfl⟩
  go_wp2_with fail
  refine (HM.out _).mono ?_;rintro e w' ⟨rfl,rfl⟩
  go_wp2_with fail
  refine (HV.out _).mono ?_;rintro e w' ⟨rfl,n1,rfl⟩
  go_wp2_with fail
  refine (signed_any q false hq _).mono ?_;rintro e w' ⟨rfl,rfl⟩
  go_wp2_with fail
  go_ret2
  exact ⟨rfl,_,rfl⟩) : G := h
theorem zFxScale4 {G : Prop} (h : G := by
  have hq1:q+1<18446744073709551616:=by omega
  have hw1:IntKind.u64.wrap ((q:Int)+1)=((q+1:Nat):Int):=by rw [wrapu];omega
  clear hmx
  go_enter Tryz.func209,Tryz.ntmps209
  go_wp2_with fail
  refine (HD.out _).mono ?_;rintro e w' ⟨rfl,rfl⟩
  go_wp2_with fail
  refine (HA.out _).mono ?_;rintro e w' ⟨rfl,rfl⟩
  go_wp2_with fail
  refine (HB.out _).mono ?_;rintro e w' ⟨rfl,rfl⟩
  go_wp2_with fail
  refine (HM.out _).mono ?_;rintro e w' ⟨rfl,rfl⟩
  go_wp2_with fail
  refine (HV.out _).mono ?_;rintro e w' ⟨rfl,n1,rfl⟩
  go_wp2_with fail
  rw [show ((q:Int)+1)=((q+1:Nat):Int) from by omega]
  refine (signed_any (q+1) true hq1 _).mono ?_;rintro e w' ⟨rfl,rfl⟩
  go_wp2_with fail
  go_ret2
  exact ⟨rfl,_,rfl⟩) : G := h
end Go.Proofs
namespace Go.Proofs.YtheepmnhpclimaaGreat
open Go.RowKit
open Go.Lib (hid)
theorem ret_tup2 {k l:IntKind} {a b c d:Int} (h:a=c) (h':b=d):Ending.returned (.tuple #[.int k a,.int l b])=.returned (.tuple #[.int k c,.int l d]):=by rw [h,h']
theorem ret_int {k:IntKind} {a b:Int} (h:a=b):Ending.returned (.int k a)=.returned (.int k b):=by rw [h]
theorem size_any (a:Int) (h0 : -9223372036854775808<=a) (h1:a<=9223372036854775807) (w:World) :
  Calls Tryz.prog 240 #[.int .i64 a] w fun e w'=>e=.returned (.int .u64 (a.natAbs:Int))∧w'=w:=by
 by_cases h:a<0
 ·go_enter Tryz.func240,Tryz.ntmps240
  go_wp2
  go_ret
  exact ⟨ret_int (by rw [wrapu,wrapu];omega),rfl⟩
 ·go_enter Tryz.func240,Tryz.ntmps240
  go_wp2
  go_ret
  exact ⟨ret_int (by omega),rfl⟩
theorem signed_any (q:Nat) (neg:Bool) (hq:q<18446744073709551616) (w:World) :
  Calls Tryz.prog 243 #[.int .u64 q,.bool neg] w fun e w'=>e=.returned (.tuple #[.int .i64 (Fx.sgV q neg),.int .i64 (Fx.sgE q neg)])∧w'=w:=by
 cases neg
 ·by_cases h:(q:Int)<9223372036854775808
  ·go_enter Tryz.func243,Tryz.ntmps243
   go_wp2
   go_ret2
   exact ⟨ret_tup2 (by simp only [Fx.sgV];rw [if_neg (by simp),if_pos (by omega)]) (by simp only [Fx.sgE];rw [if_neg (by simp),if_pos (by omega)]),rfl⟩
  ·go_enter Tryz.func243,Tryz.ntmps243
   go_wp2
   go_ret2
   exact ⟨ret_tup2 (by simp only [Fx.sgV];rw [if_neg (by simp),if_neg (by omega)]) (by simp only [Fx.sgE];rw [if_neg (by simp),if_neg (by omega)]),rfl⟩
 ·by_cases h:(q:Int)<=9223372036854775808
  ·go_enter Tryz.func243,Tryz.ntmps243
   go_wp2
   go_ret2
   exact ⟨ret_tup2 (by simp only [Fx.sgV];rw [if_pos trivial,if_pos (by omega)];simp only [wrapu,wrap64];omega) (by simp only [Fx.sgE];rw [if_pos trivial,if_pos (by omega)]),rfl⟩
  ·go_enter Tryz.func243,Tryz.ntmps243
   go_wp2
   go_ret2
   exact ⟨ret_tup2 (by simp only [Fx.sgV];rw [if_pos trivial,if_neg (by omega)]) (by simp only [Fx.sgE];rw [if_pos trivial,if_neg (by omega)]),rfl⟩
theorem scale_zero (a b:Int) (m:Nat) (w:World) :
  Calls Tryz.prog 209 #[.int .i64 a,.int .i64 b,.int .i64 0,.int .u8 m] w fun e w'=>e=.returned (.tuple #[.int .i64 0,.int .i64 1])∧w'=w:=by
 go_enter Tryz.func209,Tryz.ntmps209
 go_wp2
 go_ret2
 exact ⟨rfl,rfl⟩
theorem scale_far (a b c:Int) (m:Nat) (neg:Bool) (A B D hi lo:Nat) (w:World) (hc:(c == 0)=false) (hfar:(D:Int)<=hi)
  (hsA:∀ w,Calls Tryz.prog 240 #[.int .i64 a] w fun e w'=>e=.returned (.int .u64 (A:Int))∧w'=w)
  (hsB:∀ w,Calls Tryz.prog 240 #[.int .i64 b] w fun e w'=>e=.returned (.int .u64 (B:Int))∧w'=w)
  (hsD:∀ w,Calls Tryz.prog 240 #[.int .i64 c] w fun e w'=>e=.returned (.int .u64 (D:Int))∧w'=w)
  (hM:∀ w,Calls Tryz.prog 241 #[.int .u64 A,.int .u64 B] w fun e w'=>e=.returned (.tuple #[.int .u64 (hi:Int),.int .u64 (lo:Int)])∧w'=w)
  (hn:(!((!(decide (a<0) == decide (b<0))) == decide (c<0)))=neg) :
  Calls Tryz.prog 209 #[.int .i64 a,.int .i64 b,.int .i64 c,.int .u8 m] w fun e w'=>e=.returned (.tuple #[.int .i64 0,.int .i64 2])∧w'=w:=by
 have HA:=hid hsA;have HB:=hid hsB;have HD:=hid hsD;have HM:=hid hM;clear hsA hsB hsD hM
 go_enter Tryz.func209,Tryz.ntmps209
 go_wp2_with fail
 refine (HD.out _).mono ?_;rintro e w' ⟨rfl,rfl⟩
 go_wp2_with fail
 refine (HA.out _).mono ?_;rintro e w' ⟨rfl,rfl⟩
 go_wp2_with fail
 refine (HB.out _).mono ?_;rintro e w' ⟨rfl,rfl⟩
 go_wp2_with fail
 refine (HM.out _).mono ?_;rintro e w' ⟨rfl,rfl⟩
 go_wp2_with fail
 go_ret2
 exact ⟨rfl,rfl⟩
theorem sg_max (q:Nat) (neg:Bool) (h:(q:Int)=18446744073709551615):Fx.sgV (q+1) neg=0∧Fx.sgE (q+1) neg=2:=by
 cases neg
 ·simp only [Fx.sgV,Fx.sgE,Bool.false_eq_true,if_false]
  rw [if_neg (by omega),if_neg (by omega)];exact ⟨rfl,rfl⟩
 ·simp only [Fx.sgV,Fx.sgE,if_true]
  rw [if_neg (by omega),if_neg (by omega)];exact ⟨rfl,rfl⟩
theorem scale_near0p (a b c:Int) (A B D hi lo q r:Nat) (w:World) (hc:(c == 0)=false) (hnear:¬ (D:Int)<=hi) (hr:(r:Int)<D) (hD:(D:Int)<=18446744073709551615) (hq:q<18446744073709551616)
  (hsA:∀ w,Calls Tryz.prog 240 #[.int .i64 a] w fun e w'=>e=.returned (.int .u64 (A:Int))∧w'=w)
  (hsB:∀ w,Calls Tryz.prog 240 #[.int .i64 b] w fun e w'=>e=.returned (.int .u64 (B:Int))∧w'=w)
  (hsD:∀ w,Calls Tryz.prog 240 #[.int .i64 c] w fun e w'=>e=.returned (.int .u64 (D:Int))∧w'=w)
  (hM:∀ w,Calls Tryz.prog 241 #[.int .u64 A,.int .u64 B] w fun e w'=>e=.returned (.tuple #[.int .u64 (hi:Int),.int .u64 (lo:Int)])∧w'=w)
  (hn:(!((!(decide (a<0) == decide (b<0))) == decide (c<0)))=false)
  (hV:∀ w,Calls Tryz.prog 242 #[.int .u64 hi,.int .u64 lo,.int .u64 D] w fun e w'=>e=.returned (.tuple #[.int .u64 (q:Int),.int .u64 (r:Int)])∧∃ n,w'=w.drewN n) :
  Calls Tryz.prog 209 #[.int .i64 a,.int .i64 b,.int .i64 c,.int .u8 0] w fun e w' =>
   e=.returned (.tuple #[.int .i64 (Fx.sgV (q+(if Fx.away 0 false r D then 1 else 0)) false),.int .i64 (Fx.sgE (q+(if Fx.away 0 false r D then 1 else 0)) false)])∧∃ n,w'=w.drewN n:=by
 have HV:=hid hV;clear hV;have HA:=hid hsA;have HB:=hid hsB;have HD:=hid hsD;have HM:=hid hM;clear hsA hsB hsD hM
 have hway:Fx.away 0 false r D=false:=by simp [Fx.away]
 rw [hway]
 simp only [if_true,Bool.false_eq_true,if_false]
 clear hway
 exact zFxScale3
theorem scale_near0n (a b c:Int) (A B D hi lo q r:Nat) (w:World) (hc:(c == 0)=false) (hnear:¬ (D:Int)<=hi) (hr:(r:Int)<D) (hD:(D:Int)<=18446744073709551615) (hq:q<18446744073709551616)
  (hsA:∀ w,Calls Tryz.prog 240 #[.int .i64 a] w fun e w'=>e=.returned (.int .u64 (A:Int))∧w'=w)
  (hsB:∀ w,Calls Tryz.prog 240 #[.int .i64 b] w fun e w'=>e=.returned (.int .u64 (B:Int))∧w'=w)
  (hsD:∀ w,Calls Tryz.prog 240 #[.int .i64 c] w fun e w'=>e=.returned (.int .u64 (D:Int))∧w'=w)
  (hM:∀ w,Calls Tryz.prog 241 #[.int .u64 A,.int .u64 B] w fun e w'=>e=.returned (.tuple #[.int .u64 (hi:Int),.int .u64 (lo:Int)])∧w'=w)
  (hn:(!((!(decide (a<0) == decide (b<0))) == decide (c<0)))=true)
  (hV:∀ w,Calls Tryz.prog 242 #[.int .u64 hi,.int .u64 lo,.int .u64 D] w fun e w'=>e=.returned (.tuple #[.int .u64 (q:Int),.int .u64 (r:Int)])∧∃ n,w'=w.drewN n) :
  Calls Tryz.prog 209 #[.int .i64 a,.int .i64 b,.int .i64 c,.int .u8 0] w fun e w' =>
   e=.returned (.tuple #[.int .i64 (Fx.sgV (q+(if Fx.away 0 true r D then 1 else 0)) true),.int .i64 (Fx.sgE (q+(if Fx.away 0 true r D then 1 else 0)) true)])∧∃ n,w'=w.drewN n:=by
 have HV:=hid hV;clear hV;have HA:=hid hsA;have HB:=hid hsB;have HD:=hid hsD;have HM:=hid hM;clear hsA hsB hsD hM
 by_cases h0:(0:Int)<r
 ·have hway:Fx.away 0 true r D=true:=by simp [Fx.away];omega
  rw [hway]
  simp only [if_true,Bool.false_eq_true,if_false]
  clear hway
  by_cases hmx:(q:Int)=18446744073709551615
  ·have hs:=hid (sg_max q true hmx)
   exact zFxScale0
  ·have hmb:((q:Int) == 18446744073709551615)=false:=beq_eq_false_iff_ne.2 hmx
   exact zFxScale4
 ·have hway:Fx.away 0 true r D=false:=by simp [Fx.away];omega
  exact zFxScale2
theorem scale_near1p (a b c:Int) (A B D hi lo q r:Nat) (w:World) (hc:(c == 0)=false) (hnear:¬ (D:Int)<=hi) (hr:(r:Int)<D) (hD:(D:Int)<=18446744073709551615) (hq:q<18446744073709551616)
  (hsA:∀ w,Calls Tryz.prog 240 #[.int .i64 a] w fun e w'=>e=.returned (.int .u64 (A:Int))∧w'=w)
  (hsB:∀ w,Calls Tryz.prog 240 #[.int .i64 b] w fun e w'=>e=.returned (.int .u64 (B:Int))∧w'=w)
  (hsD:∀ w,Calls Tryz.prog 240 #[.int .i64 c] w fun e w'=>e=.returned (.int .u64 (D:Int))∧w'=w)
  (hM:∀ w,Calls Tryz.prog 241 #[.int .u64 A,.int .u64 B] w fun e w'=>e=.returned (.tuple #[.int .u64 (hi:Int),.int .u64 (lo:Int)])∧w'=w)
  (hn:(!((!(decide (a<0) == decide (b<0))) == decide (c<0)))=false)
  (hV:∀ w,Calls Tryz.prog 242 #[.int .u64 hi,.int .u64 lo,.int .u64 D] w fun e w'=>e=.returned (.tuple #[.int .u64 (q:Int),.int .u64 (r:Int)])∧∃ n,w'=w.drewN n) :
  Calls Tryz.prog 209 #[.int .i64 a,.int .i64 b,.int .i64 c,.int .u8 1] w fun e w' =>
   e=.returned (.tuple #[.int .i64 (Fx.sgV (q+(if Fx.away 1 false r D then 1 else 0)) false),.int .i64 (Fx.sgE (q+(if Fx.away 1 false r D then 1 else 0)) false)])∧∃ n,w'=w.drewN n:=by
 have HV:=hid hV;clear hV;have HA:=hid hsA;have HB:=hid hsB;have HD:=hid hsD;have HM:=hid hM;clear hsA hsB hsD hM
 by_cases h0:(0:Int)<r
 ·have hway:Fx.away 1 false r D=true:=by simp [Fx.away];omega
  rw [hway]
  simp only [if_true,Bool.false_eq_true,if_false]
  clear hway
  by_cases hmx:(q:Int)=18446744073709551615
  ·have hs:=hid (sg_max q false hmx)
   exact zFxScale0
  ·have hmb:((q:Int) == 18446744073709551615)=false:=beq_eq_false_iff_ne.2 hmx
   exact zFxScale1
 ·have hway:Fx.away 1 false r D=false:=by simp [Fx.away];omega
  rw [hway]
  simp only [if_true,Bool.false_eq_true,if_false]
  clear hway
  exact zFxScale3
theorem scale_near1n (a b c:Int) (A B D hi lo q r:Nat) (w:World) (hc:(c == 0)=false) (hnear:¬ (D:Int)<=hi) (hr:(r:Int)<D) (hD:(D:Int)<=18446744073709551615) (hq:q<18446744073709551616)
  (hsA:∀ w,Calls Tryz.prog 240 #[.int .i64 a] w fun e w'=>e=.returned (.int .u64 (A:Int))∧w'=w)
  (hsB:∀ w,Calls Tryz.prog 240 #[.int .i64 b] w fun e w'=>e=.returned (.int .u64 (B:Int))∧w'=w)
  (hsD:∀ w,Calls Tryz.prog 240 #[.int .i64 c] w fun e w'=>e=.returned (.int .u64 (D:Int))∧w'=w)
  (hM:∀ w,Calls Tryz.prog 241 #[.int .u64 A,.int .u64 B] w fun e w'=>e=.returned (.tuple #[.int .u64 (hi:Int),.int .u64 (lo:Int)])∧w'=w)
  (hn:(!((!(decide (a<0) == decide (b<0))) == decide (c<0)))=true)
  (hV:∀ w,Calls Tryz.prog 242 #[.int .u64 hi,.int .u64 lo,.int .u64 D] w fun e w'=>e=.returned (.tuple #[.int .u64 (q:Int),.int .u64 (r:Int)])∧∃ n,w'=w.drewN n) :
  Calls Tryz.prog 209 #[.int .i64 a,.int .i64 b,.int .i64 c,.int .u8 1] w fun e w' =>
   e=.returned (.tuple #[.int .i64 (Fx.sgV (q+(if Fx.away 1 true r D then 1 else 0)) true),.int .i64 (Fx.sgE (q+(if Fx.away 1 true r D then 1 else 0)) true)])∧∃ n,w'=w.drewN n:=by
 have HV:=hid hV;clear hV;have HA:=hid hsA;have HB:=hid hsB;have HD:=hid hsD;have HM:=hid hM;clear hsA hsB hsD hM
 have hway:Fx.away 1 true r D=false:=by simp [Fx.away]
 exact zFxScale2
theorem scale_near2p (a b c:Int) (A B D hi lo q r:Nat) (w:World) (hc:(c == 0)=false) (hnear:¬ (D:Int)<=hi) (hr:(r:Int)<D) (hD:(D:Int)<=18446744073709551615) (hq:q<18446744073709551616)
  (hsA:∀ w,Calls Tryz.prog 240 #[.int .i64 a] w fun e w'=>e=.returned (.int .u64 (A:Int))∧w'=w)
  (hsB:∀ w,Calls Tryz.prog 240 #[.int .i64 b] w fun e w'=>e=.returned (.int .u64 (B:Int))∧w'=w)
  (hsD:∀ w,Calls Tryz.prog 240 #[.int .i64 c] w fun e w'=>e=.returned (.int .u64 (D:Int))∧w'=w)
  (hM:∀ w,Calls Tryz.prog 241 #[.int .u64 A,.int .u64 B] w fun e w'=>e=.returned (.tuple #[.int .u64 (hi:Int),.int .u64 (lo:Int)])∧w'=w)
  (hn:(!((!(decide (a<0) == decide (b<0))) == decide (c<0)))=false)
  (hV:∀ w,Calls Tryz.prog 242 #[.int .u64 hi,.int .u64 lo,.int .u64 D] w fun e w'=>e=.returned (.tuple #[.int .u64 (q:Int),.int .u64 (r:Int)])∧∃ n,w'=w.drewN n) :
  Calls Tryz.prog 209 #[.int .i64 a,.int .i64 b,.int .i64 c,.int .u8 2] w fun e w' =>
   e=.returned (.tuple #[.int .i64 (Fx.sgV (q+(if Fx.away 2 false r D then 1 else 0)) false),.int .i64 (Fx.sgE (q+(if Fx.away 2 false r D then 1 else 0)) false)])∧∃ n,w'=w.drewN n:=by
 have HV:=hid hV;clear hV;have HA:=hid hsA;have HB:=hid hsB;have HD:=hid hsD;have HM:=hid hM;clear hsA hsB hsD hM
 by_cases h0:(D:Int) - r<r
 ·have hway:Fx.away 2 false r D=true:=by simp [Fx.away];omega
  rw [hway]
  simp only [if_true,Bool.false_eq_true,if_false]
  clear hway
  by_cases hmx:(q:Int)=18446744073709551615
  ·have hs:=hid (sg_max q false hmx)
   exact zFxScale0
  ·have hmb:((q:Int) == 18446744073709551615)=false:=beq_eq_false_iff_ne.2 hmx
   exact zFxScale1
 ·by_cases h1:(r:Int)=D - r
  ·have hway:Fx.away 2 false r D=true:=by simp [Fx.away];omega
   rw [hway]
   simp only [if_true,Bool.false_eq_true,if_false]
   clear hway;have h1b:((r:Int) == D - r)=true:=beq_iff_eq.2 h1;have h1x:=hid h1;clear h1
   by_cases hmx:(q:Int)=18446744073709551615
   ·have hs:=hid (sg_max q false hmx)
    exact zFxScale0
   ·have hmb:((q:Int) == 18446744073709551615)=false:=beq_eq_false_iff_ne.2 hmx
    exact zFxScale1
  ·have hway:Fx.away 2 false r D=false:=by simp [Fx.away];omega
   rw [hway]
   simp only [if_true,Bool.false_eq_true,if_false]
   clear hway;have h1b:((r:Int) == D - r)=false:=beq_eq_false_iff_ne.2 h1
   exact zFxScale3
theorem scale_near2n (a b c:Int) (A B D hi lo q r:Nat) (w:World) (hc:(c == 0)=false) (hnear:¬ (D:Int)<=hi) (hr:(r:Int)<D) (hD:(D:Int)<=18446744073709551615) (hq:q<18446744073709551616)
  (hsA:∀ w,Calls Tryz.prog 240 #[.int .i64 a] w fun e w'=>e=.returned (.int .u64 (A:Int))∧w'=w)
  (hsB:∀ w,Calls Tryz.prog 240 #[.int .i64 b] w fun e w'=>e=.returned (.int .u64 (B:Int))∧w'=w)
  (hsD:∀ w,Calls Tryz.prog 240 #[.int .i64 c] w fun e w'=>e=.returned (.int .u64 (D:Int))∧w'=w)
  (hM:∀ w,Calls Tryz.prog 241 #[.int .u64 A,.int .u64 B] w fun e w'=>e=.returned (.tuple #[.int .u64 (hi:Int),.int .u64 (lo:Int)])∧w'=w)
  (hn:(!((!(decide (a<0) == decide (b<0))) == decide (c<0)))=true)
  (hV:∀ w,Calls Tryz.prog 242 #[.int .u64 hi,.int .u64 lo,.int .u64 D] w fun e w'=>e=.returned (.tuple #[.int .u64 (q:Int),.int .u64 (r:Int)])∧∃ n,w'=w.drewN n) :
  Calls Tryz.prog 209 #[.int .i64 a,.int .i64 b,.int .i64 c,.int .u8 2] w fun e w' =>
   e=.returned (.tuple #[.int .i64 (Fx.sgV (q+(if Fx.away 2 true r D then 1 else 0)) true),.int .i64 (Fx.sgE (q+(if Fx.away 2 true r D then 1 else 0)) true)])∧∃ n,w'=w.drewN n:=by
 have HV:=hid hV;clear hV;have HA:=hid hsA;have HB:=hid hsB;have HD:=hid hsD;have HM:=hid hM;clear hsA hsB hsD hM
 by_cases h0:(D:Int) - r<r
 ·have hway:Fx.away 2 true r D=true:=by simp [Fx.away];omega
  rw [hway]
  simp only [if_true,Bool.false_eq_true,if_false]
  clear hway
  by_cases hmx:(q:Int)=18446744073709551615
  ·have hs:=hid (sg_max q true hmx)
   exact zFxScale0
  ·have hmb:((q:Int) == 18446744073709551615)=false:=beq_eq_false_iff_ne.2 hmx
   exact zFxScale4
 ·have hway:Fx.away 2 true r D=false:=by simp [Fx.away];omega
  exact zFxScale2
theorem natAbs_lt (a:Int) (h0 : -9223372036854775808<=a) (h1:a<=9223372036854775807):a.natAbs<=9223372036854775808:=by omega
theorem far_val (N D hi m:Nat) (neg:Bool) (h:D<=N / 18446744073709551616) (hD:0<D):Fx.sgV (Fx.mag m neg N D) neg=0∧Fx.sgE (Fx.mag m neg N D) neg=2:=by
 have h1:D * 18446744073709551616<=N:=(Nat.le_div_iff_mul_le (by decide)).1 h;have h2:18446744073709551616<=N / D:=(Nat.le_div_iff_mul_le hD).2 (by rw [Nat.mul_comm];exact h1);have h3:18446744073709551616<=Fx.mag m neg N D:=Nat.le_trans h2 (Nat.le_add_right _ _);generalize Fx.mag m neg N D=x at *
 cases neg
 ·simp only [Fx.sgV,Fx.sgE,Bool.false_eq_true,if_false]
  rw [if_neg (by omega),if_neg (by omega)];exact ⟨rfl,rfl⟩
 ·simp only [Fx.sgV,Fx.sgE,if_true]
  rw [if_neg (by omega),if_neg (by omega)];exact ⟨rfl,rfl⟩
theorem near_lt (N D:Nat) (h:¬ D<=N / 18446744073709551616):N / D<18446744073709551616:=by
 have h1:N / 18446744073709551616<D:=Nat.lt_of_not_le h
 rw [Nat.div_lt_iff_lt_mul (by decide)] at h1
 rw [Nat.div_lt_iff_lt_mul (Nat.pos_of_ne_zero (fun h0=>by rw [h0] at h1;omega)),Nat.mul_comm];exact h1
theorem hn_of (a b c:Int):(!((!(decide (a<0) == decide (b<0))) == decide (c<0)))=Fx.negOf a b c:=rfl
theorem split64 (N:Nat):N / 18446744073709551616 * 18446744073709551616+N % 18446744073709551616=N:=by omega
theorem scale_any (a b c:Int) (m:Nat) (hm:m=0∨m=1∨m=2) (a0 : -9223372036854775808<=a) (a1:a<=9223372036854775807) (b0 : -9223372036854775808<=b) (b1:b<=9223372036854775807)
  (c0 : -9223372036854775808<=c) (c1:c<=9223372036854775807) (w:World) :
  Calls Tryz.prog 209 #[.int .i64 a,.int .i64 b,.int .i64 c,.int .u8 m] w fun e w'=>e=.returned (.tuple #[.int .i64 (Fx.scV m a b c),.int .i64 (Fx.scE m a b c)])∧∃ n,w'=w.drewN n:=by
 by_cases hz:c=0
 ·subst hz
  exact (scale_zero a b m w).mono fun e w' ⟨he,hw⟩=>⟨by rw [he];simp [Fx.scV,Fx.scE],0,hw⟩
 have hzb:(c == 0)=false:=beq_eq_false_iff_ne.2 hz
 have hD:0<c.natAbs:=by omega
 have hA:=natAbs_lt a a0 a1;have hB:=natAbs_lt b b0 b1;have hC:=natAbs_lt c c0 c1;have hM:=fun w=>Tryz.bits_Mul64 a.natAbs b.natAbs (Nat.lt_of_le_of_lt hA (by decide)) (Nat.lt_of_le_of_lt hB (by decide)) w;have hsA:=fun w=>size_any a a0 a1 w;have hsB:=fun w=>size_any b b0 b1 w;have hsD:=fun w=>size_any c c0 c1 w;have hlo:a.natAbs * b.natAbs % 18446744073709551616<18446744073709551616:=Nat.mod_lt _ (by decide);have hspl:=split64 (a.natAbs * b.natAbs)
 by_cases hfar:(c.natAbs:Int)<=((a.natAbs * b.natAbs / 18446744073709551616:Nat):Int)
 ·have h:=far_val (a.natAbs * b.natAbs) c.natAbs 0 m (Fx.negOf a b c) (Int.ofNat_le.1 hfar) hD
  refine (scale_far a b c m (Fx.negOf a b c) _ _ _ _ _ w hzb hfar hsA hsB hsD hM (hn_of a b c)).mono fun e w' ⟨he,hw⟩=>⟨?_,0,hw⟩
  rw [he,Fx.scV,Fx.scE,if_neg hz,if_neg hz,h.1,h.2]
 ·have hnl:¬ c.natAbs<=a.natAbs * b.natAbs / 18446744073709551616:=fun h=>hfar (Int.ofNat_le.2 h)
  have hq:=near_lt _ _ hnl;have hr:((a.natAbs * b.natAbs % c.natAbs:Nat):Int)<(c.natAbs:Int):=Int.ofNat_lt.2 (Nat.mod_lt _ hD)
  have hD':(c.natAbs:Int)<=18446744073709551615:=by omega
  have hV:=fun w=>div64_any (a.natAbs * b.natAbs / 18446744073709551616) (a.natAbs * b.natAbs % 18446744073709551616) c.natAbs (Nat.lt_of_not_le hnl) (Nat.lt_of_le_of_lt hC (by decide)) hlo w
  rw [hspl] at hV
  have hno:=hn_of a b c
  rw [Fx.scV,Fx.scE,if_neg hz,if_neg hz]
  unfold Fx.mag
  generalize Fx.negOf a b c=neg at *
  rcases hm with rfl | rfl | rfl <;> cases neg
  ·exact scale_near0p a b c _ _ _ _ _ _ _ w hzb hfar hr hD' hq hsA hsB hsD hM hno hV
  ·exact scale_near0n a b c _ _ _ _ _ _ _ w hzb hfar hr hD' hq hsA hsB hsD hM hno hV
  ·exact scale_near1p a b c _ _ _ _ _ _ _ w hzb hfar hr hD' hq hsA hsB hsD hM hno hV
  ·exact scale_near1n a b c _ _ _ _ _ _ _ w hzb hfar hr hD' hq hsA hsB hsD hM hno hV
  ·exact scale_near2p a b c _ _ _ _ _ _ _ w hzb hfar hr hD' hq hsA hsB hsD hM hno hV
  ·exact scale_near2n a b c _ _ _ _ _ _ _ w hzb hfar hr hD' hq hsA hsB hsD hM hno hV
end Go.Proofs.YtheepmnhpclimaaGreat
