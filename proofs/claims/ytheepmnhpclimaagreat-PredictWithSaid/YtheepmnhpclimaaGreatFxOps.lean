
/- Layer 1: the contracts of all functions of package fixed, and of its reference, but the roots. -/
import Derived.Test.YtheepmnhpclimaaGreatFxScale
import Derived.Test.YtheepmnhpclimaaGreatFxQuo
import Derived.Test.YtheepmnhpclimaaGreatM3
set_option linter.unusedSimpArgs false
set_option linter.unusedVariables false
namespace Go.Proofs.YtheepmnhpclimaaGreat
open Go.RowKit
open Go.Lib (hid)
def I64 (a:Int):Prop := -9223372036854775808<=a∧a<=9223372036854775807
def satV (x:Int):Int:=if 9223372036854775807<x then 9223372036854775807 else if x < -9223372036854775808 then -9223372036854775808 else x
theorem satV_mid {x:Int} (h:I64 x):satV x=x:=by unfold I64 at h;unfold satV;rw [if_neg (by omega),if_neg (by omega)]
def limV (n:Bool):Int:=if n then -9223372036854775808 else 9223372036854775807
theorem scale_down (a b c:Int) (ha:I64 a) (hb:I64 b) (hc:I64 c) (w:World) :
    Calls Tryz.prog 209 #[.int .i64 a,.int .i64 b,.int .i64 c,.int .u8 0] w fun e w'=>e=.returned (.tuple #[.int .i64 (Fx.scV 0 a b c),.int .i64 (Fx.scE 0 a b c)])∧∃ n,w'=w.drewN n :=
  scale_any a b c 0 (.inl rfl) ha.1 ha.2 hb.1 hb.2 hc.1 hc.2 w
theorem quo_down (a b c:Int) (ha:I64 a) (hb:I64 b) (hc:I64 c) (w:World) :
    Calls Tryz.prog 217 #[.int .i64 a,.int .i64 b,.int .i64 c,.int .i64 0] w fun e w'=>e=.returned (.tuple #[.int .i64 (Fx.scV 0 a b c),.int .i64 (Fx.scE 0 a b c)])∧w=w' :=
  quo_any a b c 0 (.inl rfl) ha.1 ha.2 hb.1 hb.2 hc.1 hc.2 w
theorem scale_up (a b c:Int) (ha:I64 a) (hb:I64 b) (hc:I64 c) (w:World) :
    Calls Tryz.prog 209 #[.int .i64 a,.int .i64 b,.int .i64 c,.int .u8 1] w fun e w'=>e=.returned (.tuple #[.int .i64 (Fx.scV 1 a b c),.int .i64 (Fx.scE 1 a b c)])∧∃ n,w'=w.drewN n :=
  scale_any a b c 1 (.inr (.inl rfl)) ha.1 ha.2 hb.1 hb.2 hc.1 hc.2 w
theorem tmod_bounds (a b:Int) (hb:0<b) : -b<a.tmod b∧a.tmod b<b:=by
 have h1:=Int.emod_nonneg a (show b≠0 by omega);have h2:=Int.emod_lt_of_pos a hb;have h3:=Int.tmod_eq_emod (a:=a) (b:=b);have h4:=Int.tmod_lt_of_pos a hb
 refine ⟨?_,h4⟩
 rw [h3]
 split
 ·omega
 ·rename_i hd
  have:a % b≠0:=fun h0=>hd (.inr (Int.dvd_of_emod_eq_zero h0))
  omega
theorem tmod_cases (a b:Int) (hb:0<b):(a.tmod b<0→a.tmod b+b=a % b)∧(¬ a.tmod b<0→a.tmod b=a % b):=by
 have h1:=Int.emod_nonneg a (show b≠0 by omega);have h2:=Int.emod_lt_of_pos a hb;have h3:=Int.tmod_eq_emod (a:=a) (b:=b)
 split at h3 <;> constructor <;> omega
theorem one_I64:I64 1:=⟨by decide,by decide⟩
theorem xFloor (a b:Int) (ha:I64 a) (hb:I64 b) (w:World) :
    Calls Tryz.prog 164 #[.int .i64 a,.int .i64 b] w fun e w'=>e=.returned (.tuple #[.int .i64 (Fx.scV 0 a 1 b),.int .i64 (Fx.scE 0 a 1 b)])∧∃ n,w'=w.drewN n:=by
  have H:=hid (scale_down a 1 b ha one_I64 hb)
  go_enter Tryz.func164,Tryz.ntmps164
  go_wp2_with fail
  refine (H.out _).mono ?_;rintro e w' ⟨rfl,n,rfl⟩
  go_wp2_with fail
  go_ret2
  exact ⟨rfl,n,rfl⟩
theorem xCeil (a b:Int) (ha:I64 a) (hb:I64 b) (w:World) :
    Calls Tryz.prog 134 #[.int .i64 a,.int .i64 b] w fun e w'=>e=.returned (.tuple #[.int .i64 (Fx.scV 1 a 1 b),.int .i64 (Fx.scE 1 a 1 b)])∧∃ n,w'=w.drewN n:=by
  have H:=hid (scale_up a 1 b ha one_I64 hb)
  go_enter Tryz.func134,Tryz.ntmps134
  go_wp2_with fail
  refine (H.out _).mono ?_;rintro e w' ⟨rfl,n,rfl⟩
  go_wp2_with fail
  go_ret2
  exact ⟨rfl,n,rfl⟩
theorem rFloor (a b:Int) (ha:I64 a) (hb:I64 b) (w:World) :
    Calls Tryz.prog 174 #[.int .i64 a,.int .i64 b] w fun e w'=>e=.returned (.tuple #[.int .i64 (Fx.scV 0 a 1 b),.int .i64 (Fx.scE 0 a 1 b)])∧w=w':=by
  have H:=hid (quo_down a 1 b ha one_I64 hb)
  go_enter Tryz.func174,Tryz.ntmps174
  go_wp2_with fail
  refine (H.out _).mono ?_;rintro e w' ⟨rfl,rfl⟩
  go_wp2_with fail
  go_ret2
  exact ⟨rfl,rfl⟩
set_option maxRecDepth 100000 in
set_option maxHeartbeats 1000000 in
theorem rSub (a b:Int) (ha:I64 a) (hb:I64 b) (w:World) :
    Calls Tryz.prog 190 #[.int .i64 a,.int .i64 b] w fun e w'=>e=.returned (.int .i64 (satV (a - b)))∧w=w':=by
  obtain ⟨a0,a1⟩:=ha
  obtain ⟨b0,b1⟩:=hb
  rcases Int.lt_or_le a 0 with pa | pa
  all_goals rcases Int.lt_or_le b 0 with pb | pb
  all_goals (go_enter Tryz.func190,Tryz.ntmps190)
  all_goals (go_wp2)
  all_goals go_ret
  all_goals (refine ⟨ret_int ?_,rfl⟩)
  all_goals (simp only [limV,satV,wrapu,wrap64,decide_eq_true_eq,if_true,Bool.not_eq_true',Bool.not_eq_false',decide_eq_false_iff_not,beq_iff_eq,beq_eq_false_iff_ne,ne_eq,decide_eq_decide] at *)
  all_goals (repeat' split)
  all_goals omega
theorem xAbs (a:Int) (ha:I64 a) (w:World) :
    Calls Tryz.prog 145 #[.int .i64 a] w fun e w'=>e=.returned (.int .i64 (satV (a.natAbs:Int)))∧w=w':=by
  obtain ⟨a0,a1⟩:=ha
  by_cases h1:a = -9223372036854775808
  · subst h1
    go_enter Tryz.func145,Tryz.ntmps145
    go_wp2
    go_ret
    exact ⟨ret_int (by decide),rfl⟩
  · have hb:(a == -9223372036854775808)=false:=beq_eq_false_iff_ne.2 h1
    have hv:=hid (satV_mid (x:=(a.natAbs:Int)) ⟨by omega,by omega⟩)
    have H1:=hid h1
    have b1 : -9223372036854775807<=a:=by omega
    clear h1
    rcases Int.lt_or_le a 0 with pa | pa
    · have hn:=hid (show (a.natAbs:Int) = -a by omega)
      go_enter Tryz.func145,Tryz.ntmps145
      go_wp2
      go_ret
      exact ⟨ret_int (by rw [hv.out,hn.out]),rfl⟩
    · have hn:=hid (show (a.natAbs:Int)=a by omega)
      go_enter Tryz.func145,Tryz.ntmps145
      go_wp2
      go_ret
      exact ⟨ret_int (by rw [hv.out,hn.out]),rfl⟩
theorem rAbs (a:Int) (ha:I64 a) (w:World) :
    Calls Tryz.prog 119 #[.int .i64 a] w fun e w'=>e=.returned (.int .i64 (satV (a.natAbs:Int)))∧w=w':=by
  have h0:I64 0:=⟨by decide,by decide⟩
  have HS:=hid (rSub 0 a h0 ha)
  obtain ⟨a0,a1⟩:=ha
  rcases Int.lt_or_le a 0 with pa | pa
  · have hn:=hid (show (a.natAbs:Int)=0 - a by omega)
    go_enter Tryz.func119,Tryz.ntmps119
    go_wp2_with fail
    refine (HS.out _).mono ?_;rintro e w' ⟨rfl,rfl⟩
    go_wp2_with fail
    go_ret
    exact ⟨ret_int (by rw [hn.out];first | rfl | rw [Int.zero_sub]),rfl⟩
  · have hv:=hid (satV_mid (x:=(a.natAbs:Int)) ⟨by omega,by omega⟩)
    have hn:=hid (show (a.natAbs:Int)=a by omega)
    go_enter Tryz.func119,Tryz.ntmps119
    go_wp2
    go_ret
    exact ⟨ret_int (by rw [hv.out,hn.out]),rfl⟩
end Go.Proofs.YtheepmnhpclimaaGreat
