
/- Layer 1: the contracts of all functions of package fixed, and of its reference, but the roots. -/
import Derived.Test.YtgneijdjlahgbaaGreatFxScale
import Derived.Test.YtgneijdjlahgbaaGreatFxQuo
import Derived.Test.YtgneijdjlahgbaaGreatM3
namespace Go.Proofs.YtgneijdjlahgbaaGreat
set_option linter.unusedSimpArgs false
set_option linter.unusedVariables false
open Go.RowKit

def I64 (a:Int):Prop := -9223372036854775808≤a∧a≤9223372036854775807
def satV (x:Int):Int:=if 9223372036854775807<x then 9223372036854775807 else if x < -9223372036854775808 then -9223372036854775808 else x
theorem satV_mid {x:Int} (h:I64 x):satV x=x:=by unfold I64 at h;unfold satV;rw [if_neg (by omega),if_neg (by omega)]
theorem satV_I64 (x:Int):I64 (satV x):=by
 unfold I64 satV
 split
 ·omega
 ·split <;> omega
def limV (n:Bool):Int:=if n then -9223372036854775808 else 9223372036854775807
theorem scale_down (a b c:Int) (ha:I64 a) (hb:I64 b) (hc:I64 c) (w:World) :
    Calls Tryz.prog 158 #[.int .i64 a,.int .i64 b,.int .i64 c,.int .u8 0] w fun e w'=>e=.returned (.tuple #[.int .i64 (Fx.scV 0 a b c),.int .i64 (Fx.scE 0 a b c)])∧∃ n,w'=w.drewN n :=
  scale_any a b c 0 (.inl rfl) ha.1 ha.2 hb.1 hb.2 hc.1 hc.2 w
theorem scale_up (a b c:Int) (ha:I64 a) (hb:I64 b) (hc:I64 c) (w:World) :
    Calls Tryz.prog 158 #[.int .i64 a,.int .i64 b,.int .i64 c,.int .u8 1] w fun e w'=>e=.returned (.tuple #[.int .i64 (Fx.scV 1 a b c),.int .i64 (Fx.scE 1 a b c)])∧∃ n,w'=w.drewN n :=
  scale_any a b c 1 (.inr (.inl rfl)) ha.1 ha.2 hb.1 hb.2 hc.1 hc.2 w
theorem tmod_bounds (a b:Int) (hb:0<b) : -b<a.tmod b∧a.tmod b<b:=by
 have h1:=Int.emod_nonneg a (show b≠0 by omega)
 have h2:=Int.emod_lt_of_pos a hb
 have h3:=Int.tmod_eq_emod (a:=a) (b:=b)
 have h4:=Int.tmod_lt_of_pos a hb
 refine ⟨?_,h4⟩
 rw [h3]
 split
 ·omega
 ·rename_i hd
  have:a % b≠0:=fun h0=>hd (.inr (Int.dvd_of_emod_eq_zero h0))
  omega
theorem tmod_cases (a b:Int) (hb:0<b):(a.tmod b<0→a.tmod b+b=a % b)∧(¬ a.tmod b<0→a.tmod b=a % b):=by
 have h1:=Int.emod_nonneg a (show b≠0 by omega)
 have h2:=Int.emod_lt_of_pos a hb
 have h3:=Int.tmod_eq_emod (a:=a) (b:=b)
 split at h3 <;> constructor <;> omega
theorem one_I64:I64 1:=⟨by decide,by decide⟩
theorem xFloor (a b:Int) (ha:I64 a) (hb:I64 b) (w:World) :
    Calls Tryz.prog 111 #[.int .i64 a,.int .i64 b] w fun e w'=>e=.returned (.tuple #[.int .i64 (Fx.scV 0 a 1 b),.int .i64 (Fx.scE 0 a 1 b)])∧∃ n,w'=w.drewN n:=by
  have H:=Lib.hid (scale_down a 1 b ha one_I64 hb)
  go_enter Tryz.func111,Tryz.ntmps111
  go_wp2_with fail
  refine (H.out _).mono ?_;rintro e w' ⟨rfl,n,rfl⟩
  go_wp2_with fail
  go_ret2
  exact ⟨rfl,n,rfl⟩
theorem xCeil (a b:Int) (ha:I64 a) (hb:I64 b) (w:World) :
    Calls Tryz.prog 106 #[.int .i64 a,.int .i64 b] w fun e w'=>e=.returned (.tuple #[.int .i64 (Fx.scV 1 a 1 b),.int .i64 (Fx.scE 1 a 1 b)])∧∃ n,w'=w.drewN n:=by
  have H:=Lib.hid (scale_up a 1 b ha one_I64 hb)
  go_enter Tryz.func106,Tryz.ntmps106
  go_wp2_with fail
  refine (H.out _).mono ?_;rintro e w' ⟨rfl,n,rfl⟩
  go_wp2_with fail
  go_ret2
  exact ⟨rfl,n,rfl⟩
theorem xlimit (n:Bool) (w:World) :
    Calls Tryz.prog 145 #[.bool n] w fun e w'=>e=.returned (.int .i64 (limV n))∧w=w':=by
  cases n
  · go_enter Tryz.func145,Tryz.ntmps145
    go_wp2
    go_ret
    exact ⟨ret_int rfl,rfl⟩
  · go_enter Tryz.func145,Tryz.ntmps145
    go_wp2
    go_ret
    exact ⟨ret_int rfl,rfl⟩
set_option maxRecDepth 100000 in
set_option maxHeartbeats 1000000 in
theorem xAdd (a b:Int) (ha:I64 a) (hb:I64 b) (w:World) :
    Calls Tryz.prog 84 #[.int .i64 a,.int .i64 b] w fun e w'=>e=.returned (.int .i64 (satV (a+b)))∧w=w':=by
  obtain ⟨a0,a1⟩:=ha
  obtain ⟨b0,b1⟩:=hb
  rcases Int.lt_or_le a 0 with pa | pa
  all_goals rcases Int.lt_or_le b 0 with pb | pb
  all_goals (go_enter Tryz.func84,Tryz.ntmps84)
  all_goals (go_wp2_with (go_at_call 145;refine (xlimit _ _).mono ?_;rintro e w' ⟨rfl,rfl⟩))
  all_goals go_ret
  all_goals (refine ⟨ret_int ?_,rfl⟩)
  all_goals (simp only [limV,satV,wrapu,wrap64,decide_eq_true_eq,if_true,Bool.not_eq_true',Bool.not_eq_false',decide_eq_false_iff_not,beq_iff_eq,beq_eq_false_iff_ne,ne_eq,decide_eq_decide] at *)
  all_goals (repeat' split)
  all_goals omega
set_option maxRecDepth 100000 in
set_option maxHeartbeats 1000000 in
theorem xSub (a b:Int) (ha:I64 a) (hb:I64 b) (w:World) :
    Calls Tryz.prog 86 #[.int .i64 a,.int .i64 b] w fun e w'=>e=.returned (.int .i64 (satV (a - b)))∧w=w':=by
  obtain ⟨a0,a1⟩:=ha
  obtain ⟨b0,b1⟩:=hb
  rcases Int.lt_or_le a 0 with pa | pa
  all_goals rcases Int.lt_or_le b 0 with pb | pb
  all_goals (go_enter Tryz.func86,Tryz.ntmps86)
  all_goals (go_wp2_with (go_at_call 145;refine (xlimit _ _).mono ?_;rintro e w' ⟨rfl,rfl⟩))
  all_goals go_ret
  all_goals (refine ⟨ret_int ?_,rfl⟩)
  all_goals (simp only [limV,satV,wrapu,wrap64,decide_eq_true_eq,if_true,Bool.not_eq_true',Bool.not_eq_false',decide_eq_false_iff_not,beq_iff_eq,beq_eq_false_iff_ne,ne_eq,decide_eq_decide] at *)
  all_goals (repeat' split)
  all_goals omega
theorem xAbs (a:Int) (ha:I64 a) (w:World) :
    Calls Tryz.prog 140 #[.int .i64 a] w fun e w'=>e=.returned (.int .i64 (satV (a.natAbs:Int)))∧w=w':=by
  obtain ⟨a0,a1⟩:=ha
  by_cases h1:a = -9223372036854775808
  · subst h1
    go_enter Tryz.func140,Tryz.ntmps140
    go_wp2
    go_ret
    exact ⟨ret_int (by decide),rfl⟩
  · have hb:(a == -9223372036854775808)=false:=beq_eq_false_iff_ne.2 h1
    have hv:=Lib.hid (satV_mid (x:=(a.natAbs:Int)) ⟨by omega,by omega⟩)
    have H1:=Lib.hid h1
    have b1 : -9223372036854775807≤a:=by omega
    clear h1
    rcases Int.lt_or_le a 0 with pa | pa
    · have hn:=Lib.hid (show (a.natAbs:Int) = -a by omega)
      go_enter Tryz.func140,Tryz.ntmps140
      go_wp2
      go_ret
      exact ⟨ret_int (by rw [hv.out,hn.out]),rfl⟩
    · have hn:=Lib.hid (show (a.natAbs:Int)=a by omega)
      go_enter Tryz.func140,Tryz.ntmps140
      go_wp2
      go_ret
      exact ⟨ret_int (by rw [hv.out,hn.out]),rfl⟩

theorem mul_natAbs (a b:Int):((a.natAbs * b.natAbs:Nat):Int)=if ((decide (a<0)) != (decide (b<0)))=true then -(a * b) else a * b:=by
 rw [Int.natCast_mul]
 by_cases ha:a<0 <;> by_cases hb:b<0
 ·rw [Fx.natAbs_of_neg ha,Fx.natAbs_of_neg hb];simp [ha,hb,Int.neg_mul,Int.mul_neg,Int.neg_neg]
 ·rw [Fx.natAbs_of_neg ha,Fx.natAbs_of_pos hb];simp [ha,hb,Int.neg_mul,Int.mul_neg,Int.neg_neg]
 ·rw [Fx.natAbs_of_pos ha,Fx.natAbs_of_neg hb];simp [ha,hb,Int.neg_mul,Int.mul_neg,Int.neg_neg]
 ·rw [Fx.natAbs_of_pos ha,Fx.natAbs_of_pos hb];simp [ha,hb]
def mulV (q:Nat) (neg:Bool):Int:=if Fx.sgE q neg=0 then Fx.sgV q neg else limV neg
theorem mulV_eq (a b:Int):mulV (a.natAbs * b.natAbs) (decide (a<0) != decide (b<0))=satV (a * b):=by
 have h:=mul_natAbs a b
 generalize a.natAbs * b.natAbs=q at *
 generalize a * b=x at *
 generalize (decide (a<0) != decide (b<0))=neg at *
 unfold mulV satV limV Fx.sgE Fx.sgV
 cases neg
 ·simp only [Bool.false_eq_true,if_false] at h ⊢
  repeat' split
  all_goals omega
 ·simp only [if_true] at h ⊢
  repeat' split
  all_goals omega
theorem mul_hi_lim {q:Nat} {neg:Bool} (h:0<q / 18446744073709551616):mulV q neg=limV neg:=by
 unfold mulV
 have:Fx.sgE q neg=2:=by
  cases neg
  ·simp only [Fx.sgE,Bool.false_eq_true,if_false];rw [if_neg (by omega)]
  ·simp only [Fx.sgE,if_true];rw [if_neg (by omega)]
 rw [this];rfl

set_option maxRecDepth 100000 in
set_option maxHeartbeats 1000000 in
theorem xMul (a b:Int) (ha:I64 a) (hb:I64 b) (w:World) :
    Calls Tryz.prog 85 #[.int .i64 a,.int .i64 b] w fun e w'=>e=.returned (.int .i64 (satV (a * b)))∧w=w':=by
  have hA:=natAbs_lt a ha.1 ha.2
  have hB:=natAbs_lt b hb.1 hb.2
  have HM:=Lib.hid (fun w=>Tryz.bits_Mul64 a.natAbs b.natAbs (Nat.lt_of_le_of_lt hA (by decide)) (Nat.lt_of_le_of_lt hB (by decide)) w)
  have HA:=Lib.hid (fun w=>size_any a ha.1 ha.2 w)
  have HB:=Lib.hid (fun w=>size_any b hb.1 hb.2 w)
  rw [← mulV_eq]
  obtain ⟨neg,hn⟩:∃ neg,(decide (a<0) != decide (b<0))=neg:=⟨_,rfl⟩
  have hn':(!(decide (a<0) == decide (b<0)))=neg:=hn
  rw [hn]
  have hspl:=split64 (a.natAbs * b.natAbs)
  have hl:a.natAbs * b.natAbs % 18446744073709551616<18446744073709551616:=Nat.mod_lt _ (by decide)
  have HLIM:=Lib.hid (mul_hi_lim (q:=a.natAbs * b.natAbs) (neg:=neg))
  generalize a.natAbs * b.natAbs / 18446744073709551616=H at *
  generalize a.natAbs * b.natAbs % 18446744073709551616=L at *
  generalize a.natAbs * b.natAbs=q at *
  have HS:=Lib.hid (fun w=>signed_any L neg hl w)
  have HQ:=Lib.hid hspl
  clear hn hspl hl hA hB ha hb
  by_cases h1:(0:Int)<H
  · have hv:=Lib.hid (HLIM.out (by omega))
    go_enter Tryz.func85,Tryz.ntmps85
    go_wp2_with fail
    refine (HA.out _).mono ?_;rintro e w' ⟨rfl,hw⟩;rw [hw];clear hw w'
    go_wp2_with fail
    refine (HB.out _).mono ?_;rintro e w' ⟨rfl,hw⟩;rw [hw];clear hw w'
    go_wp2_with fail
    refine (HM.out _).mono ?_;rintro e w' ⟨rfl,hw⟩;rw [hw];clear hw w'
    go_wp2_with fail
    refine (xlimit _ _).mono ?_;rintro e w' ⟨rfl,rfl⟩
    go_wp2_with fail
    go_ret
    exact ⟨ret_int hv.out.symm,rfl⟩
  · have hq:q=L:=by have:=HQ.out;omega
    by_cases h2:Fx.sgE L neg=0
    · have hv:=Lib.hid (show mulV q neg=Fx.sgV L neg by rw [hq];unfold mulV;rw [if_pos h2])
      have h2b:(Fx.sgE L neg == 0)=true:=beq_iff_eq.2 h2
      generalize Fx.sgE L neg=E at *
      generalize Fx.sgV L neg=V at *
      have H2:=Lib.hid h2
      have HQL:=Lib.hid hq
      clear h2 hq
      go_enter Tryz.func85,Tryz.ntmps85
      go_wp2_with fail
      refine (HA.out _).mono ?_;rintro e w' ⟨rfl,hw⟩;rw [hw];clear hw w'
      go_wp2_with fail
      refine (HB.out _).mono ?_;rintro e w' ⟨rfl,hw⟩;rw [hw];clear hw w'
      go_wp2_with fail
      refine (HM.out _).mono ?_;rintro e w' ⟨rfl,hw⟩;rw [hw];clear hw w'
      go_wp2_with fail
      refine (HS.out _).mono ?_;rintro e w' ⟨rfl,hw⟩;rw [hw];clear hw w'
      go_wp2_with fail
      go_ret
      exact ⟨ret_int hv.out.symm,rfl⟩
    · have hv:=Lib.hid (show mulV q neg=limV neg by rw [hq];unfold mulV;rw [if_neg h2])
      have h2b:(Fx.sgE L neg == 0)=false:=beq_eq_false_iff_ne.2 h2
      generalize Fx.sgE L neg=E at *
      generalize Fx.sgV L neg=V at *
      have HQL:=Lib.hid hq
      clear hq
      go_enter Tryz.func85,Tryz.ntmps85
      go_wp2_with fail
      refine (HA.out _).mono ?_;rintro e w' ⟨rfl,hw⟩;rw [hw];clear hw w'
      go_wp2_with fail
      refine (HB.out _).mono ?_;rintro e w' ⟨rfl,hw⟩;rw [hw];clear hw w'
      go_wp2_with fail
      refine (HM.out _).mono ?_;rintro e w' ⟨rfl,hw⟩;rw [hw];clear hw w'
      go_wp2_with fail
      refine (HS.out _).mono ?_;rintro e w' ⟨rfl,hw⟩;rw [hw];clear hw w'
      go_wp2_with fail
      refine (xlimit _ _).mono ?_;rintro e w' ⟨rfl,rfl⟩
      go_wp2_with fail
      go_ret
      exact ⟨ret_int hv.out.symm,rfl⟩

end Go.Proofs.YtgneijdjlahgbaaGreat
