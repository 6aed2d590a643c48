
/- Layer 32: fuel accounts, the reference's functions. -/
import Derived.Test.YtheepmnhpclimaaGreatM3
import Derived.Test.YtheepmnhpclimaaGreatM8
import Derived.Test.YtheepmnhpclimaaGreatFxOps
import Derived.Deep.QuietTactic
import Derived.BigQuiet
namespace Go.Proofs.YtheepmnhpclimaaGreat
set_option linter.unusedSimpArgs false
set_option linter.unusedVariables false
set_option maxRecDepth 100000
set_option maxHeartbeats 4000000
open Go.RowKit
open Go.Lib (hid)
theorem rFuCheck (a:Acc) (w:World):Calls Tryz.prog 88 #[.agg #[vI a.em,vI a.ld,vI a.rs,vI a.bu]] w fun e w'=>e=.returned (vI a.E)∧Below w.heap.size w w':=by
 go_enter Tryz.func88,Tryz.ntmps88
 go_wp2
 all_goals (go_ret;refine ⟨ret_int ?_,below_alloc1 _ _⟩;unfold Acc.E Acc.B inB;simp only [Bool.and_eq_true,decide_eq_true_eq];split <;> omega)
theorem acc_cases (a:Acc):(a.E=2∧a.left=0∧a.mass=0)∨(a.E=0∧a.left=a.ld - a.bu∧a.mass=a.em+(a.ld - a.bu)∧a.B=true):=by
 unfold Acc.E Acc.left Acc.mass
 cases h:a.B
 ·exact .inl ⟨rfl,rfl,rfl⟩
 ·exact .inr ⟨rfl,rfl,rfl,rfl⟩
theorem rFuMass (a:Acc) (w:World):Calls Tryz.prog 37 #[.agg #[vI a.em,vI a.ld,vI a.rs,vI a.bu]] w fun e w'=>e=.returned (vI a.mass)∧Below w.heap.size w w':=by
 have HC:=fun W=>rFuCheck a W;have KB:=hid fun W (h:Below _ _ W)=>(Has.new w #[vI a.em,vI a.ld,vI a.rs,vI a.bu] 33).below h
 rcases acc_cases a with ⟨h1,-,h2⟩ | ⟨h1,-,h2,h⟩ <;> rw [h1] at HC <;> rw [h2]
 rotate_left
 have hd:=acc_bd h
 all_goals
  replace HC:=hid HC;clear h1 h2
  go_enter Tryz.func37,Tryz.ntmps37
  go_wp2_with (refine (HC.out _).mono ?_;rintro e w1 ⟨rfl,hB⟩;have k0:=(KB.out _ hB).cell 0 _ rfl;have k1:=(KB.out _ hB).cell 1 _ rfl;have k3:=(KB.out _ hB).cell 3 _ rfl;replace hB:=hid hB)
  go_ret
  exact ⟨ret_int (by omega),bel_alloc hB.out⟩
end Go.Proofs.YtheepmnhpclimaaGreat
