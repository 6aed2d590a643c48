/- M18: FxRootR, OpenW, Pf, PlRow, Search in one text. -/
import Derived.Test.YtheepmnhpclimaaGreatM1
import Derived.Test.YtheepmnhpclimaaGreatM8
import Derived.Test.YtheepmnhpclimaaGreatM10
import Derived.Test.YtheepmnhpclimaaGreatFxOps
import Derived.Test.YtheepmnhpclimaaGreatM3
import Derived.Deep.QuietTactic
import Derived.BigQuiet
namespace Go.Proofs.YtheepmnhpclimaaGreat
set_option linter.unusedSimpArgs false
set_option linter.unusedVariables false
open Go.RowKit

end Go.Proofs.YtheepmnhpclimaaGreat

namespace Go.Proofs.YtheepmnhpclimaaGreat
set_option linter.unusedSimpArgs false
set_option linter.unusedVariables false
open Go.RowKit Go.ChangeShapes Go.WideShapes Go.Deep

instance:Inhabited (Int × Int):=⟨(0,0)⟩
def SlRes (l:List Int) (n:Nat) (E:Int) (w:World) (e:Ending) (w':World):Prop:=∃ A c,e=.returned (.tuple #[.slice A n c,vI E])∧Ints w' A n l∧Below w.heap.size w w'
def okN (E:Int) (n:Nat):Nat:=if E=0 then n else 0
def okL {α:Type} (E:Int) (l:List α):List α:=if E=0 then l else []
end Go.Proofs.YtheepmnhpclimaaGreat

namespace Go.Proofs.YtheepmnhpclimaaGreat
set_option linter.unusedSimpArgs false
set_option linter.unusedVariables false
open Go.RowKit

theorem inBound_yes (x:Int) (h:Pf.inB x) (w:World):Calls Tryz.prog 151 #[vI x] w fun e w'=>e=.returned (.bool true)∧w=w':=by
 obtain ⟨h0,h1⟩:=h
 go_enter Tryz.func151,Tryz.ntmps151
 go_wp2_with fail
 go_ret
 exact ⟨rfl,rfl⟩
theorem inBound_no (x:Int) (h:¬ Pf.inB x) (w:World):Calls Tryz.prog 151 #[vI x] w fun e w'=>e=.returned (.bool false)∧w=w':=by
 have h':x < -1099511627776∨1099511627776<x:=by unfold Pf.inB at h;omega
 clear h
 rcases h' with h | h
 ·have h0:¬ -1099511627776≤x:=by omega
  go_enter Tryz.func151,Tryz.ntmps151
  go_wp2_with fail
  go_ret
  exact ⟨rfl,rfl⟩
 ·have h0 : -1099511627776≤x:=by omega
  have h1:¬ x≤1099511627776:=by omega
  go_enter Tryz.func151,Tryz.ntmps151
  go_wp2_with fail
  go_ret
  exact ⟨rfl,rfl⟩

end Go.Proofs.YtheepmnhpclimaaGreat

namespace Go.Proofs.YtheepmnhpclimaaGreat
end Go.Proofs.YtheepmnhpclimaaGreat

namespace Go.Proofs.YtheepmnhpclimaaGreat
set_option maxRecDepth 100000
set_option maxHeartbeats 2000000
set_option linter.unusedSimpArgs false
set_option linter.unusedVariables false
open Go.RowKit
open Go.Lib (hid)

def SPost (pr:Int→Prop) (N:Nat) (w:World) (e:Ending) (w':World):Prop:=∃ k:Nat,e=.returned (vI k)∧k≤N∧(k=N∨pr k)∧(k=0∨¬ pr ((k:Int) - 1))∧Below w.heap.size w w'
def SRelL (pr:Int→Prop) (N:Nat) (w:World) (vi vj:Value) (w':World):Prop :=
 ∃ i j:Nat,vi=vI i∧vj=vI j∧i≤j∧j≤N∧(j=N∨pr j)∧(i=0∨¬ pr ((i:Int) - 1))∧Below w.heap.size w w'

theorem search_any (pr:Int→Prop) [DecidablePred pr] (N:Nat) (hN:N≤1000000000) (g:FuncId) (lb:Array Value) (w:World)
  (eg:∀ args w,(callFunc g args).run Tryz.prog w=.ok (.enter g args) w)
  (hf:∀ (W:World) (i:Nat),i<N→Below w.heap.size w W→Calls Tryz.prog g (#[vI i] ++ lb) W fun e w'=>e=.returned (.bool (decide (pr i)))∧Below W.heap.size W w') :
  Calls Tryz.prog 254 #[vI N,.func (.func g) #[] lb] w (SPost pr N w):=by
 have HF:=hid hf;clear hf
 go_enter Tryz.func254,Tryz.ntmps254
 go_wp2_with fail
 go_loopw [5,6] (fun vi vj wr=>SRelL pr N w vi vj wr) (fun vi vj _=>(intOf vj).toNat - (intOf vi).toNat)
 case atStart=>exact ⟨0,N,rfl,rfl,Nat.zero_le _,Nat.le_refl _,.inl rfl,.inl rfl,Below.refl _ _⟩
 case round =>
  obtain ⟨i,j,rfl,rfl,hij,hjN,h1,h2,hB⟩:=hrel;have H1:=hid h1;have H2:=hid h2;have HB:=hid hB;clear h1 h2 hB
  by_cases hlt:(i:Int)<j
  ·have hm:((i:Int)+j) / 2=(((i+j) / 2:Nat):Int):=by omega
   have m1:i≤(i+j) / 2:=by omega
   have m2:(i+j) / 2<j:=by omega
   generalize (i+j) / 2=m at *
   by_cases hp:pr (m:Int)
   ·have hd:decide (pr (m:Int))=true:=decide_eq_true hp
    have HP:=hid hp;have HM:=hid hm;clear hp hm
    go_wp2_with fail
    rw [HM.out]
    refine (HF.out wr m (by omega) HB.out).mono ?_;rintro e w2 ⟨rfl,hB2⟩
    go_wp2_with fail
    go_roundw
    case rel=>exact ⟨i,m,rfl,rfl,m1,by omega,.inr HP.out,H2.out,HB.out.trans (hB2.mono HB.out.size)⟩
    case measure=>simp only [intOf,HM.out];omega
   ·have hd:decide (pr (m:Int))=false:=decide_eq_false hp
    have HP:=hid hp;have HM:=hid hm;clear hp hm
    go_wp2_with fail
    rw [HM.out]
    refine (HF.out wr m (by omega) HB.out).mono ?_;rintro e w2 ⟨rfl,hB2⟩
    go_wp2_with fail
    go_roundw
    case rel=>exact ⟨m+1,j,by (try rw [HM.out]);rfl,rfl,by omega,hjN,H1.out,.inr (by rw [show ((m+1:Nat):Int) - 1=m from by omega];exact HP.out),HB.out.trans (hB2.mono HB.out.size)⟩
    case measure=>simp only [intOf,HM.out];omega
  ·have hij':i=j:=by omega
   have HIJ:=hid hij';clear hij'
   go_wp2_with fail
   go_ret
   exact ⟨i,rfl,by omega,by rw [HIJ.out];exact H1.out,H2.out,HB.out⟩
end Go.Proofs.YtheepmnhpclimaaGreat

