
/- Layer 37: the setup of the examples, as it lies in memory. -/
import Derived.Test.YtheepmnhpclimaaGreatM23
import Derived.Test.YtheepmnhpclimaaGreatM14
import Derived.Test.YtheepmnhpclimaaGreatM1
import Derived.RegionTactic
set_option linter.unusedSimpArgs false
set_option linter.unusedVariables false
namespace Go.Proofs.YtheepmnhpclimaaGreat
open Go.RowKit
def exP (H:Nat):Prf:=⟨⟨#[74,69,84]⟩,1000,1000000,exL H 8 2,exL H 9 2,exL H 3 2,exL H 6 2,exL H 6 2,exL H 10 2,exL H 11 2,exL H 12 2,exL H 13 2,400,0,3000000,[0,3000000],[1000,1000000],[exR H 1 [3000,3000],exR H 2 [2000,2000]],[exR H 4 [2000,2000],exR H 5 [2000,2000]],[exR H 4 [2000,2000],exR H 5 [2000,2000]],[1000,1000],[500,500],[340,300],[100,100]⟩
def exG (H:Nat) (err:Int):Grd:=⟨0,0,1,1,1,exL H 14 1,exL H 15 1,exL H 16 1,err,[0],[(0,0)],[0]⟩
def exS (H:Nat) (lo err:Int):Stp:=⟨exL H 7 2,[⟨0,0,0,0,0,lo,300⟩,⟨0,60000,60000,0,0,lo,300⟩],exP H,exG H err,⟨1000,900000,0,0⟩,0,300,900,0,0,0,250⟩
end Go.Proofs.YtheepmnhpclimaaGreat
