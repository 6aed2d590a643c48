
/- What is read of an argument: opened to what a walk wants (arrays of two integers). -/
import Derived.Test.YtheepmnhpclimaaGreatChecked
import Derived.WalkKit
import Derived.ProofKit
import Derived.OpenShut
import Derived.Below
import Derived.Deep.Draws
namespace Go.Proofs.YtheepmnhpclimaaGreat
open Go.ChangeShapes Go.WideShapes Go.ChangeAt Go.RowKit
section
variable {H:Type} {enc:TypeId × Value→H} {P:Program} {w:World} {base:Nat} {spare:Nat→Bool} {held:Bool}
end
theorem below_drewN {B:Nat} {a w:World} (h:Below B a w) (n:Nat):Below B a (w.drewN n):=⟨h.os,h.tape,h.output,h.size,h.block⟩
theorem wf_i64_bd {n:Int} (h:(Lit.int .i64 n).wf=true) : -9223372036854775808<=n∧n<=9223372036854775807:=bounds_i64 h
/-! ### lists of cells in short -/
abbrev lz2 (a b:Int):List Value:=[.int .i64 a,.int .i64 b]
abbrev lz3 (a b c:Int):List Value:=[.int .i64 a,.int .i64 b,.int .i64 c]
abbrev lz4 (a b c d:Int):List Value:=[.int .i64 a,.int .i64 b,.int .i64 c,.int .i64 d]
abbrev lz5 (a b c d e:Int):List Value:=[.int .i64 a,.int .i64 b,.int .i64 c,.int .i64 d,.int .i64 e]
abbrev lz6 (a b c d e f:Int):List Value:=[.int .i64 a,.int .i64 b,.int .i64 c,.int .i64 d,.int .i64 e,.int .i64 f]
abbrev lz7 (a b c d e f g:Int):List Value:=[.int .i64 a,.int .i64 b,.int .i64 c,.int .i64 d,.int .i64 e,.int .i64 f,.int .i64 g]
abbrev lzl (a b c d e f g:Int):List Value:=[.int .i64 a,.int .i64 b,.int .u8 c,.int .i64 d,.int .i64 e,.int .i64 f,.int .i64 g]
abbrev lzp (a b c d e f g h i j k l m:Int):List Value:=[.int .i64 a,.int .i64 b,.int .i64 c,.int .i64 d,.int .i64 e,.int .i64 f,.int .i64 g,.int .i64 h,.int .i64 i,.int .i64 j,.int .i64 k,.int .i64 l,.int .u8 m]
abbrev vI (x:Int):Value:=.int .i64 x
end Go.Proofs.YtheepmnhpclimaaGreat
