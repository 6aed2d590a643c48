
/- What is read of an argument: opened to what a walk wants (arrays of two integers). -/
import Derived.Test.YtedcanagfajcgaaGreatChecked
import Derived.WalkKit
import Derived.ProofKit
import Derived.OpenShut
import Derived.Deep.Draws
namespace Go.Proofs.YtedcanagfajcgaaGreat
open Go.ChangeShapes Go.WideShapes Go.ChangeAt Go.RowKit
section
variable {H:Type} {enc:TypeId × Value→H} {P:Program} {w:World} {base:Nat} {spare:Nat→Bool} {held:Bool}
end
theorem Ag {B:Nat} {a w:World} (h:Below B a w) (n:Nat):Below B a (w.drewN n):=⟨h.os,h.tape,h.output,h.size,h.block⟩
theorem Az {n:Int} (h:(Lit.int .i64 n).wf=true) : -9223372036854775808<=n∧n<=9223372036854775807:=bounds_i64 h
/-! ### lists of cells in short -/
abbrev lz2 (a b:Int):List Value:=[.int .i64 a,.int .i64 b]
abbrev lz3 (a b c:Int):List Value:=[.int .i64 a,.int .i64 b,.int .i64 c]
abbrev lz4 (a b c d:Int):List Value:=[.int .i64 a,.int .i64 b,.int .i64 c,.int .i64 d]
abbrev lz5 (a b c d e:Int):List Value:=[.int .i64 a,.int .i64 b,.int .i64 c,.int .i64 d,.int .i64 e]
abbrev lz6 (a b c d e f:Int):List Value:=[.int .i64 a,.int .i64 b,.int .i64 c,.int .i64 d,.int .i64 e,.int .i64 f]
abbrev lz7 (a b c d e f g:Int):List Value:=[.int .i64 a,.int .i64 b,.int .i64 c,.int .i64 d,.int .i64 e,.int .i64 f,.int .i64 g]
abbrev lzl (a b c d e f g:Int):List Value:=[.int .i64 a,.int .i64 b,.int .u8 c,.int .i64 d,.int .i64 e,.int .i64 f,.int .i64 g]
abbrev lzp (a b c d e f g h i j k l m:Int):List Value:=[.int .i64 a,.int .i64 b,.int .i64 c,.int .i64 d,.int .i64 e,.int .i64 f,.int .i64 g,.int .i64 h,.int .i64 i,.int .i64 j,.int .i64 k,.int .i64 l,.int .u8 m]
abbrev vI (x:Int):Value:=.int .i64 x
theorem iW (a:Int) (h : -9223372036854775808<=a∧a<=9223372036854775807:=by omega):IntKind.i64.wrap a=a:=IntWalk.i64_in a h
theorem zMs {G:Prop} (h:G:=by simp only [intOf];omega):G:=h
end Go.Proofs.YtedcanagfajcgaaGreat
namespace Go.Proofs
open ChangeShapes WideShapes ChangeAt RowKit
theorem Au {α:Type _} {l:List α} {i:Nat} {a:α}:l[i]? = some a→a ∈ l:=List.mem_of_getElem?
theorem AQ {α:Type _} {l:List α} {i:Nat} (h:i<l.length):l[i]? = some l[i]:=List.getElem?_eq_getElem h
theorem Dp {α:Type _} {l:List α} {i:Nat} {a:α}:l.getD i a=l[i]?.getD a:=List.getD_eq_getElem?_getD
theorem BA {α:Type _} [BEq α] [LawfulBEq α] {a b:α}:(a == b)=false ↔ a≠b:=beq_eq_false_iff_ne
theorem AJ (B:Nat) (w:World):Below B w w:=Below.refl _ _
theorem Cn (n k:Nat):n<=n+k:=Nat.le_add_right _ _
theorem BJ {p:Prop} [Decidable p]:¬p→decide p=false:=decide_eq_false
theorem Ct {p:Prop} [Decidable p]:p→decide p=true:=decide_eq_true
theorem CY {α:Type _} {i:Nat} {l:List α}:l.length<=i→List.take i l=l:=List.take_of_length_le
theorem Bn (n:Nat):n<=n:=Nat.le_refl _
theorem CR {a b c:Int}:a<=b→0<=c→a * c<=b * c:=Int.mul_le_mul_of_nonneg_right
theorem Ef {a b c:Int}:a<=b→0<=c→c * a<=c * b:=Int.mul_le_mul_of_nonneg_left
theorem BC (w:World) (n:Nat) (a:Addr):(w.drewN n).cell? a=w.cell? a:=World.cell?_drewN _ _ _
theorem Bt (a:Int):a<=a:=Int.le_refl _
theorem BM {a b:Int}:0<=a→0<=b→0<=a * b:=Int.mul_nonneg
