/- M18: FxRootR, OpenW, Pf, PlRow, Search in one text. -/
import Derived.Test.YtedcanagfajcgaaGreatM1
set_option linter.unusedSimpArgs false
set_option linter.unusedVariables false
set_option maxRecDepth 100000
set_option maxHeartbeats 2000000
namespace Go.Proofs
theorem Yq{G:Prop}(h:G:=by
  go_enter Tryz.func218,Tryz.ntmps218
  go_wp2_with fail
  go_ret
  exact ⟨rfl,rfl⟩):G:=h
end Go.Proofs
namespace Go.Proofs.YtedcanagfajcgaaGreat
open Go.RowKit
open Go.Lib (hid)
def U7 (n:Nat) (v b:Value):Prop:=∃ x y:Nat,v=.int .u64 x∧b=.int .u64 y∧Fx.BitInv n x y
theorem Tw (x y:Nat):((x:Int)+y) * ((x:Int)+y)=(((x+y) * (x+y):Nat):Int):=by push_cast;rfl
theorem Aez {x y n:Nat} (h:((x:Int)+y) * ((x:Int)+y)<=n):(x+y) * (x+y)<=n:=by rw [Tw] at h;omega
theorem Ad8 {x y n:Nat} (h:(x+y) * (x+y)<=n):((x:Int)+y) * ((x:Int)+y)<=n:=by rw [Tw];omega
theorem AfK {x:Nat} (h:x<=4294967295):x * x<=18446744065119617025:=Nat.mul_le_mul h h
theorem UN (n:Nat) (h1:(n:Int)<=9223372036854775807) (w:World) :
  Calls Tryz.prog 86 #[.int .i64 n] w fun e w'=>e=.returned (.int .i64 (Fx.isq n:Int))∧w=w':=by
 have hst:=hid (Fx.bit_start (n:=n) (by omega))
 go_enter Tryz.func86,Tryz.ntmps86
 go_wp2
 go_loop [3,4] (fun v b=>U7 n v b) (fun _ b=>(intOf b).toNat)
 case atStart=>exact ⟨0,2147483648,rfl,rfl,hst.out⟩
 case round =>
  obtain ⟨x,y,rfl,rfl,H⟩:=hrel;have hb:=H.bd
  have bd1:(x:Int)+2 * y<=4294967296:=by omega
  have HH:=hid H;clear H hb
  by_cases hy:0<(y:Int)
  ·have hm:=AfK (x:=x+y) (by omega)
   have m1:((x:Int)+y) * ((x:Int)+y)<=18446744073709551615:=by
    have:((x:Int)+y) * ((x:Int)+y)=(((x+y) * (x+y):Nat):Int):=by push_cast;rfl
    omega
   have m0:0<=((x:Int)+y) * ((x:Int)+y):=BM (by omega) (by omega);clear hm
   by_cases hc:((x:Int)+y) * ((x:Int)+y)<=n
   ·go_wp2_with fail
    go_round
    case rel=>exact ⟨x+y,y / 2,by congr 1,by congr 1,Fx.bit_yes (by omega) HH.out (Aez hc)⟩
    case measure=>exact zMs
   ·go_wp2_with fail
    go_round
    case rel=>exact ⟨x,y / 2,rfl,by congr 1,Fx.bit_no (by omega) HH.out (fun h=>hc (Ad8 h))⟩
    case measure=>exact zMs
  ·have hz:y=0:=by omega
   have he:=hid (Fx.bit_end (by rw [← hz];exact HH.out))
   have hx:(x:Int)<=4294967296:=by omega
   clear hz
   go_wp2_with fail
   go_ret
   exact ⟨Af (by rw [← he.out]),rfl⟩
theorem Pv (n:Int) (h1:n<=9223372036854775807) (w:World) :
  Calls Tryz.prog 86 #[.int .i64 n] w fun e w'=>e=.returned (.int .i64 (sqV n))∧w=w':=by
 by_cases h0:n<0
 ·have h2:n.toNat=0:=by omega
  have hv:=hid (show sqV n=0 by unfold sqV;rw [h2];rfl);clear h2
  go_enter Tryz.func86,Tryz.ntmps86
  go_wp2
  go_ret
  exact ⟨Af (by rw [hv.out]),rfl⟩
 ·obtain ⟨m,rfl⟩:∃ m:Nat,n=m:=⟨n.toNat,by omega⟩
  have e:sqV (m:Int)=(Fx.isq m:Int):=by unfold sqV;rw [Int.toNat_natCast]
  rw [e]
  exact UN m h1 w
open Go.RowKit Go.ChangeShapes Go.WideShapes Go.Deep
def OA (p:Int × Int):Prop:=I64 p.1∧I64 p.2
instance:Inhabited (Int × Int):=⟨(0,0)⟩
def JJ (l:List Int) (n:Nat) (E:Int) (w:World) (e:Ending) (w':World):Prop:=∃ A c,e=.returned (.tuple #[.slice A n c,vI E])∧Ints w' A n l∧Below w.heap.size w w'
def okN (E:Int) (n:Nat):Nat:=if E=0 then n else 0
def okL {α:Type} (E:Int) (l:List α):List α:=if E=0 then l else []
theorem O5 (x:Int) (h:Pf.inB x) (w:World):Calls Tryz.prog 218 #[vI x] w fun e w'=>e=.returned (.bool true)∧w=w':=by
 obtain ⟨h0,h1⟩:=h
 exact Yq
theorem Qy (x:Int) (h:¬ Pf.inB x) (w:World):Calls Tryz.prog 218 #[vI x] w fun e w'=>e=.returned (.bool false)∧w=w':=by
 have h':x < -1099511627776∨1099511627776<x:=by unfold Pf.inB at h;omega
 clear h
 rcases h' with h | h
 ·have h0:¬ -1099511627776<=x:=by omega
  exact Yq
 ·have h0 : -1099511627776<=x:=by omega
  have h1:¬ x<=1099511627776:=by omega
  exact Yq
def Adx (pr:Int→Prop) (N:Nat) (w:World) (e:Ending) (w':World):Prop:=∃ k:Nat,e=.returned (vI k)∧k<=N∧(k=N∨pr k)∧(k=0∨¬ pr ((k:Int) - 1))∧Below w.heap.size w w'
def Adz (pr:Int→Prop) (N:Nat) (w:World) (vi vj:Value) (w':World):Prop :=
 ∃ i j:Nat,vi=vI i∧vj=vI j∧i<=j∧j<=N∧(j=N∨pr j)∧(i=0∨¬ pr ((i:Int) - 1))∧Below w.heap.size w w'
theorem Rm (pr:Int→Prop) [DecidablePred pr] (N:Nat) (hN:N<=1000000000) (g:FuncId) (lb:Array Value) (w:World)
  (eg:∀ args w,(callFunc g args).run Tryz.prog w=.ok (.enter g args) w)
  (hf:∀ (W:World) (i:Nat),i<N→Below w.heap.size w W→Calls Tryz.prog g (#[vI i] ++ lb) W fun e w'=>e=.returned (.bool (decide (pr i)))∧Below W.heap.size W w') :
  Calls Tryz.prog 229 #[vI N,.func (.func g) #[] lb] w (Adx pr N w):=by
 have HF:=hid hf;clear hf
 go_enter Tryz.func229,Tryz.ntmps229
 go_wp2_with fail
 go_loopw [5,6] (fun vi vj wr=>Adz pr N w vi vj wr) (fun vi vj _=>(intOf vj).toNat - (intOf vi).toNat)
 case atStart=>exact ⟨0,N,rfl,rfl,Nat.zero_le _,Bn _,.inl rfl,.inl rfl,AJ _ _⟩
 case round =>
  obtain ⟨i,j,rfl,rfl,hij,hjN,h1,h2,hB⟩:=hrel;have H1:=hid h1;have H2:=hid h2;have HB:=hid hB;clear h1 h2 hB
  by_cases hlt:(i:Int)<j
  ·have hm:((i:Int)+j) / 2=(((i+j) / 2:Nat):Int):=by omega
   have m1:i<=(i+j) / 2:=by omega
   have m2:(i+j) / 2<j:=by omega
   generalize (i+j) / 2=m at *
   by_cases hp:pr (m:Int)
   ·have hd:decide (pr (m:Int))=true:=Ct hp
    have HP:=hid hp;have HM:=hid hm;clear hp hm
    go_wp2_with fail
    rw [HM.out]
    refine (HF.out wr m (by omega) HB.out).mono ?_;rintro e w2 ⟨rfl,hB2⟩
    go_wp2_with fail
    go_roundw
    case rel=>exact ⟨i,m,rfl,rfl,m1,by omega,.inr HP.out,H2.out,HB.out.trans (hB2.mono HB.out.size)⟩
    case measure=>simp only [intOf,HM.out];omega
   ·have hd:decide (pr (m:Int))=false:=BJ hp
    have HP:=hid hp;have HM:=hid hm;clear hp hm
    go_wp2_with fail
    rw [HM.out]
    refine (HF.out wr m (by omega) HB.out).mono ?_;rintro e w2 ⟨rfl,hB2⟩
    go_wp2_with fail
    go_roundw
    case rel=>exact ⟨m+1,j,by (try rw [HM.out]);rfl,rfl,by omega,hjN,H1.out,.inr (by rw [show ((m+1:Nat):Int) - 1=m from by omega];exact HP.out),HB.out.trans (hB2.mono HB.out.size)⟩
    case measure=>simp only [intOf,HM.out];omega
  ·have hij':i=j:=by omega
   have HIJ:=hid hij';clear hij'
   go_wp2_with fail
   go_ret
   exact ⟨i,rfl,by omega,by rw [HIJ.out];exact H1.out,H2.out,HB.out⟩
