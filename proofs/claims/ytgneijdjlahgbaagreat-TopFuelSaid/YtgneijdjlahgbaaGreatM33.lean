/- M33: BwP, OpWe, FuB in one text. -/
import Derived.Test.YtgneijdjlahgbaaGreatM6
import Derived.Test.YtgneijdjlahgbaaGreatM32
import Derived.Test.YtgneijdjlahgbaaGreatM8
import Derived.Test.YtgneijdjlahgbaaGreatM4
import Derived.Test.YtgneijdjlahgbaaGreatM1
namespace Go.Proofs.YtgneijdjlahgbaaGreat
set_option linter.unusedSimpArgs false
set_option linter.unusedVariables false
open Go.RowKit
structure Wea where
 pa:Int
 al:Int
 me:Int
 mn:Int
def Wea.cells (x:Wea):List Value:=[.int .u16 x.pa,.int .u16 x.al,.int .i64 x.me,.int .i64 x.mn]
structure Wea.ok (x:Wea):Prop where
 pa:0≤x.pa∧x.pa<65536
 al:0≤x.al∧x.al<65536
 me:I64 x.me
 mn:I64 x.mn
def weA (l:List Wea) (k:Nat):Wea:=l.getD k ⟨0,0,0,0⟩
def bwX (a b k:Int):Int:=(a * (1000 - k)+b * k).tdiv 1000
def bwH (lv k:Int):Int := -200000+((lv+200000) * k).tdiv 1000
def bwC (v er:Int):Int:=min (max v (-er)) er
def bwPx (s:Stp) (l:List Wea) (k:Nat):Int:=bwX (nodA s k).px (nodA s (k+1)).px ((weA l k).pa % 1001)
def bwPy (s:Stp) (l:List Wea) (k:Nat):Int:=bwX (nodA s k).py (nodA s (k+1)).py ((weA l k).pa % 1001)
def bwAl (s:Stp) (l:List Wea) (k:Nat):Int:=bwH s.lv ((weA l k).al % 1001)
def bwF (s:Stp) (l:List Wea) (k:Nat):Int × Int :=
 (gAt s.gr (elE s.gr) (bwPx s l k) (bwPy s l k) (bwAl s l k)+bwC (weA l k).me s.gr.er,gAt s.gr (elN s.gr) (bwPx s l k) (bwPy s l k) (bwAl s l k)+bwC (weA l k).mn s.gr.er)
def bwL (s:Stp) (l:List Wea):Cs.Wins:=(List.range (s.no.length - 1)).map (bwF s l)
theorem bwL_len (s:Stp) (l:List Wea):(bwL s l).length=s.no.length - 1:=by unfold bwL;simp
theorem bwL_get {s:Stp} {l:List Wea} {k:Nat} (hk:k+1<s.no.length):(bwL s l)[k]? = some (bwF s l k):=by
 unfold bwL
 rw [List.getElem?_map,List.getElem?_range (by omega)];rfl
theorem bwL_take {s:Stp} {l:List Wea} {k:Nat} (hk:k+1<s.no.length):(bwL s l).take (k+1)=(bwL s l).take k ++ [bwF s l k]:=take_succ_get _ k _ (bwL_get hk)
theorem weA_ok {l:List Wea} (h:∀ x ∈ l,x.ok) (k:Nat):(weA l k).ok:=by
 unfold weA
 by_cases hk:k<l.length
 ·have e:=List.getElem?_eq_getElem hk
  rw [getD_of_get e]
  exact h _ (List.mem_of_getElem? e)
 ·rw [List.getD_eq_getElem?_getD,List.getElem?_eq_none (by omega)]
  exact ⟨by decide,by decide,by unfold I64;decide,by unfold I64;decide⟩
theorem tdiv_in {S m M:Int} (h1:1000 * m≤S) (h2:S≤1000 * M):m≤S.tdiv 1000∧S.tdiv 1000≤M:=by
 by_cases h:0≤S
 ·rw [Int.tdiv_eq_ediv_of_nonneg h];omega
 ·have e:S.tdiv 1000 = -((-S) / 1000):=by
   rw [← Int.tdiv_eq_ediv_of_nonneg (show 0 ≤ -S by omega),Int.neg_tdiv];omega
  rw [e];omega
theorem bw_sum {a b k m:Int} (ha:m≤a) (hb:m≤b) (h0:0≤k) (h1:k≤1000):1000 * m≤a * (1000 - k)+b * k:=by
 have h2:=Int.mul_nonneg (show 0≤a - m by omega) (show 0≤1000 - k by omega)
 have h3:=Int.mul_nonneg (show 0≤b - m by omega) h0
 rw [Int.sub_mul] at h2 h3
 rw [Int.mul_sub,Int.mul_sub] at h2
 rw [Int.mul_sub]
 omega
theorem bw_sum' {a b k m:Int} (ha:a≤m) (hb:b≤m) (h0:0≤k) (h1:k≤1000):a * (1000 - k)+b * k≤1000 * m:=by
 have h:=bw_sum (a := -a) (b := -b) (m := -m) (by omega) (by omega) h0 h1
 rw [Int.neg_mul,Int.neg_mul] at h
 omega
theorem bwX_in {a b k:Int} (h0:0≤k) (h1:k≤1000):min a b≤bwX a b k∧bwX a b k≤max a b :=
 tdiv_in (bw_sum (by omega) (by omega) h0 h1) (bw_sum' (by omega) (by omega) h0 h1)
theorem bwH_in {lv k:Int} (hl : -200000≤lv) (h0:0≤k) (h1:k≤1000) : -200000≤bwH lv k∧bwH lv k≤lv:=by
 have h2:=Int.mul_nonneg (show 0≤lv+200000 by omega) h0
 have h3:=Int.mul_nonneg (show 0≤lv+200000 by omega) (show 0≤1000 - k by omega)
 rw [Int.mul_sub] at h3
 have h4:=tdiv_in (S:=(lv+200000) * k) (m:=0) (M:=lv+200000) (by omega) (by omega)
 unfold bwH
 omega
theorem bw_mul {a k:Int} (h0 : -2000000≤a) (h1:a≤2000000) (k0:0≤k) (k1:k≤1000) : -2000000000≤a * k∧a * k≤2000000000:=by
 have h2:=Int.mul_nonneg (show 0≤a+2000000 by omega) k0
 have h3:=Int.mul_nonneg (show 0≤2000000 - a by omega) k0
 rw [Int.add_mul] at h2
 rw [Int.sub_mul] at h3
 omega
theorem bw_mulh {a k:Int} (h0:0≤a) (h1:a≤6200000) (k0:0≤k) (k1:k≤1000):0≤a * k∧a * k≤6200000000:=by
 have h2:=Int.mul_nonneg h0 k0
 have h3:=Int.mul_nonneg (show 0≤6200000 - a by omega) k0
 rw [Int.sub_mul] at h3
 omega
theorem ptB_of {x y:Int} (hx : -2000000≤x∧x≤2000000) (hy : -2000000≤y∧y≤2000000):ptB x y=true:=by unfold ptB;rw [inB_iff.2 hx,inB_iff.2 hy];rfl
theorem mod1001 (x:Int):0≤x % 1001∧x % 1001≤1000:=by omega
theorem bw_in {s:Stp} (G:StG s) (N:StN s) (l:List Wea):WsIn s (bwL s l):=fun k hk=>by
 rw [getD_of_get (bwL_get hk)]
 have m1:=mod1001 (weA l k).pa
 have m2:=mod1001 (weA l k).al
 have hx:=bwX_in (a:=(nodA s k).px) (b:=(nodA s (k+1)).px) m1.1 m1.2
 have hy:=bwX_in (a:=(nodA s k).py) (b:=(nodA s (k+1)).py) m1.1 m1.2
 have hz:=bwH_in G.lv.1 m2.1 m2.2
 have GG:=gd_good G.gr
 have hE:=hul_in GG N.gal (E:=elE s.gr) hx hy hz
 have hN:=hul_in GG N.gal (E:=elN s.gr) hx hy hz
 have er:=GG.er
 unfold bwF bwC suH hulV hulB
 unfold bwPx bwPy bwAl
 simp only
 omega
end Go.Proofs.YtgneijdjlahgbaaGreat

namespace Go.Proofs.YtgneijdjlahgbaaGreat
set_option maxRecDepth 100000
set_option linter.unusedSimpArgs false
set_option linter.unusedVariables false
open Go.RowKit Go.ChangeShapes Go.WideShapes Go.Deep
theorem two_fieldW {H:Type} {enc:TypeId × Value→H} {P:Program} {w:World} {base:Nat} {spare:Nat→Bool} {held:Bool} {k:IntKind} {t u:TypeId} {n i:Nat} {cs:List Value} {xs:List (DataW H × List MemPlace)} {f0 f1:Field} (ht:P.underlying t=some (.struct #[f0,f1])) (hu:P.underlying u=some (.int k)) (h0:f0.type=u) (h1:f1.type=u) (o0:f0.offset=0) (o1:f1.offset=1)
  (hC:P.cellsOf t=2) (hE:P.cellsOf u=1) (hi:i<xs.length) (h:DataW.trod enc P w base spare held n t cs=xs[i]?):∃ a b,cs=[.int k a,.int k b]∧(Lit.int k a).wf=true∧(Lit.int k b).wf=true:=by
 rw [List.getElem?_eq_getElem hi] at h
 exact el_two ht hu h0 h1 o0 o1 hC hE h
theorem el_wea0 {H:Type} {enc:TypeId × Value→H} {w:World} {base:Nat} {spare:Nat→Bool} {held:Bool} (n:Nat) (cs:List Value) (y:DataW H × List MemPlace) (h:DataW.trod enc Tryz.prog w base spare held n 108 cs=some y) :
  ∃ pa al me mn:Int,cs=[.int .u16 pa,.int .u16 al,.int .i64 me,.int .i64 mn]∧(Lit.int .u16 pa).wf=true∧(Lit.int .u16 al).wf=true∧(Lit.int .i64 me).wf=true∧(Lit.int .i64 mn).wf=true:=by
 obtain ⟨xs,n',_,_,hlen,hx,hf⟩:=DataW.trod_struct Tryz.underlying108 h
 rw [show Tryz.prog.cellsOf 108 = 4 by kernel_rfl] at hlen
 have e0:DataW.trod enc Tryz.prog w base spare held n' 106 ((cs.drop 0).take (Tryz.prog.cellsOf 106))=xs[0]?:=hf 0 _ rfl
 rw [show Tryz.prog.cellsOf 106 = 1 by kernel_rfl] at e0
 obtain ⟨pa,hpa,wpa⟩:=int_field (i:=0) Tryz.underlying106 (by rw [hx];decide) e0
 have e1:DataW.trod enc Tryz.prog w base spare held n' 106 ((cs.drop 1).take (Tryz.prog.cellsOf 106))=xs[1]?:=hf 1 _ rfl
 rw [show Tryz.prog.cellsOf 106 = 1 by kernel_rfl] at e1
 obtain ⟨al,hal,wal⟩:=int_field (i:=1) Tryz.underlying106 (by rw [hx];decide) e1
 have e2:DataW.trod enc Tryz.prog w base spare held n' 87 ((cs.drop 2).take (Tryz.prog.cellsOf 87))=xs[2]?:=hf 2 _ rfl
 rw [show Tryz.prog.cellsOf 87 = 2 by kernel_rfl] at e2
 obtain ⟨me,mn,hme,wme,wmn⟩:=two_fieldW (i:=2) Tryz.underlying87 Tryz.underlying2 rfl rfl rfl rfl (by kernel_rfl) (by kernel_rfl) (by rw [hx];decide) e2
 match cs,hlen with
 | [c0,c1,c2,c3],_ =>
  simp at hpa hal hme
  simp only [hpa,hal,hme]
  exact ⟨pa,al,me,mn,rfl,wpa,wal,wme,wmn⟩
theorem el_wea {H:Type} {enc:TypeId × Value→H} {w:World} {base:Nat} {spare:Nat→Bool} {held:Bool} (n:Nat) (cs:List Value) (y:DataW H × List MemPlace) (h:DataW.trod enc Tryz.prog w base spare held n 108 cs=some y):∃ x,cs=Wea.cells x∧x.ok:=by
 obtain ⟨pa,al,me,mn,rfl,wa,wb,wc,wd⟩:=el_wea0 _ _ _ h
 have h1:=bounds_u16 wa
 have h2:=bounds_u16 wb
 exact ⟨⟨pa,al,me,mn⟩,rfl,⟨⟨h1.1,by show pa<65536;omega⟩,⟨h2.1,by show al<65536;omega⟩,wf_i64_bd wc,wf_i64_bd wd⟩⟩
instance:Inhabited Wea:=⟨⟨0,0,0,0⟩⟩
end Go.Proofs.YtgneijdjlahgbaaGreat

namespace Go.Proofs.YtgneijdjlahgbaaGreat
set_option maxRecDepth 100000
set_option maxHeartbeats 8000000
set_option linter.unusedSimpArgs false
set_option linter.unusedVariables false
open Go.RowKit
theorem bset32 {B:Nat} {w W:World} (h:Below B w W) (b i:Nat) (hb:B≤b) (v:Value):Below B w (W.setCell ⟨b,i,none⟩ v):=h.setCell (p:=⟨b,i,none⟩) hb v
theorem xFuBurn (a:Acc) (flow ticks:Int) (w:World) (h:burnE a flow ticks=0):Calls Tryz.prog 20 #[.agg #[.int .i64 a.em,.int .i64 a.ld,.int .i64 a.rs,.int .i64 a.bu],.int .i64 flow,.int .i64 ticks] w fun e w'=>e=.returned (.tuple #[.agg #[.int .i64 a.em,.int .i64 a.ld,.int .i64 a.rs,.int .i64 (a.bu+flow * ticks)],.int .i64 0])∧Below w.heap.size w w':=by
 obtain ⟨hb,hf,ht,hle⟩:=burn_ok h
 have HC:=Lib.hid (fun W=>xFuCheck a W)
 rw [acE_ok hb] at HC
 have HL:=Lib.hid (fun W=>xFuLeft a W)
 have hL:a.left=a.ld - a.bu:=if_pos hb
 rw [hL] at HL hle
 have hd:=acc_bd hb
 have H1:=Lib.hid (fun W=>xWi32 flow 50000 W)
 rw [inB_iff.2 hf] at H1
 have H2:=Lib.hid (fun W=>xWi32 ticks 1099511627776 W)
 rw [inB_iff.2 ht] at H2
 have hp:=Int.mul_nonneg hf.1 ht.1
 have wm:IntKind.i64.wrap (flow * ticks)=flow * ticks:=IntWalk.i64_in _ (by omega)
 have ws:IntKind.i64.wrap (a.bu+flow * ticks)=a.bu+flow * ticks:=IntWalk.i64_in _ (by omega)
 have hng:¬ a.ld - a.bu<flow * ticks:=by omega
 have HS:=Lib.hid (boxS2 w #[.int .i64 a.em,.int .i64 a.ld,.int .i64 a.rs,.int .i64 a.bu] #[.int .i64 0,.int .i64 0,.int .i64 0,.int .i64 0] 33 33)
 clear h hb hf ht hle hL hd hp
 go_enter Tryz.func20,Tryz.ntmps20
 go_wp2_with fail
 refine (HC.out _).mono ?_;rintro e' w1 ⟨rfl,hB⟩
 replace HS:=Lib.hid (HS.out.below hB)
 clear hB HC
 go_wp2_with fail
 refine (H1.out _).mono ?_;rintro e' w2 ⟨rfl,rfl⟩
 go_wp2_with fail
 refine (H2.out _).mono ?_;rintro e' w2 ⟨rfl,rfl⟩
 have k0:w1.cell? ⟨w.heap.size,0,none⟩=some (.int .i64 a.em):=HS.out.at 0 _ rfl 0 _ rfl
 have k1:w1.cell? ⟨w.heap.size,1,none⟩=some (.int .i64 a.ld):=HS.out.at 0 _ rfl 1 _ rfl
 have k2:w1.cell? ⟨w.heap.size,2,none⟩=some (.int .i64 a.rs):=HS.out.at 0 _ rfl 2 _ rfl
 have k3:w1.cell? ⟨w.heap.size,3,none⟩=some (.int .i64 a.bu):=HS.out.at 0 _ rfl 3 _ rfl
 go_wp2_with fail
 clear k0 k1 k2 k3
 refine (HL.out _).mono ?_;rintro e' w2 ⟨rfl,hB⟩
 replace HS:=Lib.hid (HS.out.below hB)
 clear hB HL
 have k0:w2.cell? ⟨w.heap.size,0,none⟩=some (.int .i64 a.em):=HS.out.at 0 _ rfl 0 _ rfl
 have k1:w2.cell? ⟨w.heap.size,1,none⟩=some (.int .i64 a.ld):=HS.out.at 0 _ rfl 1 _ rfl
 have k2:w2.cell? ⟨w.heap.size,2,none⟩=some (.int .i64 a.rs):=HS.out.at 0 _ rfl 2 _ rfl
 have k3:w2.cell? ⟨w.heap.size,3,none⟩=some (.int .i64 a.bu):=HS.out.at 0 _ rfl 3 _ rfl
 have r0:w2.cell? ⟨w.heap.size+1,0,none⟩=some (.int .i64 0):=HS.out.at 1 _ rfl 0 _ rfl
 have r1:w2.cell? ⟨w.heap.size+1,1,none⟩=some (.int .i64 0):=HS.out.at 1 _ rfl 1 _ rfl
 have r2:w2.cell? ⟨w.heap.size+1,2,none⟩=some (.int .i64 0):=HS.out.at 1 _ rfl 2 _ rfl
 have r3:w2.cell? ⟨w.heap.size+1,3,none⟩=some (.int .i64 0):=HS.out.at 1 _ rfl 3 _ rfl
 have f0:=fun o=>show w2.frozen? ⟨w.heap.size,o,none⟩=false from HS.out.fr 0 _ rfl o
 have f1:=fun o=>show w2.frozen? ⟨w.heap.size+1,o,none⟩=false from HS.out.fr 1 _ rfl o
 go_wp2_with fail
 exact bodyPost_ret (v:=.tuple #[.agg #[.int .i64 a.em,.int .i64 a.ld,.int .i64 a.rs,.int .i64 (a.bu+flow * ticks)],.int .i64 0]) (by simp [results,Tryz.results20,go_sem,k0,k1,k2,k3,r0,r1,r2,r3]) rfl ⟨rfl,bset32 (bset32 (bset32 (bset32 (bset32 HS.out.B _ _ (Nat.le_refl _) _) _ _ (Nat.le_add_right _ _) _) _ _ (Nat.le_add_right _ _) _) _ _ (Nat.le_add_right _ _) _) _ _ (Nat.le_add_right _ _) _⟩
end Go.Proofs.YtgneijdjlahgbaaGreat

