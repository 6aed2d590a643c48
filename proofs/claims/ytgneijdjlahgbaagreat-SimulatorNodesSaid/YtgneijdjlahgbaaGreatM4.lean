/- M4: AtR, Fu, Ln, Wg1 in one text. -/
import Derived.Test.YtgneijdjlahgbaaGreatM1
import Derived.Test.YtgneijdjlahgbaaGreatM18
import Derived.Test.YtgneijdjlahgbaaGreatM8
import Derived.Test.YtgneijdjlahgbaaGreatM3
import Derived.Test.YtgneijdjlahgbaaGreatFxOps
import Derived.Deep.QuietTactic
import Derived.BigQuiet
import Derived.Deep.RegionHeld3
import Derived.Test.YtgneijdjlahgbaaGreatM26
import Derived.Test.YtgneijdjlahgbaaGreatM31
import Derived.Test.YtgneijdjlahgbaaGreatM9
import Derived.LoopN
import Derived.WalkLawsBesides
namespace Go.Proofs.YtgneijdjlahgbaaGreat
set_option linter.unusedSimpArgs false
set_option linter.unusedVariables false
open Go.RowKit

structure ColsAt (w:World) (b c:Nat) (L:List (Int × Int)):Prop where
 lb:b<w.heap.size
 lc:c<w.heap.size
 cells:∀ k r,L[k]? = some r→w.cell? ⟨b,k,none⟩=some (.int .i64 r.1)∧w.cell? ⟨c,k,none⟩=some (.int .i64 r.2)
end Go.Proofs.YtgneijdjlahgbaaGreat

namespace Go.Proofs.YtgneijdjlahgbaaGreat
set_option maxRecDepth 100000
set_option maxHeartbeats 2000000
set_option linter.unusedSimpArgs false
set_option linter.unusedVariables false
open Go.RowKit
theorem xWi32 (n m:Int) (w:World):Calls Tryz.prog 52 #[.int .i64 n,.int .i64 m] w fun e w'=>e=.returned (.bool (inB n 0 m))∧w=w':=by
 have hv:=Lib.hid (show inB n 0 m=(decide (0≤n) && decide (n≤m)) from rfl)
 by_cases h1:n<0
 ·go_enter Tryz.func52,Tryz.ntmps52
  go_wp2
  go_ret
  exact ⟨ret_bool (by rw [hv.out,Bool.eq_iff_iff];simp;try omega),rfl⟩
 by_cases h2:m<n
 ·go_enter Tryz.func52,Tryz.ntmps52
  go_wp2
  go_ret
  exact ⟨ret_bool (by rw [hv.out,Bool.eq_iff_iff];simp;try omega),rfl⟩
 ·go_enter Tryz.func52,Tryz.ntmps52
  go_wp2
  go_ret
  exact ⟨ret_bool (by rw [hv.out,Bool.eq_iff_iff];simp;try omega),rfl⟩
theorem acE_no {a:Acc} (h:a.B=false):a.E=2:=by unfold Acc.E;rw [h,if_neg (by decide)]
theorem acE_ok {a:Acc} (h:a.B=true):a.E=0:=by unfold Acc.E;rw [if_pos h]
theorem ac_cells {a:Acc} {W:World} {b:Nat} (h:Has W b a.cells):W.cell? ⟨b,0,none⟩=some (.int .i64 a.em)∧W.cell? ⟨b,1,none⟩=some (.int .i64 a.ld)∧W.cell? ⟨b,2,none⟩=some (.int .i64 a.rs)∧W.cell? ⟨b,3,none⟩=some (.int .i64 a.bu):=⟨h.cell 0 _ rfl,h.cell 1 _ rfl,h.cell 2 _ rfl,h.cell 3 _ rfl⟩
theorem ac_eta (a:Acc):a.cells.toArray=#[.int .i64 a.em,.int .i64 a.ld,.int .i64 a.rs,.int .i64 a.bu]:=rfl
theorem xFuCheck (a:Acc) (w:World):Calls Tryz.prog 51 #[.agg #[.int .i64 a.em,.int .i64 a.ld,.int .i64 a.rs,.int .i64 a.bu]] w fun e w'=>e=.returned (.int .i64 a.E)∧Below w.heap.size w w':=by
 have HB:=Lib.hid (show a.B=(inB a.em 1 3000000000 && inB a.ld 0 (3000000000 - a.em) && inB a.rs 0 a.ld && inB a.bu 0 a.ld) from rfl)
 by_cases h1:a.em<1
 ·have HF:=Lib.hid (acE_no (a:=a) (by rw [HB.out];unfold inB;simp;omega))
  go_enter Tryz.func51,Tryz.ntmps51
  go_wp2
  go_ret
  exact ⟨ret_int HF.out.symm,below_alloc1 _ _⟩
 by_cases h2:3000000000<a.em
 ·have HF:=Lib.hid (acE_no (a:=a) (by rw [HB.out];unfold inB;simp;omega))
  go_enter Tryz.func51,Tryz.ntmps51
  go_wp2
  go_ret
  exact ⟨ret_int HF.out.symm,below_alloc1 _ _⟩
 have G0:=Lib.hid (show inB a.em 1 3000000000=true by unfold inB;simp;omega)
 go_enter Tryz.func51,Tryz.ntmps51
 go_wp2_with fail
 refine (xWi32 _ _ _).mono ?_;rintro e wx ⟨rfl,rfl⟩
 cases g:inB a.ld 0 (3000000000 - a.em)
 ·have HF:=Lib.hid (acE_no (a:=a) (by rw [HB.out,g];simp))
  clear g
  go_wp2_with fail
  go_ret
  exact ⟨ret_int HF.out.symm,below_alloc1 _ _⟩
 have G1:=Lib.hid g
 clear g
 go_wp2_with fail
 refine (xWi32 _ _ _).mono ?_;rintro e wx ⟨rfl,rfl⟩
 cases g:inB a.rs 0 a.ld
 ·have HF:=Lib.hid (acE_no (a:=a) (by rw [HB.out,g];simp))
  clear g
  go_wp2_with fail
  go_ret
  exact ⟨ret_int HF.out.symm,below_alloc1 _ _⟩
 have G2:=Lib.hid g
 clear g
 go_wp2_with fail
 refine (xWi32 _ _ _).mono ?_;rintro e wx ⟨rfl,rfl⟩
 cases g:inB a.bu 0 a.ld
 ·have HF:=Lib.hid (acE_no (a:=a) (by rw [HB.out,g];simp))
  clear g
  go_wp2_with fail
  go_ret
  exact ⟨ret_int HF.out.symm,below_alloc1 _ _⟩
 have G3:=Lib.hid g
 clear g
 have HF:=Lib.hid (acE_ok (a:=a) (by rw [HB.out,G0.out,G1.out,G2.out,G3.out];rfl))
 go_wp2_with fail
 go_ret
 exact ⟨ret_int HF.out.symm,below_alloc1 _ _⟩
theorem xFuLeft (a:Acc) (w:World):Calls Tryz.prog 19 #[.agg #[.int .i64 a.em,.int .i64 a.ld,.int .i64 a.rs,.int .i64 a.bu]] w fun e w'=>e=.returned (.int .i64 a.left)∧Below w.heap.size w w':=by
 cases hb:a.B
 ·have HF:=Lib.hid (show a.left=0 by unfold Acc.left;rw [hb,if_neg (by decide)])
  have HC:=Lib.hid (fun W=>xFuCheck a W)
  rw [acE_no hb] at HC
  clear hb
  go_enter Tryz.func19,Tryz.ntmps19
  go_wp2_with fail
  refine (HC.out _).mono ?_;rintro e w1 ⟨rfl,hB⟩
  have HB:=Lib.hid (bel_alloc hB)
  clear hB
  go_wp2_with fail
  go_ret
  exact ⟨ret_int HF.out.symm,HB.out⟩
 have HF:=Lib.hid (show a.left=a.ld - a.bu from if_pos hb)
 have HC:=Lib.hid (fun W=>xFuCheck a W)
 rw [acE_ok hb] at HC
 have hd:=acc_bd hb
 clear hb
 go_enter Tryz.func19,Tryz.ntmps19
 go_wp2_with fail
 refine (HC.out _).mono ?_;rintro e w1 ⟨rfl,hB⟩
 have KB:Hid (Has w1 w.heap.size a.cells):=Lib.hid ((Has.new w #[.int .i64 a.em,.int .i64 a.ld,.int .i64 a.rs,.int .i64 a.bu] 33).below hB)
 have HB:=Lib.hid (bel_alloc hB)
 clear hB
 have k0:w1.cell? ⟨w.heap.size,0,none⟩=some (.int .i64 a.em):=KB.out.cell 0 _ rfl
 have k1:w1.cell? ⟨w.heap.size,1,none⟩=some (.int .i64 a.ld):=KB.out.cell 1 _ rfl
 have k2:w1.cell? ⟨w.heap.size,2,none⟩=some (.int .i64 a.rs):=KB.out.cell 2 _ rfl
 have k3:w1.cell? ⟨w.heap.size,3,none⟩=some (.int .i64 a.bu):=KB.out.cell 3 _ rfl
 go_wp2_with fail
 go_ret
 exact ⟨ret_int HF.out.symm,HB.out⟩
theorem xFuMass (a:Acc) (w:World):Calls Tryz.prog 63 #[.agg #[.int .i64 a.em,.int .i64 a.ld,.int .i64 a.rs,.int .i64 a.bu]] w fun e w'=>e=.returned (.int .i64 a.mass)∧Below w.heap.size w w':=by
 cases hb:a.B
 ·have HF:=Lib.hid (show a.mass=0 by unfold Acc.mass;rw [hb,if_neg (by decide)])
  have HC:=Lib.hid (fun W=>xFuCheck a W)
  rw [acE_no hb] at HC
  clear hb
  go_enter Tryz.func63,Tryz.ntmps63
  go_wp2_with fail
  refine (HC.out _).mono ?_;rintro e w1 ⟨rfl,hB⟩
  have HB:=Lib.hid (bel_alloc hB)
  clear hB
  go_wp2_with fail
  go_ret
  exact ⟨ret_int HF.out.symm,HB.out⟩
 have HF:=Lib.hid (show a.mass=a.em+(a.ld - a.bu) from if_pos hb)
 have HC:=Lib.hid (fun W=>xFuCheck a W)
 rw [acE_ok hb] at HC
 have HL:=Lib.hid (fun W=>xFuLeft a W)
 rw [show a.left=a.ld - a.bu from if_pos hb] at HL
 have hd:=acc_bd hb
 clear hb
 go_enter Tryz.func63,Tryz.ntmps63
 go_wp2_with fail
 refine (HC.out _).mono ?_;rintro e w1 ⟨rfl,hB⟩
 have KB:Hid (Has w1 w.heap.size a.cells):=Lib.hid ((Has.new w #[.int .i64 a.em,.int .i64 a.ld,.int .i64 a.rs,.int .i64 a.bu] 33).below hB)
 have HB:=Lib.hid (bel_alloc hB)
 clear hB
 have k0:w1.cell? ⟨w.heap.size,0,none⟩=some (.int .i64 a.em):=KB.out.cell 0 _ rfl
 have k1:w1.cell? ⟨w.heap.size,1,none⟩=some (.int .i64 a.ld):=KB.out.cell 1 _ rfl
 have k2:w1.cell? ⟨w.heap.size,2,none⟩=some (.int .i64 a.rs):=KB.out.cell 2 _ rfl
 have k3:w1.cell? ⟨w.heap.size,3,none⟩=some (.int .i64 a.bu):=KB.out.cell 3 _ rfl
 go_wp2_with fail
 go_region_held3 (fun W=>W.cell? ⟨w.heap.size,0,none⟩=some (.int .i64 a.em)∧W.cell? ⟨w.heap.size,1,none⟩=some (.int .i64 a.ld)∧W.cell? ⟨w.heap.size,2,none⟩=some (.int .i64 a.rs)∧W.cell? ⟨w.heap.size,3,none⟩=some (.int .i64 a.bu)) ((first | exact ac_cells (Hid.out (by assumption)) | exact ac_cells (Has.drew (Hid.out (by assumption))))) ((go_at_call 19;refine (HL.out _).mono ?_;rintro e wx ⟨rfl,hB⟩;have KC:Hid (Has wx w.heap.size a.cells):=Lib.hid (Has.below (by first | exact Hid.out (by assumption) | exact Has.drew (Hid.out (by assumption))) hB);have BB:Hid (Below w.heap.size w wx):=Lib.hid (bel_trans (by first | exact Hid.out (by assumption) | exact Below.drew (Hid.out (by assumption))) hB);clear hB))
 all_goals (
  go_wp2_with fail
  go_ret
  exact ⟨ret_int (by rw [HF.out];exact IntWalk.i64_in _ (by omega)),BB.out⟩)
end Go.Proofs.YtgneijdjlahgbaaGreat

namespace Go.Proofs.YtgneijdjlahgbaaGreat
set_option maxRecDepth 100000
set_option maxHeartbeats 2000000
set_option linter.unusedSimpArgs false
set_option linter.unusedVariables false
open Go.RowKit
open Tr
def ptC (p:Int × Int):List Value:=(lz2 p.1 p.2)
def lnB (px py qx qy:Int):Bool:=ptB px py && ptB qx qy
def coE (px py qx qy:Int):Int:=if lnB px py qx qy=false then 1 else if px=qx∧py=qy then 10 else 0
noncomputable def coV (px py qx qy:Int):Int:=if coE px py qx qy≠0 then 0 else atV (qx - px) (qy - py)
def diV (px py qx qy:Int):Int:=if lnB px py qx qy=false then 0 else sqV ((qx - px) * (qx - px)+(qy - py) * (qy - py))
theorem coE_1 {px py qx qy:Int} (h:lnB px py qx qy=false):coE px py qx qy=1:=if_pos h
theorem coE_10 {px py qx qy:Int} (h:lnB px py qx qy=true) (h2:px=qx∧py=qy):coE px py qx qy=10:=by unfold coE;rw [h,if_neg (by decide),if_pos h2]
theorem coE_0 {px py qx qy:Int} (h:lnB px py qx qy=true) (h2:¬ (px=qx∧py=qy)):coE px py qx qy=0:=by unfold coE;rw [h,if_neg (by decide),if_neg h2]
theorem coV_e {px py qx qy:Int} (h:coE px py qx qy≠0):coV px py qx qy=0:=if_pos h
theorem coV_0 {px py qx qy:Int} (h:coE px py qx qy=0):coV px py qx qy=atV (qx - px) (qy - py):=by unfold coV;rw [h,if_neg (by decide)]
theorem lnB_bd {px py qx qy:Int} (h:lnB px py qx qy=true):(-2000000≤px∧px≤2000000)∧(-2000000≤py∧py≤2000000)∧(-2000000≤qx∧qx≤2000000)∧(-2000000≤qy∧qy≤2000000):=by
 unfold lnB at h
 rw [Bool.and_eq_true] at h
 have h1:=ptB_iff.1 h.1
 have h2:=ptB_iff.1 h.2
 exact ⟨h1.1,h1.2,h2.1,h2.2⟩
theorem at0 {px py qx qy:Int} (h:lnB px py qx qy=true) (h2:¬ (px=qx∧py=qy)):atE (qx - px) (qy - py)=0:=by
 have:=lnB_bd h
 exact atE_0 (by simp [outB];omega) (by omega)
theorem coV_bd (px py qx qy:Int):0≤coV px py qx qy∧coV px py qx qy≤129600000:=by
 unfold coV
 split
 ·omega
 ·have:=atV_bd (qx - px) (qy - py);omega
theorem sqd_le {d:Int} (h : -4000000≤d∧d≤4000000):0≤d * d∧d * d≤16000000000000:=by
 have e:d * d=((d.natAbs * d.natAbs:Nat):Int):=Int.natAbs_mul_self.symm
 have h1:d.natAbs≤4000000:=by omega
 have h2:d.natAbs * d.natAbs≤4000000 * 4000000:=Nat.mul_le_mul h1 h1
 omega
theorem sqV_sq {n:Int} (h:0≤n):sqV n * sqV n≤n:=by
 have h2:=(Fx.isq_spec n.toNat).1
 unfold sqV
 generalize Fx.isq n.toNat=r at *
 have:((r * r:Nat):Int)≤n:=by omega
 rwa [Int.natCast_mul] at this
theorem diV_bd (px py qx qy:Int):0≤diV px py qx qy∧diV px py qx qy≤8000000:=by
 unfold diV
 cases h:lnB px py qx qy
 ·rw [if_pos rfl];decide
 ·rw [if_neg (by decide)]
  obtain ⟨b1,b2,b3,b4⟩:=lnB_bd h
  have s1:=sqd_le (d:=qx - px) (by omega)
  have s2:=sqd_le (d:=qy - py) (by omega)
  obtain ⟨c0,c1,c2⟩:=sqV_bd ((qx - px) * (qx - px)+(qy - py) * (qy - py)) (by omega)
  refine ⟨by omega,?_⟩
  by_cases hq:sqV ((qx - px) * (qx - px)+(qy - py) * (qy - py))≤8000000
  ·exact hq
  ·exfalso
   have h3:=sqV_sq (n:=(qx - px) * (qx - px)+(qy - py) * (qy - py)) (by omega)
   have:(8000001:Int) * 8000001≤sqV ((qx - px) * (qx - px)+(qy - py) * (qy - py)) * sqV ((qx - px) * (qx - px)+(qy - py) * (qy - py)):=Int.mul_le_mul (by omega) (by omega) (by decide) (by omega)
   omega
def VaRel (l:List (Int × Int)) (n:Nat) (w:World) (t:Value) (wr:World):Prop:=∃ k:Nat,k≤n∧t=.int .i64 k∧((l.take k).all fun p=>ptB p.1 p.2)=true∧Below w.heap.size w wr
theorem all_noP {α:Type} {l:List α} {f:α→Bool} {k:Nat} {q:α} (h:l[k]? = some q) (hf:f q=false):l.all f=false:=by
 rw [List.all_eq_false];exact ⟨q,List.mem_of_getElem? h,by rw [hf];decide⟩
theorem xVal (A:Option Addr) (n c:Nat) (l:List (Int × Int)) (w:World) (hl:Recs ptC 2 w A n l) (hn:n≤maxLen):Calls Tryz.prog 151 #[.slice A n c] w fun e w'=>e=.returned (.bool (l.all fun p=>ptB p.1 p.2))∧Below w.heap.size w w':=by
 have HE:=Lib.hid hl
 have HL:=Lib.hid hl.len
 unfold maxLen at hn
 clear hl
 go_enter Tryz.func151,Tryz.ntmps151
 go_wp2_with fail
 go_loopw [7] (fun t wr=>VaRel l n w t wr) (fun t _=>n - (intOf t).toNat)
 case atStart=>exact ⟨0,by omega,rfl,by simp,Below.refl _ _⟩
 case round =>
  obtain ⟨k,hk,rfl,hall,hB⟩:=hrel
  have HB1:=Lib.hid hB
  have HAL:=Lib.hid hall
  clear hall hB
  by_cases hlt:k<n
  ·obtain ⟨q,hq⟩:=get_ex HL.out hlt
   obtain ⟨b,off,rfl,hb,hc⟩:=HE.out.cells (by omega)
   have c0:wr.cell? ⟨b,off+k * 2,none⟩=some (.int .i64 q.1):=(HB1.out.cell (p:=⟨b,_,none⟩) hb).trans (hc k q hq 0 _ rfl)
   have c1:wr.cell? ⟨b,off+k * 2+1,none⟩=some (.int .i64 q.2):=(HB1.out.cell (p:=⟨b,_,none⟩) hb).trans (hc k q hq 1 _ rfl)
   have HQ:=Lib.hid hq
   have HT:=Lib.hid (take_succ_get l k q hq)
   clear hc hq
   go_wp2_with fail
   refine (xValid _ _ _).mono ?_;rintro e w2 ⟨rfl,hB⟩
   have HB2:=Lib.hid (bel_trans HB1.out (bel_alloc hB))
   clear hB
   cases g1:ptB q.1 q.2
   ·have G:=Lib.hid (show (l.all fun p=>ptB p.1 p.2)=false from all_noP HQ.out g1)
    clear g1
    go_wp2_with fail
    go_ret
    exact ⟨ret_bool (by rw [G.out]),HB2.out⟩
   have G1:=Lib.hid g1
   clear g1
   go_wp2_with fail
   go_roundw
   case rel=>exact ⟨k+1,by omega,by go_num,by rw [HT.out,List.all_append,HAL.out];simp [G1.out],HB2.out⟩
   case measure=>simp only [intOf];omega
  ·have HA:=Lib.hid (show (l.all fun p=>ptB p.1 p.2)=true by have:=HAL.out;rwa [List.take_of_length_le (by rw [HL.out];omega)] at this)
   go_wp2_with fail
   go_ret
   exact ⟨ret_bool (by rw [HA.out]),HB1.out⟩
theorem xVal2 (px py qx qy:Int) (T:TypeId) (w:World) (H:Nat) (hH:w.heap.size=H):Calls Tryz.prog 151 #[.slice (some ⟨H,0,none⟩) 2 2] (w.alloc (.cells #[.int .i64 px,.int .i64 py,.int .i64 qx,.int .i64 qy] T)) fun e w'=>e=.returned (.bool (lnB px py qx qy))∧Below w.heap.size w w':=by
 subst hH
 refine (xVal _ 2 2 [(px,py),(qx,qy)] _ (Recs.of_alloc (f:=ptC) (sz:=2) (fun _=>rfl) w _ T [(px,py),(qx,qy)] 2 rfl rfl _ rfl) (by unfold maxLen;omega)).mono fun e w' ⟨h1,h2⟩=>⟨?_,bel_alloc h2⟩
 rw [h1]
 simp [lnB]
theorem xVec (px py qx qy:Int) (hx : -9223372036854775808≤qx - px∧qx - px≤9223372036854775807) (hy : -9223372036854775808≤qy - py∧qy - py≤9223372036854775807) (w:World):Calls Tryz.prog 152 #[.agg #[.int .i64 px,.int .i64 py],.agg #[.int .i64 qx,.int .i64 qy]] w fun e w'=>e=.returned (.agg #[.int .i64 (qx - px),.int .i64 (qy - py)])∧Below w.heap.size w w':=by
 obtain ⟨x0,x1⟩:=hx
 obtain ⟨y0,y1⟩:=hy
 go_enter Tryz.func152,Tryz.ntmps152
 go_wp2_with fail
 exact bodyPost_ret (v:=.agg #[.int .i64 (qx - px),.int .i64 (qy - py)]) (by simp [results,Tryz.results152,go_sem]) rfl ⟨rfl,below_alloc3 w _ _ _⟩
theorem xDot (x y:Int) (hx : -4000000≤x∧x≤4000000) (hy : -4000000≤y∧y≤4000000) (w:World):Calls Tryz.prog 163 #[.agg #[.int .i64 x,.int .i64 y],.agg #[.int .i64 x,.int .i64 y]] w fun e w'=>e=.returned (.int .i64 (x * x+y * y))∧Below w.heap.size w w':=by
 obtain ⟨a0,a1⟩:=sqd_le hx
 obtain ⟨b0,b1⟩:=sqd_le hy
 clear hx hy
 go_enter Tryz.func163,Tryz.ntmps163
 go_wp2_with fail
 go_ret
 exact ⟨rfl,below_alloc2 w _ _⟩
theorem xCourse (px py qx qy:Int) (w:World):Calls Tryz.prog 103 #[.agg #[.int .i64 px,.int .i64 py],.agg #[.int .i64 qx,.int .i64 qy]] w fun e w'=>e=.returned (.tuple #[.int .i64 (coV px py qx qy),.int .i64 (coE px py qx qy)])∧Below w.heap.size w w':=by
 go_enter Tryz.func103,Tryz.ntmps103
 go_wp2_with fail
 refine (xVal2 px py qx qy _ _ _ (by simp)).mono ?_;rintro e w1 ⟨rfl,hB⟩
 have K1:Hid (Has w1 w.heap.size (lz2 px py)):=Lib.hid (((Has.new w _ _).alloc _).below hB)
 have K2:Hid (Has w1 (w.heap.size+1) (lz2 qx qy)):=Lib.hid ((Has.newAt (w.alloc _) _ _ (w.heap.size+1) (by simp)).below hB)
 have HB:=Lib.hid ((below_alloc2 w _ _).trans (hB.mono (by simp;omega)))
 clear hB
 cases hl:lnB px py qx qy
 ·have HE:=Lib.hid (coE_1 hl)
  have HV:=Lib.hid (coV_e (px:=px) (py:=py) (qx:=qx) (qy:=qy) (by rw [HE.out];decide))
  clear hl
  go_wp2_with fail
  go_ret2
  exact ⟨ret_tup2 HV.out.symm HE.out.symm,HB.out⟩
 have hb:=lnB_bd hl
 have HLN:=Lib.hid hl
 clear hl
 have k0:w1.cell? ⟨w.heap.size,0,none⟩=some (.int .i64 px):=K1.out.cell 0 _ rfl
 have k1:w1.cell? ⟨w.heap.size,1,none⟩=some (.int .i64 py):=K1.out.cell 1 _ rfl
 have k2:w1.cell? ⟨w.heap.size+1,0,none⟩=some (.int .i64 qx):=K2.out.cell 0 _ rfl
 have k3:w1.cell? ⟨w.heap.size+1,1,none⟩=some (.int .i64 qy):=K2.out.cell 1 _ rfl
 by_cases hz:px=qx∧py=qy
 ·have HE:=Lib.hid (coE_10 HLN.out hz)
  have HV:=Lib.hid (coV_e (px:=px) (py:=py) (qx:=qx) (qy:=qy) (by rw [HE.out];decide))
  have z1:(px == qx)=true:=beq_iff_eq.2 hz.1
  have z2:(py == qy)=true:=beq_iff_eq.2 hz.2
  clear hz hb
  go_wp2_with fail
  go_ret2
  exact ⟨ret_tup2 HV.out.symm HE.out.symm,HB.out⟩
 have HE:=Lib.hid (coE_0 HLN.out hz)
 have HV:=Lib.hid (coV_0 HE.out)
 have HAT:=Lib.hid (fun w'=>xAtan2 (qx - px) (qy - py) ⟨by omega,by omega⟩ ⟨by omega,by omega⟩ w')
 rw [at0 HLN.out hz] at HAT
 have HVC:=Lib.hid (xVec px py qx qy ⟨by omega,by omega⟩ ⟨by omega,by omega⟩)
 rcases (show (px == qx)=false∨((px == qx)=true∧(py == qy)=false) by
  cases h:(px == qx)
  ·exact .inl rfl
  ·refine .inr ⟨rfl,beq_eq_false_iff_ne.2 fun h2=>hz ⟨beq_iff_eq.1 h,h2⟩⟩) with z1 | ⟨z1,z2⟩
 all_goals (
  clear hz
  obtain ⟨⟨p0,p1⟩,⟨p2,p3⟩,⟨r0,r1⟩,r2,r3⟩:=hb
  go_wp2_with fail
  refine (HVC.out _).mono ?_;rintro e w2 ⟨rfl,hB⟩
  replace HB:=Lib.hid (bel_trans HB.out hB)
  clear hB k0 k1 k2 k3
  go_wp2_with fail
  refine (HAT.out _).mono ?_;rintro e w3 ⟨rfl,hB⟩
  replace HB:=Lib.hid (bel_trans HB.out (bel_alloc hB))
  clear hB
  go_wp2_with fail
  go_ret2
  exact ⟨ret_tup2 HV.out.symm HE.out.symm,HB.out⟩)
theorem xDist (px py qx qy:Int) (w:World):Calls Tryz.prog 134 #[.agg #[.int .i64 px,.int .i64 py],.agg #[.int .i64 qx,.int .i64 qy]] w fun e w'=>e=.returned (.int .i64 (diV px py qx qy))∧Below w.heap.size w w':=by
 go_enter Tryz.func134,Tryz.ntmps134
 go_wp2_with fail
 refine (xVal2 px py qx qy _ _ _ (by simp)).mono ?_;rintro e w1 ⟨rfl,hB⟩
 have K1:Hid (Has w1 w.heap.size (lz2 px py)):=Lib.hid (((Has.new w _ _).alloc _).below hB)
 have K2:Hid (Has w1 (w.heap.size+1) (lz2 qx qy)):=Lib.hid ((Has.newAt (w.alloc _) _ _ (w.heap.size+1) (by simp)).below hB)
 have HB:=Lib.hid ((below_alloc2 w _ _).trans (hB.mono (by simp;omega)))
 clear hB
 cases hl:lnB px py qx qy
 ·have HE:=Lib.hid (show diV px py qx qy=0 from if_pos hl)
  clear hl
  go_wp2_with fail
  go_ret
  exact ⟨ret_int HE.out.symm,HB.out⟩
 have hb:=lnB_bd hl
 have HE:=Lib.hid (show diV px py qx qy=sqV ((qx - px) * (qx - px)+(qy - py) * (qy - py)) by unfold diV;rw [hl,if_neg (by decide)])
 clear hl
 have k0:w1.cell? ⟨w.heap.size,0,none⟩=some (.int .i64 px):=K1.out.cell 0 _ rfl
 have k1:w1.cell? ⟨w.heap.size,1,none⟩=some (.int .i64 py):=K1.out.cell 1 _ rfl
 have k2:w1.cell? ⟨w.heap.size+1,0,none⟩=some (.int .i64 qx):=K2.out.cell 0 _ rfl
 have k3:w1.cell? ⟨w.heap.size+1,1,none⟩=some (.int .i64 qy):=K2.out.cell 1 _ rfl
 have s1:=sqd_le (d:=qx - px) (by omega)
 have s2:=sqd_le (d:=qy - py) (by omega)
 have HSQ:=Lib.hid (xSqrt ((qx - px) * (qx - px)+(qy - py) * (qy - py)) (by omega))
 have HDT:=Lib.hid (xDot (qx - px) (qy - py) (by omega) (by omega))
 have HVC:=Lib.hid (xVec px py qx qy ⟨by omega,by omega⟩ ⟨by omega,by omega⟩)
 clear s1 s2 hb
 generalize (qx - px) * (qx - px)+(qy - py) * (qy - py)=QQ at *
 generalize qx - px=dx at *
 generalize qy - py=dy at *
 go_wp2_with fail
 refine (HVC.out _).mono ?_;rintro e w2 ⟨rfl,hB⟩
 replace HB:=Lib.hid (bel_trans HB.out hB)
 clear hB k0 k1 k2 k3
 go_wp2_with fail
 refine (HDT.out _).mono ?_;rintro e w3 ⟨rfl,hB⟩
 replace HB:=Lib.hid (bel_trans HB.out (bel_alloc hB))
 clear hB
 go_wp2_with fail
 refine (HSQ.out _).mono ?_;rintro e w4 ⟨rfl,rfl⟩
 go_wp2_with fail
 go_ret
 exact ⟨ret_int HE.out.symm,HB.out⟩
end Go.Proofs.YtgneijdjlahgbaaGreat

namespace Go.Proofs.YtgneijdjlahgbaaGreat
set_option maxRecDepth 100000
set_option maxHeartbeats 2000000
set_option linter.unusedSimpArgs false
set_option linter.unusedVariables false
open Go.RowKit
open Tr
def GsPost (co tas e n:Int) (w:World) (e':Ending) (w':World):Prop:=∃ d:Int,e'=.returned (.tuple #[.int .i64 (gsV co tas e n),.int .i64 d,.int .i64 (gsE co tas e n)])∧Below w.heap.size w w'
theorem gsPost_err {co tas e n E:Int} {w w':World} (hE:gsE co tas e n=E) (h0:E≠0) (hb:Below w.heap.size w w'):GsPost co tas e n w (.returned (.tuple #[.int .i64 0,.int .i64 0,.int .i64 E])) w' :=
 ⟨0,ret_tup3i (by unfold gsV;rw [if_neg (by rw [hE];exact h0)]) rfl hE.symm,hb⟩
theorem gs_e1 {co tas e n:Int} (h:(wiB e n && inB tas 1 4000)=false):gsE co tas e n=1:=if_pos h
theorem gs_e2 {co tas e n:Int} (h:(wiB e n && inB tas 1 4000)=true) (h2:tas * 1024≤absI (acV co e n)):gsE co tas e n=10:=by unfold gsE;rw [h,if_neg (by decide),if_pos h2]
theorem gs_e3 {co tas e n:Int} (h:(wiB e n && inB tas 1 4000)=true) (h2:¬ tas * 1024≤absI (acV co e n)) (h3:alV co e n+gsR co tas e n<1024):gsE co tas e n=10:=by unfold gsE;rw [h,if_neg (by decide),if_neg h2,if_pos h3]
theorem gs_e0 {co tas e n:Int} (h:(wiB e n && inB tas 1 4000)=true) (h2:¬ tas * 1024≤absI (acV co e n)) (h3:¬ alV co e n+gsR co tas e n<1024):gsE co tas e n=0∧gsV co tas e n=alV co e n+gsR co tas e n:=by
 have e:gsE co tas e n=0:=by unfold gsE;rw [h,if_neg (by decide),if_neg h2,if_neg h3]
 exact ⟨e,if_pos e⟩
theorem sq_bd {T:Int} (h0:0≤T) (h1:T≤4096000):0≤T * T∧T * T≤16777216000000:=by
 have:=Int.mul_le_mul h1 h1 h0 (by decide)
 have:=Int.mul_nonneg h0 h0
 omega
theorem sq_bd' {T:Int} (h0 : -819200≤T) (h1:T≤819200):0≤T * T∧T * T≤671088640000:=by
 have:=mul_bd (A:=819200) (X:=819200) ⟨h0,h1⟩ ⟨h0,h1⟩
 have:0≤T * T:=by
  rcases Int.le_total 0 T with h | h
  ·exact Int.mul_nonneg h h
  ·exact Int.mul_nonneg_of_nonpos_of_nonpos h h
 omega
theorem xGround (co tas e n:Int) (hco:I64 co) (w:World):Calls Tryz.prog 105 #[.int .i64 co,.int .i64 tas,.agg #[.int .i64 e,.int .i64 n]] w (GsPost co tas e n w):=by
 have HP:=Lib.hid (fun W=>xParts co e n hco W)
 have HS:=Lib.hid (fun W=>xWSpeed tas W)
 clear hco
 cases g:wiB e n
 ·rw [show ptE e n=1 by unfold ptE;rw [g];rfl,show ptA co e n=0 by unfold ptA;rw [g];rfl,show ptX co e n=0 by unfold ptX;rw [g];rfl] at HP
  have HF:=Lib.hid (fun (e':Ending) (w':World) (hb:Below w.heap.size w w')=>gsPost_err (co:=co) (tas:=tas) (gs_e1 (by rw [g];rfl)) (by decide) hb)
  clear g
  go_enter Tryz.func105,Tryz.ntmps105
  go_wp2_with fail
  refine (HP.out _).mono ?_;rintro e' w1 ⟨rfl,hB⟩
  have HB:=Lib.hid (bel_alloc hB)
  clear hB
  go_wp2_with fail
  go_ret3
  exact HF.out (.returned (.tuple #[])) _ HB.out
 rw [show ptE e n=0 by unfold ptE;rw [g];rfl,show ptA co e n=alV co e n by unfold ptA;rw [g];rfl,show ptX co e n=acV co e n by unfold ptX;rw [g];rfl] at HP
 cases g2:inB tas 1 4000
 ·have HF:=Lib.hid (fun (w':World) (hb:Below w.heap.size w w')=>gsPost_err (co:=co) (tas:=tas) (gs_e1 (by rw [g,g2];rfl)) (by decide) hb)
  rw [g2] at HS
  clear g g2
  generalize alV co e n=al at *
  generalize acV co e n=ac at *
  go_enter Tryz.func105,Tryz.ntmps105
  go_wp2_with fail
  refine (HP.out _).mono ?_;rintro e' w1 ⟨rfl,hB⟩
  have HB:=Lib.hid (bel_alloc hB)
  clear hB
  go_wp2_with fail
  refine (HS.out _).mono ?_;rintro e' wx ⟨rfl,rfl⟩
  go_wp2_with fail
  go_ret3
  exact HF.out _ HB.out
 have hg:(wiB e n && inB tas 1 4000)=true:=by rw [g,g2];rfl
 obtain ⟨t0,t1⟩:=inB_iff.1 g2
 obtain ⟨⟨a0,a1⟩,b0,b1⟩:=al_bd' (co:=co) g
 rw [g2] at HS
 have HR:=Lib.hid (show gsR co tas e n=sqV (tas * 1024 * (tas * 1024) - acV co e n * acV co e n) from rfl)
 have q1:=sq_bd (T:=tas * 1024) (by omega) (by omega)
 have q2:=sq_bd' b0 b1
 clear g g2
 by_cases h0:tas * 1024≤acV co e n
 ·have HF:=Lib.hid (fun (w':World) (hb:Below w.heap.size w w')=>gsPost_err (gs_e2 (co:=co) hg (by unfold absI;omega)) (by decide) hb)
  clear HR q1 q2 hg
  generalize alV co e n=al at *
  generalize acV co e n=ac at *
  go_enter Tryz.func105,Tryz.ntmps105
  go_wp2_with fail
  refine (HP.out _).mono ?_;rintro e' w1 ⟨rfl,hB⟩
  have HB:=Lib.hid (bel_alloc hB)
  clear hB
  go_wp2_with fail
  refine (HS.out _).mono ?_;rintro e' wx ⟨rfl,rfl⟩
  go_wp2_with fail
  go_ret3
  exact HF.out _ HB.out
 by_cases h1:tas * 1024 ≤ -acV co e n
 ·have HF:=Lib.hid (fun (w':World) (hb:Below w.heap.size w w')=>gsPost_err (gs_e2 (co:=co) hg (by unfold absI;omega)) (by decide) hb)
  clear HR q1 q2 hg
  generalize alV co e n=al at *
  generalize acV co e n=ac at *
  go_enter Tryz.func105,Tryz.ntmps105
  go_wp2_with fail
  refine (HP.out _).mono ?_;rintro e' w1 ⟨rfl,hB⟩
  have HB:=Lib.hid (bel_alloc hB)
  clear hB
  go_wp2_with fail
  refine (HS.out _).mono ?_;rintro e' wx ⟨rfl,rfl⟩
  go_wp2_with fail
  go_ret3
  exact HF.out _ HB.out
 have hn:¬ tas * 1024≤absI (acV co e n):=by unfold absI;omega
 have HQ:=Lib.hid (fun W=>xSqrt (tas * 1024 * (tas * 1024) - acV co e n * acV co e n) (by omega) W)
 have hr:=sqV_bd (tas * 1024 * (tas * 1024) - acV co e n * acV co e n) (by omega)
 rw [← HR.out] at HQ hr
 have u1:IntKind.i64.wrap (tas * 1024 * (tas * 1024))=tas * 1024 * (tas * 1024):=i64_w (by omega) (by omega)
 have u2:IntKind.i64.wrap (acV co e n * acV co e n)=acV co e n * acV co e n:=i64_w (by omega) (by omega)
 have u3:IntKind.i64.wrap (tas * 1024 * (tas * 1024) - acV co e n * acV co e n)=tas * 1024 * (tas * 1024) - acV co e n * acV co e n:=i64_w (by omega) (by omega)
 obtain ⟨r0,r1,_⟩:=hr
 by_cases h3:alV co e n+gsR co tas e n<1024
 ·have HF:=Lib.hid (fun (w':World) (hb:Below w.heap.size w w')=>gsPost_err (gs_e3 (co:=co) hg hn h3) (by decide) hb)
  clear HR q1 q2 hg hn
  generalize gsR co tas e n=R at *
  generalize alV co e n=al at *
  generalize acV co e n=ac at *
  go_enter Tryz.func105,Tryz.ntmps105
  go_wp2_with fail
  refine (HP.out _).mono ?_;rintro e' w1 ⟨rfl,hB⟩
  have HB:=Lib.hid (bel_alloc hB)
  clear hB
  go_wp2_with fail
  refine (HS.out _).mono ?_;rintro e' wx ⟨rfl,rfl⟩
  go_wp2_with fail
  refine (HQ.out _).mono ?_;rintro e' wx ⟨rfl,rfl⟩
  go_wp2_with fail
  go_ret3
  exact HF.out _ HB.out
 obtain ⟨z0,z1⟩:=gs_e0 (co:=co) hg hn h3
 have HAT:=Lib.hid (fun W=>xAtan2 (-acV co e n) (gsR co tas e n) (by unfold I64;omega) (by unfold I64;omega) W)
 have hat:=atV_bd (-acV co e n) (gsR co tas e n)
 have HDF:=Lib.hid (fun W=>xDiff 0 (atV (-acV co e n) (gsR co tas e n)) (by unfold I64;omega) (by unfold I64;omega) W)
 have HF:=Lib.hid (fun (d:Int) (w':World) (hb:Below w.heap.size w w')=>(show GsPost co tas e n w (.returned (.tuple #[.int .i64 (alV co e n+gsR co tas e n),.int .i64 d,.int .i64 0])) w' from ⟨d,ret_tup3i z1.symm rfl z0.symm,hb⟩))
 clear HR q1 q2 hg hn z0 z1 hat
 generalize diffV 0 (atV (-acV co e n) (gsR co tas e n))=D at *
 generalize atV (-acV co e n) (gsR co tas e n)=AT at *
 generalize atE (-acV co e n) (gsR co tas e n)=AE at *
 generalize gsR co tas e n=R at *
 generalize alV co e n=al at *
 generalize acV co e n=ac at *
 go_enter Tryz.func105,Tryz.ntmps105
 go_wp2_with fail
 refine (HP.out _).mono ?_;rintro e' w1 ⟨rfl,hB⟩
 have HB:=Lib.hid (bel_alloc hB)
 clear hB
 go_wp2_with fail
 refine (HS.out _).mono ?_;rintro e' wx ⟨rfl,rfl⟩
 go_wp2_with fail
 refine (HQ.out _).mono ?_;rintro e' wx ⟨rfl,rfl⟩
 go_wp2_with fail
 refine (HAT.out _).mono ?_;rintro e' w2 ⟨rfl,hB⟩
 replace HB:=Lib.hid (bel_trans HB.out hB)
 clear hB
 go_wp2_with fail
 refine (HDF.out _).mono ?_;rintro e' wx ⟨rfl,rfl⟩
 go_wp2_with fail
 go_ret3
 exact HF.out _ _ HB.out
end Go.Proofs.YtgneijdjlahgbaaGreat

