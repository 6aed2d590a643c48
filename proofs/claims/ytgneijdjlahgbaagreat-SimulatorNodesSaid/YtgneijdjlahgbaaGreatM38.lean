/- M38: SimPlain2, SimSen, SimRep, SimSns in one text. -/
import Derived.Test.YtgneijdjlahgbaaGreatM31
import Derived.Test.YtgneijdjlahgbaaGreatM8
import Derived.Deep.QuietTactic
import Derived.BigQuiet
namespace Go.Proofs.YtgneijdjlahgbaaGreat
set_option linter.unusedSimpArgs false
set_option linter.unusedVariables false
open Go.RowKit
def mostB (ki:Int):Int:=if (ki == 3)=true then 3600000 else 600000
def snsA (co so we:Int):Bool:=((co == 1) || (co == 2)) && (inB so 1 8 && inB we 1 16)
def snsE (co so ki qx qy bo we:Int):Int :=
 if snsA co so we=true then
  (if ((ki == 1) || (ki == 2) || (ki == 3))=true then (if inB bo 0 (mostB ki)=true then (if ptB qx qy=true then 0 else 1) else 2) else 17)
 else 2
def valB (ki:Int):Int:=if (ki == 2)=true then 8000000 else if (ki == 3)=true then 129599999 else 0
def repA (so ki x y we:Int):Bool:=inB so 1 8 && ((ki == 1) || (ki == 2) || (ki == 3)) && (ptB x y && inB we 1 16)
def repE (so ki x y va bo we tk:Int):Int :=
 if repA so ki x y we=true then (if (inB tk 0 1099511627776 && (inB bo 0 (mostB ki) && inB va 0 (valB ki)))=true then 0 else 2) else 1
end Go.Proofs.YtgneijdjlahgbaaGreat

namespace Go.Proofs.YtgneijdjlahgbaaGreat
set_option maxRecDepth 100000
set_option maxHeartbeats 2000000
set_option linter.unusedSimpArgs false
set_option linter.unusedVariables false
open Go.RowKit
theorem xcheckSensor (co so ki qx qy bo we:Int) (hso:I64 so) (w:World):Calls Tryz.prog 132 #[.agg #[.int .i64 co,.int .i64 so,.int .u8 ki,.int .i64 qx,.int .i64 qy,.int .i64 bo,.int .i64 we]] w fun e w'=>e=.returned (.int .i64 (snsE co so ki qx qy bo we))∧Below w.heap.size w w':=by
 have hv:=Lib.hid (show snsE co so ki qx qy bo we=if (((co == 1) || (co == 2)) && (inB so 1 8 && inB we 1 16))=true then
  (if ((ki == 1) || (ki == 2) || (ki == 3))=true then (if inB bo 0 (if (ki == 3)=true then 3600000 else 600000)=true then (if ptB qx qy=true then 0 else 1) else 2) else 17)
  else 2 from rfl)
 obtain ⟨so0,so1⟩:=hso
 rcases (show (co == 1)=true∨(co == 2)=true∨((co == 1)=false∧(co == 2)=false) by
  cases (co == 1) <;> cases (co == 2) <;> simp) with hc | hc | ⟨hc,hd⟩
 rotate_left 2
 ·have hc':(co != 1)=true:=by rw [bne,hc];rfl
  have hd':(co != 2)=true:=by rw [bne,hd];rfl
  have HC:=Lib.hid hc
  have HD:=Lib.hid hd
  clear hc hd
  go_enter Tryz.func132,Tryz.ntmps132
  go_wp2_with fail
  go_ret
  exact ⟨ret_int (by rw [hv.out,HC.out,HD.out];rfl),bel0 w _⟩
 all_goals (
  obtain rfl:=eq_of_beq hc
  clear hc
  go_enter Tryz.func132,Tryz.ntmps132
  go_wp2_with fail
  refine (xIn _ _ _ _).mono ?_;rintro e w1 ⟨rfl,rfl⟩
  cases hs:inB so 1 8
  ·go_wp2_with fail
   go_ret
   exact ⟨ret_int (by rw [hv.out,hs];rfl),bel0 w _⟩
  go_wp2_with fail
  refine (xIn _ _ _ _).mono ?_;rintro e w2 ⟨rfl,rfl⟩
  cases hw:inB we 1 16
  ·go_wp2_with fail
   go_ret
   exact ⟨ret_int (by rw [hv.out,hs,hw];rfl),bel0 w _⟩
  rcases (show (ki == 1)=true∨(ki == 2)=true∨(ki == 3)=true∨((ki == 1)=false∧(ki == 2)=false∧(ki == 3)=false) by
   cases (ki == 1) <;> cases (ki == 2) <;> cases (ki == 3) <;> simp) with hk | hk | hk | ⟨hk1,hk2,hk3⟩
  rotate_left 3
  ·have HC:=Lib.hid (And.intro hk1 (And.intro hk2 hk3))
   go_wp2_with fail
   go_ret
   exact ⟨ret_int (by rw [hv.out,hs,hw,HC.out.1,HC.out.2.1,HC.out.2.2];rfl),bel0 w _⟩
  ·obtain rfl:=eq_of_beq hk
   clear hk
   go_wp2_with fail
   refine (xIn _ _ _ _).mono ?_;rintro e w3 ⟨rfl,rfl⟩
   cases hb:inB bo 0 600000
   ·have HC:=Lib.hid hb
    clear hb
    go_wp2_with fail
    go_ret
    exact ⟨ret_int (by rw [hv.out,hs,hw];simp [HC.out]),bel0 w _⟩
   have HC:=Lib.hid hb
   clear hb
   go_wp2_with fail
   refine (xValid _ _ _).mono ?_;rintro e w9 ⟨rfl,hB⟩
   have HB:=Lib.hid hB
   clear hB
   cases h9:ptB qx qy
   ·have G:=Lib.hid h9
    clear h9
    go_wp2_with fail
    go_ret
    exact ⟨ret_int (by rw [hv.out,hs,hw,G.out];simp [HC.out]),bel_al HB.out⟩
   ·have G:=Lib.hid h9
    clear h9
    go_wp2_with fail
    go_ret
    exact ⟨ret_int (by rw [hv.out,hs,hw,G.out];simp [HC.out]),bel_al HB.out⟩
  ·obtain rfl:=eq_of_beq hk
   clear hk
   go_wp2_with fail
   refine (xIn _ _ _ _).mono ?_;rintro e w3 ⟨rfl,rfl⟩
   cases hb:inB bo 0 600000
   ·have HC:=Lib.hid hb
    clear hb
    go_wp2_with fail
    go_ret
    exact ⟨ret_int (by rw [hv.out,hs,hw];simp [HC.out]),bel0 w _⟩
   have HC:=Lib.hid hb
   clear hb
   go_wp2_with fail
   refine (xValid _ _ _).mono ?_;rintro e w9 ⟨rfl,hB⟩
   have HB:=Lib.hid hB
   clear hB
   cases h9:ptB qx qy
   ·have G:=Lib.hid h9
    clear h9
    go_wp2_with fail
    go_ret
    exact ⟨ret_int (by rw [hv.out,hs,hw,G.out];simp [HC.out]),bel_al HB.out⟩
   ·have G:=Lib.hid h9
    clear h9
    go_wp2_with fail
    go_ret
    exact ⟨ret_int (by rw [hv.out,hs,hw,G.out];simp [HC.out]),bel_al HB.out⟩
  ·obtain rfl:=eq_of_beq hk
   clear hk
   go_wp2_with fail
   refine (xIn _ _ _ _).mono ?_;rintro e w3 ⟨rfl,rfl⟩
   cases hb:inB bo 0 3600000
   ·have HC:=Lib.hid hb
    clear hb
    go_wp2_with fail
    go_ret
    exact ⟨ret_int (by rw [hv.out,hs,hw];simp [HC.out]),bel0 w _⟩
   have HC:=Lib.hid hb
   clear hb
   go_wp2_with fail
   refine (xValid _ _ _).mono ?_;rintro e w9 ⟨rfl,hB⟩
   have HB:=Lib.hid hB
   clear hB
   cases h9:ptB qx qy
   ·have G:=Lib.hid h9
    clear h9
    go_wp2_with fail
    go_ret
    exact ⟨ret_int (by rw [hv.out,hs,hw,G.out];simp [HC.out]),bel_al HB.out⟩
   ·have G:=Lib.hid h9
    clear h9
    go_wp2_with fail
    go_ret
    exact ⟨ret_int (by rw [hv.out,hs,hw,G.out];simp [HC.out]),bel_al HB.out⟩)
end Go.Proofs.YtgneijdjlahgbaaGreat

namespace Go.Proofs.YtgneijdjlahgbaaGreat
set_option maxRecDepth 100000
set_option maxHeartbeats 2000000
set_option linter.unusedSimpArgs false
set_option linter.unusedVariables false
open Go.RowKit
theorem xFrom (n lo hi:Int) (w:World):Calls Tryz.prog 164 #[.int .i64 n,.int .i64 lo,.int .i64 hi] w fun e w'=>e=.returned (.bool (inB n lo hi))∧w=w':=by
 have hv:=Lib.hid (show inB n lo hi=(decide (lo≤n) && decide (n≤hi)) from rfl)
 by_cases h1:n<lo
 ·go_enter Tryz.func164,Tryz.ntmps164
  go_wp2
  go_ret
  exact ⟨ret_bool (by rw [hv.out,Bool.eq_iff_iff];simp;try omega),rfl⟩
 ·by_cases h2:hi<n
  ·go_enter Tryz.func164,Tryz.ntmps164
   go_wp2
   go_ret
   exact ⟨ret_bool (by rw [hv.out,Bool.eq_iff_iff];simp;try omega),rfl⟩
  ·go_enter Tryz.func164,Tryz.ntmps164
   go_wp2
   go_ret
   exact ⟨ret_bool (by rw [hv.out,Bool.eq_iff_iff];simp;try omega),rfl⟩
theorem xRep (so ki x y va bo we tk:Int) (hso:I64 so) (hk0:0≤ki) (hk9:ki≤255) (w:World):Calls Tryz.prog 136 #[.agg #[.int .i64 so,.int .u8 ki,.int .i64 x,.int .i64 y,.int .i64 va,.int .i64 bo,.int .i64 we,.int .i64 tk]] w fun e w'=>e=.returned (.int .i64 (repE so ki x y va bo we tk))∧Below w.heap.size w w':=by
 have hv:=Lib.hid (show repE so ki x y va bo we tk=if ((inB so 1 8 && ((ki == 1) || (ki == 2) || (ki == 3))) && (ptB x y && inB we 1 16))=true then (if (inB tk 0 1099511627776 && (inB bo 0 (if (ki == 3)=true then 3600000 else 600000) && inB va 0 (if (ki == 2)=true then 8000000 else if (ki == 3)=true then 129599999 else 0)))=true then 0 else 2) else 1 from rfl)
 obtain ⟨so0,so1⟩:=hso
 go_enter Tryz.func136,Tryz.ntmps136
 go_wp2_with fail
 refine (xFrom _ _ _ _).mono ?_;rintro e w1 ⟨rfl,rfl⟩
 cases hs:inB so 1 8
 ·go_wp2_with fail
  go_ret
  exact ⟨ret_int (by rw [hv.out,hs];rfl),bel0 w _⟩
 by_cases hn:ki<1
 ·have hq:((ki == 1) || (ki == 2) || (ki == 3))=false:=by simp;omega
  have HQ:=Lib.hid hq
  clear hq
  go_wp2_with fail
  go_ret
  exact ⟨ret_int (by rw [hv.out,hs,HQ.out];rfl),bel0 w _⟩
 have p1:=hn
 clear hn
 by_cases hn:3<ki
 ·have hq:((ki == 1) || (ki == 2) || (ki == 3))=false:=by simp;omega
  have HQ:=Lib.hid hq
  clear hq
  go_wp2_with fail
  go_ret
  exact ⟨ret_int (by rw [hv.out,hs,HQ.out];rfl),bel0 w _⟩
 have p2:=hn
 clear hn
 rcases (show ki=1∨ki=2∨ki=3 by omega) with rfl | rfl | rfl
 ·go_wp2_with fail
  refine (xValid _ _ _).mono ?_;rintro e w11 ⟨rfl,hB⟩
  have k0:w11.cell? ⟨w.heap.size,0,none⟩=some (.int .i64 so):=(hB.cell (p:=⟨w.heap.size,0,none⟩) (by simp)).trans (one_box w _ _ 0)
  have k1:w11.cell? ⟨w.heap.size,1,none⟩=some (.int .u8 1):=(hB.cell (p:=⟨w.heap.size,1,none⟩) (by simp)).trans (one_box w _ _ 1)
  have k2:w11.cell? ⟨w.heap.size,2,none⟩=some (.int .i64 x):=(hB.cell (p:=⟨w.heap.size,2,none⟩) (by simp)).trans (one_box w _ _ 2)
  have k3:w11.cell? ⟨w.heap.size,3,none⟩=some (.int .i64 y):=(hB.cell (p:=⟨w.heap.size,3,none⟩) (by simp)).trans (one_box w _ _ 3)
  have k4:w11.cell? ⟨w.heap.size,4,none⟩=some (.int .i64 va):=(hB.cell (p:=⟨w.heap.size,4,none⟩) (by simp)).trans (one_box w _ _ 4)
  have k5:w11.cell? ⟨w.heap.size,5,none⟩=some (.int .i64 bo):=(hB.cell (p:=⟨w.heap.size,5,none⟩) (by simp)).trans (one_box w _ _ 5)
  have k6:w11.cell? ⟨w.heap.size,6,none⟩=some (.int .i64 we):=(hB.cell (p:=⟨w.heap.size,6,none⟩) (by simp)).trans (one_box w _ _ 6)
  have k7:w11.cell? ⟨w.heap.size,7,none⟩=some (.int .i64 tk):=(hB.cell (p:=⟨w.heap.size,7,none⟩) (by simp)).trans (one_box w _ _ 7)
  have HB:=Lib.hid (bel_al hB)
  clear hB
  cases hp:ptB x y
  ·have G:=Lib.hid hp
   clear hp
   go_wp2_with fail
   go_ret
   exact ⟨ret_int (by rw [hv.out,hs];simp [G.out]),HB.out⟩
  have HP:=Lib.hid hp
  clear hp
  go_wp2_with fail
  refine (xFrom _ _ _ _).mono ?_;rintro e w12 ⟨rfl,rfl⟩
  cases hw:inB we 1 16
  ·have G:=Lib.hid hw
   clear hw
   go_wp2_with fail
   go_ret
   exact ⟨ret_int (by rw [hv.out,hs];simp [HP.out,G.out]),HB.out⟩
  have HW:=Lib.hid hw
  clear hw
  go_wp2_with fail
  refine (xFrom _ _ _ _).mono ?_;rintro e w13 ⟨rfl,rfl⟩
  cases ht:inB tk 0 1099511627776
  ·have G:=Lib.hid ht
   clear ht
   go_wp2_with fail
   go_ret
   exact ⟨ret_int (by rw [hv.out,hs];simp [HP.out,HW.out,G.out]),HB.out⟩
  have HT:=Lib.hid ht
  clear ht
  go_wp2_with fail
  refine (xFrom _ _ _ _).mono ?_;rintro e w14 ⟨rfl,rfl⟩
  cases hd:inB bo 0 600000
  ·have G:=Lib.hid hd
   clear hd
   go_wp2_with fail
   go_ret
   exact ⟨ret_int (by rw [hv.out,hs];simp [HP.out,HW.out,HT.out,G.out]),HB.out⟩
  have HD:=Lib.hid hd
  clear hd
  go_wp2_with fail
  refine (xFrom _ _ _ _).mono ?_;rintro e w15 ⟨rfl,rfl⟩
  cases hu:inB va 0 0
  ·have G:=Lib.hid hu
   clear hu
   go_wp2_with fail
   go_ret
   exact ⟨ret_int (by rw [hv.out,hs];simp [HP.out,HW.out,HT.out,HD.out,G.out]),HB.out⟩
  have HU:=Lib.hid hu
  clear hu
  go_wp2_with fail
  go_ret
  exact ⟨ret_int (by rw [hv.out,hs];simp [HP.out,HW.out,HT.out,HD.out,HU.out]),HB.out⟩
 ·go_wp2_with fail
  refine (xValid _ _ _).mono ?_;rintro e w11 ⟨rfl,hB⟩
  have k0:w11.cell? ⟨w.heap.size,0,none⟩=some (.int .i64 so):=(hB.cell (p:=⟨w.heap.size,0,none⟩) (by simp)).trans (one_box w _ _ 0)
  have k1:w11.cell? ⟨w.heap.size,1,none⟩=some (.int .u8 2):=(hB.cell (p:=⟨w.heap.size,1,none⟩) (by simp)).trans (one_box w _ _ 1)
  have k2:w11.cell? ⟨w.heap.size,2,none⟩=some (.int .i64 x):=(hB.cell (p:=⟨w.heap.size,2,none⟩) (by simp)).trans (one_box w _ _ 2)
  have k3:w11.cell? ⟨w.heap.size,3,none⟩=some (.int .i64 y):=(hB.cell (p:=⟨w.heap.size,3,none⟩) (by simp)).trans (one_box w _ _ 3)
  have k4:w11.cell? ⟨w.heap.size,4,none⟩=some (.int .i64 va):=(hB.cell (p:=⟨w.heap.size,4,none⟩) (by simp)).trans (one_box w _ _ 4)
  have k5:w11.cell? ⟨w.heap.size,5,none⟩=some (.int .i64 bo):=(hB.cell (p:=⟨w.heap.size,5,none⟩) (by simp)).trans (one_box w _ _ 5)
  have k6:w11.cell? ⟨w.heap.size,6,none⟩=some (.int .i64 we):=(hB.cell (p:=⟨w.heap.size,6,none⟩) (by simp)).trans (one_box w _ _ 6)
  have k7:w11.cell? ⟨w.heap.size,7,none⟩=some (.int .i64 tk):=(hB.cell (p:=⟨w.heap.size,7,none⟩) (by simp)).trans (one_box w _ _ 7)
  have HB:=Lib.hid (bel_al hB)
  clear hB
  cases hp:ptB x y
  ·have G:=Lib.hid hp
   clear hp
   go_wp2_with fail
   go_ret
   exact ⟨ret_int (by rw [hv.out,hs];simp [G.out]),HB.out⟩
  have HP:=Lib.hid hp
  clear hp
  go_wp2_with fail
  refine (xFrom _ _ _ _).mono ?_;rintro e w12 ⟨rfl,rfl⟩
  cases hw:inB we 1 16
  ·have G:=Lib.hid hw
   clear hw
   go_wp2_with fail
   go_ret
   exact ⟨ret_int (by rw [hv.out,hs];simp [HP.out,G.out]),HB.out⟩
  have HW:=Lib.hid hw
  clear hw
  go_wp2_with fail
  refine (xFrom _ _ _ _).mono ?_;rintro e w13 ⟨rfl,rfl⟩
  cases ht:inB tk 0 1099511627776
  ·have G:=Lib.hid ht
   clear ht
   go_wp2_with fail
   go_ret
   exact ⟨ret_int (by rw [hv.out,hs];simp [HP.out,HW.out,G.out]),HB.out⟩
  have HT:=Lib.hid ht
  clear ht
  go_wp2_with fail
  refine (xFrom _ _ _ _).mono ?_;rintro e w14 ⟨rfl,rfl⟩
  cases hd:inB bo 0 600000
  ·have G:=Lib.hid hd
   clear hd
   go_wp2_with fail
   go_ret
   exact ⟨ret_int (by rw [hv.out,hs];simp [HP.out,HW.out,HT.out,G.out]),HB.out⟩
  have HD:=Lib.hid hd
  clear hd
  go_wp2_with fail
  refine (xFrom _ _ _ _).mono ?_;rintro e w15 ⟨rfl,rfl⟩
  cases hu:inB va 0 8000000
  ·have G:=Lib.hid hu
   clear hu
   go_wp2_with fail
   go_ret
   exact ⟨ret_int (by rw [hv.out,hs];simp [HP.out,HW.out,HT.out,HD.out,G.out]),HB.out⟩
  have HU:=Lib.hid hu
  clear hu
  go_wp2_with fail
  go_ret
  exact ⟨ret_int (by rw [hv.out,hs];simp [HP.out,HW.out,HT.out,HD.out,HU.out]),HB.out⟩
 ·go_wp2_with fail
  refine (xValid _ _ _).mono ?_;rintro e w11 ⟨rfl,hB⟩
  have k0:w11.cell? ⟨w.heap.size,0,none⟩=some (.int .i64 so):=(hB.cell (p:=⟨w.heap.size,0,none⟩) (by simp)).trans (one_box w _ _ 0)
  have k1:w11.cell? ⟨w.heap.size,1,none⟩=some (.int .u8 3):=(hB.cell (p:=⟨w.heap.size,1,none⟩) (by simp)).trans (one_box w _ _ 1)
  have k2:w11.cell? ⟨w.heap.size,2,none⟩=some (.int .i64 x):=(hB.cell (p:=⟨w.heap.size,2,none⟩) (by simp)).trans (one_box w _ _ 2)
  have k3:w11.cell? ⟨w.heap.size,3,none⟩=some (.int .i64 y):=(hB.cell (p:=⟨w.heap.size,3,none⟩) (by simp)).trans (one_box w _ _ 3)
  have k4:w11.cell? ⟨w.heap.size,4,none⟩=some (.int .i64 va):=(hB.cell (p:=⟨w.heap.size,4,none⟩) (by simp)).trans (one_box w _ _ 4)
  have k5:w11.cell? ⟨w.heap.size,5,none⟩=some (.int .i64 bo):=(hB.cell (p:=⟨w.heap.size,5,none⟩) (by simp)).trans (one_box w _ _ 5)
  have k6:w11.cell? ⟨w.heap.size,6,none⟩=some (.int .i64 we):=(hB.cell (p:=⟨w.heap.size,6,none⟩) (by simp)).trans (one_box w _ _ 6)
  have k7:w11.cell? ⟨w.heap.size,7,none⟩=some (.int .i64 tk):=(hB.cell (p:=⟨w.heap.size,7,none⟩) (by simp)).trans (one_box w _ _ 7)
  have HB:=Lib.hid (bel_al hB)
  clear hB
  cases hp:ptB x y
  ·have G:=Lib.hid hp
   clear hp
   go_wp2_with fail
   go_ret
   exact ⟨ret_int (by rw [hv.out,hs];simp [G.out]),HB.out⟩
  have HP:=Lib.hid hp
  clear hp
  go_wp2_with fail
  refine (xFrom _ _ _ _).mono ?_;rintro e w12 ⟨rfl,rfl⟩
  cases hw:inB we 1 16
  ·have G:=Lib.hid hw
   clear hw
   go_wp2_with fail
   go_ret
   exact ⟨ret_int (by rw [hv.out,hs];simp [HP.out,G.out]),HB.out⟩
  have HW:=Lib.hid hw
  clear hw
  go_wp2_with fail
  refine (xFrom _ _ _ _).mono ?_;rintro e w13 ⟨rfl,rfl⟩
  cases ht:inB tk 0 1099511627776
  ·have G:=Lib.hid ht
   clear ht
   go_wp2_with fail
   go_ret
   exact ⟨ret_int (by rw [hv.out,hs];simp [HP.out,HW.out,G.out]),HB.out⟩
  have HT:=Lib.hid ht
  clear ht
  go_wp2_with fail
  refine (xFrom _ _ _ _).mono ?_;rintro e w14 ⟨rfl,rfl⟩
  cases hd:inB bo 0 3600000
  ·have G:=Lib.hid hd
   clear hd
   go_wp2_with fail
   go_ret
   exact ⟨ret_int (by rw [hv.out,hs];simp [HP.out,HW.out,HT.out,G.out]),HB.out⟩
  have HD:=Lib.hid hd
  clear hd
  go_wp2_with fail
  refine (xFrom _ _ _ _).mono ?_;rintro e w15 ⟨rfl,rfl⟩
  cases hu:inB va 0 129599999
  ·have G:=Lib.hid hu
   clear hu
   go_wp2_with fail
   go_ret
   exact ⟨ret_int (by rw [hv.out,hs];simp [HP.out,HW.out,HT.out,HD.out,G.out]),HB.out⟩
  have HU:=Lib.hid hu
  clear hu
  go_wp2_with fail
  go_ret
  exact ⟨ret_int (by rw [hv.out,hs];simp [HP.out,HW.out,HT.out,HD.out,HU.out]),HB.out⟩
end Go.Proofs.YtgneijdjlahgbaaGreat

namespace Go.Proofs.YtgneijdjlahgbaaGreat
set_option linter.unusedSimpArgs false
set_option linter.unusedVariables false
open Go.RowKit
structure Sns where
 co:Int
 so:Int
 ki:Int
 x:Int
 y:Int
 bo:Int
 we:Int
def Sns.cells (s:Sns):List Value:=(lzl s.co s.so s.ki s.x s.y s.bo s.we)
def Sns.wf (s:Sns):Prop:=I64 s.so∧0≤s.ki∧s.ki≤255
def Sns.E (s:Sns):Int:=snsE s.co s.so s.ki s.x s.y s.bo s.we
def csF:List Sns→Int
 | []=>0
 | s :: t=>if s.E≠0 then s.E else csF t
def cnt (k:Int) (l:List Sns):Nat:=(l.filter fun s=>s.co == k).length
def csE (l:List Sns):Int:=if 8<l.length then 3 else if csF l≠0 then csF l else if 4<cnt 1 l∨4<cnt 2 l then 3 else 0
theorem csE_n {l:List Sns} (h:¬ 8<l.length):csE l=if csF l≠0 then csF l else if 4<cnt 1 l∨4<cnt 2 l then 3 else 0:=if_neg h
theorem csF_app (l t:List Sns) (h:csF l=0):csF (l ++ t)=csF t:=by
 induction l with
 | nil=>rfl
 | cons s r ih =>
  unfold csF at h
  by_cases h1:s.E≠0
  ·rw [if_pos h1] at h;exact absurd h h1
  ·rw [if_neg h1] at h
   rw [List.cons_append]
   conv=>lhs;unfold csF
   rw [if_neg h1,ih h]
theorem csF_take {l:List Sns} {k:Nat} {s:Sns} (hs:l[k]? = some s) (h:csF (l.take k)=0):csF (l.take (k+1))=s.E:=by
 rw [take_succ_get l k s hs,csF_app _ _ h]
 unfold csF
 by_cases h1:s.E≠0
 ·rw [if_pos h1]
 ·rw [if_neg h1];simp only [csF];omega
theorem csF_stop {l:List Sns} {k:Nat} {s:Sns} (hs:l[k]? = some s) (h:csF (l.take k)=0) (he:s.E≠0):csF l=s.E:=by
 obtain ⟨hk,rfl⟩:=List.getElem?_eq_some_iff.1 hs
 have h2:l.take k ++ l[k] :: l.drop (k+1)=l:=by rw [List.getElem_cons_drop,List.take_append_drop]
 have h3:csF (l.take k ++ l[k] :: l.drop (k+1))=l[k].E:=by
  rw [csF_app _ _ h]
  simp only [csF]
  rw [if_pos he]
 rwa [h2] at h3
theorem cnt_take {l:List Sns} {k:Nat} {s:Sns} (c:Int) (hs:l[k]? = some s):cnt c (l.take (k+1))=cnt c (l.take k)+if s.co=c then 1 else 0:=by
 unfold cnt
 rw [take_succ_get l k s hs,List.filter_append,List.length_append]
 by_cases h:s.co=c <;> simp [List.filter_cons,h]
theorem cnt_le (c:Int) (l:List Sns):cnt c l≤l.length:=List.length_filter_le _ _
theorem snsE_0 {co so ki qx qy bo we:Int} (h:snsE co so ki qx qy bo we=0):co=1∨co=2:=by
 unfold snsE at h
 by_cases h1:snsA co so we=true
 ·unfold snsA at h1;simp at h1;omega
 ·rw [if_neg h1] at h;exact absurd h (by decide)
def Cnt3 (l:List Sns):List Value:=(lz3 0 (cnt 1 l:Int) (cnt 2 l:Int))
def SnRel (l:List Sns) (n:Nat) (w:World) (t:Value) (wr:World):Prop :=
 ∃ k:Nat,k≤n∧t=.int .i64 k∧csF (l.take k)=0∧Below w.heap.size w wr∧Has wr w.heap.size (Cnt3 (l.take k))
end Go.Proofs.YtgneijdjlahgbaaGreat

