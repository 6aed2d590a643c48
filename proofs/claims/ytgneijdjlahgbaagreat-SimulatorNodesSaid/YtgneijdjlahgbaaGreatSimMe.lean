
/- Layer 59: what is measured. -/
import Derived.Test.YtgneijdjlahgbaaGreatM38
import Derived.Test.YtgneijdjlahgbaaGreatM8
import Derived.Test.YtgneijdjlahgbaaGreatM1
import Derived.Deep.RegionHeld3
namespace Go.Proofs.YtgneijdjlahgbaaGreat
set_option maxRecDepth 100000
set_option maxHeartbeats 2000000
set_option linter.unusedSimpArgs false
set_option linter.unusedVariables false
open Go.RowKit
def msX (ki qx px d0:Int):Int:=if ki=1 then px+d0 else qx
def msV (ki dv cv d0:Int):Int:=if ki=2 then max (dv+d0) 0 else if ki=3 then nrm (cv+d0) else 0
def msE (tk px py ve vn al vs hd ca fu bk co so ki qx qy bo we d0 d1 dv cv ce:Int):Int :=
 if cftE tk px py ve vn al vs hd ca fu bk≠0 then cftE tk px py ve vn al vs hd ca fu bk else if snsE co so ki qx qy bo we≠0 then snsE co so ki qx qy bo we
 else if (inB d0 (-2000000) 2000000 && inB d1 (-2000000) 2000000)=false then 2
 else if ki=3∧ce≠0 then ce else repE so ki (msX ki qx px d0) (msX ki qy py d1) (msV ki dv cv d0) bo we tk
def repV (E so ki x y va bo we tk:Int):Value:=if E=0 then .agg #[.int .i64 so,.int .u8 ki,.int .i64 x,.int .i64 y,.int .i64 va,.int .i64 bo,.int .i64 we,.int .i64 tk] else .agg #[.int .i64 0,.int .u8 0,.int .i64 0,.int .i64 0,.int .i64 0,.int .i64 0,.int .i64 0,.int .i64 0]
theorem repV_no {E so ki x y va bo we tk:Int} (h:E≠0):repV E so ki x y va bo we tk=.agg #[.int .i64 0,.int .u8 0,.int .i64 0,.int .i64 0,.int .i64 0,.int .i64 0,.int .i64 0,.int .i64 0]:=if_neg h
theorem repV_ok (so ki x y va bo we tk:Int):repV 0 so ki x y va bo we tk=.agg #[.int .i64 so,.int .u8 ki,.int .i64 x,.int .i64 y,.int .i64 va,.int .i64 bo,.int .i64 we,.int .i64 tk]:=if_pos rfl
theorem crE_pt {tk px py ve vn al vs hd ca fu bk:Int} (h:cftE tk px py ve vn al vs hd ca fu bk=0):ptB px py=true:=by
 unfold cftE at h
 by_cases h1:crB tk px py ve vn al vs hd ca fu bk=true
 ·rw [if_pos h1] at h
  by_cases h2:ptB px py=true
  ·exact h2
  ·rw [if_neg h2] at h;exact absurd h (by decide)
 ·rw [if_neg h1] at h;exact absurd h (by decide)
theorem snsE_ki {co so ki qx qy bo we:Int} (h:snsE co so ki qx qy bo we=0):ki=1∨ki=2∨ki=3:=by
 unfold snsE at h
 by_cases h1:snsA co so we=true
 ·rw [if_pos h1] at h
  by_cases h2:((ki == 1) || (ki == 2) || (ki == 3))=true
  ·simpa [or_assoc] using h2
  ·rw [if_neg h2] at h;exact absurd h (by decide)
 ·rw [if_neg h1] at h;exact absurd h (by decide)
theorem ret_v2 {a b c d:Value} (h:a=c) (h':b=d):Ending.returned (.tuple #[a,b])=.returned (.tuple #[c,d]):=by rw [h,h']
theorem xMeas (tk px py ve vn al vs hd ca fu bk:Int) (gr:Bool) (co so ki qx qy bo we d0 d1 dv cv ce:Int) (hso:I64 so) (hk0:0≤ki) (hk9:ki≤255)
  (hdv:ki=2→(0≤dv∧dv≤8000000)∧∀ w,Calls Tryz.prog 134 #[.agg #[.int .i64 qx,.int .i64 qy],.agg #[.int .i64 px,.int .i64 py]] w fun e w'=>e=.returned (.int .i64 dv)∧Below w.heap.size w w')
  (hcv:ki=3→(0≤cv∧cv≤129600000)∧∀ w,Calls Tryz.prog 103 #[.agg #[.int .i64 qx,.int .i64 qy],.agg #[.int .i64 px,.int .i64 py]] w fun e w'=>e=.returned (.tuple #[.int .i64 cv,.int .i64 ce])∧Below w.heap.size w w') (w:World) :
  Calls Tryz.prog 80 #[.agg #[.int .i64 tk,.int .i64 px,.int .i64 py,.int .i64 ve,.int .i64 vn,.int .i64 al,.int .i64 vs,.int .i64 hd,.int .i64 ca,.int .i64 fu,.int .i64 bk,.bool gr],.agg #[.int .i64 co,.int .i64 so,.int .u8 ki,.int .i64 qx,.int .i64 qy,.int .i64 bo,.int .i64 we],.agg #[.int .i64 d0,.int .i64 d1]] w fun e w' =>
   e=.returned (.tuple #[repV (msE tk px py ve vn al vs hd ca fu bk co so ki qx qy bo we d0 d1 dv cv ce) so ki (msX ki qx px d0) (msX ki qy py d1) (msV ki dv cv d0) bo we tk,.int .i64 (msE tk px py ve vn al vs hd ca fu bk co so ki qx qy bo we d0 d1 dv cv ce)])∧Below w.heap.size w w':=by
 have HDV:=Lib.hid hdv
 have HCV:=Lib.hid hcv
 clear hdv hcv
 obtain ⟨M,hM⟩:∃ M,msE tk px py ve vn al vs hd ca fu bk co so ki qx qy bo we d0 d1 dv cv ce=M:=⟨_,rfl⟩
 rw [hM]
 have HM:=Lib.hid (hM.symm.trans (show msE tk px py ve vn al vs hd ca fu bk co so ki qx qy bo we d0 d1 dv cv ce=if cftE tk px py ve vn al vs hd ca fu bk≠0 then cftE tk px py ve vn al vs hd ca fu bk else if snsE co so ki qx qy bo we≠0 then snsE co so ki qx qy bo we
  else if (inB d0 (-2000000) 2000000 && inB d1 (-2000000) 2000000)=false then 2
  else if ki=3∧ce≠0 then ce else repE so ki (msX ki qx px d0) (msX ki qy py d1) (msV ki dv cv d0) bo we tk from rfl))
 clear hM
 have HC:=Lib.hid (xCraft tk px py ve vn al vs hd ca fu bk gr)
 have HS:=Lib.hid (xcheckSensor co so ki qx qy bo we hso)
 have HBD:=Lib.hid (show cftE tk px py ve vn al vs hd ca fu bk=0→snsE co so ki qx qy bo we=0→ptB px py=true∧(ki=1∨ki=2∨ki=3) from fun h1 h2=>⟨crE_pt h1,snsE_ki h2⟩)
 have hso':=Lib.hid hso
 obtain ⟨so0,so1⟩:=hso
 generalize cftE tk px py ve vn al vs hd ca fu bk=E1 at *
 generalize snsE co so ki qx qy bo we=E2 at *
 go_enter Tryz.func80,Tryz.ntmps80
 go_wp2_with fail
 refine (HC.out _).mono ?_;rintro e w1 ⟨rfl,hB⟩
 have BC:Hid (Has w1 w.heap.size [.int .i64 tk,.int .i64 px,.int .i64 py,.int .i64 ve,.int .i64 vn,.int .i64 al,.int .i64 vs,.int .i64 hd,.int .i64 ca,.int .i64 fu,.int .i64 bk,.bool gr]):=Lib.hid (((((Has.new w _ _).alloc _).alloc _).alloc _).below hB)
 have BS:Hid (Has w1 (w.heap.size+1) (lzl co so ki qx qy bo we)):=Lib.hid ((((Has.newAt (w.alloc _) _ _ (w.heap.size+1) (by simp)).alloc _).alloc _).below hB)
 have BX:Hid (Has w1 (w.heap.size+1+1) (lz2 d0 d1)):=Lib.hid (((Has.newAt ((w.alloc _).alloc _) _ _ (w.heap.size+1+1) (by simp)).alloc _).below hB)
 have BR:Hid (Has w1 (w.heap.size+1+1+1) [.int .i64 0,.int .u8 0,.int .i64 0,.int .i64 0,.int .i64 0,.int .i64 0,.int .i64 0,.int .i64 0]):=Lib.hid ((Has.newAt (((w.alloc _).alloc _).alloc _) _ _ (w.heap.size+1+1+1) (by simp)).below hB)
 have HB:=Lib.hid ((below_alloc4 w _ _ _ _).trans (hB.mono (by simp;omega)))
 have HB0:=Lib.hid BR.out.lt
 clear hB HC
 by_cases hE:E1=0
 rotate_left
 ·have e1:(E1 == 0)=false:=beq_eq_false_iff_ne.2 hE
  have e2:(E1 != 0)=true:=by rw [bne,e1];rfl
  have HE:=Lib.hid hE
  clear hE
  have r0:w1.cell? ⟨w.heap.size+1+1+1,0,none⟩=some (.int .i64 0):=BR.out.cell 0 _ rfl
  have r1:w1.cell? ⟨w.heap.size+1+1+1,1,none⟩=some (.int .u8 0):=BR.out.cell 1 _ rfl
  have r2:w1.cell? ⟨w.heap.size+1+1+1,2,none⟩=some (.int .i64 0):=BR.out.cell 2 _ rfl
  have r3:w1.cell? ⟨w.heap.size+1+1+1,3,none⟩=some (.int .i64 0):=BR.out.cell 3 _ rfl
  have r4:w1.cell? ⟨w.heap.size+1+1+1,4,none⟩=some (.int .i64 0):=BR.out.cell 4 _ rfl
  have r5:w1.cell? ⟨w.heap.size+1+1+1,5,none⟩=some (.int .i64 0):=BR.out.cell 5 _ rfl
  have r6:w1.cell? ⟨w.heap.size+1+1+1,6,none⟩=some (.int .i64 0):=BR.out.cell 6 _ rfl
  have r7:w1.cell? ⟨w.heap.size+1+1+1,7,none⟩=some (.int .i64 0):=BR.out.cell 7 _ rfl
  have rfz:∀ o,w1.frozen? ⟨w.heap.size+1+1+1,o,none⟩=false:=BR.out.fr
  go_wp2_with fail
  have HRS:Hid (Has _ (w.heap.size+1+1+1) [.int .i64 0,.int .u8 0,.int .i64 0,.int .i64 0,.int .i64 0,.int .i64 0,.int .i64 0,.int .i64 0]):=Lib.hid ((((((((BR.out.set 0 (.int .i64 0) (by simp)).set 1 (.int .u8 0) (by simp)).set 2 (.int .i64 0) (by simp)).set 3 (.int .i64 0) (by simp)).set 4 (.int .i64 0) (by simp)).set 5 (.int .i64 0) (by simp)).set 6 (.int .i64 0) (by simp)).set 7 (.int .i64 0) (by simp))
  have HBR:=Lib.hid ((((((((HB.out.setCell (p:=⟨w.heap.size+1+1+1,0,none⟩) (by simp;omega) (.int .i64 0)).setCell (p:=⟨w.heap.size+1+1+1,1,none⟩) (by simp;omega) (.int .u8 0)).setCell (p:=⟨w.heap.size+1+1+1,2,none⟩) (by simp;omega) (.int .i64 0)).setCell (p:=⟨w.heap.size+1+1+1,3,none⟩) (by simp;omega) (.int .i64 0)).setCell (p:=⟨w.heap.size+1+1+1,4,none⟩) (by simp;omega) (.int .i64 0)).setCell (p:=⟨w.heap.size+1+1+1,5,none⟩) (by simp;omega) (.int .i64 0)).setCell (p:=⟨w.heap.size+1+1+1,6,none⟩) (by simp;omega) (.int .i64 0)).setCell (p:=⟨w.heap.size+1+1+1,7,none⟩) (by simp;omega) (.int .i64 0))
  have z0:=HRS.out.cell 0 _ rfl
  have z1:=HRS.out.cell 1 _ rfl
  have z2:=HRS.out.cell 2 _ rfl
  have z3:=HRS.out.cell 3 _ rfl
  have z4:=HRS.out.cell 4 _ rfl
  have z5:=HRS.out.cell 5 _ rfl
  have z6:=HRS.out.cell 6 _ rfl
  have z7:=HRS.out.cell 7 _ rfl
  exact bodyPost_ret (v:=.tuple #[.agg #[.int .i64 0,.int .u8 0,.int .i64 0,.int .i64 0,.int .i64 0,.int .i64 0,.int .i64 0,.int .i64 0],.int .i64 E1]) (by simp [results,Tryz.results80,go_sem,z0,z1,z2,z3,z4,z5,z6,z7]) rfl ⟨ret_v2 (by rw [HM.out,if_pos HE.out,repV_no HE.out]) (by rw [HM.out,if_pos HE.out]),HBR.out⟩
 subst hE
 have s0:w1.cell? ⟨w.heap.size+1,0,none⟩=some (.int .i64 co):=BS.out.cell 0 _ rfl
 have s1:w1.cell? ⟨w.heap.size+1,1,none⟩=some (.int .i64 so):=BS.out.cell 1 _ rfl
 have s2:w1.cell? ⟨w.heap.size+1,2,none⟩=some (.int .u8 ki):=BS.out.cell 2 _ rfl
 have s3:w1.cell? ⟨w.heap.size+1,3,none⟩=some (.int .i64 qx):=BS.out.cell 3 _ rfl
 have s4:w1.cell? ⟨w.heap.size+1,4,none⟩=some (.int .i64 qy):=BS.out.cell 4 _ rfl
 have s5:w1.cell? ⟨w.heap.size+1,5,none⟩=some (.int .i64 bo):=BS.out.cell 5 _ rfl
 have s6:w1.cell? ⟨w.heap.size+1,6,none⟩=some (.int .i64 we):=BS.out.cell 6 _ rfl
 go_wp2_with fail
 refine (HS.out _).mono ?_;rintro e w2 ⟨rfl,hB⟩
 replace BC:=Lib.hid (BC.out.below hB)
 replace BS:=Lib.hid (BS.out.below hB)
 replace BX:=Lib.hid (BX.out.below hB)
 replace BR:=Lib.hid (BR.out.below hB)
 replace HB:=Lib.hid (bel_trans HB.out hB)
 replace HB0:=Lib.hid BR.out.lt
 clear hB
 clear HS s0 s1 s2 s3 s4 s5 s6
 by_cases hE:E2=0
 rotate_left
 ·have e1:(E2 == 0)=false:=beq_eq_false_iff_ne.2 hE
  have e2:(E2 != 0)=true:=by rw [bne,e1];rfl
  have HE:=Lib.hid hE
  clear hE
  have r0:w2.cell? ⟨w.heap.size+1+1+1,0,none⟩=some (.int .i64 0):=BR.out.cell 0 _ rfl
  have r1:w2.cell? ⟨w.heap.size+1+1+1,1,none⟩=some (.int .u8 0):=BR.out.cell 1 _ rfl
  have r2:w2.cell? ⟨w.heap.size+1+1+1,2,none⟩=some (.int .i64 0):=BR.out.cell 2 _ rfl
  have r3:w2.cell? ⟨w.heap.size+1+1+1,3,none⟩=some (.int .i64 0):=BR.out.cell 3 _ rfl
  have r4:w2.cell? ⟨w.heap.size+1+1+1,4,none⟩=some (.int .i64 0):=BR.out.cell 4 _ rfl
  have r5:w2.cell? ⟨w.heap.size+1+1+1,5,none⟩=some (.int .i64 0):=BR.out.cell 5 _ rfl
  have r6:w2.cell? ⟨w.heap.size+1+1+1,6,none⟩=some (.int .i64 0):=BR.out.cell 6 _ rfl
  have r7:w2.cell? ⟨w.heap.size+1+1+1,7,none⟩=some (.int .i64 0):=BR.out.cell 7 _ rfl
  have rfz:∀ o,w2.frozen? ⟨w.heap.size+1+1+1,o,none⟩=false:=BR.out.fr
  go_wp2_with fail
  have HRS:Hid (Has _ (w.heap.size+1+1+1) [.int .i64 0,.int .u8 0,.int .i64 0,.int .i64 0,.int .i64 0,.int .i64 0,.int .i64 0,.int .i64 0]):=Lib.hid ((((((((BR.out.set 0 (.int .i64 0) (by simp)).set 1 (.int .u8 0) (by simp)).set 2 (.int .i64 0) (by simp)).set 3 (.int .i64 0) (by simp)).set 4 (.int .i64 0) (by simp)).set 5 (.int .i64 0) (by simp)).set 6 (.int .i64 0) (by simp)).set 7 (.int .i64 0) (by simp))
  have HBR:=Lib.hid ((((((((HB.out.setCell (p:=⟨w.heap.size+1+1+1,0,none⟩) (by simp;omega) (.int .i64 0)).setCell (p:=⟨w.heap.size+1+1+1,1,none⟩) (by simp;omega) (.int .u8 0)).setCell (p:=⟨w.heap.size+1+1+1,2,none⟩) (by simp;omega) (.int .i64 0)).setCell (p:=⟨w.heap.size+1+1+1,3,none⟩) (by simp;omega) (.int .i64 0)).setCell (p:=⟨w.heap.size+1+1+1,4,none⟩) (by simp;omega) (.int .i64 0)).setCell (p:=⟨w.heap.size+1+1+1,5,none⟩) (by simp;omega) (.int .i64 0)).setCell (p:=⟨w.heap.size+1+1+1,6,none⟩) (by simp;omega) (.int .i64 0)).setCell (p:=⟨w.heap.size+1+1+1,7,none⟩) (by simp;omega) (.int .i64 0))
  have z0:=HRS.out.cell 0 _ rfl
  have z1:=HRS.out.cell 1 _ rfl
  have z2:=HRS.out.cell 2 _ rfl
  have z3:=HRS.out.cell 3 _ rfl
  have z4:=HRS.out.cell 4 _ rfl
  have z5:=HRS.out.cell 5 _ rfl
  have z6:=HRS.out.cell 6 _ rfl
  have z7:=HRS.out.cell 7 _ rfl
  exact bodyPost_ret (v:=.tuple #[.agg #[.int .i64 0,.int .u8 0,.int .i64 0,.int .i64 0,.int .i64 0,.int .i64 0,.int .i64 0,.int .i64 0],.int .i64 E2]) (by simp [results,Tryz.results80,go_sem,z0,z1,z2,z3,z4,z5,z6,z7]) rfl ⟨ret_v2 (by rw [HM.out,if_neg (by simp),if_pos HE.out,repV_no HE.out]) (by rw [HM.out,if_neg (by simp),if_pos HE.out]),HBR.out⟩
 subst hE
 have x0:w2.cell? ⟨w.heap.size+1+1,0,none⟩=some (.int .i64 d0):=BX.out.cell 0 _ rfl
 have x1:w2.cell? ⟨w.heap.size+1+1,1,none⟩=some (.int .i64 d1):=BX.out.cell 1 _ rfl
 go_wp2_with fail
 refine (xIn _ _ _ _).mono ?_;rintro e w3 ⟨rfl,rfl⟩
 cases hd0:inB d0 (-2000000) 2000000
 ·have G:=Lib.hid (show (inB d0 (-2000000) 2000000 && inB d1 (-2000000) 2000000)=false by rw [hd0];simp)
  clear hd0
  have r0:w2.cell? ⟨w.heap.size+1+1+1,0,none⟩=some (.int .i64 0):=BR.out.cell 0 _ rfl
  have r1:w2.cell? ⟨w.heap.size+1+1+1,1,none⟩=some (.int .u8 0):=BR.out.cell 1 _ rfl
  have r2:w2.cell? ⟨w.heap.size+1+1+1,2,none⟩=some (.int .i64 0):=BR.out.cell 2 _ rfl
  have r3:w2.cell? ⟨w.heap.size+1+1+1,3,none⟩=some (.int .i64 0):=BR.out.cell 3 _ rfl
  have r4:w2.cell? ⟨w.heap.size+1+1+1,4,none⟩=some (.int .i64 0):=BR.out.cell 4 _ rfl
  have r5:w2.cell? ⟨w.heap.size+1+1+1,5,none⟩=some (.int .i64 0):=BR.out.cell 5 _ rfl
  have r6:w2.cell? ⟨w.heap.size+1+1+1,6,none⟩=some (.int .i64 0):=BR.out.cell 6 _ rfl
  have r7:w2.cell? ⟨w.heap.size+1+1+1,7,none⟩=some (.int .i64 0):=BR.out.cell 7 _ rfl
  have rfz:∀ o,w2.frozen? ⟨w.heap.size+1+1+1,o,none⟩=false:=BR.out.fr
  go_wp2_with fail
  have HRS:Hid (Has _ (w.heap.size+1+1+1) [.int .i64 0,.int .u8 0,.int .i64 0,.int .i64 0,.int .i64 0,.int .i64 0,.int .i64 0,.int .i64 0]):=Lib.hid ((((((((BR.out.set 0 (.int .i64 0) (by simp)).set 1 (.int .u8 0) (by simp)).set 2 (.int .i64 0) (by simp)).set 3 (.int .i64 0) (by simp)).set 4 (.int .i64 0) (by simp)).set 5 (.int .i64 0) (by simp)).set 6 (.int .i64 0) (by simp)).set 7 (.int .i64 0) (by simp))
  have HBR:=Lib.hid ((((((((HB.out.setCell (p:=⟨w.heap.size+1+1+1,0,none⟩) (by simp;omega) (.int .i64 0)).setCell (p:=⟨w.heap.size+1+1+1,1,none⟩) (by simp;omega) (.int .u8 0)).setCell (p:=⟨w.heap.size+1+1+1,2,none⟩) (by simp;omega) (.int .i64 0)).setCell (p:=⟨w.heap.size+1+1+1,3,none⟩) (by simp;omega) (.int .i64 0)).setCell (p:=⟨w.heap.size+1+1+1,4,none⟩) (by simp;omega) (.int .i64 0)).setCell (p:=⟨w.heap.size+1+1+1,5,none⟩) (by simp;omega) (.int .i64 0)).setCell (p:=⟨w.heap.size+1+1+1,6,none⟩) (by simp;omega) (.int .i64 0)).setCell (p:=⟨w.heap.size+1+1+1,7,none⟩) (by simp;omega) (.int .i64 0))
  have z0:=HRS.out.cell 0 _ rfl
  have z1:=HRS.out.cell 1 _ rfl
  have z2:=HRS.out.cell 2 _ rfl
  have z3:=HRS.out.cell 3 _ rfl
  have z4:=HRS.out.cell 4 _ rfl
  have z5:=HRS.out.cell 5 _ rfl
  have z6:=HRS.out.cell 6 _ rfl
  have z7:=HRS.out.cell 7 _ rfl
  exact bodyPost_ret (v:=.tuple #[.agg #[.int .i64 0,.int .u8 0,.int .i64 0,.int .i64 0,.int .i64 0,.int .i64 0,.int .i64 0,.int .i64 0],.int .i64 2]) (by simp [results,Tryz.results80,go_sem,z0,z1,z2,z3,z4,z5,z6,z7]) rfl ⟨ret_v2 (by rw [HM.out,if_neg (by simp),if_neg (by simp),if_pos G.out,repV_no (by decide)]) (by rw [HM.out,if_neg (by simp),if_neg (by simp),if_pos G.out]),HBR.out⟩
 have Hd0:=Lib.hid hd0
 clear hd0
 go_wp2_with fail
 refine (xIn _ _ _ _).mono ?_;rintro e w4 ⟨rfl,rfl⟩
 cases hd1:inB d1 (-2000000) 2000000
 ·have G:=Lib.hid (show (inB d0 (-2000000) 2000000 && inB d1 (-2000000) 2000000)=false by rw [hd1];simp)
  clear hd1
  have r0:w2.cell? ⟨w.heap.size+1+1+1,0,none⟩=some (.int .i64 0):=BR.out.cell 0 _ rfl
  have r1:w2.cell? ⟨w.heap.size+1+1+1,1,none⟩=some (.int .u8 0):=BR.out.cell 1 _ rfl
  have r2:w2.cell? ⟨w.heap.size+1+1+1,2,none⟩=some (.int .i64 0):=BR.out.cell 2 _ rfl
  have r3:w2.cell? ⟨w.heap.size+1+1+1,3,none⟩=some (.int .i64 0):=BR.out.cell 3 _ rfl
  have r4:w2.cell? ⟨w.heap.size+1+1+1,4,none⟩=some (.int .i64 0):=BR.out.cell 4 _ rfl
  have r5:w2.cell? ⟨w.heap.size+1+1+1,5,none⟩=some (.int .i64 0):=BR.out.cell 5 _ rfl
  have r6:w2.cell? ⟨w.heap.size+1+1+1,6,none⟩=some (.int .i64 0):=BR.out.cell 6 _ rfl
  have r7:w2.cell? ⟨w.heap.size+1+1+1,7,none⟩=some (.int .i64 0):=BR.out.cell 7 _ rfl
  have rfz:∀ o,w2.frozen? ⟨w.heap.size+1+1+1,o,none⟩=false:=BR.out.fr
  go_wp2_with fail
  have HRS:Hid (Has _ (w.heap.size+1+1+1) [.int .i64 0,.int .u8 0,.int .i64 0,.int .i64 0,.int .i64 0,.int .i64 0,.int .i64 0,.int .i64 0]):=Lib.hid ((((((((BR.out.set 0 (.int .i64 0) (by simp)).set 1 (.int .u8 0) (by simp)).set 2 (.int .i64 0) (by simp)).set 3 (.int .i64 0) (by simp)).set 4 (.int .i64 0) (by simp)).set 5 (.int .i64 0) (by simp)).set 6 (.int .i64 0) (by simp)).set 7 (.int .i64 0) (by simp))
  have HBR:=Lib.hid ((((((((HB.out.setCell (p:=⟨w.heap.size+1+1+1,0,none⟩) (by simp;omega) (.int .i64 0)).setCell (p:=⟨w.heap.size+1+1+1,1,none⟩) (by simp;omega) (.int .u8 0)).setCell (p:=⟨w.heap.size+1+1+1,2,none⟩) (by simp;omega) (.int .i64 0)).setCell (p:=⟨w.heap.size+1+1+1,3,none⟩) (by simp;omega) (.int .i64 0)).setCell (p:=⟨w.heap.size+1+1+1,4,none⟩) (by simp;omega) (.int .i64 0)).setCell (p:=⟨w.heap.size+1+1+1,5,none⟩) (by simp;omega) (.int .i64 0)).setCell (p:=⟨w.heap.size+1+1+1,6,none⟩) (by simp;omega) (.int .i64 0)).setCell (p:=⟨w.heap.size+1+1+1,7,none⟩) (by simp;omega) (.int .i64 0))
  have z0:=HRS.out.cell 0 _ rfl
  have z1:=HRS.out.cell 1 _ rfl
  have z2:=HRS.out.cell 2 _ rfl
  have z3:=HRS.out.cell 3 _ rfl
  have z4:=HRS.out.cell 4 _ rfl
  have z5:=HRS.out.cell 5 _ rfl
  have z6:=HRS.out.cell 6 _ rfl
  have z7:=HRS.out.cell 7 _ rfl
  exact bodyPost_ret (v:=.tuple #[.agg #[.int .i64 0,.int .u8 0,.int .i64 0,.int .i64 0,.int .i64 0,.int .i64 0,.int .i64 0,.int .i64 0],.int .i64 2]) (by simp [results,Tryz.results80,go_sem,z0,z1,z2,z3,z4,z5,z6,z7]) rfl ⟨ret_v2 (by rw [HM.out,if_neg (by simp),if_neg (by simp),if_pos G.out,repV_no (by decide)]) (by rw [HM.out,if_neg (by simp),if_neg (by simp),if_pos G.out]),HBR.out⟩
 have Hd1:=Lib.hid hd1
 clear hd1
 have cc0:w2.cell? ⟨w.heap.size,0,none⟩=some (.int .i64 tk):=BC.out.cell 0 _ rfl
 have s0:w2.cell? ⟨w.heap.size+1,0,none⟩=some (.int .i64 co):=BS.out.cell 0 _ rfl
 have s1:w2.cell? ⟨w.heap.size+1,1,none⟩=some (.int .i64 so):=BS.out.cell 1 _ rfl
 have s2:w2.cell? ⟨w.heap.size+1,2,none⟩=some (.int .u8 ki):=BS.out.cell 2 _ rfl
 have s3:w2.cell? ⟨w.heap.size+1,3,none⟩=some (.int .i64 qx):=BS.out.cell 3 _ rfl
 have s4:w2.cell? ⟨w.heap.size+1,4,none⟩=some (.int .i64 qy):=BS.out.cell 4 _ rfl
 have s5:w2.cell? ⟨w.heap.size+1,5,none⟩=some (.int .i64 bo):=BS.out.cell 5 _ rfl
 have s6:w2.cell? ⟨w.heap.size+1,6,none⟩=some (.int .i64 we):=BS.out.cell 6 _ rfl
 replace HBD:=Lib.hid (HBD.out trivial trivial)
 rcases HBD.out.2 with rfl | rfl | rfl
 ·have N3:Hid (Has (w2.alloc (.cells #[.int .i64 so,.int .u8 1,.int .i64 qx,.int .i64 qy,.int .i64 0,.int .i64 bo,.int .i64 we,.int .i64 tk] 158)) w2.heap.size [.int .i64 so,.int .u8 1,.int .i64 qx,.int .i64 qy,.int .i64 0,.int .i64 bo,.int .i64 we,.int .i64 tk]):=Lib.hid (Has.new w2 _ _)
  have t2:(w2.alloc (.cells #[.int .i64 so,.int .u8 1,.int .i64 qx,.int .i64 qy,.int .i64 0,.int .i64 bo,.int .i64 we,.int .i64 tk] 158)).cell? ⟨w.heap.size+1,2,none⟩=some (.int .u8 1):=(BS.out.alloc _).cell 2 _ rfl
  have c1:(w2.alloc (.cells #[.int .i64 so,.int .u8 1,.int .i64 qx,.int .i64 qy,.int .i64 0,.int .i64 bo,.int .i64 we,.int .i64 tk] 158)).cell? ⟨w.heap.size,1,none⟩=some (.int .i64 px):=(BC.out.alloc _).cell 1 _ rfl
  have c2:(w2.alloc (.cells #[.int .i64 so,.int .u8 1,.int .i64 qx,.int .i64 qy,.int .i64 0,.int .i64 bo,.int .i64 we,.int .i64 tk] 158)).cell? ⟨w.heap.size,2,none⟩=some (.int .i64 py):=(BC.out.alloc _).cell 2 _ rfl
  have y0:(w2.alloc (.cells #[.int .i64 so,.int .u8 1,.int .i64 qx,.int .i64 qy,.int .i64 0,.int .i64 bo,.int .i64 we,.int .i64 tk] 158)).cell? ⟨w.heap.size+1+1,0,none⟩=some (.int .i64 d0):=(BX.out.alloc _).cell 0 _ rfl
  have y1:(w2.alloc (.cells #[.int .i64 so,.int .u8 1,.int .i64 qx,.int .i64 qy,.int .i64 0,.int .i64 bo,.int .i64 we,.int .i64 tk] 158)).cell? ⟨w.heap.size+1+1,1,none⟩=some (.int .i64 d1):=(BX.out.alloc _).cell 1 _ rfl
  have n0:(w2.alloc (.cells #[.int .i64 so,.int .u8 1,.int .i64 qx,.int .i64 qy,.int .i64 0,.int .i64 bo,.int .i64 we,.int .i64 tk] 158)).cell? ⟨w2.heap.size,0,none⟩=some (.int .i64 so):=N3.out.cell 0 _ rfl
  have n1:(w2.alloc (.cells #[.int .i64 so,.int .u8 1,.int .i64 qx,.int .i64 qy,.int .i64 0,.int .i64 bo,.int .i64 we,.int .i64 tk] 158)).cell? ⟨w2.heap.size,1,none⟩=some (.int .u8 1):=N3.out.cell 1 _ rfl
  have n2:(w2.alloc (.cells #[.int .i64 so,.int .u8 1,.int .i64 qx,.int .i64 qy,.int .i64 0,.int .i64 bo,.int .i64 we,.int .i64 tk] 158)).cell? ⟨w2.heap.size,2,none⟩=some (.int .i64 qx):=N3.out.cell 2 _ rfl
  have n3:(w2.alloc (.cells #[.int .i64 so,.int .u8 1,.int .i64 qx,.int .i64 qy,.int .i64 0,.int .i64 bo,.int .i64 we,.int .i64 tk] 158)).cell? ⟨w2.heap.size,3,none⟩=some (.int .i64 qy):=N3.out.cell 3 _ rfl
  have n4:(w2.alloc (.cells #[.int .i64 so,.int .u8 1,.int .i64 qx,.int .i64 qy,.int .i64 0,.int .i64 bo,.int .i64 we,.int .i64 tk] 158)).cell? ⟨w2.heap.size,4,none⟩=some (.int .i64 0):=N3.out.cell 4 _ rfl
  have n5:(w2.alloc (.cells #[.int .i64 so,.int .u8 1,.int .i64 qx,.int .i64 qy,.int .i64 0,.int .i64 bo,.int .i64 we,.int .i64 tk] 158)).cell? ⟨w2.heap.size,5,none⟩=some (.int .i64 bo):=N3.out.cell 5 _ rfl
  have n6:(w2.alloc (.cells #[.int .i64 so,.int .u8 1,.int .i64 qx,.int .i64 qy,.int .i64 0,.int .i64 bo,.int .i64 we,.int .i64 tk] 158)).cell? ⟨w2.heap.size,6,none⟩=some (.int .i64 we):=N3.out.cell 6 _ rfl
  have n7:(w2.alloc (.cells #[.int .i64 so,.int .u8 1,.int .i64 qx,.int .i64 qy,.int .i64 0,.int .i64 bo,.int .i64 we,.int .i64 tk] 158)).cell? ⟨w2.heap.size,7,none⟩=some (.int .i64 tk):=N3.out.cell 7 _ rfl
  have nfz:∀ o,(w2.alloc (.cells #[.int .i64 so,.int .u8 1,.int .i64 qx,.int .i64 qy,.int .i64 0,.int .i64 bo,.int .i64 we,.int .i64 tk] 158)).frozen? ⟨w2.heap.size,o,none⟩=false:=N3.out.fr
  have hp:=ptB_iff.1 HBD.out.1
  have hd0:=inB_iff.1 Hd0.out
  have hd1:=inB_iff.1 Hd1.out
  obtain ⟨⟨p0,p1⟩,p2,p3⟩:=hp
  obtain ⟨g0,g1⟩:=hd0
  obtain ⟨g2,g3⟩:=hd1
  have MX:=Lib.hid (show msX 1 qx px d0=px+d0 by simp [msX])
  have MY:=Lib.hid (show msX 1 qy py d1=py+d1 by simp [msX])
  have MV:=Lib.hid (show msV 1 dv cv d0=0 by simp [msV])
  have HM2:=Lib.hid (show M=repE so 1 (px+d0) (py+d1) (0) bo we tk by rw [HM.out,if_neg (by simp),if_neg (by simp),if_neg (by rw [Hd0.out,Hd1.out];simp),if_neg (by omega),MX.out,MY.out,MV.out])
  have HRP:=Lib.hid (xRep so 1 (px+d0) (py+d1) (0) bo we tk hso'.out (by decide) (by decide))
  generalize repE so 1 (px+d0) (py+d1) (0) bo we tk=E3 at HM2 HRP
  go_wp2_with fail
  refine (HRP.out _).mono ?_;rintro e w6 ⟨rfl,hB⟩
  have NR:Hid (Has w6 w2.heap.size [.int .i64 so,.int .u8 1,.int .i64 (px+d0),.int .i64 (py+d1),.int .i64 0,.int .i64 bo,.int .i64 we,.int .i64 tk]):=Lib.hid ((Has.new w2 _ _).below hB)
  replace BR:=Lib.hid ((BR.out.alloc _).below hB)
  replace HB:=Lib.hid (bel_trans HB.out (bel_alloc hB))
  clear hB
  by_cases hE:E3=0
  ·subst hE
   have m0:w6.cell? ⟨w2.heap.size,0,none⟩=some (.int .i64 so):=NR.out.cell 0 _ rfl
   have m1:w6.cell? ⟨w2.heap.size,1,none⟩=some (.int .u8 1):=NR.out.cell 1 _ rfl
   have m2:w6.cell? ⟨w2.heap.size,2,none⟩=some (.int .i64 (px+d0)):=NR.out.cell 2 _ rfl
   have m3:w6.cell? ⟨w2.heap.size,3,none⟩=some (.int .i64 (py+d1)):=NR.out.cell 3 _ rfl
   have m4:w6.cell? ⟨w2.heap.size,4,none⟩=some (.int .i64 0):=NR.out.cell 4 _ rfl
   have m5:w6.cell? ⟨w2.heap.size,5,none⟩=some (.int .i64 bo):=NR.out.cell 5 _ rfl
   have m6:w6.cell? ⟨w2.heap.size,6,none⟩=some (.int .i64 we):=NR.out.cell 6 _ rfl
   have m7:w6.cell? ⟨w2.heap.size,7,none⟩=some (.int .i64 tk):=NR.out.cell 7 _ rfl
   have r0:w6.cell? ⟨w.heap.size+1+1+1,0,none⟩=some (.int .i64 0):=BR.out.cell 0 _ rfl
   have r1:w6.cell? ⟨w.heap.size+1+1+1,1,none⟩=some (.int .u8 0):=BR.out.cell 1 _ rfl
   have r2:w6.cell? ⟨w.heap.size+1+1+1,2,none⟩=some (.int .i64 0):=BR.out.cell 2 _ rfl
   have r3:w6.cell? ⟨w.heap.size+1+1+1,3,none⟩=some (.int .i64 0):=BR.out.cell 3 _ rfl
   have r4:w6.cell? ⟨w.heap.size+1+1+1,4,none⟩=some (.int .i64 0):=BR.out.cell 4 _ rfl
   have r5:w6.cell? ⟨w.heap.size+1+1+1,5,none⟩=some (.int .i64 0):=BR.out.cell 5 _ rfl
   have r6:w6.cell? ⟨w.heap.size+1+1+1,6,none⟩=some (.int .i64 0):=BR.out.cell 6 _ rfl
   have r7:w6.cell? ⟨w.heap.size+1+1+1,7,none⟩=some (.int .i64 0):=BR.out.cell 7 _ rfl
   have rfz:∀ o,w6.frozen? ⟨w.heap.size+1+1+1,o,none⟩=false:=BR.out.fr
   go_wp2_with fail
   have HRS:Hid (Has _ (w.heap.size+1+1+1) [.int .i64 so,.int .u8 1,.int .i64 (px+d0),.int .i64 (py+d1),.int .i64 0,.int .i64 bo,.int .i64 we,.int .i64 tk]):=Lib.hid ((((((((BR.out.set 0 (.int .i64 so) (by simp)).set 1 (.int .u8 1) (by simp)).set 2 (.int .i64 (px+d0)) (by simp)).set 3 (.int .i64 (py+d1)) (by simp)).set 4 (.int .i64 0) (by simp)).set 5 (.int .i64 bo) (by simp)).set 6 (.int .i64 we) (by simp)).set 7 (.int .i64 tk) (by simp))
   have HBR:=Lib.hid ((((((((HB.out.setCell (p:=⟨w.heap.size+1+1+1,0,none⟩) (by simp;omega) (.int .i64 so)).setCell (p:=⟨w.heap.size+1+1+1,1,none⟩) (by simp;omega) (.int .u8 1)).setCell (p:=⟨w.heap.size+1+1+1,2,none⟩) (by simp;omega) (.int .i64 (px+d0))).setCell (p:=⟨w.heap.size+1+1+1,3,none⟩) (by simp;omega) (.int .i64 (py+d1))).setCell (p:=⟨w.heap.size+1+1+1,4,none⟩) (by simp;omega) (.int .i64 0)).setCell (p:=⟨w.heap.size+1+1+1,5,none⟩) (by simp;omega) (.int .i64 bo)).setCell (p:=⟨w.heap.size+1+1+1,6,none⟩) (by simp;omega) (.int .i64 we)).setCell (p:=⟨w.heap.size+1+1+1,7,none⟩) (by simp;omega) (.int .i64 tk))
   have z0:=HRS.out.cell 0 _ rfl
   have z1:=HRS.out.cell 1 _ rfl
   have z2:=HRS.out.cell 2 _ rfl
   have z3:=HRS.out.cell 3 _ rfl
   have z4:=HRS.out.cell 4 _ rfl
   have z5:=HRS.out.cell 5 _ rfl
   have z6:=HRS.out.cell 6 _ rfl
   have z7:=HRS.out.cell 7 _ rfl
   exact bodyPost_ret (v:=.tuple #[.agg #[.int .i64 so,.int .u8 1,.int .i64 (px+d0),.int .i64 (py+d1),.int .i64 0,.int .i64 bo,.int .i64 we,.int .i64 tk],.int .i64 0]) (by simp [results,Tryz.results80,go_sem,z0,z1,z2,z3,z4,z5,z6,z7]) rfl ⟨ret_v2 (by rw [HM2.out,repV_ok,MX.out,MY.out,MV.out]) (by rw [HM2.out]),HBR.out⟩
  ·have e1:(E3 == 0)=false:=beq_eq_false_iff_ne.2 hE
   have e2:(E3 != 0)=true:=by rw [bne,e1];rfl
   have HE:=Lib.hid hE
   clear hE
   have r0:w6.cell? ⟨w.heap.size+1+1+1,0,none⟩=some (.int .i64 0):=BR.out.cell 0 _ rfl
   have r1:w6.cell? ⟨w.heap.size+1+1+1,1,none⟩=some (.int .u8 0):=BR.out.cell 1 _ rfl
   have r2:w6.cell? ⟨w.heap.size+1+1+1,2,none⟩=some (.int .i64 0):=BR.out.cell 2 _ rfl
   have r3:w6.cell? ⟨w.heap.size+1+1+1,3,none⟩=some (.int .i64 0):=BR.out.cell 3 _ rfl
   have r4:w6.cell? ⟨w.heap.size+1+1+1,4,none⟩=some (.int .i64 0):=BR.out.cell 4 _ rfl
   have r5:w6.cell? ⟨w.heap.size+1+1+1,5,none⟩=some (.int .i64 0):=BR.out.cell 5 _ rfl
   have r6:w6.cell? ⟨w.heap.size+1+1+1,6,none⟩=some (.int .i64 0):=BR.out.cell 6 _ rfl
   have r7:w6.cell? ⟨w.heap.size+1+1+1,7,none⟩=some (.int .i64 0):=BR.out.cell 7 _ rfl
   have rfz:∀ o,w6.frozen? ⟨w.heap.size+1+1+1,o,none⟩=false:=BR.out.fr
   go_wp2_with fail
   have HRS:Hid (Has _ (w.heap.size+1+1+1) [.int .i64 0,.int .u8 0,.int .i64 0,.int .i64 0,.int .i64 0,.int .i64 0,.int .i64 0,.int .i64 0]):=Lib.hid ((((((((BR.out.set 0 (.int .i64 0) (by simp)).set 1 (.int .u8 0) (by simp)).set 2 (.int .i64 0) (by simp)).set 3 (.int .i64 0) (by simp)).set 4 (.int .i64 0) (by simp)).set 5 (.int .i64 0) (by simp)).set 6 (.int .i64 0) (by simp)).set 7 (.int .i64 0) (by simp))
   have HBR:=Lib.hid ((((((((HB.out.setCell (p:=⟨w.heap.size+1+1+1,0,none⟩) (by simp;omega) (.int .i64 0)).setCell (p:=⟨w.heap.size+1+1+1,1,none⟩) (by simp;omega) (.int .u8 0)).setCell (p:=⟨w.heap.size+1+1+1,2,none⟩) (by simp;omega) (.int .i64 0)).setCell (p:=⟨w.heap.size+1+1+1,3,none⟩) (by simp;omega) (.int .i64 0)).setCell (p:=⟨w.heap.size+1+1+1,4,none⟩) (by simp;omega) (.int .i64 0)).setCell (p:=⟨w.heap.size+1+1+1,5,none⟩) (by simp;omega) (.int .i64 0)).setCell (p:=⟨w.heap.size+1+1+1,6,none⟩) (by simp;omega) (.int .i64 0)).setCell (p:=⟨w.heap.size+1+1+1,7,none⟩) (by simp;omega) (.int .i64 0))
   have z0:=HRS.out.cell 0 _ rfl
   have z1:=HRS.out.cell 1 _ rfl
   have z2:=HRS.out.cell 2 _ rfl
   have z3:=HRS.out.cell 3 _ rfl
   have z4:=HRS.out.cell 4 _ rfl
   have z5:=HRS.out.cell 5 _ rfl
   have z6:=HRS.out.cell 6 _ rfl
   have z7:=HRS.out.cell 7 _ rfl
   exact bodyPost_ret (v:=.tuple #[.agg #[.int .i64 0,.int .u8 0,.int .i64 0,.int .i64 0,.int .i64 0,.int .i64 0,.int .i64 0,.int .i64 0],.int .i64 E3]) (by simp [results,Tryz.results80,go_sem,z0,z1,z2,z3,z4,z5,z6,z7]) rfl ⟨ret_v2 (by rw [HM2.out,repV_no HE.out]) (by rw [HM2.out]),HBR.out⟩
 ·have N3:Hid (Has (w2.alloc (.cells #[.int .i64 so,.int .u8 2,.int .i64 qx,.int .i64 qy,.int .i64 0,.int .i64 bo,.int .i64 we,.int .i64 tk] 158)) w2.heap.size [.int .i64 so,.int .u8 2,.int .i64 qx,.int .i64 qy,.int .i64 0,.int .i64 bo,.int .i64 we,.int .i64 tk]):=Lib.hid (Has.new w2 _ _)
  have t2:(w2.alloc (.cells #[.int .i64 so,.int .u8 2,.int .i64 qx,.int .i64 qy,.int .i64 0,.int .i64 bo,.int .i64 we,.int .i64 tk] 158)).cell? ⟨w.heap.size+1,2,none⟩=some (.int .u8 2):=(BS.out.alloc _).cell 2 _ rfl
  have c1:(w2.alloc (.cells #[.int .i64 so,.int .u8 2,.int .i64 qx,.int .i64 qy,.int .i64 0,.int .i64 bo,.int .i64 we,.int .i64 tk] 158)).cell? ⟨w.heap.size,1,none⟩=some (.int .i64 px):=(BC.out.alloc _).cell 1 _ rfl
  have c2:(w2.alloc (.cells #[.int .i64 so,.int .u8 2,.int .i64 qx,.int .i64 qy,.int .i64 0,.int .i64 bo,.int .i64 we,.int .i64 tk] 158)).cell? ⟨w.heap.size,2,none⟩=some (.int .i64 py):=(BC.out.alloc _).cell 2 _ rfl
  have y0:(w2.alloc (.cells #[.int .i64 so,.int .u8 2,.int .i64 qx,.int .i64 qy,.int .i64 0,.int .i64 bo,.int .i64 we,.int .i64 tk] 158)).cell? ⟨w.heap.size+1+1,0,none⟩=some (.int .i64 d0):=(BX.out.alloc _).cell 0 _ rfl
  have y1:(w2.alloc (.cells #[.int .i64 so,.int .u8 2,.int .i64 qx,.int .i64 qy,.int .i64 0,.int .i64 bo,.int .i64 we,.int .i64 tk] 158)).cell? ⟨w.heap.size+1+1,1,none⟩=some (.int .i64 d1):=(BX.out.alloc _).cell 1 _ rfl
  have t3:(w2.alloc (.cells #[.int .i64 so,.int .u8 2,.int .i64 qx,.int .i64 qy,.int .i64 0,.int .i64 bo,.int .i64 we,.int .i64 tk] 158)).cell? ⟨w.heap.size+1,3,none⟩=some (.int .i64 qx):=(BS.out.alloc _).cell 3 _ rfl
  have t4:(w2.alloc (.cells #[.int .i64 so,.int .u8 2,.int .i64 qx,.int .i64 qy,.int .i64 0,.int .i64 bo,.int .i64 we,.int .i64 tk] 158)).cell? ⟨w.heap.size+1,4,none⟩=some (.int .i64 qy):=(BS.out.alloc _).cell 4 _ rfl
  have n0:(w2.alloc (.cells #[.int .i64 so,.int .u8 2,.int .i64 qx,.int .i64 qy,.int .i64 0,.int .i64 bo,.int .i64 we,.int .i64 tk] 158)).cell? ⟨w2.heap.size,0,none⟩=some (.int .i64 so):=N3.out.cell 0 _ rfl
  have n1:(w2.alloc (.cells #[.int .i64 so,.int .u8 2,.int .i64 qx,.int .i64 qy,.int .i64 0,.int .i64 bo,.int .i64 we,.int .i64 tk] 158)).cell? ⟨w2.heap.size,1,none⟩=some (.int .u8 2):=N3.out.cell 1 _ rfl
  have n2:(w2.alloc (.cells #[.int .i64 so,.int .u8 2,.int .i64 qx,.int .i64 qy,.int .i64 0,.int .i64 bo,.int .i64 we,.int .i64 tk] 158)).cell? ⟨w2.heap.size,2,none⟩=some (.int .i64 qx):=N3.out.cell 2 _ rfl
  have n3:(w2.alloc (.cells #[.int .i64 so,.int .u8 2,.int .i64 qx,.int .i64 qy,.int .i64 0,.int .i64 bo,.int .i64 we,.int .i64 tk] 158)).cell? ⟨w2.heap.size,3,none⟩=some (.int .i64 qy):=N3.out.cell 3 _ rfl
  have n4:(w2.alloc (.cells #[.int .i64 so,.int .u8 2,.int .i64 qx,.int .i64 qy,.int .i64 0,.int .i64 bo,.int .i64 we,.int .i64 tk] 158)).cell? ⟨w2.heap.size,4,none⟩=some (.int .i64 0):=N3.out.cell 4 _ rfl
  have n5:(w2.alloc (.cells #[.int .i64 so,.int .u8 2,.int .i64 qx,.int .i64 qy,.int .i64 0,.int .i64 bo,.int .i64 we,.int .i64 tk] 158)).cell? ⟨w2.heap.size,5,none⟩=some (.int .i64 bo):=N3.out.cell 5 _ rfl
  have n6:(w2.alloc (.cells #[.int .i64 so,.int .u8 2,.int .i64 qx,.int .i64 qy,.int .i64 0,.int .i64 bo,.int .i64 we,.int .i64 tk] 158)).cell? ⟨w2.heap.size,6,none⟩=some (.int .i64 we):=N3.out.cell 6 _ rfl
  have n7:(w2.alloc (.cells #[.int .i64 so,.int .u8 2,.int .i64 qx,.int .i64 qy,.int .i64 0,.int .i64 bo,.int .i64 we,.int .i64 tk] 158)).cell? ⟨w2.heap.size,7,none⟩=some (.int .i64 tk):=N3.out.cell 7 _ rfl
  have nfz:∀ o,(w2.alloc (.cells #[.int .i64 so,.int .u8 2,.int .i64 qx,.int .i64 qy,.int .i64 0,.int .i64 bo,.int .i64 we,.int .i64 tk] 158)).frozen? ⟨w2.heap.size,o,none⟩=false:=N3.out.fr
  have hp:=ptB_iff.1 HBD.out.1
  have hd0:=inB_iff.1 Hd0.out
  have hd1:=inB_iff.1 Hd1.out
  obtain ⟨⟨p0,p1⟩,p2,p3⟩:=hp
  obtain ⟨g0,g1⟩:=hd0
  obtain ⟨g2,g3⟩:=hd1
  have hdv:=(HDV.out rfl).1
  have HDC:=Lib.hid (HDV.out rfl).2
  obtain ⟨v0,v1⟩:=hdv
  have T3:Hid (Has (w2.alloc (.cells #[.int .i64 so,.int .u8 2,.int .i64 qx,.int .i64 qy,.int .i64 0,.int .i64 bo,.int .i64 we,.int .i64 tk] 158)) (w.heap.size+1) (lzl co so 2 qx qy bo we)):=Lib.hid (BS.out.alloc _)
  have C3:Hid (Has (w2.alloc (.cells #[.int .i64 so,.int .u8 2,.int .i64 qx,.int .i64 qy,.int .i64 0,.int .i64 bo,.int .i64 we,.int .i64 tk] 158)) w.heap.size [.int .i64 tk,.int .i64 px,.int .i64 py,.int .i64 ve,.int .i64 vn,.int .i64 al,.int .i64 vs,.int .i64 hd,.int .i64 ca,.int .i64 fu,.int .i64 bk,.bool gr]):=Lib.hid (BC.out.alloc _)
  have X3:Hid (Has (w2.alloc (.cells #[.int .i64 so,.int .u8 2,.int .i64 qx,.int .i64 qy,.int .i64 0,.int .i64 bo,.int .i64 we,.int .i64 tk] 158)) (w.heap.size+1+1) (lz2 d0 d1)):=Lib.hid (BX.out.alloc _)
  have R3:Hid (Has (w2.alloc (.cells #[.int .i64 so,.int .u8 2,.int .i64 qx,.int .i64 qy,.int .i64 0,.int .i64 bo,.int .i64 we,.int .i64 tk] 158)) (w.heap.size+1+1+1) [.int .i64 0,.int .u8 0,.int .i64 0,.int .i64 0,.int .i64 0,.int .i64 0,.int .i64 0,.int .i64 0]):=Lib.hid (BR.out.alloc _)
  have B3:=Lib.hid (bel_alloc1 HB.out (.cells #[.int .i64 so,.int .u8 2,.int .i64 qx,.int .i64 qy,.int .i64 0,.int .i64 bo,.int .i64 we,.int .i64 tk] 158))
  have hlt:w.heap.size+1+1+1<w2.heap.size:=HB0.out
  have wv:IntKind.i64.wrap (dv+d0)=dv+d0:=IntWalk.i64_in _ (by omega)
  have MX:=Lib.hid (show msX 2 qx px d0=qx by simp [msX])
  have MY:=Lib.hid (show msX 2 qy py d1=qy by simp [msX])
  have MV:=Lib.hid (show msV 2 dv cv d0=max (dv+d0) 0 by simp [msV])
  have HM2:=Lib.hid (show M=repE so 2 (qx) (qy) (max (dv+d0) 0) bo we tk by rw [HM.out,if_neg (by simp),if_neg (by simp),if_neg (by rw [Hd0.out,Hd1.out];simp),if_neg (by omega),MX.out,MY.out,MV.out])
  have HRP:=Lib.hid (xRep so 2 (qx) (qy) (max (dv+d0) 0) bo we tk hso'.out (by decide) (by decide))
  generalize repE so 2 (qx) (qy) (max (dv+d0) 0) bo we tk=E3 at HM2 HRP
  go_wp2_with fail
  go_region_held3 (fun w'=>(w'.cell? ⟨w.heap.size+1+1,0,none⟩=some (.int .i64 d0)∧w'.cell? ⟨w.heap.size+1,3,none⟩=some (.int .i64 qx)∧w'.cell? ⟨w.heap.size+1,4,none⟩=some (.int .i64 qy))∧w'.cell? ⟨w.heap.size,1,none⟩=some (.int .i64 px)∧w'.cell? ⟨w.heap.size,2,none⟩=some (.int .i64 py)) (refine ⟨⟨?_,?_,?_⟩,?_,?_⟩ <;> ((try simp only [World.cell?_drew]);(repeat rw [World.cell?_setCell_other _ _ _ _ (by intro e;injection e with e;omega)]);assumption)) ((go_at_call 134;refine (HDC.out _).mono ?_;rintro e w4 ⟨rfl,hB⟩;have N4:=Lib.hid (N3.out.drew.below hB);have R4:=Lib.hid (R3.out.drew.below hB);have y4:=(X3.out.drew.below hB).cell 0 _ rfl;have y5:=(T3.out.drew.below hB).cell 3 _ rfl;have y6:=(T3.out.drew.below hB).cell 4 _ rfl;have y7:=(C3.out.drew.below hB).cell 1 _ rfl;have y8:=(C3.out.drew.below hB).cell 2 _ rfl;have q4:=N4.out.cell 4 _ rfl;have qf:=N4.out.fr 4;have HB4:=Lib.hid (bel_trans B3.out.drew hB);clear hB))
  have N5:Hid (Has (w4.setCell ⟨w2.heap.size,4,none⟩ (.int .i64 (max (dv+d0) 0))) w2.heap.size [.int .i64 so,.int .u8 2,.int .i64 qx,.int .i64 qy,.int .i64 (max (dv+d0) 0),.int .i64 bo,.int .i64 we,.int .i64 tk]):=Lib.hid (N4.out.set 4 _ (by simp))
  have R5:Hid (Has (w4.setCell ⟨w2.heap.size,4,none⟩ (.int .i64 (max (dv+d0) 0))) (w.heap.size+1+1+1) [.int .i64 0,.int .u8 0,.int .i64 0,.int .i64 0,.int .i64 0,.int .i64 0,.int .i64 0,.int .i64 0]):=Lib.hid (R4.out.other _ 4 _ (by omega))
  have B5:Hid (Below w.heap.size w (w4.setCell ⟨w2.heap.size,4,none⟩ (.int .i64 (max (dv+d0) 0)))):=Lib.hid (HB4.out.setCell (p:=⟨w2.heap.size,4,none⟩) (by simp;omega) _)
  have v00:(w4.setCell ⟨w2.heap.size,4,none⟩ (.int .i64 (max (dv+d0) 0))).cell? ⟨w2.heap.size,0,none⟩=some (.int .i64 so):=N5.out.cell 0 _ rfl
  have v11:(w4.setCell ⟨w2.heap.size,4,none⟩ (.int .i64 (max (dv+d0) 0))).cell? ⟨w2.heap.size,1,none⟩=some (.int .u8 2):=N5.out.cell 1 _ rfl
  have v22:(w4.setCell ⟨w2.heap.size,4,none⟩ (.int .i64 (max (dv+d0) 0))).cell? ⟨w2.heap.size,2,none⟩=some (.int .i64 qx):=N5.out.cell 2 _ rfl
  have v33:(w4.setCell ⟨w2.heap.size,4,none⟩ (.int .i64 (max (dv+d0) 0))).cell? ⟨w2.heap.size,3,none⟩=some (.int .i64 qy):=N5.out.cell 3 _ rfl
  have v44:(w4.setCell ⟨w2.heap.size,4,none⟩ (.int .i64 (max (dv+d0) 0))).cell? ⟨w2.heap.size,4,none⟩=some (.int .i64 (max (dv+d0) 0)):=N5.out.cell 4 _ rfl
  have v55:(w4.setCell ⟨w2.heap.size,4,none⟩ (.int .i64 (max (dv+d0) 0))).cell? ⟨w2.heap.size,5,none⟩=some (.int .i64 bo):=N5.out.cell 5 _ rfl
  have v66:(w4.setCell ⟨w2.heap.size,4,none⟩ (.int .i64 (max (dv+d0) 0))).cell? ⟨w2.heap.size,6,none⟩=some (.int .i64 we):=N5.out.cell 6 _ rfl
  have v77:(w4.setCell ⟨w2.heap.size,4,none⟩ (.int .i64 (max (dv+d0) 0))).cell? ⟨w2.heap.size,7,none⟩=some (.int .i64 tk):=N5.out.cell 7 _ rfl
  go_wp2_with fail
  refine (HRP.out _).mono ?_;rintro e w6 ⟨rfl,hB⟩
  have NR:Hid (Has w6 w2.heap.size [.int .i64 so,.int .u8 2,.int .i64 qx,.int .i64 qy,.int .i64 (max (dv+d0) 0),.int .i64 bo,.int .i64 we,.int .i64 tk]):=Lib.hid (N5.out.below hB)
  replace BR:=Lib.hid (R5.out.below hB)
  replace HB:=Lib.hid (bel_trans B5.out hB)
  clear hB
  by_cases hE:E3=0
  ·subst hE
   have m0:w6.cell? ⟨w2.heap.size,0,none⟩=some (.int .i64 so):=NR.out.cell 0 _ rfl
   have m1:w6.cell? ⟨w2.heap.size,1,none⟩=some (.int .u8 2):=NR.out.cell 1 _ rfl
   have m2:w6.cell? ⟨w2.heap.size,2,none⟩=some (.int .i64 qx):=NR.out.cell 2 _ rfl
   have m3:w6.cell? ⟨w2.heap.size,3,none⟩=some (.int .i64 qy):=NR.out.cell 3 _ rfl
   have m4:w6.cell? ⟨w2.heap.size,4,none⟩=some (.int .i64 (max (dv+d0) 0)):=NR.out.cell 4 _ rfl
   have m5:w6.cell? ⟨w2.heap.size,5,none⟩=some (.int .i64 bo):=NR.out.cell 5 _ rfl
   have m6:w6.cell? ⟨w2.heap.size,6,none⟩=some (.int .i64 we):=NR.out.cell 6 _ rfl
   have m7:w6.cell? ⟨w2.heap.size,7,none⟩=some (.int .i64 tk):=NR.out.cell 7 _ rfl
   have r0:w6.cell? ⟨w.heap.size+1+1+1,0,none⟩=some (.int .i64 0):=BR.out.cell 0 _ rfl
   have r1:w6.cell? ⟨w.heap.size+1+1+1,1,none⟩=some (.int .u8 0):=BR.out.cell 1 _ rfl
   have r2:w6.cell? ⟨w.heap.size+1+1+1,2,none⟩=some (.int .i64 0):=BR.out.cell 2 _ rfl
   have r3:w6.cell? ⟨w.heap.size+1+1+1,3,none⟩=some (.int .i64 0):=BR.out.cell 3 _ rfl
   have r4:w6.cell? ⟨w.heap.size+1+1+1,4,none⟩=some (.int .i64 0):=BR.out.cell 4 _ rfl
   have r5:w6.cell? ⟨w.heap.size+1+1+1,5,none⟩=some (.int .i64 0):=BR.out.cell 5 _ rfl
   have r6:w6.cell? ⟨w.heap.size+1+1+1,6,none⟩=some (.int .i64 0):=BR.out.cell 6 _ rfl
   have r7:w6.cell? ⟨w.heap.size+1+1+1,7,none⟩=some (.int .i64 0):=BR.out.cell 7 _ rfl
   have rfz:∀ o,w6.frozen? ⟨w.heap.size+1+1+1,o,none⟩=false:=BR.out.fr
   go_wp2_with fail
   have HRS:Hid (Has _ (w.heap.size+1+1+1) [.int .i64 so,.int .u8 2,.int .i64 qx,.int .i64 qy,.int .i64 (max (dv+d0) 0),.int .i64 bo,.int .i64 we,.int .i64 tk]):=Lib.hid ((((((((BR.out.set 0 (.int .i64 so) (by simp)).set 1 (.int .u8 2) (by simp)).set 2 (.int .i64 qx) (by simp)).set 3 (.int .i64 qy) (by simp)).set 4 (.int .i64 (max (dv+d0) 0)) (by simp)).set 5 (.int .i64 bo) (by simp)).set 6 (.int .i64 we) (by simp)).set 7 (.int .i64 tk) (by simp))
   have HBR:=Lib.hid ((((((((HB.out.setCell (p:=⟨w.heap.size+1+1+1,0,none⟩) (by simp;omega) (.int .i64 so)).setCell (p:=⟨w.heap.size+1+1+1,1,none⟩) (by simp;omega) (.int .u8 2)).setCell (p:=⟨w.heap.size+1+1+1,2,none⟩) (by simp;omega) (.int .i64 qx)).setCell (p:=⟨w.heap.size+1+1+1,3,none⟩) (by simp;omega) (.int .i64 qy)).setCell (p:=⟨w.heap.size+1+1+1,4,none⟩) (by simp;omega) (.int .i64 (max (dv+d0) 0))).setCell (p:=⟨w.heap.size+1+1+1,5,none⟩) (by simp;omega) (.int .i64 bo)).setCell (p:=⟨w.heap.size+1+1+1,6,none⟩) (by simp;omega) (.int .i64 we)).setCell (p:=⟨w.heap.size+1+1+1,7,none⟩) (by simp;omega) (.int .i64 tk))
   have z0:=HRS.out.cell 0 _ rfl
   have z1:=HRS.out.cell 1 _ rfl
   have z2:=HRS.out.cell 2 _ rfl
   have z3:=HRS.out.cell 3 _ rfl
   have z4:=HRS.out.cell 4 _ rfl
   have z5:=HRS.out.cell 5 _ rfl
   have z6:=HRS.out.cell 6 _ rfl
   have z7:=HRS.out.cell 7 _ rfl
   exact bodyPost_ret (v:=.tuple #[.agg #[.int .i64 so,.int .u8 2,.int .i64 qx,.int .i64 qy,.int .i64 (max (dv+d0) 0),.int .i64 bo,.int .i64 we,.int .i64 tk],.int .i64 0]) (by simp [results,Tryz.results80,go_sem,z0,z1,z2,z3,z4,z5,z6,z7]) rfl ⟨ret_v2 (by rw [HM2.out,repV_ok,MX.out,MY.out,MV.out]) (by rw [HM2.out]),HBR.out⟩
  ·have e1:(E3 == 0)=false:=beq_eq_false_iff_ne.2 hE
   have e2:(E3 != 0)=true:=by rw [bne,e1];rfl
   have HE:=Lib.hid hE
   clear hE
   have r0:w6.cell? ⟨w.heap.size+1+1+1,0,none⟩=some (.int .i64 0):=BR.out.cell 0 _ rfl
   have r1:w6.cell? ⟨w.heap.size+1+1+1,1,none⟩=some (.int .u8 0):=BR.out.cell 1 _ rfl
   have r2:w6.cell? ⟨w.heap.size+1+1+1,2,none⟩=some (.int .i64 0):=BR.out.cell 2 _ rfl
   have r3:w6.cell? ⟨w.heap.size+1+1+1,3,none⟩=some (.int .i64 0):=BR.out.cell 3 _ rfl
   have r4:w6.cell? ⟨w.heap.size+1+1+1,4,none⟩=some (.int .i64 0):=BR.out.cell 4 _ rfl
   have r5:w6.cell? ⟨w.heap.size+1+1+1,5,none⟩=some (.int .i64 0):=BR.out.cell 5 _ rfl
   have r6:w6.cell? ⟨w.heap.size+1+1+1,6,none⟩=some (.int .i64 0):=BR.out.cell 6 _ rfl
   have r7:w6.cell? ⟨w.heap.size+1+1+1,7,none⟩=some (.int .i64 0):=BR.out.cell 7 _ rfl
   have rfz:∀ o,w6.frozen? ⟨w.heap.size+1+1+1,o,none⟩=false:=BR.out.fr
   go_wp2_with fail
   have HRS:Hid (Has _ (w.heap.size+1+1+1) [.int .i64 0,.int .u8 0,.int .i64 0,.int .i64 0,.int .i64 0,.int .i64 0,.int .i64 0,.int .i64 0]):=Lib.hid ((((((((BR.out.set 0 (.int .i64 0) (by simp)).set 1 (.int .u8 0) (by simp)).set 2 (.int .i64 0) (by simp)).set 3 (.int .i64 0) (by simp)).set 4 (.int .i64 0) (by simp)).set 5 (.int .i64 0) (by simp)).set 6 (.int .i64 0) (by simp)).set 7 (.int .i64 0) (by simp))
   have HBR:=Lib.hid ((((((((HB.out.setCell (p:=⟨w.heap.size+1+1+1,0,none⟩) (by simp;omega) (.int .i64 0)).setCell (p:=⟨w.heap.size+1+1+1,1,none⟩) (by simp;omega) (.int .u8 0)).setCell (p:=⟨w.heap.size+1+1+1,2,none⟩) (by simp;omega) (.int .i64 0)).setCell (p:=⟨w.heap.size+1+1+1,3,none⟩) (by simp;omega) (.int .i64 0)).setCell (p:=⟨w.heap.size+1+1+1,4,none⟩) (by simp;omega) (.int .i64 0)).setCell (p:=⟨w.heap.size+1+1+1,5,none⟩) (by simp;omega) (.int .i64 0)).setCell (p:=⟨w.heap.size+1+1+1,6,none⟩) (by simp;omega) (.int .i64 0)).setCell (p:=⟨w.heap.size+1+1+1,7,none⟩) (by simp;omega) (.int .i64 0))
   have z0:=HRS.out.cell 0 _ rfl
   have z1:=HRS.out.cell 1 _ rfl
   have z2:=HRS.out.cell 2 _ rfl
   have z3:=HRS.out.cell 3 _ rfl
   have z4:=HRS.out.cell 4 _ rfl
   have z5:=HRS.out.cell 5 _ rfl
   have z6:=HRS.out.cell 6 _ rfl
   have z7:=HRS.out.cell 7 _ rfl
   exact bodyPost_ret (v:=.tuple #[.agg #[.int .i64 0,.int .u8 0,.int .i64 0,.int .i64 0,.int .i64 0,.int .i64 0,.int .i64 0,.int .i64 0],.int .i64 E3]) (by simp [results,Tryz.results80,go_sem,z0,z1,z2,z3,z4,z5,z6,z7]) rfl ⟨ret_v2 (by rw [HM2.out,repV_no HE.out]) (by rw [HM2.out]),HBR.out⟩
 ·have N3:Hid (Has (w2.alloc (.cells #[.int .i64 so,.int .u8 3,.int .i64 qx,.int .i64 qy,.int .i64 0,.int .i64 bo,.int .i64 we,.int .i64 tk] 158)) w2.heap.size [.int .i64 so,.int .u8 3,.int .i64 qx,.int .i64 qy,.int .i64 0,.int .i64 bo,.int .i64 we,.int .i64 tk]):=Lib.hid (Has.new w2 _ _)
  have t2:(w2.alloc (.cells #[.int .i64 so,.int .u8 3,.int .i64 qx,.int .i64 qy,.int .i64 0,.int .i64 bo,.int .i64 we,.int .i64 tk] 158)).cell? ⟨w.heap.size+1,2,none⟩=some (.int .u8 3):=(BS.out.alloc _).cell 2 _ rfl
  have c1:(w2.alloc (.cells #[.int .i64 so,.int .u8 3,.int .i64 qx,.int .i64 qy,.int .i64 0,.int .i64 bo,.int .i64 we,.int .i64 tk] 158)).cell? ⟨w.heap.size,1,none⟩=some (.int .i64 px):=(BC.out.alloc _).cell 1 _ rfl
  have c2:(w2.alloc (.cells #[.int .i64 so,.int .u8 3,.int .i64 qx,.int .i64 qy,.int .i64 0,.int .i64 bo,.int .i64 we,.int .i64 tk] 158)).cell? ⟨w.heap.size,2,none⟩=some (.int .i64 py):=(BC.out.alloc _).cell 2 _ rfl
  have y0:(w2.alloc (.cells #[.int .i64 so,.int .u8 3,.int .i64 qx,.int .i64 qy,.int .i64 0,.int .i64 bo,.int .i64 we,.int .i64 tk] 158)).cell? ⟨w.heap.size+1+1,0,none⟩=some (.int .i64 d0):=(BX.out.alloc _).cell 0 _ rfl
  have y1:(w2.alloc (.cells #[.int .i64 so,.int .u8 3,.int .i64 qx,.int .i64 qy,.int .i64 0,.int .i64 bo,.int .i64 we,.int .i64 tk] 158)).cell? ⟨w.heap.size+1+1,1,none⟩=some (.int .i64 d1):=(BX.out.alloc _).cell 1 _ rfl
  have t3:(w2.alloc (.cells #[.int .i64 so,.int .u8 3,.int .i64 qx,.int .i64 qy,.int .i64 0,.int .i64 bo,.int .i64 we,.int .i64 tk] 158)).cell? ⟨w.heap.size+1,3,none⟩=some (.int .i64 qx):=(BS.out.alloc _).cell 3 _ rfl
  have t4:(w2.alloc (.cells #[.int .i64 so,.int .u8 3,.int .i64 qx,.int .i64 qy,.int .i64 0,.int .i64 bo,.int .i64 we,.int .i64 tk] 158)).cell? ⟨w.heap.size+1,4,none⟩=some (.int .i64 qy):=(BS.out.alloc _).cell 4 _ rfl
  have n0:(w2.alloc (.cells #[.int .i64 so,.int .u8 3,.int .i64 qx,.int .i64 qy,.int .i64 0,.int .i64 bo,.int .i64 we,.int .i64 tk] 158)).cell? ⟨w2.heap.size,0,none⟩=some (.int .i64 so):=N3.out.cell 0 _ rfl
  have n1:(w2.alloc (.cells #[.int .i64 so,.int .u8 3,.int .i64 qx,.int .i64 qy,.int .i64 0,.int .i64 bo,.int .i64 we,.int .i64 tk] 158)).cell? ⟨w2.heap.size,1,none⟩=some (.int .u8 3):=N3.out.cell 1 _ rfl
  have n2:(w2.alloc (.cells #[.int .i64 so,.int .u8 3,.int .i64 qx,.int .i64 qy,.int .i64 0,.int .i64 bo,.int .i64 we,.int .i64 tk] 158)).cell? ⟨w2.heap.size,2,none⟩=some (.int .i64 qx):=N3.out.cell 2 _ rfl
  have n3:(w2.alloc (.cells #[.int .i64 so,.int .u8 3,.int .i64 qx,.int .i64 qy,.int .i64 0,.int .i64 bo,.int .i64 we,.int .i64 tk] 158)).cell? ⟨w2.heap.size,3,none⟩=some (.int .i64 qy):=N3.out.cell 3 _ rfl
  have n4:(w2.alloc (.cells #[.int .i64 so,.int .u8 3,.int .i64 qx,.int .i64 qy,.int .i64 0,.int .i64 bo,.int .i64 we,.int .i64 tk] 158)).cell? ⟨w2.heap.size,4,none⟩=some (.int .i64 0):=N3.out.cell 4 _ rfl
  have n5:(w2.alloc (.cells #[.int .i64 so,.int .u8 3,.int .i64 qx,.int .i64 qy,.int .i64 0,.int .i64 bo,.int .i64 we,.int .i64 tk] 158)).cell? ⟨w2.heap.size,5,none⟩=some (.int .i64 bo):=N3.out.cell 5 _ rfl
  have n6:(w2.alloc (.cells #[.int .i64 so,.int .u8 3,.int .i64 qx,.int .i64 qy,.int .i64 0,.int .i64 bo,.int .i64 we,.int .i64 tk] 158)).cell? ⟨w2.heap.size,6,none⟩=some (.int .i64 we):=N3.out.cell 6 _ rfl
  have n7:(w2.alloc (.cells #[.int .i64 so,.int .u8 3,.int .i64 qx,.int .i64 qy,.int .i64 0,.int .i64 bo,.int .i64 we,.int .i64 tk] 158)).cell? ⟨w2.heap.size,7,none⟩=some (.int .i64 tk):=N3.out.cell 7 _ rfl
  have nfz:∀ o,(w2.alloc (.cells #[.int .i64 so,.int .u8 3,.int .i64 qx,.int .i64 qy,.int .i64 0,.int .i64 bo,.int .i64 we,.int .i64 tk] 158)).frozen? ⟨w2.heap.size,o,none⟩=false:=N3.out.fr
  have hp:=ptB_iff.1 HBD.out.1
  have hd0:=inB_iff.1 Hd0.out
  have hd1:=inB_iff.1 Hd1.out
  obtain ⟨⟨p0,p1⟩,p2,p3⟩:=hp
  obtain ⟨g0,g1⟩:=hd0
  obtain ⟨g2,g3⟩:=hd1
  have hcv:=(HCV.out rfl).1
  have HCC:=Lib.hid (HCV.out rfl).2
  obtain ⟨v0,v1⟩:=hcv
  have hlt:w.heap.size+1+1+1<w2.heap.size:=HB0.out
  have HNO:=Lib.hid (xNorm (cv+d0) ⟨by omega,by omega⟩)
  go_wp2_with fail
  refine (HCC.out _).mono ?_;rintro e w4 ⟨rfl,hB⟩
  have N4:Hid (Has w4 w2.heap.size [.int .i64 so,.int .u8 3,.int .i64 qx,.int .i64 qy,.int .i64 0,.int .i64 bo,.int .i64 we,.int .i64 tk]):=Lib.hid (N3.out.below hB)
  replace BX:=Lib.hid ((BX.out.alloc _).below hB)
  replace BR:=Lib.hid ((BR.out.alloc _).below hB)
  replace HB:=Lib.hid (bel_trans HB.out (bel_alloc hB))
  clear hB
  by_cases hE:ce=0
  rotate_left
  ·have e1:(ce == 0)=false:=beq_eq_false_iff_ne.2 hE
   have e2:(ce != 0)=true:=by rw [bne,e1];rfl
   have HE:=Lib.hid hE
   clear hE
   have r0:w4.cell? ⟨w.heap.size+1+1+1,0,none⟩=some (.int .i64 0):=BR.out.cell 0 _ rfl
   have r1:w4.cell? ⟨w.heap.size+1+1+1,1,none⟩=some (.int .u8 0):=BR.out.cell 1 _ rfl
   have r2:w4.cell? ⟨w.heap.size+1+1+1,2,none⟩=some (.int .i64 0):=BR.out.cell 2 _ rfl
   have r3:w4.cell? ⟨w.heap.size+1+1+1,3,none⟩=some (.int .i64 0):=BR.out.cell 3 _ rfl
   have r4:w4.cell? ⟨w.heap.size+1+1+1,4,none⟩=some (.int .i64 0):=BR.out.cell 4 _ rfl
   have r5:w4.cell? ⟨w.heap.size+1+1+1,5,none⟩=some (.int .i64 0):=BR.out.cell 5 _ rfl
   have r6:w4.cell? ⟨w.heap.size+1+1+1,6,none⟩=some (.int .i64 0):=BR.out.cell 6 _ rfl
   have r7:w4.cell? ⟨w.heap.size+1+1+1,7,none⟩=some (.int .i64 0):=BR.out.cell 7 _ rfl
   have rfz:∀ o,w4.frozen? ⟨w.heap.size+1+1+1,o,none⟩=false:=BR.out.fr
   go_wp2_with fail
   have HRS:Hid (Has _ (w.heap.size+1+1+1) [.int .i64 0,.int .u8 0,.int .i64 0,.int .i64 0,.int .i64 0,.int .i64 0,.int .i64 0,.int .i64 0]):=Lib.hid ((((((((BR.out.set 0 (.int .i64 0) (by simp)).set 1 (.int .u8 0) (by simp)).set 2 (.int .i64 0) (by simp)).set 3 (.int .i64 0) (by simp)).set 4 (.int .i64 0) (by simp)).set 5 (.int .i64 0) (by simp)).set 6 (.int .i64 0) (by simp)).set 7 (.int .i64 0) (by simp))
   have HBR:=Lib.hid ((((((((HB.out.setCell (p:=⟨w.heap.size+1+1+1,0,none⟩) (by simp;omega) (.int .i64 0)).setCell (p:=⟨w.heap.size+1+1+1,1,none⟩) (by simp;omega) (.int .u8 0)).setCell (p:=⟨w.heap.size+1+1+1,2,none⟩) (by simp;omega) (.int .i64 0)).setCell (p:=⟨w.heap.size+1+1+1,3,none⟩) (by simp;omega) (.int .i64 0)).setCell (p:=⟨w.heap.size+1+1+1,4,none⟩) (by simp;omega) (.int .i64 0)).setCell (p:=⟨w.heap.size+1+1+1,5,none⟩) (by simp;omega) (.int .i64 0)).setCell (p:=⟨w.heap.size+1+1+1,6,none⟩) (by simp;omega) (.int .i64 0)).setCell (p:=⟨w.heap.size+1+1+1,7,none⟩) (by simp;omega) (.int .i64 0))
   have z0:=HRS.out.cell 0 _ rfl
   have z1:=HRS.out.cell 1 _ rfl
   have z2:=HRS.out.cell 2 _ rfl
   have z3:=HRS.out.cell 3 _ rfl
   have z4:=HRS.out.cell 4 _ rfl
   have z5:=HRS.out.cell 5 _ rfl
   have z6:=HRS.out.cell 6 _ rfl
   have z7:=HRS.out.cell 7 _ rfl
   exact bodyPost_ret (v:=.tuple #[.agg #[.int .i64 0,.int .u8 0,.int .i64 0,.int .i64 0,.int .i64 0,.int .i64 0,.int .i64 0,.int .i64 0],.int .i64 ce]) (by simp [results,Tryz.results80,go_sem,z0,z1,z2,z3,z4,z5,z6,z7]) rfl ⟨ret_v2 (by rw [HM.out,if_neg (by simp),if_neg (by simp),if_neg (by rw [Hd0.out,Hd1.out];simp),if_pos ⟨by trivial,HE.out⟩,repV_no HE.out]) (by rw [HM.out,if_neg (by simp),if_neg (by simp),if_neg (by rw [Hd0.out,Hd1.out];simp),if_pos ⟨by trivial,HE.out⟩]),HBR.out⟩
  subst hE
  have y4:w4.cell? ⟨w.heap.size+1+1,0,none⟩=some (.int .i64 d0):=BX.out.cell 0 _ rfl
  have q4:=N4.out.cell 4 _ rfl
  have qf:∀ o,w4.frozen? ⟨w2.heap.size,o,none⟩=false:=N4.out.fr
  have MX:=Lib.hid (show msX 3 qx px d0=qx by simp [msX])
  have MY:=Lib.hid (show msX 3 qy py d1=qy by simp [msX])
  have MV:=Lib.hid (show msV 3 dv cv d0=nrm (cv+d0) by simp [msV])
  have HM2:=Lib.hid (show M=repE so 3 (qx) (qy) (nrm (cv+d0)) bo we tk by rw [HM.out,if_neg (by simp),if_neg (by simp),if_neg (by rw [Hd0.out,Hd1.out];simp),if_neg (by simp),MX.out,MY.out,MV.out])
  have HRP:=Lib.hid (xRep so 3 (qx) (qy) (nrm (cv+d0)) bo we tk hso'.out (by decide) (by decide))
  generalize repE so 3 (qx) (qy) (nrm (cv+d0)) bo we tk=E3 at HM2 HRP
  go_wp2_with fail
  refine (HNO.out _).mono ?_;rintro e w5 ⟨rfl,rfl⟩
  have N5:Hid (Has (w4.setCell ⟨w2.heap.size,4,none⟩ (.int .i64 (nrm (cv+d0)))) w2.heap.size [.int .i64 so,.int .u8 3,.int .i64 qx,.int .i64 qy,.int .i64 (nrm (cv+d0)),.int .i64 bo,.int .i64 we,.int .i64 tk]):=Lib.hid (N4.out.set 4 _ (by simp))
  have R5:Hid (Has (w4.setCell ⟨w2.heap.size,4,none⟩ (.int .i64 (nrm (cv+d0)))) (w.heap.size+1+1+1) [.int .i64 0,.int .u8 0,.int .i64 0,.int .i64 0,.int .i64 0,.int .i64 0,.int .i64 0,.int .i64 0]):=Lib.hid (BR.out.other _ 4 _ (by omega))
  have B5:Hid (Below w.heap.size w (w4.setCell ⟨w2.heap.size,4,none⟩ (.int .i64 (nrm (cv+d0))))):=Lib.hid (HB.out.setCell (p:=⟨w2.heap.size,4,none⟩) (by simp;omega) _)
  have v00:(w4.setCell ⟨w2.heap.size,4,none⟩ (.int .i64 (nrm (cv+d0)))).cell? ⟨w2.heap.size,0,none⟩=some (.int .i64 so):=N5.out.cell 0 _ rfl
  have v11:(w4.setCell ⟨w2.heap.size,4,none⟩ (.int .i64 (nrm (cv+d0)))).cell? ⟨w2.heap.size,1,none⟩=some (.int .u8 3):=N5.out.cell 1 _ rfl
  have v22:(w4.setCell ⟨w2.heap.size,4,none⟩ (.int .i64 (nrm (cv+d0)))).cell? ⟨w2.heap.size,2,none⟩=some (.int .i64 qx):=N5.out.cell 2 _ rfl
  have v33:(w4.setCell ⟨w2.heap.size,4,none⟩ (.int .i64 (nrm (cv+d0)))).cell? ⟨w2.heap.size,3,none⟩=some (.int .i64 qy):=N5.out.cell 3 _ rfl
  have v44:(w4.setCell ⟨w2.heap.size,4,none⟩ (.int .i64 (nrm (cv+d0)))).cell? ⟨w2.heap.size,4,none⟩=some (.int .i64 (nrm (cv+d0))):=N5.out.cell 4 _ rfl
  have v55:(w4.setCell ⟨w2.heap.size,4,none⟩ (.int .i64 (nrm (cv+d0)))).cell? ⟨w2.heap.size,5,none⟩=some (.int .i64 bo):=N5.out.cell 5 _ rfl
  have v66:(w4.setCell ⟨w2.heap.size,4,none⟩ (.int .i64 (nrm (cv+d0)))).cell? ⟨w2.heap.size,6,none⟩=some (.int .i64 we):=N5.out.cell 6 _ rfl
  have v77:(w4.setCell ⟨w2.heap.size,4,none⟩ (.int .i64 (nrm (cv+d0)))).cell? ⟨w2.heap.size,7,none⟩=some (.int .i64 tk):=N5.out.cell 7 _ rfl
  go_wp2_with fail
  refine (HRP.out _).mono ?_;rintro e w6 ⟨rfl,hB⟩
  have NR:Hid (Has w6 w2.heap.size [.int .i64 so,.int .u8 3,.int .i64 qx,.int .i64 qy,.int .i64 (nrm (cv+d0)),.int .i64 bo,.int .i64 we,.int .i64 tk]):=Lib.hid (N5.out.below hB)
  replace BR:=Lib.hid (R5.out.below hB)
  replace HB:=Lib.hid (bel_trans B5.out hB)
  clear hB
  by_cases hE:E3=0
  ·subst hE
   have m0:w6.cell? ⟨w2.heap.size,0,none⟩=some (.int .i64 so):=NR.out.cell 0 _ rfl
   have m1:w6.cell? ⟨w2.heap.size,1,none⟩=some (.int .u8 3):=NR.out.cell 1 _ rfl
   have m2:w6.cell? ⟨w2.heap.size,2,none⟩=some (.int .i64 qx):=NR.out.cell 2 _ rfl
   have m3:w6.cell? ⟨w2.heap.size,3,none⟩=some (.int .i64 qy):=NR.out.cell 3 _ rfl
   have m4:w6.cell? ⟨w2.heap.size,4,none⟩=some (.int .i64 (nrm (cv+d0))):=NR.out.cell 4 _ rfl
   have m5:w6.cell? ⟨w2.heap.size,5,none⟩=some (.int .i64 bo):=NR.out.cell 5 _ rfl
   have m6:w6.cell? ⟨w2.heap.size,6,none⟩=some (.int .i64 we):=NR.out.cell 6 _ rfl
   have m7:w6.cell? ⟨w2.heap.size,7,none⟩=some (.int .i64 tk):=NR.out.cell 7 _ rfl
   have r0:w6.cell? ⟨w.heap.size+1+1+1,0,none⟩=some (.int .i64 0):=BR.out.cell 0 _ rfl
   have r1:w6.cell? ⟨w.heap.size+1+1+1,1,none⟩=some (.int .u8 0):=BR.out.cell 1 _ rfl
   have r2:w6.cell? ⟨w.heap.size+1+1+1,2,none⟩=some (.int .i64 0):=BR.out.cell 2 _ rfl
   have r3:w6.cell? ⟨w.heap.size+1+1+1,3,none⟩=some (.int .i64 0):=BR.out.cell 3 _ rfl
   have r4:w6.cell? ⟨w.heap.size+1+1+1,4,none⟩=some (.int .i64 0):=BR.out.cell 4 _ rfl
   have r5:w6.cell? ⟨w.heap.size+1+1+1,5,none⟩=some (.int .i64 0):=BR.out.cell 5 _ rfl
   have r6:w6.cell? ⟨w.heap.size+1+1+1,6,none⟩=some (.int .i64 0):=BR.out.cell 6 _ rfl
   have r7:w6.cell? ⟨w.heap.size+1+1+1,7,none⟩=some (.int .i64 0):=BR.out.cell 7 _ rfl
   have rfz:∀ o,w6.frozen? ⟨w.heap.size+1+1+1,o,none⟩=false:=BR.out.fr
   go_wp2_with fail
   have HRS:Hid (Has _ (w.heap.size+1+1+1) [.int .i64 so,.int .u8 3,.int .i64 qx,.int .i64 qy,.int .i64 (nrm (cv+d0)),.int .i64 bo,.int .i64 we,.int .i64 tk]):=Lib.hid ((((((((BR.out.set 0 (.int .i64 so) (by simp)).set 1 (.int .u8 3) (by simp)).set 2 (.int .i64 qx) (by simp)).set 3 (.int .i64 qy) (by simp)).set 4 (.int .i64 (nrm (cv+d0))) (by simp)).set 5 (.int .i64 bo) (by simp)).set 6 (.int .i64 we) (by simp)).set 7 (.int .i64 tk) (by simp))
   have HBR:=Lib.hid ((((((((HB.out.setCell (p:=⟨w.heap.size+1+1+1,0,none⟩) (by simp;omega) (.int .i64 so)).setCell (p:=⟨w.heap.size+1+1+1,1,none⟩) (by simp;omega) (.int .u8 3)).setCell (p:=⟨w.heap.size+1+1+1,2,none⟩) (by simp;omega) (.int .i64 qx)).setCell (p:=⟨w.heap.size+1+1+1,3,none⟩) (by simp;omega) (.int .i64 qy)).setCell (p:=⟨w.heap.size+1+1+1,4,none⟩) (by simp;omega) (.int .i64 (nrm (cv+d0)))).setCell (p:=⟨w.heap.size+1+1+1,5,none⟩) (by simp;omega) (.int .i64 bo)).setCell (p:=⟨w.heap.size+1+1+1,6,none⟩) (by simp;omega) (.int .i64 we)).setCell (p:=⟨w.heap.size+1+1+1,7,none⟩) (by simp;omega) (.int .i64 tk))
   have z0:=HRS.out.cell 0 _ rfl
   have z1:=HRS.out.cell 1 _ rfl
   have z2:=HRS.out.cell 2 _ rfl
   have z3:=HRS.out.cell 3 _ rfl
   have z4:=HRS.out.cell 4 _ rfl
   have z5:=HRS.out.cell 5 _ rfl
   have z6:=HRS.out.cell 6 _ rfl
   have z7:=HRS.out.cell 7 _ rfl
   exact bodyPost_ret (v:=.tuple #[.agg #[.int .i64 so,.int .u8 3,.int .i64 qx,.int .i64 qy,.int .i64 (nrm (cv+d0)),.int .i64 bo,.int .i64 we,.int .i64 tk],.int .i64 0]) (by simp [results,Tryz.results80,go_sem,z0,z1,z2,z3,z4,z5,z6,z7]) rfl ⟨ret_v2 (by rw [HM2.out,repV_ok,MX.out,MY.out,MV.out]) (by rw [HM2.out]),HBR.out⟩
  ·have e1:(E3 == 0)=false:=beq_eq_false_iff_ne.2 hE
   have e2:(E3 != 0)=true:=by rw [bne,e1];rfl
   have HE:=Lib.hid hE
   clear hE
   have r0:w6.cell? ⟨w.heap.size+1+1+1,0,none⟩=some (.int .i64 0):=BR.out.cell 0 _ rfl
   have r1:w6.cell? ⟨w.heap.size+1+1+1,1,none⟩=some (.int .u8 0):=BR.out.cell 1 _ rfl
   have r2:w6.cell? ⟨w.heap.size+1+1+1,2,none⟩=some (.int .i64 0):=BR.out.cell 2 _ rfl
   have r3:w6.cell? ⟨w.heap.size+1+1+1,3,none⟩=some (.int .i64 0):=BR.out.cell 3 _ rfl
   have r4:w6.cell? ⟨w.heap.size+1+1+1,4,none⟩=some (.int .i64 0):=BR.out.cell 4 _ rfl
   have r5:w6.cell? ⟨w.heap.size+1+1+1,5,none⟩=some (.int .i64 0):=BR.out.cell 5 _ rfl
   have r6:w6.cell? ⟨w.heap.size+1+1+1,6,none⟩=some (.int .i64 0):=BR.out.cell 6 _ rfl
   have r7:w6.cell? ⟨w.heap.size+1+1+1,7,none⟩=some (.int .i64 0):=BR.out.cell 7 _ rfl
   have rfz:∀ o,w6.frozen? ⟨w.heap.size+1+1+1,o,none⟩=false:=BR.out.fr
   go_wp2_with fail
   have HRS:Hid (Has _ (w.heap.size+1+1+1) [.int .i64 0,.int .u8 0,.int .i64 0,.int .i64 0,.int .i64 0,.int .i64 0,.int .i64 0,.int .i64 0]):=Lib.hid ((((((((BR.out.set 0 (.int .i64 0) (by simp)).set 1 (.int .u8 0) (by simp)).set 2 (.int .i64 0) (by simp)).set 3 (.int .i64 0) (by simp)).set 4 (.int .i64 0) (by simp)).set 5 (.int .i64 0) (by simp)).set 6 (.int .i64 0) (by simp)).set 7 (.int .i64 0) (by simp))
   have HBR:=Lib.hid ((((((((HB.out.setCell (p:=⟨w.heap.size+1+1+1,0,none⟩) (by simp;omega) (.int .i64 0)).setCell (p:=⟨w.heap.size+1+1+1,1,none⟩) (by simp;omega) (.int .u8 0)).setCell (p:=⟨w.heap.size+1+1+1,2,none⟩) (by simp;omega) (.int .i64 0)).setCell (p:=⟨w.heap.size+1+1+1,3,none⟩) (by simp;omega) (.int .i64 0)).setCell (p:=⟨w.heap.size+1+1+1,4,none⟩) (by simp;omega) (.int .i64 0)).setCell (p:=⟨w.heap.size+1+1+1,5,none⟩) (by simp;omega) (.int .i64 0)).setCell (p:=⟨w.heap.size+1+1+1,6,none⟩) (by simp;omega) (.int .i64 0)).setCell (p:=⟨w.heap.size+1+1+1,7,none⟩) (by simp;omega) (.int .i64 0))
   have z0:=HRS.out.cell 0 _ rfl
   have z1:=HRS.out.cell 1 _ rfl
   have z2:=HRS.out.cell 2 _ rfl
   have z3:=HRS.out.cell 3 _ rfl
   have z4:=HRS.out.cell 4 _ rfl
   have z5:=HRS.out.cell 5 _ rfl
   have z6:=HRS.out.cell 6 _ rfl
   have z7:=HRS.out.cell 7 _ rfl
   exact bodyPost_ret (v:=.tuple #[.agg #[.int .i64 0,.int .u8 0,.int .i64 0,.int .i64 0,.int .i64 0,.int .i64 0,.int .i64 0,.int .i64 0],.int .i64 E3]) (by simp [results,Tryz.results80,go_sem,z0,z1,z2,z3,z4,z5,z6,z7]) rfl ⟨ret_v2 (by rw [HM2.out,repV_no HE.out]) (by rw [HM2.out]),HBR.out⟩
end Go.Proofs.YtgneijdjlahgbaaGreat
