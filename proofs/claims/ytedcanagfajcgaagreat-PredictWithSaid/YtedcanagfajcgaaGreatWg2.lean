
/- Layer 13: GroundIn, of the program. -/
import Derived.Test.YtedcanagfajcgaaGreatM4
import Derived.Test.YtedcanagfajcgaaGreatM6
set_option linter.unusedSimpArgs false
set_option linter.unusedVariables false
set_option maxRecDepth 100000
set_option maxHeartbeats 4000000
namespace Go.Proofs
theorem Nh{G:Prop}(h:G:=by
  have HL:=hid (HGE.out (by rw [HE.out];decide)).1;have HH:=hid (HGE.out (by rw [HE.out];decide)).2;have z0:w6.cell? ⟨w.heap.size+1+1,0,none⟩=some (vI 0):=HS2.out.R.cell 0 _ rfl;have z1:w6.cell? ⟨w.heap.size+1+1,1,none⟩=some (vI 0):=HS2.out.R.cell 1 _ rfl;have zf:∀ o,w6.frozen? ⟨w.heap.size+1+1,o,none⟩=false:=HS2.out.R.fr
  go_wp2_with fail
  exact bodyPost_ret (v:=.tuple #[.agg #[vI 0,vI 0],vI 10]) (by simp [results,Tryz.results71,go_sem,z0,z1]) rfl ⟨Cw HL.out.symm HH.out.symm HE.out.symm,(HS2.out.B.setCell (p:=⟨w.heap.size+1+1,0,none⟩) (by show w.heap.size<=w.heap.size+1+1;omega) _).setCell (p:=⟨w.heap.size+1+1,1,none⟩) (by show w.heap.size<=w.heap.size+1+1;omega) _⟩):G:=h
theorem Uj{G:Prop}(h:G:=by
  go_enter Tryz.func71,Tryz.ntmps71
  have HS:=hid (KO t0 t1 e0 e1 n0 n1 w)
  go_wp2_with fail
  refine (HBX.out _).mono ?_;rintro e' w1 ⟨rfl,hB⟩
  replace HS:=hid (HS.out.below hB);clear hB;have y0:w1.cell? ⟨w.heap.size,0,none⟩=some (vI t0):=HS.out.T.cell 0 _ rfl;have y1:w1.cell? ⟨w.heap.size,1,none⟩=some (vI t1):=HS.out.T.cell 1 _ rfl;have z0:w1.cell? ⟨w.heap.size+1+1,0,none⟩=some (vI 0):=HS.out.R.cell 0 _ rfl;have z1:w1.cell? ⟨w.heap.size+1+1,1,none⟩=some (vI 0):=HS.out.R.cell 1 _ rfl;have zf:∀ o,w1.frozen? ⟨w.heap.size+1+1,o,none⟩=false:=HS.out.R.fr
  go_wp2_with fail
  exact bodyPost_ret (v:=.tuple #[.agg #[vI 0,vI 0],vI 1]) (by simp [results,Tryz.results71,go_sem,z0,z1]) rfl ⟨Cw HL.out.symm HH.out.symm HE.out.symm,(HS.out.B.setCell (p:=⟨w.heap.size+1+1,0,none⟩) (by show w.heap.size<=w.heap.size+1+1;omega) _).setCell (p:=⟨w.heap.size+1+1,1,none⟩) (by show w.heap.size<=w.heap.size+1+1;omega) _⟩):G:=h
theorem YB{G:Prop}(h:G:=by
  have HE:=hid (HG0.out hf (by rw [HLO.out];omega));have HL:=hid ((HGL.out HE.out).1.trans (by rw [HLO.out]));have HH:=hid ((HGL.out HE.out).2.trans (by rw [HHI.out]));have z0:w6.cell? ⟨w.heap.size+1+1,0,none⟩=some (vI 0):=HS2.out.R.cell 0 _ rfl;have z1:w6.cell? ⟨w.heap.size+1+1,1,none⟩=some (vI 0):=HS2.out.R.cell 1 _ rfl;have zf:∀ o,w6.frozen? ⟨w.heap.size+1+1,o,none⟩=false:=HS2.out.R.fr
  go_wp2_with fail
  exact bodyPost_ret (v:=.tuple #[.agg #[vI ((A0+R0) / 1024),vI ((A1+R1+1024 - 1) / 1024)],vI 0]) (by simp [results,Tryz.results71,go_sem,z0,z1]) rfl ⟨Cw HL.out.symm (by rw [HH.out];omega) HE.out.symm,(HS2.out.B.setCell (p:=⟨w.heap.size+1+1,0,none⟩) (by show w.heap.size<=w.heap.size+1+1;omega) _).setCell (p:=⟨w.heap.size+1+1,1,none⟩) (by show w.heap.size<=w.heap.size+1+1;omega) _⟩):G:=h
end Go.Proofs
namespace Go.Proofs.YtedcanagfajcgaaGreat
open Go.RowKit
open Go.Lib (hid)
open Tr
theorem Gb {co t0 t1 e0 e1 n0 n1:Int} (h:giE co t0 t1 e0 e1 n0 n1≠0):giL co t0 t1 e0 e1 n0 n1=0∧giH co t0 t1 e0 e1 n0 n1=0:=⟨if_neg h,if_neg h⟩
theorem OY {co t0 t1 e0 e1 n0 n1:Int} (h:(bxB e0 e1 n0 n1 && decide (1<=t0) && decide (t1<=4000) && decide (t0<=t1))=false):giE co t0 t1 e0 e1 n0 n1=1:=if_pos h
theorem AaG {co t0 t1 e0 e1 n0 n1:Int} (h:(bxB e0 e1 n0 n1 && decide (1<=t0) && decide (t1<=4000) && decide (t0<=t1))=true) (h2:t0 * 1024<=giF co e0 e1 n0 n1):giE co t0 t1 e0 e1 n0 n1=10:=by unfold giE;rw [h,if_neg (by decide),if_pos h2]
theorem AaH {co t0 t1 e0 e1 n0 n1:Int} (h:(bxB e0 e1 n0 n1 && decide (1<=t0) && decide (t1<=4000) && decide (t0<=t1))=true) (h2:¬ t0 * 1024<=giF co e0 e1 n0 n1) (h3:Ey co t0 e0 e1 n0 n1<1024):giE co t0 t1 e0 e1 n0 n1=10:=by unfold giE;rw [h,if_neg (by decide),if_neg h2,if_pos h3]
theorem AaF {co t0 t1 e0 e1 n0 n1:Int} (h:(bxB e0 e1 n0 n1 && decide (1<=t0) && decide (t1<=4000) && decide (t0<=t1))=true) (h2:¬ t0 * 1024<=giF co e0 e1 n0 n1) (h3:¬ Ey co t0 e0 e1 n0 n1<1024):giE co t0 t1 e0 e1 n0 n1=0:=by unfold giE;rw [h,if_neg (by decide),if_neg h2,if_neg h3]
structure GiS (t0 t1 e0 e1 n0 n1:Int) (w W:World):Prop where
 T:Has W w.heap.size (lz2 t0 t1)
 X:Has W (w.heap.size+1) (lz4 e0 e1 n0 n1)
 R:Has W (w.heap.size+1+1) (lz2 0 0)
 B:Below w.heap.size w W
theorem GiS.below {t0 t1 e0 e1 n0 n1:Int} {w W W1:World} (h:GiS t0 t1 e0 e1 n0 n1 w W) (hb:Below W.heap.size W W1):GiS t0 t1 e0 e1 n0 n1 w W1:=⟨h.T.below hb,h.X.below hb,h.R.below hb,Ae h.B hb⟩
theorem GiS.drewN {t0 t1 e0 e1 n0 n1:Int} {w W:World} (h:GiS t0 t1 e0 e1 n0 n1 w W) (n:Nat):GiS t0 t1 e0 e1 n0 n1 w (W.drewN n):=h.below (Ag (AJ _ _) n)
theorem KO (t0 t1 e0 e1 n0 n1:Int) (w:World):GiS t0 t1 e0 e1 n0 n1 w (((w.alloc (.cells #[vI t0,vI t1] 50)).alloc (.cells #[vI e0,vI e1,vI n0,vI n1] 73)).alloc (.cells #[vI 0,vI 0] 50)) :=
 ⟨((Has.new w _ _).alloc _).alloc _,(Has.newAt (w.alloc _) _ _ (w.heap.size+1) (by simp)).alloc _,Has.newAt ((w.alloc _).alloc _) _ _ (w.heap.size+1+1) (by simp),Da _ _ _ _⟩
theorem UW (co t0 t1 e0 e1 n0 n1:Int) (hco:I64 co) (w:World):Calls Tryz.prog 71 #[vI co,.agg #[vI t0,vI t1],.agg #[vI e0,vI e1,vI n0,vI n1]] w fun e' w'=>e'=.returned (.tuple #[.agg #[vI (giL co t0 t1 e0 e1 n0 n1),vI (giH co t0 t1 e0 e1 n0 n1)],vI (giE co t0 t1 e0 e1 n0 n1)])∧Below w.heap.size w w':=by
 have HBX:=hid (fun W=>Abd e0 e1 n0 n1 W)
 cases g:bxB e0 e1 n0 n1
 ·rw [g] at HBX
  have HE:=hid (show giE co t0 t1 e0 e1 n0 n1=1 from OY (by rw [g];rfl));have HL:=hid (show giL co t0 t1 e0 e1 n0 n1=0 from (Gb (by rw [HE.out];decide)).1);have HH:=hid (show giH co t0 t1 e0 e1 n0 n1=0 from (Gb (by rw [HE.out];decide)).2);clear g hco
  exact Uj
 rw [g] at HBX
 by_cases h0:t0<1
 ·have HE:=hid (show giE co t0 t1 e0 e1 n0 n1=1 from OY (by rw [g];simp;omega))
  have HL:=hid (show giL co t0 t1 e0 e1 n0 n1=0 from (Gb (by rw [HE.out];decide)).1);have HH:=hid (show giH co t0 t1 e0 e1 n0 n1=0 from (Gb (by rw [HE.out];decide)).2);clear g hco
  exact Uj
 by_cases h1:4000<t1
 ·have HE:=hid (show giE co t0 t1 e0 e1 n0 n1=1 from OY (by rw [g];simp;omega))
  have HL:=hid (show giL co t0 t1 e0 e1 n0 n1=0 from (Gb (by rw [HE.out];decide)).1);have HH:=hid (show giH co t0 t1 e0 e1 n0 n1=0 from (Gb (by rw [HE.out];decide)).2);clear g hco
  exact Uj
 by_cases h2:t1<t0
 ·have HE:=hid (show giE co t0 t1 e0 e1 n0 n1=1 from OY (by rw [g];simp;omega))
  have HL:=hid (show giL co t0 t1 e0 e1 n0 n1=0 from (Gb (by rw [HE.out];decide)).1);have HH:=hid (show giH co t0 t1 e0 e1 n0 n1=0 from (Gb (by rw [HE.out];decide)).2);clear g hco
  exact Uj
 have hg:(bxB e0 e1 n0 n1 && decide (1<=t0) && decide (t1<=4000) && decide (t0<=t1))=true:=by rw [g];simp;omega
 have hb:((e0<=e1 ∧ -400<=e0)∧e1<=400)∧(n0<=n1 ∧ -400<=n0)∧n1<=400:=by unfold bxB at g;simp [Al] at g;omega
 clear g
 have W00:wiB e0 n0=true:=by unfold wiB;simp [Al];omega
 have W01:wiB e0 n1=true:=by unfold wiB;simp [Al];omega
 have W10:wiB e1 n0=true:=by unfold wiB;simp [Al];omega
 have W11:wiB e1 n1=true:=by unfold wiB;simp [Al];omega
 have P00:=hid (show ∀ W,Calls Tryz.prog 129 #[vI co,.agg #[vI e0,vI n0]] W fun e' w'=>e'=.returned (.tuple #[vI (alV co e0 n0),vI (acV co e0 n0),vI 0])∧Below W.heap.size W w' from fun W=>by
  have:=LB co e0 n0 hco W
  rwa [show ptE e0 n0=0 by unfold ptE;rw [W00];rfl,show ptA co e0 n0=alV co e0 n0 by unfold ptA;rw [W00];rfl,show ptX co e0 n0=acV co e0 n0 by unfold ptX;rw [W00];rfl] at this)
 have P01:=hid (show ∀ W,Calls Tryz.prog 129 #[vI co,.agg #[vI e0,vI n1]] W fun e' w'=>e'=.returned (.tuple #[vI (alV co e0 n1),vI (acV co e0 n1),vI 0])∧Below W.heap.size W w' from fun W=>by
  have:=LB co e0 n1 hco W
  rwa [show ptE e0 n1=0 by unfold ptE;rw [W01];rfl,show ptA co e0 n1=alV co e0 n1 by unfold ptA;rw [W01];rfl,show ptX co e0 n1=acV co e0 n1 by unfold ptX;rw [W01];rfl] at this)
 have P10:=hid (show ∀ W,Calls Tryz.prog 129 #[vI co,.agg #[vI e1,vI n0]] W fun e' w'=>e'=.returned (.tuple #[vI (alV co e1 n0),vI (acV co e1 n0),vI 0])∧Below W.heap.size W w' from fun W=>by
  have:=LB co e1 n0 hco W
  rwa [show ptE e1 n0=0 by unfold ptE;rw [W10];rfl,show ptA co e1 n0=alV co e1 n0 by unfold ptA;rw [W10];rfl,show ptX co e1 n0=acV co e1 n0 by unfold ptX;rw [W10];rfl] at this)
 have P11:=hid (show ∀ W,Calls Tryz.prog 129 #[vI co,.agg #[vI e1,vI n1]] W fun e' w'=>e'=.returned (.tuple #[vI (alV co e1 n1),vI (acV co e1 n1),vI 0])∧Below W.heap.size W w' from fun W=>by
  have:=LB co e1 n1 hco W
  rwa [show ptE e1 n1=0 by unfold ptE;rw [W11];rfl,show ptA co e1 n1=alV co e1 n1 by unfold ptA;rw [W11];rfl,show ptX co e1 n1=acV co e1 n1 by unfold ptX;rw [W11];rfl] at this)
 have hbA:=KU (f:=alV co) (e0:=e0) (e1:=e1) (n0:=n0) (n1:=n1) (fun i j hi hj=>(Il (by rcases hi with rfl | rfl <;> rcases hj with rfl | rfl <;> assumption)).1)
 have hbC:=KU (f:=acV co) (e0:=e0) (e1:=e1) (n0:=n0) (n1:=n1) (fun i j hi hj=>(Il (by rcases hi with rfl | rfl <;> rcases hj with rfl | rfl <;> assumption)).2)
 clear W00 W01 W10 W11 hb hco;have HA0:=hid (show min 1099511627776 (min (alV co e0 n0) (min (alV co e0 n1) (min (alV co e1 n0) (alV co e1 n1))))=mn4 (alV co) e0 e1 n0 n1 by unfold mn4;omega);have HA1:=hid (show max (-1099511627776) (max (alV co e0 n0) (max (alV co e0 n1) (max (alV co e1 n0) (alV co e1 n1))))=mx4 (alV co) e0 e1 n0 n1 by unfold mx4;omega);have HC0:=hid (show min 1099511627776 (min (acV co e0 n0) (min (acV co e0 n1) (min (acV co e1 n0) (acV co e1 n1))))=mn4 (acV co) e0 e1 n0 n1 by unfold mn4;omega);have HC1:=hid (show max (-1099511627776) (max (acV co e0 n0) (max (acV co e0 n1) (max (acV co e1 n0) (acV co e1 n1))))=mx4 (acV co) e0 e1 n0 n1 by unfold mx4;omega);have HFF:=hid (show giF co e0 e1 n0 n1=max (Bo (mn4 (acV co) e0 e1 n0 n1)) (Bo (mx4 (acV co) e0 e1 n0 n1)) from rfl)
 have HNN:=hid (show giN co e0 e1 n0 n1=if mn4 (acV co) e0 e1 n0 n1<=0∧0<=mx4 (acV co) e0 e1 n0 n1 then 0 else min (Bo (mn4 (acV co) e0 e1 n0 n1)) (Bo (mx4 (acV co) e0 e1 n0 n1)) from rfl)
 have HLO:=hid (show Ey co t0 e0 e1 n0 n1=mn4 (alV co) e0 e1 n0 n1+sqV (t0 * 1024 * (t0 * 1024) - giF co e0 e1 n0 n1 * giF co e0 e1 n0 n1) from rfl);have HHI:=hid (show FU co t1 e0 e1 n0 n1=mx4 (alV co) e0 e1 n0 n1+sqV (t1 * 1024 * (t1 * 1024) - giN co e0 e1 n0 n1 * giN co e0 e1 n0 n1) from rfl);have HGL:=hid (show giE co t0 t1 e0 e1 n0 n1=0→giL co t0 t1 e0 e1 n0 n1=Ey co t0 e0 e1 n0 n1 / 1024∧giH co t0 t1 e0 e1 n0 n1=(FU co t1 e0 e1 n0 n1+1023) / 1024 from fun h=>⟨if_pos h,if_pos h⟩);have HG2:=hid (fun h2=>AaG (co:=co) hg h2);have HG3:=hid (fun h2 h3=>AaH (co:=co) hg h2 h3);have HG0:=hid (fun h2 h3=>AaF (co:=co) hg h2 h3);have HGE:=hid (fun h=>Gb (co:=co) (t0:=t0) (t1:=t1) (e0:=e0) (e1:=e1) (n0:=n0) (n1:=n1) h);clear hg;generalize giE co t0 t1 e0 e1 n0 n1=EE at *;generalize giL co t0 t1 e0 e1 n0 n1=LL at *;generalize giH co t0 t1 e0 e1 n0 n1=HHH at *;generalize Ey co t0 e0 e1 n0 n1=LO at *;generalize FU co t1 e0 e1 n0 n1=HI at *;generalize giF co e0 e1 n0 n1=FF at *;generalize giN co e0 e1 n0 n1=NN at *;generalize mn4 (alV co) e0 e1 n0 n1=A0 at *;generalize mx4 (alV co) e0 e1 n0 n1=A1 at *;generalize mn4 (acV co) e0 e1 n0 n1=C0 at *;generalize mx4 (acV co) e0 e1 n0 n1=C1 at *;generalize alV co e0 n0=a00 at *;generalize acV co e0 n0=c00 at *;generalize alV co e0 n1=a01 at *;generalize acV co e0 n1=c01 at *;generalize alV co e1 n0=a10 at *;generalize acV co e1 n0=c10 at *;generalize alV co e1 n1=a11 at *;generalize acV co e1 n1=c11 at *;have B0:=hid (fun W=>JY C0 (by omega) W);have B1:=hid (fun W=>JY C1 (by omega) W)
 have hF:0<=FF∧FF<=819200:=by rw [HFF.out];unfold Bo;omega
 have hN:0<=NN∧NN<=819200:=by rw [HNN.out];unfold Bo;split <;> omega
 have ie0:∀ W,(Instr.index 157 (.agg #[vI e0,vI e1]) (vI 0)).run Tryz.prog W=.ok (vI e0) W:=fun _=>by kernel_rfl
 have in0:∀ W,(Instr.index 157 (.agg #[vI n0,vI n1]) (vI 0)).run Tryz.prog W=.ok (vI n0) W:=fun _=>by kernel_rfl
 have ie1:∀ W,(Instr.index 157 (.agg #[vI e0,vI e1]) (vI 1)).run Tryz.prog W=.ok (vI e1) W:=fun _=>by kernel_rfl
 have in1:∀ W,(Instr.index 157 (.agg #[vI n0,vI n1]) (vI 1)).run Tryz.prog W=.ok (vI n1) W:=fun _=>by kernel_rfl
 go_enter Tryz.func71,Tryz.ntmps71
 have HS:=hid (KO t0 t1 e0 e1 n0 n1 w)
 go_wp2_with fail
 refine (HBX.out _).mono ?_;rintro e' w1 ⟨rfl,hB⟩
 replace HS:=hid (HS.out.below hB);clear hB;have y0:w1.cell? ⟨w.heap.size,0,none⟩=some (vI t0):=HS.out.T.cell 0 _ rfl;have y1:w1.cell? ⟨w.heap.size,1,none⟩=some (vI t1):=HS.out.T.cell 1 _ rfl;have x0:w1.cell? ⟨w.heap.size+1,0,none⟩=some (vI e0):=HS.out.X.cell 0 _ rfl;have x1:w1.cell? ⟨w.heap.size+1,1,none⟩=some (vI e1):=HS.out.X.cell 1 _ rfl;have x2:w1.cell? ⟨w.heap.size+1,2,none⟩=some (vI n0):=HS.out.X.cell 2 _ rfl;have x3:w1.cell? ⟨w.heap.size+1,3,none⟩=some (vI n1):=HS.out.X.cell 3 _ rfl
 go_wp2_with fail
 clear y0 y1
 refine wp_loop_rounds 3 ?_
 rw [rounds_succ]
 go_wp2_with fail
 refine wp_loop_rounds 3 ?_
 rw [rounds_succ]
 go_wp2_with fail
 refine (P00.out _).mono ?_;rintro e' w2 ⟨rfl,hB⟩
 replace HS:=hid (HS.out.below hB);clear hB x0 x1 x2 x3;have x0:w2.cell? ⟨w.heap.size+1,0,none⟩=some (vI e0):=HS.out.X.cell 0 _ rfl;have x1:w2.cell? ⟨w.heap.size+1,1,none⟩=some (vI e1):=HS.out.X.cell 1 _ rfl;have x2:w2.cell? ⟨w.heap.size+1,2,none⟩=some (vI n0):=HS.out.X.cell 2 _ rfl;have x3:w2.cell? ⟨w.heap.size+1,3,none⟩=some (vI n1):=HS.out.X.cell 3 _ rfl
 go_wp2_with fail
 rw [rounds_succ]
 go_wp2_with fail
 refine (P01.out _).mono ?_;rintro e' w3 ⟨rfl,hB⟩
 replace HS:=hid (HS.out.below hB);clear hB x0 x1 x2 x3;have x0:w3.cell? ⟨w.heap.size+1,0,none⟩=some (vI e0):=HS.out.X.cell 0 _ rfl;have x1:w3.cell? ⟨w.heap.size+1,1,none⟩=some (vI e1):=HS.out.X.cell 1 _ rfl;have x2:w3.cell? ⟨w.heap.size+1,2,none⟩=some (vI n0):=HS.out.X.cell 2 _ rfl;have x3:w3.cell? ⟨w.heap.size+1,3,none⟩=some (vI n1):=HS.out.X.cell 3 _ rfl
 go_wp2_with fail
 rw [rounds_succ]
 go_wp2_with fail
 rw [rounds_succ]
 go_wp2_with fail
 refine wp_loop_rounds 3 ?_
 rw [rounds_succ]
 go_wp2_with fail
 refine (P10.out _).mono ?_;rintro e' w4 ⟨rfl,hB⟩
 replace HS:=hid (HS.out.below hB);clear hB x0 x1 x2 x3;have x0:w4.cell? ⟨w.heap.size+1,0,none⟩=some (vI e0):=HS.out.X.cell 0 _ rfl;have x1:w4.cell? ⟨w.heap.size+1,1,none⟩=some (vI e1):=HS.out.X.cell 1 _ rfl;have x2:w4.cell? ⟨w.heap.size+1,2,none⟩=some (vI n0):=HS.out.X.cell 2 _ rfl;have x3:w4.cell? ⟨w.heap.size+1,3,none⟩=some (vI n1):=HS.out.X.cell 3 _ rfl
 go_wp2_with fail
 rw [rounds_succ]
 go_wp2_with fail
 refine (P11.out _).mono ?_;rintro e' w5 ⟨rfl,hB⟩
 replace HS:=hid (HS.out.below hB);clear hB x0 x1 x2 x3;have x0:w5.cell? ⟨w.heap.size+1,0,none⟩=some (vI e0):=HS.out.X.cell 0 _ rfl;have x1:w5.cell? ⟨w.heap.size+1,1,none⟩=some (vI e1):=HS.out.X.cell 1 _ rfl;have x2:w5.cell? ⟨w.heap.size+1,2,none⟩=some (vI n0):=HS.out.X.cell 2 _ rfl;have x3:w5.cell? ⟨w.heap.size+1,3,none⟩=some (vI n1):=HS.out.X.cell 3 _ rfl
 go_wp2_with fail
 rw [rounds_succ]
 go_wp2_with fail
 rw [rounds_succ]
 go_wp2_with fail
 clear x0 x1 x2 x3
 try simp only [HC0.out]
 refine (B0.out _).mono ?_;rintro e' wx ⟨rfl,rfl⟩
 go_wp2_with fail
 try simp only [HC1.out]
 refine (B1.out _).mono ?_;rintro e' wx ⟨rfl,rfl⟩
 go_wp2_with fail
 try simp only [HC0.out]
 refine (B0.out _).mono ?_;rintro e' wx ⟨rfl,rfl⟩
 go_wp2_with fail
 try simp only [HC1.out]
 refine (B1.out _).mono ?_;rintro e' wx ⟨rfl,rfl⟩
 try simp only [HA0.out,HA1.out]
 try simp only [HC0.out,HC1.out]
 replace HFF:=hid HFF.out.symm
 try simp only [HFF.out]
 have HNF:=hid (show NN<=FF by rw [HNN.out,← HFF.out];unfold Bo;split <;> omega)
 have y0:∀ m,(w5.drewN m).cell? ⟨w.heap.size,0,none⟩=some (vI t0):=fun m=>(BC w5 m _).trans (HS.out.T.cell 0 _ rfl);have y1:∀ m,(w5.drewN m).cell? ⟨w.heap.size,1,none⟩=some (vI t1):=fun m=>(BC w5 m _).trans (HS.out.T.cell 1 _ rfl)
 by_cases hc0:C0<=0
 ·by_cases hc1:0<=C1
  ·have hn0:NN=0:=by rw [HNN.out,if_pos ⟨hc0,hc1⟩]
   go_wp2_with fail
   go_quiet (fail)
   have HS2:=hid (HS.out.drewN nq);generalize w5.drewN nq=w6 at *
   by_cases hf:t0 * 1024<=FF
   ·have HE:=hid (HG2.out hf)
    exact Nh
   have hnt:NN<=FF:=HNF.out;have q1:=Ht (T:=t0 * 1024) (by omega) (by omega);have q2:=Ht (T:=t1 * 1024) (by omega) (by omega);have q3:=EK (T:=FF) (by omega) (by omega);have q4:=EK (T:=NN) (by omega) (by omega);have q5:=Bv (a:=t0 * 1024) (b:=t1 * 1024) (by omega) (by omega);have q6:=Bv (a:=NN) (b:=FF) (by omega) (by omega);have hm:=Cb (a:=t0 * 1024 * (t0 * 1024) - FF * FF) (b:=t1 * 1024 * (t1 * 1024) - NN * NN) (by omega);have r0:=EJ (t0 * 1024 * (t0 * 1024) - FF * FF) (by omega);have r1:=EJ (t1 * 1024 * (t1 * 1024) - NN * NN) (by omega);have Q0:=hid (fun W=>xSqrt (t0 * 1024 * (t0 * 1024) - FF * FF) (by omega) W);have Q1:=hid (fun W=>xSqrt (t1 * 1024 * (t1 * 1024) - NN * NN) (by omega) W);have u1:IntKind.i64.wrap (t0 * 1024 * (t0 * 1024))=t0 * 1024 * (t0 * 1024):=Bc (by omega) (by omega);have u2:IntKind.i64.wrap (t1 * 1024 * (t1 * 1024))=t1 * 1024 * (t1 * 1024):=Bc (by omega) (by omega);have u3:IntKind.i64.wrap (FF * FF)=FF * FF:=Bc (by omega) (by omega);have u4:IntKind.i64.wrap (NN * NN)=NN * NN:=Bc (by omega) (by omega);have u5:IntKind.i64.wrap (t0 * 1024 * (t0 * 1024) - FF * FF)=t0 * 1024 * (t0 * 1024) - FF * FF:=Bc (by omega) (by omega);have u6:IntKind.i64.wrap (t1 * 1024 * (t1 * 1024) - NN * NN)=t1 * 1024 * (t1 * 1024) - NN * NN:=Bc (by omega) (by omega);obtain ⟨r00,r01,_⟩:=r0;obtain ⟨r10,r11,_⟩:=r1;generalize hR0:sqV (t0 * 1024 * (t0 * 1024) - FF * FF)=R0 at *;generalize hR1:sqV (t1 * 1024 * (t1 * 1024) - NN * NN)=R1 at *;have HR0:=hid hR0;have HR1:=hid hR1;clear q1 q2 q3 q4 q5 q6 hR0 hR1;have HNZ:=hid hn0
   rw [hn0] at Q1 u4 u6
   simp only [Int.zero_mul,Int.mul_zero,Int.sub_zero] at Q1 u4 u6
   clear hn0 u4 u6
   go_wp2_with fail
   refine (Q0.out _).mono ?_;rintro e' wx ⟨rfl,rfl⟩
   go_wp2_with fail
   refine (Q1.out _).mono ?_;rintro e' wx ⟨rfl,rfl⟩
   by_cases hl:A0+R0<1024
   ·have HE:=hid (HG3.out hf (by rw [HLO.out];omega))
    exact Nh
   exact YB
  replace HNN:=hid (HNN.out.trans (if_neg (fun h=>hc1 h.2))).symm
  go_wp2_with fail
  try simp only [HNN.out]
  go_quiet (fail)
  have HS2:=hid (HS.out.drewN nq);generalize w5.drewN nq=w6 at *
  by_cases hf:t0 * 1024<=FF
  ·have HE:=hid (HG2.out hf)
   exact Nh
  have hnt:NN<=FF:=HNF.out;have q1:=Ht (T:=t0 * 1024) (by omega) (by omega);have q2:=Ht (T:=t1 * 1024) (by omega) (by omega);have q3:=EK (T:=FF) (by omega) (by omega);have q4:=EK (T:=NN) (by omega) (by omega);have q5:=Bv (a:=t0 * 1024) (b:=t1 * 1024) (by omega) (by omega);have q6:=Bv (a:=NN) (b:=FF) (by omega) (by omega);have hm:=Cb (a:=t0 * 1024 * (t0 * 1024) - FF * FF) (b:=t1 * 1024 * (t1 * 1024) - NN * NN) (by omega);have r0:=EJ (t0 * 1024 * (t0 * 1024) - FF * FF) (by omega);have r1:=EJ (t1 * 1024 * (t1 * 1024) - NN * NN) (by omega);have Q0:=hid (fun W=>xSqrt (t0 * 1024 * (t0 * 1024) - FF * FF) (by omega) W);have Q1:=hid (fun W=>xSqrt (t1 * 1024 * (t1 * 1024) - NN * NN) (by omega) W);have u1:IntKind.i64.wrap (t0 * 1024 * (t0 * 1024))=t0 * 1024 * (t0 * 1024):=Bc (by omega) (by omega);have u2:IntKind.i64.wrap (t1 * 1024 * (t1 * 1024))=t1 * 1024 * (t1 * 1024):=Bc (by omega) (by omega);have u3:IntKind.i64.wrap (FF * FF)=FF * FF:=Bc (by omega) (by omega);have u4:IntKind.i64.wrap (NN * NN)=NN * NN:=Bc (by omega) (by omega);have u5:IntKind.i64.wrap (t0 * 1024 * (t0 * 1024) - FF * FF)=t0 * 1024 * (t0 * 1024) - FF * FF:=Bc (by omega) (by omega);have u6:IntKind.i64.wrap (t1 * 1024 * (t1 * 1024) - NN * NN)=t1 * 1024 * (t1 * 1024) - NN * NN:=Bc (by omega) (by omega);obtain ⟨r00,r01,_⟩:=r0;obtain ⟨r10,r11,_⟩:=r1;generalize hR0:sqV (t0 * 1024 * (t0 * 1024) - FF * FF)=R0 at *;generalize hR1:sqV (t1 * 1024 * (t1 * 1024) - NN * NN)=R1 at *;have HR0:=hid hR0;have HR1:=hid hR1;clear q1 q2 q3 q4 q5 q6 hR0 hR1
  go_wp2_with fail
  refine (Q0.out _).mono ?_;rintro e' wx ⟨rfl,rfl⟩
  go_wp2_with fail
  refine (Q1.out _).mono ?_;rintro e' wx ⟨rfl,rfl⟩
  by_cases hl:A0+R0<1024
  ·have HE:=hid (HG3.out hf (by rw [HLO.out];omega))
   exact Nh
  exact YB
 replace HNN:=hid (HNN.out.trans (if_neg (fun h=>hc0 h.1))).symm
 go_wp2_with fail
 try simp only [HNN.out]
 go_quiet (fail)
 have HS2:=hid (HS.out.drewN nq);generalize w5.drewN nq=w6 at *
 by_cases hf:t0 * 1024<=FF
 ·have HE:=hid (HG2.out hf)
  exact Nh
 have hnt:NN<=FF:=HNF.out;have q1:=Ht (T:=t0 * 1024) (by omega) (by omega);have q2:=Ht (T:=t1 * 1024) (by omega) (by omega);have q3:=EK (T:=FF) (by omega) (by omega);have q4:=EK (T:=NN) (by omega) (by omega);have q5:=Bv (a:=t0 * 1024) (b:=t1 * 1024) (by omega) (by omega);have q6:=Bv (a:=NN) (b:=FF) (by omega) (by omega);have hm:=Cb (a:=t0 * 1024 * (t0 * 1024) - FF * FF) (b:=t1 * 1024 * (t1 * 1024) - NN * NN) (by omega);have r0:=EJ (t0 * 1024 * (t0 * 1024) - FF * FF) (by omega);have r1:=EJ (t1 * 1024 * (t1 * 1024) - NN * NN) (by omega);have Q0:=hid (fun W=>xSqrt (t0 * 1024 * (t0 * 1024) - FF * FF) (by omega) W);have Q1:=hid (fun W=>xSqrt (t1 * 1024 * (t1 * 1024) - NN * NN) (by omega) W);have u1:IntKind.i64.wrap (t0 * 1024 * (t0 * 1024))=t0 * 1024 * (t0 * 1024):=Bc (by omega) (by omega);have u2:IntKind.i64.wrap (t1 * 1024 * (t1 * 1024))=t1 * 1024 * (t1 * 1024):=Bc (by omega) (by omega);have u3:IntKind.i64.wrap (FF * FF)=FF * FF:=Bc (by omega) (by omega);have u4:IntKind.i64.wrap (NN * NN)=NN * NN:=Bc (by omega) (by omega);have u5:IntKind.i64.wrap (t0 * 1024 * (t0 * 1024) - FF * FF)=t0 * 1024 * (t0 * 1024) - FF * FF:=Bc (by omega) (by omega);have u6:IntKind.i64.wrap (t1 * 1024 * (t1 * 1024) - NN * NN)=t1 * 1024 * (t1 * 1024) - NN * NN:=Bc (by omega) (by omega);obtain ⟨r00,r01,_⟩:=r0;obtain ⟨r10,r11,_⟩:=r1;generalize hR0:sqV (t0 * 1024 * (t0 * 1024) - FF * FF)=R0 at *;generalize hR1:sqV (t1 * 1024 * (t1 * 1024) - NN * NN)=R1 at *;have HR0:=hid hR0;have HR1:=hid hR1;clear q1 q2 q3 q4 q5 q6 hR0 hR1
 go_wp2_with fail
 refine (Q0.out _).mono ?_;rintro e' wx ⟨rfl,rfl⟩
 go_wp2_with fail
 refine (Q1.out _).mono ?_;rintro e' wx ⟨rfl,rfl⟩
 by_cases hl:A0+R0<1024
 ·have HE:=hid (HG3.out hf (by rw [HLO.out];omega))
  exact Nh
 exact YB
