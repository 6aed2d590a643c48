/- M20: Pr14, RunOk in one text. -/
import Derived.Test.YtheepmnhpclimaaGreatM21
import Derived.Test.YtheepmnhpclimaaGreatM27
import Derived.Test.YtheepmnhpclimaaGreatM16
import Derived.RegionTactic
set_option linter.unusedSimpArgs false
set_option linter.unusedVariables false
set_option maxRecDepth 100000
set_option maxHeartbeats 8000000
namespace Go.Proofs.YtheepmnhpclimaaGreat
open Go.RowKit
open Go.Lib (hid)
def RunP (s:Stp) (w:World) (e:Ending) (w':World):Prop:=∃ A c,e=.returned (.tuple #[.agg #[.slice A (okN (runE s) s.no.length) c,vI (runC s).1,vI (runC s).2,.bool (runS s)],vI (runE s)])∧Passes w' A (okN (runE s) s.no.length) (runL s)∧CapOk A (okN (runE s) s.no.length) c∧Below w.heap.size w w'
theorem runP_err {s:Stp} {w w':World} {x y E:Int} {bb:Bool} (hE:runE s=E) (h0:E≠0) (hx:runC s=(x,y)) (hb:runS s=bb) (hB:Below w.heap.size w w'):RunP s w (.returned (.tuple #[.agg #[.slice none 0 0,vI x,vI y,.bool bb],vI E])) w':=by
 unfold RunP runL
 rw [hE,hx,hb]
 unfold okN
 rw [if_neg h0,if_neg h0]
 exact ⟨none,0,rfl,Recs.nil _ _ _,⟨Nat.le_refl _,Nat.zero_le _,fun _=>rfl⟩,hB⟩
theorem runE_a {s:Stp} (h:altE s≠0):runE s=altE s∧runC s=altC s∧runS s=false:=⟨if_pos h,if_pos h,by unfold runS;rw [decide_eq_false h];rfl⟩
theorem runE_p {s:Stp} (h:altE s=0) (h2:pnE s=11):runE s=11∧runC s=pnC s∧runS s=true:=by
 refine ⟨?_,?_,?_⟩
 ·unfold runE;rw [if_neg (by rw [h];decide),if_pos (by rw [h2];decide),h2]
 ·unfold runC pnC;rw [if_neg (by rw [h];decide)]
 ·unfold runS;rw [h,h2];rfl
theorem runE_w {s:Stp} (h:altE s=0) (h2:pnE s=0):runE s=wtE s (altL s) (pnL s)∧runC s=(0,0)∧runS s=false:=by
 refine ⟨?_,?_,?_⟩
 ·unfold runE;rw [if_neg (by rw [h];decide),if_neg (by rw [h2];decide)]
 ·unfold runC;rw [if_neg (by rw [h];decide),if_neg (by rw [h2];decide)]
 ·unfold runS;rw [h,h2];rfl
theorem pn_011 {s:Stp} (N:StN s) (h:altE s=0):pnE s=0∨pnE s=11:=by
 have hs:=(altE_su h).1
 rcases pl_011 (su_good hs) N (alt_good N h).len with h1 | h1
 ·exact .inl h1.1
 ·exact .inr h1.1
theorem xPRun (s:Stp) (w:World) (hl:s.lies w) (hok:s.ok):Calls Tryz.prog 20 #[.agg s.cells.toArray] w (RunP s w):=by
 have HS:=hid (boxS2 w s.cells.toArray #[.slice none 0 0,vI 0,vI 0,.bool false] 35 57);have HSZ:=hid (fun W1 (h:Below ((w.alloc (.cells s.cells.toArray 35)).alloc (.cells #[.slice none 0 0,vI 0,vI 0,.bool false] 57)).heap.size ((w.alloc (.cells s.cells.toArray 35)).alloc (.cells #[.slice none 0 0,vI 0,vI 0,.bool false] 57)) W1)=>show w.heap.size+2<=W1.heap.size from Nat.le_trans HS.out.sz h.size);have N:=StN.of hl;have HA:=hid (fun W (h:BoxS w 2 [s.cells,[.slice none 0 0,vI 0,vI 0,.bool false]] W)=>xPAltitudes s W (hl.below h.B) hok)
 have hmx:s.no.length<=maxLen:=by have:=hok.no;have:=N.no;omega
 by_cases h0:altE s=0
 rotate_left
 ·obtain ⟨hE,hC,hb⟩:=runE_a h0
  have HE:=hid hE;have HC:=hid (show runC s=((altC s).1,(altC s).2) from hC);have HBB:=hid hb;have HNE:=hid h0
  unfold AltP at HA
  have hR:∀ {α:Type} (l:List α),okL (altE s) l=[]:=fun l=>if_neg h0;have hNN:∀ n,okN (altE s) n=0:=fun n=>if_neg h0
  simp only [hNN,hR] at HA
  have e1:=beq_of h0;have e2:=bne_of e1;generalize altE s=E at *;generalize (altC s).1=x at *;generalize (altC s).2=y at *;clear hl hok hE hC hb h0 N hR hNN hmx
  go_enter Tryz.func20,Tryz.ntmps20
  go_wp2_with (refine at_stp (.tmp 1) rfl rfl rfl (HS.out.has 0 _ rfl) ?_)
  refine (HA.out _ HS.out).mono ?_;rintro e' w1 ⟨A1,c1,rfl,-,hB⟩
  replace HS:=hid ((HS.out.below hB).alloc (.cells #[vI x,vI y] 38));clear hB;have r0:(w1.alloc (.cells #[vI x,vI y] 38)).cell? ⟨w.heap.size+1,0,none⟩=some (.slice none 0 0):=HS.out.at 1 _ rfl 0 _ rfl;have r1:(w1.alloc (.cells #[vI x,vI y] 38)).cell? ⟨w.heap.size+1,1,none⟩=some (vI 0):=HS.out.at 1 _ rfl 1 _ rfl;have r2:(w1.alloc (.cells #[vI x,vI y] 38)).cell? ⟨w.heap.size+1,2,none⟩=some (vI 0):=HS.out.at 1 _ rfl 2 _ rfl;have r3:(w1.alloc (.cells #[vI x,vI y] 38)).cell? ⟨w.heap.size+1,3,none⟩=some (.bool false):=HS.out.at 1 _ rfl 3 _ rfl;have rf:=fun o=>show (w1.alloc (.cells #[vI x,vI y] 38)).frozen? ⟨w.heap.size+1,o,none⟩=false from HS.out.fr 1 _ rfl o
  go_wp2_with fail
  exact bodyPost_ret (v:=.tuple #[.agg #[.slice none 0 0,vI x,vI y,.bool false],vI E]) (by simp [results,Tryz.results20,go_sem,r0,r1,r2,r3]) rfl (runP_err HE.out HNE.out HC.out HBB.out (below_set (below_set (below_set (below_set (HS.out.B) _ _ (Nat.le_add_right _ _) _) _ _ (Nat.le_add_right _ _) _) _ _ (Nat.le_add_right _ _) _) _ _ (Nat.le_add_right _ _) _))
 have HP:=hid (fun W (h:BoxS w 2 [s.cells,[.slice none 0 0,vI 0,vI 0,.bool false]] W) A c (ha:Ints W A s.no.length (altL s))=>xPPlan s A s.no.length c W (hl.below h.B) hok ha hmx h0);have HW:=hid (fun W (h:BoxS w 2 [s.cells,[.slice none 0 0,vI 0,vI 0,.bool false]] W) A A2 c c2 (ha:Ints W A s.no.length (altL s)) (hb:Ints W A2 s.no.length (pnL s))=>xPWith s A A2 s.no.length c s.no.length c2 (altL s) (pnL s) W (hl.below h.B) hok ha hb hmx hmx)
 have HAC:=hid (show altC s=(0,0) from by
  obtain ⟨a1,a2⟩:=altE_su h0
  rw [altC_of a1,if_pos a2])
 unfold AltP at HA
 rw [h0,HAC.out] at HA
 simp only [okN_0,okL_0] at HA
 rcases pn_011 N h0 with h2 | h2
 rotate_left
 ·obtain ⟨hE,hC,hb⟩:=runE_p h0 h2
  have HE:=hid hE;have HC:=hid (show runC s=((pnC s).1,(pnC s).2) from hC);have HBB:=hid hb
  unfold PlnP at HP
  have hNN:∀ n,okN 11 n=0:=fun n=>if_neg (by decide)
  rw [h2] at HP
  simp only [hNN] at HP
  generalize (pnC s).1=x at *;generalize (pnC s).2=y at *;clear hl hok hE hC hb h0 N hNN hmx HW h2
  go_enter Tryz.func20,Tryz.ntmps20
  go_wp2_with (refine at_stp (.tmp 1) rfl rfl rfl (HS.out.has 0 _ rfl) ?_)
  refine (HA.out _ HS.out).mono ?_;rintro e' w1 ⟨A1,c1,rfl,hI1,hB⟩
  replace HS:=hid ((HS.out.below hB).alloc (.cells #[vI 0,vI 0] 38));have Q5:Hid (Has ((w1.alloc (.cells #[vI 0,vI 0] 38))) w1.heap.size (lz2 0 0)):=hid (Has.new _ _ _);have HI:=hid (hI1.below (below_alloc1 w1 (.cells #[vI 0,vI 0] 38)));have r5:w.heap.size+2<=w1.heap.size:=HSZ.out w1 hB;clear hB hI1
  go_wp2_with (refine at_stp (.tmp 1) rfl rfl rfl (HS.out.has 0 _ rfl) ?_)
  generalize (w1.alloc (.cells #[vI 0,vI 0] 38))=W2 at *;generalize w1.heap.size=H5 at *
  refine (HP.out _ HS.out _ _ HI.out).mono ?_;rintro e' w3 ⟨A3,c3,rfl,-,hB⟩
  replace HS:=hid (HS.out.below hB);replace Q5:=hid (Q5.out.below hB);clear hB;have c0:=Q5.out.cell 0 _ rfl;have c1':=Q5.out.cell 1 _ rfl;have cf:=Q5.out.fr;replace Q5:=hid (show Has ((w3.setCell ⟨H5,0,none⟩ (vI x)).setCell ⟨H5,1,none⟩ (vI y)) H5 (lz2 x y) from (Q5.out.set 0 (vI x) (by simp)).set 1 (vI y) (by simp));replace HS:=hid ((HS.out.set H5 0 r5 (vI x)).set H5 1 r5 (vI y));have d0:=Q5.out.cell 0 _ rfl;have d1:=Q5.out.cell 1 _ rfl;have r0:((w3.setCell ⟨H5,0,none⟩ (vI x)).setCell ⟨H5,1,none⟩ (vI y)).cell? ⟨w.heap.size+1,0,none⟩=some (.slice none 0 0):=HS.out.at 1 _ rfl 0 _ rfl;have r1:((w3.setCell ⟨H5,0,none⟩ (vI x)).setCell ⟨H5,1,none⟩ (vI y)).cell? ⟨w.heap.size+1,1,none⟩=some (vI 0):=HS.out.at 1 _ rfl 1 _ rfl;have r2:((w3.setCell ⟨H5,0,none⟩ (vI x)).setCell ⟨H5,1,none⟩ (vI y)).cell? ⟨w.heap.size+1,2,none⟩=some (vI 0):=HS.out.at 1 _ rfl 2 _ rfl;have r3:((w3.setCell ⟨H5,0,none⟩ (vI x)).setCell ⟨H5,1,none⟩ (vI y)).cell? ⟨w.heap.size+1,3,none⟩=some (.bool false):=HS.out.at 1 _ rfl 3 _ rfl;have rf:=fun o=>show ((w3.setCell ⟨H5,0,none⟩ (vI x)).setCell ⟨H5,1,none⟩ (vI y)).frozen? ⟨w.heap.size+1,o,none⟩=false from HS.out.fr 1 _ rfl o
  go_wp2_with fail
  exact bodyPost_ret (v:=.tuple #[.agg #[.slice none 0 0,vI x,vI y,.bool true],vI 11]) (by simp [results,Tryz.results20,go_sem,r0,r1,r2,r3]) rfl (runP_err HE.out (by decide) HC.out HBB.out (below_set (below_set (below_set (below_set (HS.out.B) _ _ (Nat.le_add_right _ _) _) _ _ (Nat.le_add_right _ _) _) _ _ (Nat.le_add_right _ _) _) _ _ (Nat.le_add_right _ _) _))
 obtain ⟨hE,hC,hb⟩:=runE_w h0 h2;have HC:=hid hC;have HBB:=hid hb
 unfold PlnP at HP
 have hPC:pnC s=(0,0):=if_neg (by rw [h2];decide)
 rw [h2,hPC] at HP
 simp only [okN_0,okL_0] at HP
 have HRL:=hid (show runE s=0→runL s=wtL s (altL s) (pnL s) from fun h=>if_pos h);have HE:=hid hE;generalize wtE s (altL s) (pnL s)=E at *;generalize wtL s (altL s) (pnL s)=PL at *;generalize hNL:s.no.length=nn at *;have HNL:=hid hNL;clear hl hok hE hC hb h0 N hmx h2 hPC hNL
 go_enter Tryz.func20,Tryz.ntmps20
 go_wp2_with (refine at_stp (.tmp 1) rfl rfl rfl (HS.out.has 0 _ rfl) ?_)
 refine (HA.out _ HS.out).mono ?_;rintro e' w1 ⟨A1,c1,rfl,hI1,hB⟩
 replace HS:=hid ((HS.out.below hB).alloc (.cells #[vI 0,vI 0] 38));have Q5:Hid (Has ((w1.alloc (.cells #[vI 0,vI 0] 38))) w1.heap.size (lz2 0 0)):=hid (Has.new _ _ _);have HI:=hid (hI1.below (below_alloc1 w1 (.cells #[vI 0,vI 0] 38)));have r5:w.heap.size+2<=w1.heap.size:=HSZ.out w1 hB;clear hB hI1
 go_wp2_with (refine at_stp (.tmp 1) rfl rfl rfl (HS.out.has 0 _ rfl) ?_)
 generalize (w1.alloc (.cells #[vI 0,vI 0] 38))=W2 at *;generalize w1.heap.size=H5 at *
 refine (HP.out _ HS.out _ _ HI.out).mono ?_;rintro e' w3 ⟨A3,c3,rfl,hI3,hB⟩
 replace HS:=hid (HS.out.below hB);replace Q5:=hid (Q5.out.below hB);have c0:=Q5.out.cell 0 _ rfl;have c1':=Q5.out.cell 1 _ rfl;have cf:=Q5.out.fr;have HI':=hid (((HI.out.below hB).same c0).same (cell_same c0 c1'));have HI3:=hid ((hI3.same c0).same (cell_same c0 c1'));replace HS:=hid ((HS.out.set H5 0 r5 (vI 0)).set H5 1 r5 (vI 0));clear hB hI3 HI
 go_wp2_with (refine at_stp (.tmp 1) rfl rfl rfl (HS.out.has 0 _ rfl) ?_)
 clear c0 c1' cf;generalize (w3.setCell ⟨H5,0,none⟩ (vI 0)).setCell ⟨H5,1,none⟩ (vI 0)=W4 at *
 refine (HW.out _ HS.out _ _ _ _ HI'.out HI3.out).mono ?_;rintro e' w5 ⟨A5,c5,rfl,hP5,hcap5,hB⟩
 replace HS:=hid (HS.out.below hB);clear hB HW HP HA HI' HI3 Q5
 by_cases hz:E=0
 ·subst hz
  have HP5:=hid hP5;have HC5:=hid hcap5
  rw [okN_0] at HP5 HC5 ⊢
  rw [okL_0] at HP5
  clear hP5 hcap5;have r0:w5.cell? ⟨w.heap.size+1,0,none⟩=some (.slice none 0 0):=HS.out.at 1 _ rfl 0 _ rfl;have r1:w5.cell? ⟨w.heap.size+1,1,none⟩=some (vI 0):=HS.out.at 1 _ rfl 1 _ rfl;have r2:w5.cell? ⟨w.heap.size+1,2,none⟩=some (vI 0):=HS.out.at 1 _ rfl 2 _ rfl;have r3:w5.cell? ⟨w.heap.size+1,3,none⟩=some (.bool false):=HS.out.at 1 _ rfl 3 _ rfl;have rf:=fun o=>show w5.frozen? ⟨w.heap.size+1,o,none⟩=false from HS.out.fr 1 _ rfl o
  go_wp2_with fail
  exact bodyPost_ret (v:=.tuple #[.agg #[.slice A5 nn c5,vI 0,vI 0,.bool false],vI 0]) (by simp [results,Tryz.results20,go_sem,r0,r1,r2,r3]) rfl (by
   unfold RunP
   rw [HE.out,HC.out,HBB.out,HNL.out,HRL.out HE.out,okN_0]
   exact ⟨A5,c5,rfl,recs_pred HP5.out r0 r1 r2 r3 pass_no,HC5.out,below_set (below_set (below_set (below_set (HS.out.B) _ _ (Nat.le_add_right _ _) _) _ _ (Nat.le_add_right _ _) _) _ _ (Nat.le_add_right _ _) _) _ _ (Nat.le_add_right _ _) _⟩)
 ·have e1:=beq_of hz
  have e2:=bne_of e1;have HNE:=hid hz
  rw [show okN E nn=0 from if_neg hz]
  clear hP5 hcap5 hz;have r0:w5.cell? ⟨w.heap.size+1,0,none⟩=some (.slice none 0 0):=HS.out.at 1 _ rfl 0 _ rfl;have r1:w5.cell? ⟨w.heap.size+1,1,none⟩=some (vI 0):=HS.out.at 1 _ rfl 1 _ rfl;have r2:w5.cell? ⟨w.heap.size+1,2,none⟩=some (vI 0):=HS.out.at 1 _ rfl 2 _ rfl;have r3:w5.cell? ⟨w.heap.size+1,3,none⟩=some (.bool false):=HS.out.at 1 _ rfl 3 _ rfl;have rf:=fun o=>show w5.frozen? ⟨w.heap.size+1,o,none⟩=false from HS.out.fr 1 _ rfl o
  go_wp2_with fail
  exact bodyPost_ret (v:=.tuple #[.agg #[.slice none 0 0,vI 0,vI 0,.bool false],vI E]) (by simp [results,Tryz.results20,go_sem,r0,r1,r2,r3]) rfl (runP_err HE.out HNE.out HC.out HBB.out (below_set (below_set (below_set (below_set (HS.out.B) _ _ (Nat.le_add_right _ _) _) _ _ (Nat.le_add_right _ _) _) _ _ (Nat.le_add_right _ _) _) _ _ (Nat.le_add_right _ _) _))
end Go.Proofs.YtheepmnhpclimaaGreat
namespace Go.Proofs.YtheepmnhpclimaaGreat
open Go.RowKit
def RunOk (l:List Pass) (w:World) (e:Ending) (w':World):Prop:=∃ A c,e=.returned (.tuple #[.agg #[.slice A l.length c,vI 0,vI 0,.bool false],vI 0])∧Passes w' A l.length l∧CapOk A l.length c∧Below w.heap.size w w'
theorem run_ok {s:Stp} {w:World} (hl:s.lies w) (hok:s.ok) (h:runE s=0) {l:List Pass} (h2:runL s=l) (h3:s.no.length=l.length):Calls Tryz.prog 20 #[.agg s.cells.toArray] w (RunOk l w):=by
 refine (xPRun s w hl hok).mono ?_
 rintro e w' ⟨A,c,rfl,hP,hC,hB⟩
 have N:=StN.of hl
 have ha:altE s=0:=by
  by_cases ha:altE s=0
  ·exact ha
  ·have:=(runE_a ha).1
   rw [h] at this
   exact absurd this.symm ha
 have hp:pnE s=0:=by
  rcases pn_011 N ha with hp | hp
  ·exact hp
  ·have:=(runE_p ha hp).1
   rw [h] at this
   exact absurd this (by decide)
 obtain ⟨-,hc,hs⟩:=runE_w ha hp
 rw [h,hc,hs,okN_0,h3] at *
 rw [h2] at hP
 exact ⟨A,c,rfl,hP,hC,hB⟩
end Go.Proofs.YtheepmnhpclimaaGreat
