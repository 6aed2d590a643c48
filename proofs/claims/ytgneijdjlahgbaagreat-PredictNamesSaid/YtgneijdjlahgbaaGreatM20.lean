/- M20: Pr14, LaBase37 in one text. -/
import Derived.Test.YtgneijdjlahgbaaGreatM21
import Derived.Test.YtgneijdjlahgbaaGreatM27
import Derived.Test.YtgneijdjlahgbaaGreatM16
import Derived.RegionTactic
namespace Go.Proofs.YtgneijdjlahgbaaGreat
set_option maxRecDepth 100000
set_option maxHeartbeats 8000000
set_option linter.unusedSimpArgs false
set_option linter.unusedVariables false
open Go.RowKit
def RunP (s:Stp) (w:World) (e:Ending) (w':World):Prop:=∃ A c,e=.returned (.tuple #[.agg #[.slice A (okN (runE s) s.no.length) c,.int .i64 (runC s).1,.int .i64 (runC s).2,.bool (runS s)],.int .i64 (runE s)])∧Passes w' A (okN (runE s) s.no.length) (runL s)∧CapOk A (okN (runE s) s.no.length) c∧Below w.heap.size w w'
theorem runP_err {s:Stp} {w w':World} {x y E:Int} {bb:Bool} (hE:runE s=E) (h0:E≠0) (hx:runC s=(x,y)) (hb:runS s=bb) (hB:Below w.heap.size w w'):RunP s w (.returned (.tuple #[.agg #[.slice none 0 0,.int .i64 x,.int .i64 y,.bool bb],.int .i64 E])) w':=by
 unfold RunP runL
 rw [hE,hx,hb]
 unfold okN
 rw [if_neg h0,if_neg h0]
 exact ⟨none,0,rfl,Recs.nil _ _ _,⟨Nat.le_refl _,Nat.zero_le _,fun _=>rfl⟩,hB⟩
theorem runE_a {s:Stp} (h:altE s≠0):runE s=altE s∧runC s=altC s∧runS s=false:=⟨if_pos h,if_pos h,by unfold runS;rw [decide_eq_false h];rfl⟩
theorem runE_p {s:Stp} (h:altE s=0) (h2:pnE s=11):runE s=11∧runC s=pnC s∧runS s=true:=by
 refine ⟨?_,?_,?_⟩
 ·unfold runE;rw [if_neg (by rw [h];decide),if_pos (by rw [h2];decide),h2]
 ·unfold runC pnC;rw [if_neg (by rw [h];decide)]
 ·unfold runS;rw [h,h2];rfl
theorem runE_w {s:Stp} (h:altE s=0) (h2:pnE s=0):runE s=wtE s (altL s) (pnL s)∧runC s=(0,0)∧runS s=false:=by
 refine ⟨?_,?_,?_⟩
 ·unfold runE;rw [if_neg (by rw [h];decide),if_neg (by rw [h2];decide)]
 ·unfold runC;rw [if_neg (by rw [h];decide),if_neg (by rw [h2];decide)]
 ·unfold runS;rw [h,h2];rfl
theorem pn_011 {s:Stp} (N:StN s) (h:altE s=0):pnE s=0∨pnE s=11:=by
 have hs:=(altE_su h).1
 rcases pl_011 (su_good hs) N (alt_good N h).len with h1 | h1
 ·exact .inl h1.1
 ·exact .inr h1.1
theorem xPRun (s:Stp) (w:World) (hl:s.lies w) (hok:s.ok):Calls Tryz.prog 16 #[.agg s.cells.toArray] w (RunP s w):=by
 have HS:=Lib.hid (boxS2 w s.cells.toArray #[.slice none 0 0,.int .i64 0,.int .i64 0,.bool false] 35 42)
 have HSZ:=Lib.hid (fun W1 (h:Below ((w.alloc (.cells s.cells.toArray 35)).alloc (.cells #[.slice none 0 0,.int .i64 0,.int .i64 0,.bool false] 42)).heap.size ((w.alloc (.cells s.cells.toArray 35)).alloc (.cells #[.slice none 0 0,.int .i64 0,.int .i64 0,.bool false] 42)) W1)=>show w.heap.size+2≤W1.heap.size from Nat.le_trans HS.out.sz h.size)
 have N:=StN.of hl
 have HA:=Lib.hid (fun W (h:BoxS w 2 [s.cells,[.slice none 0 0,.int .i64 0,.int .i64 0,.bool false]] W)=>xPAltitudes s W (hl.below h.B) hok)
 have hmx:s.no.length≤maxLen:=by have:=hok.no;have:=N.no;omega
 by_cases h0:altE s=0
 rotate_left
 ·obtain ⟨hE,hC,hb⟩:=runE_a h0
  have HE:=Lib.hid hE
  have HC:=Lib.hid (show runC s=((altC s).1,(altC s).2) from hC)
  have HBB:=Lib.hid hb
  have HNE:=Lib.hid h0
  unfold AltP at HA
  have hR:∀ {α:Type} (l:List α),okL (altE s) l=[]:=fun l=>if_neg h0
  have hNN:∀ n,okN (altE s) n=0:=fun n=>if_neg h0
  simp only [hNN,hR] at HA
  have e1:=beq_of h0
  have e2:=bne_of e1
  generalize altE s=E at *
  generalize (altC s).1=x at *
  generalize (altC s).2=y at *
  clear hl hok hE hC hb h0 N hR hNN hmx
  go_enter Tryz.func16,Tryz.ntmps16
  go_wp2_with (refine at_stp (.tmp 1) rfl rfl rfl (HS.out.has 0 _ rfl) ?_)
  refine (HA.out _ HS.out).mono ?_;rintro e' w1 ⟨A1,c1,rfl,-,hB⟩
  replace HS:=Lib.hid ((HS.out.below hB).alloc (.cells #[.int .i64 x,.int .i64 y] 40))
  clear hB
  have r0:(w1.alloc (.cells #[.int .i64 x,.int .i64 y] 40)).cell? ⟨w.heap.size+1,0,none⟩=some (.slice none 0 0):=HS.out.at 1 _ rfl 0 _ rfl
  have r1:(w1.alloc (.cells #[.int .i64 x,.int .i64 y] 40)).cell? ⟨w.heap.size+1,1,none⟩=some (.int .i64 0):=HS.out.at 1 _ rfl 1 _ rfl
  have r2:(w1.alloc (.cells #[.int .i64 x,.int .i64 y] 40)).cell? ⟨w.heap.size+1,2,none⟩=some (.int .i64 0):=HS.out.at 1 _ rfl 2 _ rfl
  have r3:(w1.alloc (.cells #[.int .i64 x,.int .i64 y] 40)).cell? ⟨w.heap.size+1,3,none⟩=some (.bool false):=HS.out.at 1 _ rfl 3 _ rfl
  have rf:=fun o=>show (w1.alloc (.cells #[.int .i64 x,.int .i64 y] 40)).frozen? ⟨w.heap.size+1,o,none⟩=false from HS.out.fr 1 _ rfl o
  go_wp2_with fail
  exact bodyPost_ret (v:=.tuple #[.agg #[.slice none 0 0,.int .i64 x,.int .i64 y,.bool false],.int .i64 E]) (by simp [results,Tryz.results16,go_sem,r0,r1,r2,r3]) rfl (runP_err HE.out HNE.out HC.out HBB.out (below_set (below_set (below_set (below_set (HS.out.B) _ _ (Nat.le_add_right _ _) _) _ _ (Nat.le_add_right _ _) _) _ _ (Nat.le_add_right _ _) _) _ _ (Nat.le_add_right _ _) _))
 have HP:=Lib.hid (fun W (h:BoxS w 2 [s.cells,[.slice none 0 0,.int .i64 0,.int .i64 0,.bool false]] W) A c (ha:Ints W A s.no.length (altL s))=>xPPlan s A s.no.length c W (hl.below h.B) hok ha hmx h0)
 have HW:=Lib.hid (fun W (h:BoxS w 2 [s.cells,[.slice none 0 0,.int .i64 0,.int .i64 0,.bool false]] W) A A2 c c2 (ha:Ints W A s.no.length (altL s)) (hb:Ints W A2 s.no.length (pnL s))=>xPWith s A A2 s.no.length c s.no.length c2 (altL s) (pnL s) W (hl.below h.B) hok ha hb hmx hmx)
 have HAC:=Lib.hid (show altC s=(0,0) from by
  obtain ⟨a1,a2⟩:=altE_su h0
  rw [altC_of a1,if_pos a2])
 unfold AltP at HA
 rw [h0,HAC.out] at HA
 simp only [okN_0,okL_0] at HA
 rcases pn_011 N h0 with h2 | h2
 rotate_left
 ·obtain ⟨hE,hC,hb⟩:=runE_p h0 h2
  have HE:=Lib.hid hE
  have HC:=Lib.hid (show runC s=((pnC s).1,(pnC s).2) from hC)
  have HBB:=Lib.hid hb
  unfold PlnP at HP
  have hNN:∀ n,okN 11 n=0:=fun n=>if_neg (by decide)
  rw [h2] at HP
  simp only [hNN] at HP
  generalize (pnC s).1=x at *
  generalize (pnC s).2=y at *
  clear hl hok hE hC hb h0 N hNN hmx HW h2
  go_enter Tryz.func16,Tryz.ntmps16
  go_wp2_with (refine at_stp (.tmp 1) rfl rfl rfl (HS.out.has 0 _ rfl) ?_)
  refine (HA.out _ HS.out).mono ?_;rintro e' w1 ⟨A1,c1,rfl,hI1,hB⟩
  replace HS:=Lib.hid ((HS.out.below hB).alloc (.cells #[.int .i64 0,.int .i64 0] 40))
  have Q5:Hid (Has ((w1.alloc (.cells #[.int .i64 0,.int .i64 0] 40))) w1.heap.size (lz2 0 0)):=Lib.hid (Has.new _ _ _)
  have HI:=Lib.hid (hI1.below (below_alloc1 w1 (.cells #[.int .i64 0,.int .i64 0] 40)))
  have r5:w.heap.size+2≤w1.heap.size:=HSZ.out w1 hB
  clear hB hI1
  go_wp2_with (refine at_stp (.tmp 1) rfl rfl rfl (HS.out.has 0 _ rfl) ?_)
  generalize (w1.alloc (.cells #[.int .i64 0,.int .i64 0] 40))=W2 at *
  generalize w1.heap.size=H5 at *
  refine (HP.out _ HS.out _ _ HI.out).mono ?_;rintro e' w3 ⟨A3,c3,rfl,-,hB⟩
  replace HS:=Lib.hid (HS.out.below hB)
  replace Q5:=Lib.hid (Q5.out.below hB)
  clear hB
  have c0:=Q5.out.cell 0 _ rfl
  have c1':=Q5.out.cell 1 _ rfl
  have cf:=Q5.out.fr
  replace Q5:=Lib.hid (show Has ((w3.setCell ⟨H5,0,none⟩ (.int .i64 x)).setCell ⟨H5,1,none⟩ (.int .i64 y)) H5 (lz2 x y) from (Q5.out.set 0 (.int .i64 x) (by simp)).set 1 (.int .i64 y) (by simp))
  replace HS:=Lib.hid ((HS.out.set H5 0 r5 (.int .i64 x)).set H5 1 r5 (.int .i64 y))
  have d0:=Q5.out.cell 0 _ rfl
  have d1:=Q5.out.cell 1 _ rfl
  have r0:((w3.setCell ⟨H5,0,none⟩ (.int .i64 x)).setCell ⟨H5,1,none⟩ (.int .i64 y)).cell? ⟨w.heap.size+1,0,none⟩=some (.slice none 0 0):=HS.out.at 1 _ rfl 0 _ rfl
  have r1:((w3.setCell ⟨H5,0,none⟩ (.int .i64 x)).setCell ⟨H5,1,none⟩ (.int .i64 y)).cell? ⟨w.heap.size+1,1,none⟩=some (.int .i64 0):=HS.out.at 1 _ rfl 1 _ rfl
  have r2:((w3.setCell ⟨H5,0,none⟩ (.int .i64 x)).setCell ⟨H5,1,none⟩ (.int .i64 y)).cell? ⟨w.heap.size+1,2,none⟩=some (.int .i64 0):=HS.out.at 1 _ rfl 2 _ rfl
  have r3:((w3.setCell ⟨H5,0,none⟩ (.int .i64 x)).setCell ⟨H5,1,none⟩ (.int .i64 y)).cell? ⟨w.heap.size+1,3,none⟩=some (.bool false):=HS.out.at 1 _ rfl 3 _ rfl
  have rf:=fun o=>show ((w3.setCell ⟨H5,0,none⟩ (.int .i64 x)).setCell ⟨H5,1,none⟩ (.int .i64 y)).frozen? ⟨w.heap.size+1,o,none⟩=false from HS.out.fr 1 _ rfl o
  go_wp2_with fail
  exact bodyPost_ret (v:=.tuple #[.agg #[.slice none 0 0,.int .i64 x,.int .i64 y,.bool true],.int .i64 11]) (by simp [results,Tryz.results16,go_sem,r0,r1,r2,r3]) rfl (runP_err HE.out (by decide) HC.out HBB.out (below_set (below_set (below_set (below_set (HS.out.B) _ _ (Nat.le_add_right _ _) _) _ _ (Nat.le_add_right _ _) _) _ _ (Nat.le_add_right _ _) _) _ _ (Nat.le_add_right _ _) _))
 obtain ⟨hE,hC,hb⟩:=runE_w h0 h2
 have HC:=Lib.hid hC
 have HBB:=Lib.hid hb
 unfold PlnP at HP
 have hPC:pnC s=(0,0):=if_neg (by rw [h2];decide)
 rw [h2,hPC] at HP
 simp only [okN_0,okL_0] at HP
 have HRL:=Lib.hid (show runE s=0→runL s=wtL s (altL s) (pnL s) from fun h=>if_pos h)
 have HE:=Lib.hid hE
 generalize wtE s (altL s) (pnL s)=E at *
 generalize wtL s (altL s) (pnL s)=PL at *
 generalize hNL:s.no.length=nn at *
 have HNL:=Lib.hid hNL
 clear hl hok hE hC hb h0 N hmx h2 hPC hNL
 go_enter Tryz.func16,Tryz.ntmps16
 go_wp2_with (refine at_stp (.tmp 1) rfl rfl rfl (HS.out.has 0 _ rfl) ?_)
 refine (HA.out _ HS.out).mono ?_;rintro e' w1 ⟨A1,c1,rfl,hI1,hB⟩
 replace HS:=Lib.hid ((HS.out.below hB).alloc (.cells #[.int .i64 0,.int .i64 0] 40))
 have Q5:Hid (Has ((w1.alloc (.cells #[.int .i64 0,.int .i64 0] 40))) w1.heap.size (lz2 0 0)):=Lib.hid (Has.new _ _ _)
 have HI:=Lib.hid (hI1.below (below_alloc1 w1 (.cells #[.int .i64 0,.int .i64 0] 40)))
 have r5:w.heap.size+2≤w1.heap.size:=HSZ.out w1 hB
 clear hB hI1
 go_wp2_with (refine at_stp (.tmp 1) rfl rfl rfl (HS.out.has 0 _ rfl) ?_)
 generalize (w1.alloc (.cells #[.int .i64 0,.int .i64 0] 40))=W2 at *
 generalize w1.heap.size=H5 at *
 refine (HP.out _ HS.out _ _ HI.out).mono ?_;rintro e' w3 ⟨A3,c3,rfl,hI3,hB⟩
 replace HS:=Lib.hid (HS.out.below hB)
 replace Q5:=Lib.hid (Q5.out.below hB)
 have c0:=Q5.out.cell 0 _ rfl
 have c1':=Q5.out.cell 1 _ rfl
 have cf:=Q5.out.fr
 have HI':=Lib.hid (((HI.out.below hB).same c0).same (cell_same c0 c1'))
 have HI3:=Lib.hid ((hI3.same c0).same (cell_same c0 c1'))
 replace HS:=Lib.hid ((HS.out.set H5 0 r5 (.int .i64 0)).set H5 1 r5 (.int .i64 0))
 clear hB hI3 HI
 go_wp2_with (refine at_stp (.tmp 1) rfl rfl rfl (HS.out.has 0 _ rfl) ?_)
 clear c0 c1' cf
 generalize (w3.setCell ⟨H5,0,none⟩ (.int .i64 0)).setCell ⟨H5,1,none⟩ (.int .i64 0)=W4 at *
 refine (HW.out _ HS.out _ _ _ _ HI'.out HI3.out).mono ?_;rintro e' w5 ⟨A5,c5,rfl,hP5,hcap5,hB⟩
 replace HS:=Lib.hid (HS.out.below hB)
 clear hB HW HP HA HI' HI3 Q5
 by_cases hz:E=0
 ·subst hz
  have HP5:=Lib.hid hP5
  have HC5:=Lib.hid hcap5
  rw [okN_0] at HP5 HC5 ⊢
  rw [okL_0] at HP5
  clear hP5 hcap5
  have r0:w5.cell? ⟨w.heap.size+1,0,none⟩=some (.slice none 0 0):=HS.out.at 1 _ rfl 0 _ rfl
  have r1:w5.cell? ⟨w.heap.size+1,1,none⟩=some (.int .i64 0):=HS.out.at 1 _ rfl 1 _ rfl
  have r2:w5.cell? ⟨w.heap.size+1,2,none⟩=some (.int .i64 0):=HS.out.at 1 _ rfl 2 _ rfl
  have r3:w5.cell? ⟨w.heap.size+1,3,none⟩=some (.bool false):=HS.out.at 1 _ rfl 3 _ rfl
  have rf:=fun o=>show w5.frozen? ⟨w.heap.size+1,o,none⟩=false from HS.out.fr 1 _ rfl o
  go_wp2_with fail
  exact bodyPost_ret (v:=.tuple #[.agg #[.slice A5 nn c5,.int .i64 0,.int .i64 0,.bool false],.int .i64 0]) (by simp [results,Tryz.results16,go_sem,r0,r1,r2,r3]) rfl (by
   unfold RunP
   rw [HE.out,HC.out,HBB.out,HNL.out,HRL.out HE.out,okN_0]
   exact ⟨A5,c5,rfl,recs_pred HP5.out r0 r1 r2 r3 pass_no,HC5.out,below_set (below_set (below_set (below_set (HS.out.B) _ _ (Nat.le_add_right _ _) _) _ _ (Nat.le_add_right _ _) _) _ _ (Nat.le_add_right _ _) _) _ _ (Nat.le_add_right _ _) _⟩)
 ·have e1:=beq_of hz
  have e2:=bne_of e1
  have HNE:=Lib.hid hz
  rw [show okN E nn=0 from if_neg hz]
  clear hP5 hcap5 hz
  have r0:w5.cell? ⟨w.heap.size+1,0,none⟩=some (.slice none 0 0):=HS.out.at 1 _ rfl 0 _ rfl
  have r1:w5.cell? ⟨w.heap.size+1,1,none⟩=some (.int .i64 0):=HS.out.at 1 _ rfl 1 _ rfl
  have r2:w5.cell? ⟨w.heap.size+1,2,none⟩=some (.int .i64 0):=HS.out.at 1 _ rfl 2 _ rfl
  have r3:w5.cell? ⟨w.heap.size+1,3,none⟩=some (.bool false):=HS.out.at 1 _ rfl 3 _ rfl
  have rf:=fun o=>show w5.frozen? ⟨w.heap.size+1,o,none⟩=false from HS.out.fr 1 _ rfl o
  go_wp2_with fail
  exact bodyPost_ret (v:=.tuple #[.agg #[.slice none 0 0,.int .i64 0,.int .i64 0,.bool false],.int .i64 E]) (by simp [results,Tryz.results16,go_sem,r0,r1,r2,r3]) rfl (runP_err HE.out HNE.out HC.out HBB.out (below_set (below_set (below_set (below_set (HS.out.B) _ _ (Nat.le_add_right _ _) _) _ _ (Nat.le_add_right _ _) _) _ _ (Nat.le_add_right _ _) _) _ _ (Nat.le_add_right _ _) _))
end Go.Proofs.YtgneijdjlahgbaaGreat

namespace Go.Proofs.YtgneijdjlahgbaaGreat
set_option maxRecDepth 100000
set_option maxHeartbeats 8000000
set_option linter.unusedSimpArgs false
set_option linter.unusedVariables false
open Go.RowKit
theorem ex_ok (H:Nat) (lo err:Int):(exS H lo err).ok :=
 ⟨by show 2≤maxLen;decide,⟨by show 3≤maxLen;decide,by show 2≤maxLen;decide,by show 2≤maxLen;decide,by show 2≤maxLen;decide,by show 2≤maxLen;decide,by show 2≤maxLen;decide,by show 2≤maxLen;decide,by show 2≤maxLen;decide,by show 2≤maxLen;decide,by show 2≤maxLen;decide,
  ex_row H _ _ _ _,ex_row H _ _ _ _,ex_row H _ _ _ _⟩,
  ⟨by show I64 0;unfold I64;decide,by show I64 0;unfold I64;decide,by show I64 1;unfold I64;decide,by show I64 1;unfold I64;decide,by show I64 1;unfold I64;decide,by show 1≤maxLen;decide,by show 1≤maxLen;decide,by show 1≤maxLen;decide⟩,by show I64 900000;unfold I64;decide,by show I64 1000;unfold I64;decide⟩
def RunOk (l:List Pass) (w:World) (e:Ending) (w':World):Prop:=∃ A c,e=.returned (.tuple #[.agg #[.slice A l.length c,.int .i64 0,.int .i64 0,.bool false],.int .i64 0])∧Passes w' A l.length l∧CapOk A l.length c∧Below w.heap.size w w'
theorem run_ok {s:Stp} {w:World} (hl:s.lies w) (hok:s.ok) (h:runE s=0) {l:List Pass} (h2:runL s=l) (h3:s.no.length=l.length):Calls Tryz.prog 16 #[.agg s.cells.toArray] w (RunOk l w):=by
 refine (xPRun s w hl hok).mono ?_
 rintro e w' ⟨A,c,rfl,hP,hC,hB⟩
 have N:=StN.of hl
 have ha:altE s=0:=by
  by_cases ha:altE s=0
  ·exact ha
  ·have:=(runE_a ha).1
   rw [h] at this
   exact absurd this.symm ha
 have hp:pnE s=0:=by
  rcases pn_011 N ha with hp | hp
  ·exact hp
  ·have:=(runE_p ha hp).1
   rw [h] at this
   exact absurd this (by decide)
 obtain ⟨-,hc,hs⟩:=runE_w ha hp
 rw [h,hc,hs,okN_0,h3] at *
 rw [h2] at hP
 exact ⟨A,c,rfl,hP,hC,hB⟩
theorem awake37 (w:World):Calls Tryz.prog 21 #[] w fun e w'=>e=.returned (.bool true)∧Below w.heap.size w w':=by
 have HB0:=Lib.hid (Below.refl w.heap.size w)
 go_enter Tryz.func21,Tryz.ntmps21
 go_wp2_with fail
 refine (xExample 0 _).mono ?_;rintro e' w1 ⟨Ha,rfl,hla,hB⟩
 have HBa:=Lib.hid (bel_trans HB0.out hB)
 have HRa:=Lib.hid (run_ok hla (ex_ok Ha 0 0) (ex_run0 Ha).1 (l:=[⟨0,300,300,0,0,900000,0,0,0,0,900000,900000,0⟩,⟨0,300,300,300,200,500000,300,300,200,200,500000,500000,2⟩]) (ex_run0 Ha).2 rfl)
 have HWa:=Lib.hid hB
 clear hB hla
 go_wp2_with fail
 refine HRa.out.mono ?_;rintro e' w2 ⟨A1,c1,rfl,hP1,-,hB⟩
 have HB1:=Lib.hid (bel_trans HBa.out hB)
 obtain ⟨b1,o1,rfl,hb1,hc1⟩:=hP1.cells (by decide)
 have HC1:=Lib.hid (fun W (h:Below w2.heap.size w2 W) j u hj=>(h.cell (p:=⟨b1,o1+1 * 13+j,none⟩) hb1).trans (hc1 1 ⟨0,300,300,300,200,500000,300,300,200,200,500000,500000,2⟩ rfl j u hj))
 clear hB HBa HRa hP1 hc1 HB0
 have Q1:Hid (Has (w2.alloc (.cells #[.slice (some ⟨b1,o1,none⟩) 2 c1,.int .i64 0,.int .i64 0,.bool false] 42)) w2.heap.size [.slice (some ⟨b1,o1,none⟩) 2 c1,.int .i64 0,.int .i64 0,.bool false]):=Lib.hid (Has.new _ _ _)
 have HB2:=Lib.hid (bel_alloc1 HB1.out (.cells #[.slice (some ⟨b1,o1,none⟩) 2 c1,.int .i64 0,.int .i64 0,.bool false] 42))
 have HX1:=Lib.hid (below_alloc1 w2 (.cells #[.slice (some ⟨b1,o1,none⟩) 2 c1,.int .i64 0,.int .i64 0,.bool false] 42))
 go_wp2_with fail
 generalize w2.alloc (.cells #[.slice (some ⟨b1,o1,none⟩) 2 c1,.int .i64 0,.int .i64 0,.bool false] 42)=w3 at *
 refine (xExample 30 _).mono ?_;rintro e' w4 ⟨Hb,rfl,hlb,hB⟩
 have HBb:=Lib.hid (bel_trans HB2.out hB)
 have HRb:=Lib.hid (run_ok hlb (ex_ok Hb 0 30) (ex_run30 Hb).1 (l:=[⟨0,300,300,0,0,900000,0,0,0,0,900000,900000,0⟩,⟨0,300,300,300,200,500000,268,330,182,224,452000,536000,2⟩]) (ex_run30 Hb).2 rfl)
 have HWb:=Lib.hid hB
 clear hB hlb
 have Q1':=Lib.hid (Q1.out.below HWb.out)
 have HX1':=Lib.hid (HX1.out.trans (HWb.out.mono HX1.out.size))
 clear Q1 HX1 HWa HWb HB2
 go_wp2_with fail
 refine HRb.out.mono ?_;rintro e' w5 ⟨A2,c2,rfl,hP2,-,hB⟩
 have HB3:=Lib.hid (bel_trans HBb.out hB)
 obtain ⟨b2,o2,rfl,hb2,hc2⟩:=hP2.cells (by decide)
 have HC2:=Lib.hid (fun W (h:Below w5.heap.size w5 W) j u hj=>(h.cell (p:=⟨b2,o2+1 * 13+j,none⟩) hb2).trans (hc2 1 ⟨0,300,300,300,200,500000,268,330,182,224,452000,536000,2⟩ rfl j u hj))
 have Q1:=Lib.hid (Q1'.out.below hB)
 have HX1:=Lib.hid (HX1'.out.trans (hB.mono HX1'.out.size))
 have HX1w:=Lib.hid (fun W (h:Below w5.heap.size w5 W) j u hj=>HC1.out W (HX1.out.trans (h.mono HX1.out.size)) j u hj)
 clear hB HBb HRb hP2 hc2 HB1 Q1' HX1' HC1
 have Q3:Hid (Has (w5.alloc (.cells #[.slice (some ⟨b2,o2,none⟩) 2 c2,.int .i64 0,.int .i64 0,.bool false] 42)) w5.heap.size [.slice (some ⟨b2,o2,none⟩) 2 c2,.int .i64 0,.int .i64 0,.bool false]):=Lib.hid (Has.new _ _ _)
 have HB4:=Lib.hid (bel_alloc1 HB3.out (.cells #[.slice (some ⟨b2,o2,none⟩) 2 c2,.int .i64 0,.int .i64 0,.bool false] 42))
 have HX3:=Lib.hid (below_alloc1 w5 (.cells #[.slice (some ⟨b2,o2,none⟩) 2 c2,.int .i64 0,.int .i64 0,.bool false] 42))
 replace Q1:=Lib.hid (Q1.out.alloc (.cells #[.slice (some ⟨b2,o2,none⟩) 2 c2,.int .i64 0,.int .i64 0,.bool false] 42))
 have k1:=Q1.out.cell 0 _ rfl
 go_wp2_with fail
 clear k1
 generalize w5.alloc (.cells #[.slice (some ⟨b2,o2,none⟩) 2 c2,.int .i64 0,.int .i64 0,.bool false] 42)=w6 at *
 generalize w2.heap.size=G1 at *
 generalize hG3:w5.heap.size=G3 at *
 refine held_start (S:=fun W=>Below w6.heap.size w6 W) 12 #[false,false,false,false,false,false,false,false,false,false,false,false] rfl rfl (by kernel_rfl) ((Below.refl _ _).drew) (fun hHeld=>?_)
 have HQ1:=Lib.hid (fun W (h:Below w6.heap.size w6 W)=>(Q1.out.below h).cell 0 _ rfl)
 have HQ3:=Lib.hid (fun W (h:Below w6.heap.size w6 W)=>(Q3.out.below h).cell 0 _ rfl)
 have HY1:=Lib.hid (fun W (h:Below w6.heap.size w6 W) j u hj=>HX1w.out W (HX3.out.trans (h.mono (hG3 ▸ HX3.out.size))) j u hj)
 have HY2:=Lib.hid (fun W (h:Below w6.heap.size w6 W) j u hj=>HC2.out W (HX3.out.trans (h.mono (hG3 ▸ HX3.out.size))) j u hj)
 refine hL 0 35 (v:=?_) rfl rfl ?_ ?_
 rotate_left
 ·intro W hW
  go_simp;try with_reducible rfl
 (try simp only [Act.put,pa,pb,pc])
 refine hL 1 36 (v:=?_) rfl rfl ?_ ?_
 rotate_left
 ·intro W hW
  have kk:=HQ1.out W hW;clear hW;go_simp;try with_reducible rfl
 (try simp only [Act.put,pa,pb,pc])
 refine hL 2 37 (v:=?_) rfl rfl ?_ ?_
 rotate_left
 ·intro W hW
  go_simp;try with_reducible rfl
 (try simp only [Act.put,pa,pb,pc])
 refine hL 3 38 (v:=?_) rfl rfl ?_ ?_
 rotate_left
 ·intro W hW
  have kk0:=show W.cell? ⟨b1,o1+13,none⟩=some (.int .i64 0) from HY1.out W hW 0 (.int .i64 0) rfl;have kk1:=show W.cell? ⟨b1,o1+13+1,none⟩=some (.int .i64 300) from HY1.out W hW 1 (.int .i64 300) rfl;have kk2:=show W.cell? ⟨b1,o1+13+2,none⟩=some (.int .i64 300) from HY1.out W hW 2 (.int .i64 300) rfl;have kk3:=show W.cell? ⟨b1,o1+13+3,none⟩=some (.int .i64 300) from HY1.out W hW 3 (.int .i64 300) rfl;have kk4:=show W.cell? ⟨b1,o1+13+4,none⟩=some (.int .i64 200) from HY1.out W hW 4 (.int .i64 200) rfl;have kk5:=show W.cell? ⟨b1,o1+13+5,none⟩=some (.int .i64 500000) from HY1.out W hW 5 (.int .i64 500000) rfl;have kk6:=show W.cell? ⟨b1,o1+13+6,none⟩=some (.int .i64 300) from HY1.out W hW 6 (.int .i64 300) rfl;have kk7:=show W.cell? ⟨b1,o1+13+7,none⟩=some (.int .i64 300) from HY1.out W hW 7 (.int .i64 300) rfl;have kk8:=show W.cell? ⟨b1,o1+13+8,none⟩=some (.int .i64 200) from HY1.out W hW 8 (.int .i64 200) rfl;have kk9:=show W.cell? ⟨b1,o1+13+9,none⟩=some (.int .i64 200) from HY1.out W hW 9 (.int .i64 200) rfl;have kk10:=show W.cell? ⟨b1,o1+13+10,none⟩=some (.int .i64 500000) from HY1.out W hW 10 (.int .i64 500000) rfl;have kk11:=show W.cell? ⟨b1,o1+13+11,none⟩=some (.int .i64 500000) from HY1.out W hW 11 (.int .i64 500000) rfl;have kk12:=show W.cell? ⟨b1,o1+13+12,none⟩=some (.int .u8 2) from HY1.out W hW 12 (.int .u8 2) rfl;clear hW;go_simp;try with_reducible rfl
 (try simp only [Act.put,pa,pb,pc])
 refine hL 4 39 (v:=?_) rfl rfl ?_ ?_
 rotate_left
 ·intro W hW
  go_simp;try with_reducible rfl
 (try simp only [Act.put,pa,pb,pc])
 refine hL 5 40 (v:=?_) rfl rfl ?_ ?_
 rotate_left
 ·intro W hW
  have kk:=HQ3.out W hW;clear hW;go_simp;try with_reducible rfl
 (try simp only [Act.put,pa,pb,pc])
 refine hL 6 41 (v:=?_) rfl rfl ?_ ?_
 rotate_left
 ·intro W hW
  go_simp;try with_reducible rfl
 (try simp only [Act.put,pa,pb,pc])
 refine hL 7 42 (v:=?_) rfl rfl ?_ ?_
 rotate_left
 ·intro W hW
  have kk0:=show W.cell? ⟨b2,o2+13,none⟩=some (.int .i64 0) from HY2.out W hW 0 (.int .i64 0) rfl;have kk1:=show W.cell? ⟨b2,o2+13+1,none⟩=some (.int .i64 300) from HY2.out W hW 1 (.int .i64 300) rfl;have kk2:=show W.cell? ⟨b2,o2+13+2,none⟩=some (.int .i64 300) from HY2.out W hW 2 (.int .i64 300) rfl;have kk3:=show W.cell? ⟨b2,o2+13+3,none⟩=some (.int .i64 300) from HY2.out W hW 3 (.int .i64 300) rfl;have kk4:=show W.cell? ⟨b2,o2+13+4,none⟩=some (.int .i64 200) from HY2.out W hW 4 (.int .i64 200) rfl;have kk5:=show W.cell? ⟨b2,o2+13+5,none⟩=some (.int .i64 500000) from HY2.out W hW 5 (.int .i64 500000) rfl;have kk6:=show W.cell? ⟨b2,o2+13+6,none⟩=some (.int .i64 268) from HY2.out W hW 6 (.int .i64 268) rfl;have kk7:=show W.cell? ⟨b2,o2+13+7,none⟩=some (.int .i64 330) from HY2.out W hW 7 (.int .i64 330) rfl;have kk8:=show W.cell? ⟨b2,o2+13+8,none⟩=some (.int .i64 182) from HY2.out W hW 8 (.int .i64 182) rfl;have kk9:=show W.cell? ⟨b2,o2+13+9,none⟩=some (.int .i64 224) from HY2.out W hW 9 (.int .i64 224) rfl;have kk10:=show W.cell? ⟨b2,o2+13+10,none⟩=some (.int .i64 452000) from HY2.out W hW 10 (.int .i64 452000) rfl;have kk11:=show W.cell? ⟨b2,o2+13+11,none⟩=some (.int .i64 536000) from HY2.out W hW 11 (.int .i64 536000) rfl;have kk12:=show W.cell? ⟨b2,o2+13+12,none⟩=some (.int .u8 2) from HY2.out W hW 12 (.int .u8 2) rfl;clear hW;go_simp;try with_reducible rfl
 (try simp only [Act.put,pa,pb,pc])
 refine held_nameS ?_
 intro OPS QQ A0 SS hO hQ hA hSS
 have st_8_9:Hid (∀ (H5 H6:Nat) (W:World) (qH5:Has W H5 (lzp 0 0 0 0 0 0 0 0 0 0 0 0 0)) (rH5:w6.heap.size+0≤H5) (qH6:Has W H6 (lzp 0 0 0 0 0 0 0 0 0 0 0 0 0)) (rH6:w6.heap.size+0≤H6) (nH5H6:H5≠H6),SS W→wpAnyH Tryz.prog .any OPS QQ SS 2 #[true,true,true,true,true,true,true,true,true,true,false,false] ((A0.put (some 5) (.pointer (some ⟨H5,0,none⟩))).put (some 6) (.pointer (some ⟨H6,0,none⟩))) W):=by
  subst hO hQ hA hSS
  refine Lib.hid ?_
  intro H5 H6 W qH5 rH5 qH6 rH6 nH5H6 hHeld
  (try simp only [Act.put,pa,pb,pc])
  have fz:=qH5.fr
  have cz0:=qH5.cell 0 _ rfl
  have cz1:=qH5.cell 1 _ rfl
  have cz2:=qH5.cell 2 _ rfl
  have cz3:=qH5.cell 3 _ rfl
  have cz4:=qH5.cell 4 _ rfl
  have cz5:=qH5.cell 5 _ rfl
  have cz6:=qH5.cell 6 _ rfl
  have cz7:=qH5.cell 7 _ rfl
  have cz8:=qH5.cell 8 _ rfl
  have cz9:=qH5.cell 9 _ rfl
  have cz10:=qH5.cell 10 _ rfl
  have cz11:=qH5.cell 11 _ rfl
  have cz12:=qH5.cell 12 _ rfl
  refine wpAnyH_ready (rs:=[10]) (by kernel_rfl) (by simp) ?_
  refine AllReadyH.cons (o:=_) rfl (fun K hK=>?_) AllReadyH.nil
  go_simp
  have hs0:=hHeld
  have hs1:=(below_set hs0 H5 0 rH5 (.int .i64 0))
  have hs2:=(below_set hs1 H5 1 rH5 (.int .i64 300))
  have hs3:=(below_set hs2 H5 2 rH5 (.int .i64 300))
  have hs4:=(below_set hs3 H5 3 rH5 (.int .i64 300))
  have hs5:=(below_set hs4 H5 4 rH5 (.int .i64 200))
  have hs6:=(below_set hs5 H5 5 rH5 (.int .i64 500000))
  have hs7:=(below_set hs6 H5 6 rH5 (.int .i64 300))
  have hs8:=(below_set hs7 H5 7 rH5 (.int .i64 300))
  have hs9:=(below_set hs8 H5 8 rH5 (.int .i64 200))
  have hs10:=(below_set hs9 H5 9 rH5 (.int .i64 200))
  have hs11:=(below_set hs10 H5 10 rH5 (.int .i64 500000))
  have hs12:=(below_set hs11 H5 11 rH5 (.int .i64 500000))
  have hs13:=(below_set hs12 H5 12 rH5 (.int .u8 2))
  have hNew:=hs13
  have pH5:Has (((((((((((((W.setCell ⟨H5,0,none⟩ (.int .i64 0)).setCell ⟨H5,1,none⟩ (.int .i64 300)).setCell ⟨H5,2,none⟩ (.int .i64 300)).setCell ⟨H5,3,none⟩ (.int .i64 300)).setCell ⟨H5,4,none⟩ (.int .i64 200)).setCell ⟨H5,5,none⟩ (.int .i64 500000)).setCell ⟨H5,6,none⟩ (.int .i64 300)).setCell ⟨H5,7,none⟩ (.int .i64 300)).setCell ⟨H5,8,none⟩ (.int .i64 200)).setCell ⟨H5,9,none⟩ (.int .i64 200)).setCell ⟨H5,10,none⟩ (.int .i64 500000)).setCell ⟨H5,11,none⟩ (.int .i64 500000)).setCell ⟨H5,12,none⟩ (.int .u8 2)) H5 (lzp 0 300 300 300 200 500000 300 300 200 200 500000 500000 2):=(((((((((((((qH5.set 0 (.int .i64 0) (by simp)).set 1 (.int .i64 300) (by simp)).set 2 (.int .i64 300) (by simp)).set 3 (.int .i64 300) (by simp)).set 4 (.int .i64 200) (by simp)).set 5 (.int .i64 500000) (by simp)).set 6 (.int .i64 300) (by simp)).set 7 (.int .i64 300) (by simp)).set 8 (.int .i64 200) (by simp)).set 9 (.int .i64 200) (by simp)).set 10 (.int .i64 500000) (by simp)).set 11 (.int .i64 500000) (by simp)).set 12 (.int .u8 2) (by simp))
  have pH6:=(((((((((((((qH6.other H5 0 (.int .i64 0) (by omega)).other H5 1 (.int .i64 300) (by omega)).other H5 2 (.int .i64 300) (by omega)).other H5 3 (.int .i64 300) (by omega)).other H5 4 (.int .i64 200) (by omega)).other H5 5 (.int .i64 500000) (by omega)).other H5 6 (.int .i64 300) (by omega)).other H5 7 (.int .i64 300) (by omega)).other H5 8 (.int .i64 200) (by omega)).other H5 9 (.int .i64 200) (by omega)).other H5 10 (.int .i64 500000) (by omega)).other H5 11 (.int .i64 500000) (by omega)).other H5 12 (.int .u8 2) (by omega))
  refine hK.out _ _ hNew (fun hHeld2=>?_)
  clear hK K hNew fz hs0 hs1 hs2 hs3 hs4 hs5 hs6 hs7 hs8 hs9 hs10 hs11 hs12 hs13 cz0 cz1 cz2 cz3 cz4 cz5 cz6 cz7 cz8 cz9 cz10 cz11 cz12 qH5 qH6 hHeld
  have hHeld:=hHeld2
  clear hHeld2
  have qH5:=pH5
  have qH6:=pH6
  clear pH5 pH6
  (try simp only [Act.put,pa,pb,pc])
  generalize (((((((((((((W.setCell ⟨H5,0,none⟩ (.int .i64 0)).setCell ⟨H5,1,none⟩ (.int .i64 300)).setCell ⟨H5,2,none⟩ (.int .i64 300)).setCell ⟨H5,3,none⟩ (.int .i64 300)).setCell ⟨H5,4,none⟩ (.int .i64 200)).setCell ⟨H5,5,none⟩ (.int .i64 500000)).setCell ⟨H5,6,none⟩ (.int .i64 300)).setCell ⟨H5,7,none⟩ (.int .i64 300)).setCell ⟨H5,8,none⟩ (.int .i64 200)).setCell ⟨H5,9,none⟩ (.int .i64 200)).setCell ⟨H5,10,none⟩ (.int .i64 500000)).setCell ⟨H5,11,none⟩ (.int .i64 500000)).setCell ⟨H5,12,none⟩ (.int .u8 2))=W1 at *
  have fz:=qH6.fr
  have cz0:=qH6.cell 0 _ rfl
  have cz1:=qH6.cell 1 _ rfl
  have cz2:=qH6.cell 2 _ rfl
  have cz3:=qH6.cell 3 _ rfl
  have cz4:=qH6.cell 4 _ rfl
  have cz5:=qH6.cell 5 _ rfl
  have cz6:=qH6.cell 6 _ rfl
  have cz7:=qH6.cell 7 _ rfl
  have cz8:=qH6.cell 8 _ rfl
  have cz9:=qH6.cell 9 _ rfl
  have cz10:=qH6.cell 10 _ rfl
  have cz11:=qH6.cell 11 _ rfl
  have cz12:=qH6.cell 12 _ rfl
  refine wpAnyH_ready (rs:=[11]) (by kernel_rfl) (by simp) ?_
  refine AllReadyH.cons (o:=_) rfl (fun K hK=>?_) AllReadyH.nil
  go_simp
  have hs0:=hHeld
  have hs1:=(below_set hs0 H6 0 rH6 (.int .i64 0))
  have hs2:=(below_set hs1 H6 1 rH6 (.int .i64 300))
  have hs3:=(below_set hs2 H6 2 rH6 (.int .i64 300))
  have hs4:=(below_set hs3 H6 3 rH6 (.int .i64 300))
  have hs5:=(below_set hs4 H6 4 rH6 (.int .i64 200))
  have hs6:=(below_set hs5 H6 5 rH6 (.int .i64 500000))
  have hs7:=(below_set hs6 H6 6 rH6 (.int .i64 268))
  have hs8:=(below_set hs7 H6 7 rH6 (.int .i64 330))
  have hs9:=(below_set hs8 H6 8 rH6 (.int .i64 182))
  have hs10:=(below_set hs9 H6 9 rH6 (.int .i64 224))
  have hs11:=(below_set hs10 H6 10 rH6 (.int .i64 452000))
  have hs12:=(below_set hs11 H6 11 rH6 (.int .i64 536000))
  have hs13:=(below_set hs12 H6 12 rH6 (.int .u8 2))
  have hNew:=hs13
  have pH5:=(((((((((((((qH5.other H6 0 (.int .i64 0) (by omega)).other H6 1 (.int .i64 300) (by omega)).other H6 2 (.int .i64 300) (by omega)).other H6 3 (.int .i64 300) (by omega)).other H6 4 (.int .i64 200) (by omega)).other H6 5 (.int .i64 500000) (by omega)).other H6 6 (.int .i64 268) (by omega)).other H6 7 (.int .i64 330) (by omega)).other H6 8 (.int .i64 182) (by omega)).other H6 9 (.int .i64 224) (by omega)).other H6 10 (.int .i64 452000) (by omega)).other H6 11 (.int .i64 536000) (by omega)).other H6 12 (.int .u8 2) (by omega))
  have pH6:Has (((((((((((((W1.setCell ⟨H6,0,none⟩ (.int .i64 0)).setCell ⟨H6,1,none⟩ (.int .i64 300)).setCell ⟨H6,2,none⟩ (.int .i64 300)).setCell ⟨H6,3,none⟩ (.int .i64 300)).setCell ⟨H6,4,none⟩ (.int .i64 200)).setCell ⟨H6,5,none⟩ (.int .i64 500000)).setCell ⟨H6,6,none⟩ (.int .i64 268)).setCell ⟨H6,7,none⟩ (.int .i64 330)).setCell ⟨H6,8,none⟩ (.int .i64 182)).setCell ⟨H6,9,none⟩ (.int .i64 224)).setCell ⟨H6,10,none⟩ (.int .i64 452000)).setCell ⟨H6,11,none⟩ (.int .i64 536000)).setCell ⟨H6,12,none⟩ (.int .u8 2)) H6 (lzp 0 300 300 300 200 500000 268 330 182 224 452000 536000 2):=(((((((((((((qH6.set 0 (.int .i64 0) (by simp)).set 1 (.int .i64 300) (by simp)).set 2 (.int .i64 300) (by simp)).set 3 (.int .i64 300) (by simp)).set 4 (.int .i64 200) (by simp)).set 5 (.int .i64 500000) (by simp)).set 6 (.int .i64 268) (by simp)).set 7 (.int .i64 330) (by simp)).set 8 (.int .i64 182) (by simp)).set 9 (.int .i64 224) (by simp)).set 10 (.int .i64 452000) (by simp)).set 11 (.int .i64 536000) (by simp)).set 12 (.int .u8 2) (by simp))
  refine hK.out _ _ hNew (fun hHeld2=>?_)
  clear hK K hNew fz hs0 hs1 hs2 hs3 hs4 hs5 hs6 hs7 hs8 hs9 hs10 hs11 hs12 hs13 cz0 cz1 cz2 cz3 cz4 cz5 cz6 cz7 cz8 cz9 cz10 cz11 cz12 qH5 qH6 hHeld
  have hHeld:=hHeld2
  clear hHeld2
  have qH5:=pH5
  have qH6:=pH6
  clear pH5 pH6
  (try simp only [Act.put,pa,pb,pc])
  generalize (((((((((((((W1.setCell ⟨H6,0,none⟩ (.int .i64 0)).setCell ⟨H6,1,none⟩ (.int .i64 300)).setCell ⟨H6,2,none⟩ (.int .i64 300)).setCell ⟨H6,3,none⟩ (.int .i64 300)).setCell ⟨H6,4,none⟩ (.int .i64 200)).setCell ⟨H6,5,none⟩ (.int .i64 500000)).setCell ⟨H6,6,none⟩ (.int .i64 268)).setCell ⟨H6,7,none⟩ (.int .i64 330)).setCell ⟨H6,8,none⟩ (.int .i64 182)).setCell ⟨H6,9,none⟩ (.int .i64 224)).setCell ⟨H6,10,none⟩ (.int .i64 452000)).setCell ⟨H6,11,none⟩ (.int .i64 536000)).setCell ⟨H6,12,none⟩ (.int .u8 2))=W2 at *
  refine wpAnyH_done (by kernel_rfl) ?_ _
  have c0:=qH5.cell 0 (.int .i64 0) rfl
  have c1:=qH5.cell 1 (.int .i64 300) rfl
  have c2:=qH5.cell 2 (.int .i64 300) rfl
  have c3:=qH5.cell 3 (.int .i64 300) rfl
  have c4:=qH5.cell 4 (.int .i64 200) rfl
  have c5:=qH5.cell 5 (.int .i64 500000) rfl
  have c6:=qH5.cell 6 (.int .i64 300) rfl
  have c7:=qH5.cell 7 (.int .i64 300) rfl
  have c8:=qH5.cell 8 (.int .i64 200) rfl
  have c9:=qH5.cell 9 (.int .i64 200) rfl
  have c10:=qH5.cell 10 (.int .i64 500000) rfl
  have c11:=qH5.cell 11 (.int .i64 500000) rfl
  have c12:=qH5.cell 12 (.int .u8 2) rfl
  have d0:=qH6.cell 0 (.int .i64 0) rfl
  have d1:=qH6.cell 1 (.int .i64 300) rfl
  have d2:=qH6.cell 2 (.int .i64 300) rfl
  have d3:=qH6.cell 3 (.int .i64 300) rfl
  have d4:=qH6.cell 4 (.int .i64 200) rfl
  have d5:=qH6.cell 5 (.int .i64 500000) rfl
  have d6:=qH6.cell 6 (.int .i64 268) rfl
  have d7:=qH6.cell 7 (.int .i64 330) rfl
  have d8:=qH6.cell 8 (.int .i64 182) rfl
  have d9:=qH6.cell 9 (.int .i64 224) rfl
  have d10:=qH6.cell 10 (.int .i64 452000) rfl
  have d11:=qH6.cell 11 (.int .i64 536000) rfl
  have d12:=qH6.cell 12 (.int .u8 2) rfl
  have HBE:=Lib.hid (HB4.out.trans (hHeld.mono HB4.out.size))
  clear qH5 qH6 hHeld
  go_wp2_with fail
  go_ret
  exact ⟨rfl,HBE.out⟩
 have st_8:Hid (∀ (H5:Nat) (W:World) (qH5:Has W H5 (lzp 0 0 0 0 0 0 0 0 0 0 0 0 0)) (rH5:w6.heap.size+0≤H5),SS W→wpAnyH Tryz.prog .any OPS QQ SS 3 #[true,true,true,true,true,true,true,true,true,false,false,false] (A0.put (some 5) (.pointer (some ⟨H5,0,none⟩))) W):=by
  subst hO hQ hA hSS
  refine Lib.hid ?_
  intro H5 W qH5 rH5 hHeld
  (try simp only [Act.put,pa,pb,pc])
  refine wpAnyH_ready (rs:=[9]) (by kernel_rfl) (by simp) ?_
  refine AllReadyH.cons (o:=_) rfl (fun K hK=>?_) ?_
  ·go_simp
   have hNew:=(bel_alloc1 hHeld (.cells #[.int .i64 0,.int .i64 0,.int .i64 0,.int .i64 0,.int .i64 0,.int .i64 0,.int .i64 0,.int .i64 0,.int .i64 0,.int .i64 0,.int .i64 0,.int .i64 0,.int .u8 0] 53))
   refine hK.out _ _ hNew (fun hHeld2=>?_)
   (try simp only [Act.put,pa,pb,pc])
   have nx:=st_8_9.out
   simp only [Act.put,pa,pb,pc] at nx
   exact nx H5 W.heap.size _ (qH5.alloc _) rH5 (Has.new _ _ _) hHeld.size (by have:=qH5.lt;omega) hHeld2
  exact AllReadyH.nil
 have st_9:Hid (∀ (H6:Nat) (W:World) (qH6:Has W H6 (lzp 0 0 0 0 0 0 0 0 0 0 0 0 0)) (rH6:w6.heap.size+0≤H6),SS W→wpAnyH Tryz.prog .any OPS QQ SS 3 #[true,true,true,true,true,true,true,true,false,true,false,false] (A0.put (some 6) (.pointer (some ⟨H6,0,none⟩))) W):=by
  subst hO hQ hA hSS
  refine Lib.hid ?_
  intro H6 W qH6 rH6 hHeld
  (try simp only [Act.put,pa,pb,pc])
  refine wpAnyH_ready (rs:=[8]) (by kernel_rfl) (by simp) ?_
  refine AllReadyH.cons (o:=_) rfl (fun K hK=>?_) ?_
  ·go_simp
   have hNew:=(bel_alloc1 hHeld (.cells #[.int .i64 0,.int .i64 0,.int .i64 0,.int .i64 0,.int .i64 0,.int .i64 0,.int .i64 0,.int .i64 0,.int .i64 0,.int .i64 0,.int .i64 0,.int .i64 0,.int .u8 0] 53))
   refine hK.out _ _ hNew (fun hHeld2=>?_)
   (try simp only [Act.put,pa,pb,pc])
   have nx:=st_8_9.out
   simp only [Act.put,pa,pb,pc] at nx
   exact nx W.heap.size H6 _ (Has.new _ _ _) hHeld.size (qH6.alloc _) rH6 (by have:=qH6.lt;omega) hHeld2
  exact AllReadyH.nil
 have st:Hid (∀ (W:World),SS W→wpAnyH Tryz.prog .any OPS QQ SS 4 #[true,true,true,true,true,true,true,true,false,false,false,false] A0 W):=by
  subst hO hQ hA hSS
  refine Lib.hid ?_
  intro W hHeld
  (try simp only [Act.put,pa,pb,pc])
  refine wpAnyH_ready (rs:=[8,9]) (by kernel_rfl) (by simp) ?_
  refine AllReadyH.cons (o:=_) rfl (fun K hK=>?_) ?_
  ·go_simp
   have hNew:=(bel_alloc1 hHeld (.cells #[.int .i64 0,.int .i64 0,.int .i64 0,.int .i64 0,.int .i64 0,.int .i64 0,.int .i64 0,.int .i64 0,.int .i64 0,.int .i64 0,.int .i64 0,.int .i64 0,.int .u8 0] 53))
   refine hK.out _ _ hNew (fun hHeld2=>?_)
   (try simp only [Act.put,pa,pb,pc])
   have nx:=st_8.out
   simp only [Act.put,pa,pb,pc] at nx
   exact nx W.heap.size _ (Has.new _ _ _) hHeld.size hHeld2
  refine AllReadyH.cons (o:=_) rfl (fun K hK=>?_) ?_
  ·go_simp
   have hNew:=(bel_alloc1 hHeld (.cells #[.int .i64 0,.int .i64 0,.int .i64 0,.int .i64 0,.int .i64 0,.int .i64 0,.int .i64 0,.int .i64 0,.int .i64 0,.int .i64 0,.int .i64 0,.int .i64 0,.int .u8 0] 53))
   refine hK.out _ _ hNew (fun hHeld2=>?_)
   (try simp only [Act.put,pa,pb,pc])
   have nx:=st_9.out
   simp only [Act.put,pa,pb,pc] at nx
   exact nx W.heap.size _ (Has.new _ _ _) hHeld.size hHeld2
  exact AllReadyH.nil
 subst hO hQ hA hSS
 exact st.out _  hHeld
end Go.Proofs.YtgneijdjlahgbaaGreat

