/- M20: Pr14, Aak, LaBase37 in one text. -/
import Derived.Test.YtedcanagfajcgaaGreatM21
import Derived.Test.YtedcanagfajcgaaGreatM27
import Derived.Test.YtedcanagfajcgaaGreatM16
set_option linter.unusedSimpArgs false
set_option linter.unusedVariables false
set_option maxRecDepth 100000
set_option maxHeartbeats 8000000
namespace Go.Proofs.YtedcanagfajcgaaGreat
open Go.RowKit
open Go.Lib (hid)
def YE (s:Stp) (w:World) (e:Ending) (w':World):Prop:=∃ A c,e=.returned (.tuple #[.agg #[.slice A (okN (Fy s) s.no.length) c,vI (LP s).1,vI (LP s).2,.bool (PG s)],vI (Fy s)])∧Passes w' A (okN (Fy s) s.no.length) (PE s)∧BS A (okN (Fy s) s.no.length) c∧Below w.heap.size w w'
theorem Lc {s:Stp} {w w':World} {x y E:Int} {bb:Bool} (hE:Fy s=E) (h0:E≠0) (hx:LP s=(x,y)) (hb:PG s=bb) (hB:Below w.heap.size w w'):YE s w (.returned (.tuple #[.agg #[.slice none 0 0,vI x,vI y,.bool bb],vI E])) w':=by
 unfold YE PE
 rw [hE,hx,hb]
 unfold okN
 rw [if_neg h0,if_neg h0]
 exact ⟨none,0,rfl,Recs.nil _ _ _,⟨Bn _,Nat.zero_le _,fun _=>rfl⟩,hB⟩
theorem Xi {s:Stp} (h:Dr s≠0):Fy s=Dr s∧LP s=Jl s∧PG s=false:=⟨if_pos h,if_pos h,by unfold PG;rw [BJ h];rfl⟩
theorem Xj {s:Stp} (h:Dr s=0) (h2:pnE s=11):Fy s=11∧LP s=pnC s∧PG s=true:=by
 refine ⟨?_,?_,?_⟩
 ·unfold Fy;rw [if_neg (by rw [h];decide),if_pos (by rw [h2];decide),h2]
 ·unfold LP pnC;rw [if_neg (by rw [h];decide)]
 ·unfold PG;rw [h,h2];rfl
theorem Xk {s:Stp} (h:Dr s=0) (h2:pnE s=0):Fy s=wtE s (C8 s) (pnL s)∧LP s=(0,0)∧PG s=false:=by
 refine ⟨?_,?_,?_⟩
 ·unfold Fy;rw [if_neg (by rw [h];decide),if_neg (by rw [h2];decide)]
 ·unfold LP;rw [if_neg (by rw [h];decide),if_neg (by rw [h2];decide)]
 ·unfold PG;rw [h,h2];rfl
theorem WT {s:Stp} (N:StN s) (h:Dr s=0):pnE s=0∨pnE s=11:=by
 have hs:=(JZ h).1
 rcases WR (Cm hs) N (OG N h).len with h1 | h1
 ·exact .inl h1.1
 ·exact .inr h1.1
theorem AeO (s:Stp) (w:World) (hl:s.lies w) (hok:s.ok):Calls Tryz.prog 13 #[.agg s.cells.toArray] w (YE s w):=by
 have HS:=hid (Dt w s.cells.toArray #[.slice none 0 0,vI 0,vI 0,.bool false] 35 46);have HSZ:=hid (fun W1 (h:Below ((w.alloc (.cells s.cells.toArray 35)).alloc (.cells #[.slice none 0 0,vI 0,vI 0,.bool false] 46)).heap.size ((w.alloc (.cells s.cells.toArray 35)).alloc (.cells #[.slice none 0 0,vI 0,vI 0,.bool false] 46)) W1)=>show w.heap.size+2<=W1.heap.size from Nat.le_trans HS.out.sz h.size);have N:=StN.of hl;have HA:=hid (fun W (h:BoxS w 2 [s.cells,[.slice none 0 0,vI 0,vI 0,.bool false]] W)=>P6 s W (hl.below h.B) hok)
 have hmx:s.no.length<=maxLen:=by have:=hok.no;have:=N.no;omega
 by_cases h0:Dr s=0
 rotate_left
 ·obtain ⟨hE,hC,hb⟩:=Xi h0
  have HE:=hid hE;have HC:=hid (show LP s=((Jl s).1,(Jl s).2) from hC);have HBB:=hid hb;have HNE:=hid h0
  unfold Ul at HA
  have hR:∀ {α:Type} (l:List α),okL (Dr s) l=[]:=fun l=>if_neg h0;have hNN:∀ n,okN (Dr s) n=0:=fun n=>if_neg h0
  simp only [hNN,hR] at HA
  have e1:=Aw h0;have e2:=AL e1;generalize Dr s=E at *;generalize (Jl s).1=x at *;generalize (Jl s).2=y at *;clear hl hok hE hC hb h0 N hR hNN hmx
  go_enter Tryz.func13,Tryz.ntmps13
  go_wp2_with (refine AC (.tmp 1) rfl rfl rfl (HS.out.has 0 _ rfl) ?_)
  refine (HA.out _ HS.out).mono ?_;rintro e' w1 ⟨A1,c1,rfl,-,hB⟩
  replace HS:=hid ((HS.out.below hB).alloc (.cells #[vI x,vI y] 44));clear hB;have r0:(w1.alloc (.cells #[vI x,vI y] 44)).cell? ⟨w.heap.size+1,0,none⟩=some (.slice none 0 0):=HS.out.at 1 _ rfl 0 _ rfl;have r1:(w1.alloc (.cells #[vI x,vI y] 44)).cell? ⟨w.heap.size+1,1,none⟩=some (vI 0):=HS.out.at 1 _ rfl 1 _ rfl;have r2:(w1.alloc (.cells #[vI x,vI y] 44)).cell? ⟨w.heap.size+1,2,none⟩=some (vI 0):=HS.out.at 1 _ rfl 2 _ rfl;have r3:(w1.alloc (.cells #[vI x,vI y] 44)).cell? ⟨w.heap.size+1,3,none⟩=some (.bool false):=HS.out.at 1 _ rfl 3 _ rfl;have rf:=fun o=>show (w1.alloc (.cells #[vI x,vI y] 44)).frozen? ⟨w.heap.size+1,o,none⟩=false from HS.out.fr 1 _ rfl o
  go_wp2_with fail
  exact bodyPost_ret (v:=.tuple #[.agg #[.slice none 0 0,vI x,vI y,.bool false],vI E]) (by simp [results,Tryz.results13,go_sem,r0,r1,r2,r3]) rfl (Lc HE.out HNE.out HC.out HBB.out (Ab (Ab (Ab (Ab (HS.out.B) _ _ (Cn _ _) _) _ _ (Cn _ _) _) _ _ (Cn _ _) _) _ _ (Cn _ _) _))
 have HP:=hid (fun W (h:BoxS w 2 [s.cells,[.slice none 0 0,vI 0,vI 0,.bool false]] W) A c (ha:Ints W A s.no.length (C8 s))=>Ac6 s A s.no.length c W (hl.below h.B) hok ha hmx h0);have HW:=hid (fun W (h:BoxS w 2 [s.cells,[.slice none 0 0,vI 0,vI 0,.bool false]] W) A A2 c c2 (ha:Ints W A s.no.length (C8 s)) (hb:Ints W A2 s.no.length (pnL s))=>Ac7 s A A2 s.no.length c s.no.length c2 (C8 s) (pnL s) W (hl.below h.B) hok ha hb hmx hmx)
 have HAC:=hid (show Jl s=(0,0) from by
  obtain ⟨a1,a2⟩:=JZ h0
  rw [RQ a1,if_pos a2])
 unfold Ul at HA
 rw [h0,HAC.out] at HA
 simp only [Gf,IX] at HA
 rcases WT N h0 with h2 | h2
 rotate_left
 ·obtain ⟨hE,hC,hb⟩:=Xj h0 h2
  have HE:=hid hE;have HC:=hid (show LP s=((pnC s).1,(pnC s).2) from hC);have HBB:=hid hb
  unfold Vb at HP
  have hNN:∀ n,okN 11 n=0:=fun n=>if_neg (by decide)
  rw [h2] at HP
  simp only [hNN] at HP
  generalize (pnC s).1=x at *;generalize (pnC s).2=y at *;clear hl hok hE hC hb h0 N hNN hmx HW h2
  go_enter Tryz.func13,Tryz.ntmps13
  go_wp2_with (refine AC (.tmp 1) rfl rfl rfl (HS.out.has 0 _ rfl) ?_)
  refine (HA.out _ HS.out).mono ?_;rintro e' w1 ⟨A1,c1,rfl,hI1,hB⟩
  replace HS:=hid ((HS.out.below hB).alloc (.cells #[vI 0,vI 0] 44));have Q5:Hid (Has ((w1.alloc (.cells #[vI 0,vI 0] 44))) w1.heap.size (lz2 0 0)):=hid (Has.new _ _ _);have HI:=hid (hI1.below (Aa w1 (.cells #[vI 0,vI 0] 44)));have r5:w.heap.size+2<=w1.heap.size:=HSZ.out w1 hB;clear hB hI1
  go_wp2_with (refine AC (.tmp 1) rfl rfl rfl (HS.out.has 0 _ rfl) ?_)
  generalize (w1.alloc (.cells #[vI 0,vI 0] 44))=W2 at *;generalize w1.heap.size=H5 at *
  refine (HP.out _ HS.out _ _ HI.out).mono ?_;rintro e' w3 ⟨A3,c3,rfl,-,hB⟩
  replace HS:=hid (HS.out.below hB);replace Q5:=hid (Q5.out.below hB);clear hB;have c0:=Q5.out.cell 0 _ rfl;have c1':=Q5.out.cell 1 _ rfl;have cf:=Q5.out.fr;replace Q5:=hid (show Has ((w3.setCell ⟨H5,0,none⟩ (vI x)).setCell ⟨H5,1,none⟩ (vI y)) H5 (lz2 x y) from (Q5.out.set 0 (vI x) (by simp)).set 1 (vI y) (by simp));replace HS:=hid ((HS.out.set H5 0 r5 (vI x)).set H5 1 r5 (vI y));have d0:=Q5.out.cell 0 _ rfl;have d1:=Q5.out.cell 1 _ rfl;have r0:((w3.setCell ⟨H5,0,none⟩ (vI x)).setCell ⟨H5,1,none⟩ (vI y)).cell? ⟨w.heap.size+1,0,none⟩=some (.slice none 0 0):=HS.out.at 1 _ rfl 0 _ rfl;have r1:((w3.setCell ⟨H5,0,none⟩ (vI x)).setCell ⟨H5,1,none⟩ (vI y)).cell? ⟨w.heap.size+1,1,none⟩=some (vI 0):=HS.out.at 1 _ rfl 1 _ rfl;have r2:((w3.setCell ⟨H5,0,none⟩ (vI x)).setCell ⟨H5,1,none⟩ (vI y)).cell? ⟨w.heap.size+1,2,none⟩=some (vI 0):=HS.out.at 1 _ rfl 2 _ rfl;have r3:((w3.setCell ⟨H5,0,none⟩ (vI x)).setCell ⟨H5,1,none⟩ (vI y)).cell? ⟨w.heap.size+1,3,none⟩=some (.bool false):=HS.out.at 1 _ rfl 3 _ rfl;have rf:=fun o=>show ((w3.setCell ⟨H5,0,none⟩ (vI x)).setCell ⟨H5,1,none⟩ (vI y)).frozen? ⟨w.heap.size+1,o,none⟩=false from HS.out.fr 1 _ rfl o
  go_wp2_with fail
  exact bodyPost_ret (v:=.tuple #[.agg #[.slice none 0 0,vI x,vI y,.bool true],vI 11]) (by simp [results,Tryz.results13,go_sem,r0,r1,r2,r3]) rfl (Lc HE.out (by decide) HC.out HBB.out (Ab (Ab (Ab (Ab (HS.out.B) _ _ (Cn _ _) _) _ _ (Cn _ _) _) _ _ (Cn _ _) _) _ _ (Cn _ _) _))
 obtain ⟨hE,hC,hb⟩:=Xk h0 h2;have HC:=hid hC;have HBB:=hid hb
 unfold Vb at HP
 have hPC:pnC s=(0,0):=if_neg (by rw [h2];decide)
 rw [h2,hPC] at HP
 simp only [Gf,IX] at HP
 have HRL:=hid (show Fy s=0→PE s=wtL s (C8 s) (pnL s) from fun h=>if_pos h);have HE:=hid hE;generalize wtE s (C8 s) (pnL s)=E at *;generalize wtL s (C8 s) (pnL s)=PL at *;generalize hNL:s.no.length=nn at *;have HNL:=hid hNL;clear hl hok hE hC hb h0 N hmx h2 hPC hNL
 go_enter Tryz.func13,Tryz.ntmps13
 go_wp2_with (refine AC (.tmp 1) rfl rfl rfl (HS.out.has 0 _ rfl) ?_)
 refine (HA.out _ HS.out).mono ?_;rintro e' w1 ⟨A1,c1,rfl,hI1,hB⟩
 replace HS:=hid ((HS.out.below hB).alloc (.cells #[vI 0,vI 0] 44));have Q5:Hid (Has ((w1.alloc (.cells #[vI 0,vI 0] 44))) w1.heap.size (lz2 0 0)):=hid (Has.new _ _ _);have HI:=hid (hI1.below (Aa w1 (.cells #[vI 0,vI 0] 44)));have r5:w.heap.size+2<=w1.heap.size:=HSZ.out w1 hB;clear hB hI1
 go_wp2_with (refine AC (.tmp 1) rfl rfl rfl (HS.out.has 0 _ rfl) ?_)
 generalize (w1.alloc (.cells #[vI 0,vI 0] 44))=W2 at *;generalize w1.heap.size=H5 at *
 refine (HP.out _ HS.out _ _ HI.out).mono ?_;rintro e' w3 ⟨A3,c3,rfl,hI3,hB⟩
 replace HS:=hid (HS.out.below hB);replace Q5:=hid (Q5.out.below hB);have c0:=Q5.out.cell 0 _ rfl;have c1':=Q5.out.cell 1 _ rfl;have cf:=Q5.out.fr;have HI':=hid (((HI.out.below hB).same c0).same (EM c0 c1'));have HI3:=hid ((hI3.same c0).same (EM c0 c1'));replace HS:=hid ((HS.out.set H5 0 r5 (vI 0)).set H5 1 r5 (vI 0));clear hB hI3 HI
 go_wp2_with (refine AC (.tmp 1) rfl rfl rfl (HS.out.has 0 _ rfl) ?_)
 clear c0 c1' cf;generalize (w3.setCell ⟨H5,0,none⟩ (vI 0)).setCell ⟨H5,1,none⟩ (vI 0)=W4 at *
 refine (HW.out _ HS.out _ _ _ _ HI'.out HI3.out).mono ?_;rintro e' w5 ⟨A5,c5,rfl,hP5,hcap5,hB⟩
 replace HS:=hid (HS.out.below hB);clear hB HW HP HA HI' HI3 Q5
 by_cases hz:E=0
 ·subst hz
  have HP5:=hid hP5;have HC5:=hid hcap5
  rw [Gf] at HP5 HC5 ⊢
  rw [IX] at HP5
  clear hP5 hcap5;have r0:w5.cell? ⟨w.heap.size+1,0,none⟩=some (.slice none 0 0):=HS.out.at 1 _ rfl 0 _ rfl;have r1:w5.cell? ⟨w.heap.size+1,1,none⟩=some (vI 0):=HS.out.at 1 _ rfl 1 _ rfl;have r2:w5.cell? ⟨w.heap.size+1,2,none⟩=some (vI 0):=HS.out.at 1 _ rfl 2 _ rfl;have r3:w5.cell? ⟨w.heap.size+1,3,none⟩=some (.bool false):=HS.out.at 1 _ rfl 3 _ rfl;have rf:=fun o=>show w5.frozen? ⟨w.heap.size+1,o,none⟩=false from HS.out.fr 1 _ rfl o
  go_wp2_with fail
  exact bodyPost_ret (v:=.tuple #[.agg #[.slice A5 nn c5,vI 0,vI 0,.bool false],vI 0]) (by simp [results,Tryz.results13,go_sem,r0,r1,r2,r3]) rfl (by
   unfold YE
   rw [HE.out,HC.out,HBB.out,HNL.out,HRL.out HE.out,Gf]
   exact ⟨A5,c5,rfl,UI HP5.out r0 r1 r2 r3 Zf,HC5.out,Ab (Ab (Ab (Ab (HS.out.B) _ _ (Cn _ _) _) _ _ (Cn _ _) _) _ _ (Cn _ _) _) _ _ (Cn _ _) _⟩)
 ·have e1:=Aw hz
  have e2:=AL e1;have HNE:=hid hz
  rw [show okN E nn=0 from if_neg hz]
  clear hP5 hcap5 hz;have r0:w5.cell? ⟨w.heap.size+1,0,none⟩=some (.slice none 0 0):=HS.out.at 1 _ rfl 0 _ rfl;have r1:w5.cell? ⟨w.heap.size+1,1,none⟩=some (vI 0):=HS.out.at 1 _ rfl 1 _ rfl;have r2:w5.cell? ⟨w.heap.size+1,2,none⟩=some (vI 0):=HS.out.at 1 _ rfl 2 _ rfl;have r3:w5.cell? ⟨w.heap.size+1,3,none⟩=some (.bool false):=HS.out.at 1 _ rfl 3 _ rfl;have rf:=fun o=>show w5.frozen? ⟨w.heap.size+1,o,none⟩=false from HS.out.fr 1 _ rfl o
  go_wp2_with fail
  exact bodyPost_ret (v:=.tuple #[.agg #[.slice none 0 0,vI 0,vI 0,.bool false],vI E]) (by simp [results,Tryz.results13,go_sem,r0,r1,r2,r3]) rfl (Lc HE.out HNE.out HC.out HBB.out (Ab (Ab (Ab (Ab (HS.out.B) _ _ (Cn _ _) _) _ _ (Cn _ _) _) _ _ (Cn _ _) _) _ _ (Cn _ _) _))
def Aak (l:List Pass) (w:World) (e:Ending) (w':World):Prop:=∃ A c,e=.returned (.tuple #[.agg #[.slice A l.length c,vI 0,vI 0,.bool false],vI 0])∧Passes w' A l.length l∧BS A l.length c∧Below w.heap.size w w'
theorem Xl {s:Stp} {w:World} (hl:s.lies w) (hok:s.ok) (h:Fy s=0) {l:List Pass} (h2:PE s=l) (h3:s.no.length=l.length):Calls Tryz.prog 13 #[.agg s.cells.toArray] w (Aak l w):=by
 refine (AeO s w hl hok).mono ?_
 rintro e w' ⟨A,c,rfl,hP,hC,hB⟩
 have N:=StN.of hl
 have ha:Dr s=0:=by
  by_cases ha:Dr s=0
  ·exact ha
  ·have:=(Xi ha).1
   rw [h] at this
   exact absurd this.symm ha
 have hp:pnE s=0:=by
  rcases WT N ha with hp | hp
  ·exact hp
  ·have:=(Xj ha hp).1
   rw [h] at this
   exact absurd this (by decide)
 obtain ⟨-,hc,hs⟩:=Xk ha hp
 rw [h,hc,hs,Gf,h3] at *
 rw [h2] at hP
 exact ⟨A,c,rfl,hP,hC,hB⟩
theorem YI (w:World):Calls Tryz.prog 5 #[] w fun e w'=>e=.returned (.bool true)∧Below w.heap.size w w':=by
 have HB0:=hid (AJ w.heap.size w)
 go_enter Tryz.func5,Tryz.ntmps5
 go_wp2_with fail
 refine (Af6 0 _).mono ?_;rintro e' w1 ⟨Ha,rfl,hla,hB⟩
 have HBa:=hid (Ae HB0.out hB);have HRa:=hid (Xl hla (AaA Ha 0 0) (R8 Ha).1 (l:=[⟨0,300,300,0,0,900000,0,0,0,0,900000,900000,0⟩,⟨0,300,300,300,200,500000,300,300,200,200,500000,500000,2⟩]) (R8 Ha).2 rfl);have HWa:=hid hB;clear hB hla
 go_wp2_with fail
 refine HRa.out.mono ?_;rintro e' w2 ⟨A1,c1,rfl,hP1,-,hB⟩
 have HB1:=hid (Ae HBa.out hB);obtain ⟨y1,o1,rfl,hb1,hc1⟩:=hP1.cells (by decide);have HC1:=hid (fun W (h:Below w2.heap.size w2 W) j u hj=>(h.cell (p:=⟨y1,o1+1 * 13+j,none⟩) hb1).trans (hc1 1 ⟨0,300,300,300,200,500000,300,300,200,200,500000,500000,2⟩ rfl j u hj));clear hB HBa HRa hP1 hc1 HB0;have Q1:Hid (Has (w2.alloc (.cells #[.slice (some ⟨y1,o1,none⟩) 2 c1,vI 0,vI 0,.bool false] 46)) w2.heap.size [.slice (some ⟨y1,o1,none⟩) 2 c1,vI 0,vI 0,.bool false]):=hid (Has.new _ _ _);have HB2:=hid (Bh HB1.out (.cells #[.slice (some ⟨y1,o1,none⟩) 2 c1,vI 0,vI 0,.bool false] 46));have HX1:=hid (Aa w2 (.cells #[.slice (some ⟨y1,o1,none⟩) 2 c1,vI 0,vI 0,.bool false] 46))
 go_wp2_with fail
 generalize w2.alloc (.cells #[.slice (some ⟨y1,o1,none⟩) 2 c1,vI 0,vI 0,.bool false] 46)=w3 at *
 refine (Af6 30 _).mono ?_;rintro e' w4 ⟨Hb,rfl,hlb,hB⟩
 have HBb:=hid (Ae HB2.out hB);have HRb:=hid (Xl hlb (AaA Hb 0 30) (OQ Hb).1 (l:=[⟨0,300,300,0,0,900000,0,0,0,0,900000,900000,0⟩,⟨0,300,300,300,200,500000,268,330,182,224,452000,536000,2⟩]) (OQ Hb).2 rfl);have HWb:=hid hB;clear hB hlb;have Q1':=hid (Q1.out.below HWb.out);have HX1':=hid (HX1.out.trans (HWb.out.mono HX1.out.size));clear Q1 HX1 HWa HWb HB2
 go_wp2_with fail
 refine HRb.out.mono ?_;rintro e' w5 ⟨A2,c2,rfl,hP2,-,hB⟩
 have HB3:=hid (Ae HBb.out hB);obtain ⟨y2,o2,rfl,hb2,hc2⟩:=hP2.cells (by decide);have HC2:=hid (fun W (h:Below w5.heap.size w5 W) j u hj=>(h.cell (p:=⟨y2,o2+1 * 13+j,none⟩) hb2).trans (hc2 1 ⟨0,300,300,300,200,500000,268,330,182,224,452000,536000,2⟩ rfl j u hj));have Q1:=hid (Q1'.out.below hB);have HX1:=hid (HX1'.out.trans (hB.mono HX1'.out.size));have HX1w:=hid (fun W (h:Below w5.heap.size w5 W) j u hj=>HC1.out W (HX1.out.trans (h.mono HX1.out.size)) j u hj);clear hB HBb HRb hP2 hc2 HB1 Q1' HX1' HC1;have Q3:Hid (Has (w5.alloc (.cells #[.slice (some ⟨y2,o2,none⟩) 2 c2,vI 0,vI 0,.bool false] 46)) w5.heap.size [.slice (some ⟨y2,o2,none⟩) 2 c2,vI 0,vI 0,.bool false]):=hid (Has.new _ _ _);have HB4:=hid (Bh HB3.out (.cells #[.slice (some ⟨y2,o2,none⟩) 2 c2,vI 0,vI 0,.bool false] 46));have HX3:=hid (Aa w5 (.cells #[.slice (some ⟨y2,o2,none⟩) 2 c2,vI 0,vI 0,.bool false] 46));replace Q1:=hid (Q1.out.alloc (.cells #[.slice (some ⟨y2,o2,none⟩) 2 c2,vI 0,vI 0,.bool false] 46));have k1:=Q1.out.cell 0 _ rfl
 go_wp2_with fail
 clear k1;generalize w5.alloc (.cells #[.slice (some ⟨y2,o2,none⟩) 2 c2,vI 0,vI 0,.bool false] 46)=w6 at *;generalize w2.heap.size=G1 at *;generalize hG3:w5.heap.size=G3 at *
 refine rS (fun W=>Below w6.heap.size w6 W) 12 ((AJ _ _).drew) (fun hHeld=>?_)
 have HQ1:=hid (fun W (h:Below w6.heap.size w6 W)=>(Q1.out.below h).cell 0 _ rfl);have HQ3:=hid (fun W (h:Below w6.heap.size w6 W)=>(Q3.out.below h).cell 0 _ rfl);have HY1:=hid (fun W (h:Below w6.heap.size w6 W) j u hj=>HX1w.out W (HX3.out.trans (h.mono (hG3 ▸ HX3.out.size))) j u hj);have HY2:=hid (fun W (h:Below w6.heap.size w6 W) j u hj=>HC2.out W (HX3.out.trans (h.mono (hG3 ▸ HX3.out.size))) j u hj)
 refine rQ ?_
 refine rT (fun W hW=>HQ1.out W hW) ?_
 refine rQ ?_
 refine rT (fun W hW=>And.intro (show W.cell? ⟨y1,o1+13,none⟩=some (vI 0) from HY1.out W hW 0 (vI 0) rfl) (And.intro (show W.cell? ⟨y1,o1+13+1,none⟩=some (vI 300) from HY1.out W hW 1 (vI 300) rfl) (And.intro (show W.cell? ⟨y1,o1+13+2,none⟩=some (vI 300) from HY1.out W hW 2 (vI 300) rfl) (And.intro (show W.cell? ⟨y1,o1+13+3,none⟩=some (vI 300) from HY1.out W hW 3 (vI 300) rfl) (And.intro (show W.cell? ⟨y1,o1+13+4,none⟩=some (vI 200) from HY1.out W hW 4 (vI 200) rfl) (And.intro (show W.cell? ⟨y1,o1+13+5,none⟩=some (vI 500000) from HY1.out W hW 5 (vI 500000) rfl) (And.intro (show W.cell? ⟨y1,o1+13+6,none⟩=some (vI 300) from HY1.out W hW 6 (vI 300) rfl) (And.intro (show W.cell? ⟨y1,o1+13+7,none⟩=some (vI 300) from HY1.out W hW 7 (vI 300) rfl) (And.intro (show W.cell? ⟨y1,o1+13+8,none⟩=some (vI 200) from HY1.out W hW 8 (vI 200) rfl) (And.intro (show W.cell? ⟨y1,o1+13+9,none⟩=some (vI 200) from HY1.out W hW 9 (vI 200) rfl) (And.intro (show W.cell? ⟨y1,o1+13+10,none⟩=some (vI 500000) from HY1.out W hW 10 (vI 500000) rfl) (And.intro (show W.cell? ⟨y1,o1+13+11,none⟩=some (vI 500000) from HY1.out W hW 11 (vI 500000) rfl) (show W.cell? ⟨y1,o1+13+12,none⟩=some (.int .u8 2) from HY1.out W hW 12 (.int .u8 2) rfl))))))))))))) ?_
 refine rQ ?_
 refine rT (fun W hW=>HQ3.out W hW) ?_
 refine rQ ?_
 refine rT (fun W hW=>And.intro (show W.cell? ⟨y2,o2+13,none⟩=some (vI 0) from HY2.out W hW 0 (vI 0) rfl) (And.intro (show W.cell? ⟨y2,o2+13+1,none⟩=some (vI 300) from HY2.out W hW 1 (vI 300) rfl) (And.intro (show W.cell? ⟨y2,o2+13+2,none⟩=some (vI 300) from HY2.out W hW 2 (vI 300) rfl) (And.intro (show W.cell? ⟨y2,o2+13+3,none⟩=some (vI 300) from HY2.out W hW 3 (vI 300) rfl) (And.intro (show W.cell? ⟨y2,o2+13+4,none⟩=some (vI 200) from HY2.out W hW 4 (vI 200) rfl) (And.intro (show W.cell? ⟨y2,o2+13+5,none⟩=some (vI 500000) from HY2.out W hW 5 (vI 500000) rfl) (And.intro (show W.cell? ⟨y2,o2+13+6,none⟩=some (vI 268) from HY2.out W hW 6 (vI 268) rfl) (And.intro (show W.cell? ⟨y2,o2+13+7,none⟩=some (vI 330) from HY2.out W hW 7 (vI 330) rfl) (And.intro (show W.cell? ⟨y2,o2+13+8,none⟩=some (vI 182) from HY2.out W hW 8 (vI 182) rfl) (And.intro (show W.cell? ⟨y2,o2+13+9,none⟩=some (vI 224) from HY2.out W hW 9 (vI 224) rfl) (And.intro (show W.cell? ⟨y2,o2+13+10,none⟩=some (vI 452000) from HY2.out W hW 10 (vI 452000) rfl) (And.intro (show W.cell? ⟨y2,o2+13+11,none⟩=some (vI 536000) from HY2.out W hW 11 (vI 536000) rfl) (show W.cell? ⟨y2,o2+13+12,none⟩=some (.int .u8 2) from HY2.out W hW 12 (.int .u8 2) rfl))))))))))))) ?_
 refine Be ?_
 intro OPS QQ A0 SS hO hQ hA hSS
 have st_8_9:Hid (∀ (H5 H6:Nat) (W:World) (qH5:Has W H5 (lzp 0 0 0 0 0 0 0 0 0 0 0 0 0)) (rH5:w6.heap.size+0<=H5) (qH6:Has W H6 (lzp 0 0 0 0 0 0 0 0 0 0 0 0 0)) (rH6:w6.heap.size+0<=H6) (nH5H6:H5≠H6),SS W→wpAnyH Tryz.prog .any OPS QQ SS 2 #[b1,b1,b1,b1,b1,b1,b1,b1,b1,b1,b0,b0] ((A0.put (some 5) (.pointer (some ⟨H5,0,none⟩))).put (some 6) (.pointer (some ⟨H6,0,none⟩))) W):=by
  subst hO hQ hA hSS
  refine hid ?_
  intro H5 H6 W qH5 rH5 qH6 rH6 nH5H6 hHeld
  (try simp only [Act.put,pa,pb,pc])
  have fz:=qH5.fr;have cz0:=qH5.cell 0 _ rfl;have cz1:=qH5.cell 1 _ rfl;have cz2:=qH5.cell 2 _ rfl;have cz3:=qH5.cell 3 _ rfl;have cz4:=qH5.cell 4 _ rfl;have cz5:=qH5.cell 5 _ rfl;have cz6:=qH5.cell 6 _ rfl;have cz7:=qH5.cell 7 _ rfl;have cz8:=qH5.cell 8 _ rfl;have cz9:=qH5.cell 9 _ rfl;have cz10:=qH5.cell 10 _ rfl;have cz11:=qH5.cell 11 _ rfl;have cz12:=qH5.cell 12 _ rfl
  refine rEk ?_
  intro K hK
  have hs0:=hHeld;have hs1:=(Ab hs0 H5 0 rH5 (vI 0));have hs2:=(Ab hs1 H5 1 rH5 (vI 300));have hs3:=(Ab hs2 H5 2 rH5 (vI 300));have hs4:=(Ab hs3 H5 3 rH5 (vI 300));have hs5:=(Ab hs4 H5 4 rH5 (vI 200));have hs6:=(Ab hs5 H5 5 rH5 (vI 500000));have hs7:=(Ab hs6 H5 6 rH5 (vI 300));have hs8:=(Ab hs7 H5 7 rH5 (vI 300));have hs9:=(Ab hs8 H5 8 rH5 (vI 200));have hs10:=(Ab hs9 H5 9 rH5 (vI 200));have hs11:=(Ab hs10 H5 10 rH5 (vI 500000));have hs12:=(Ab hs11 H5 11 rH5 (vI 500000));have hs13:=(Ab hs12 H5 12 rH5 (.int .u8 2));have hNew:=hs13;have pH5:Has (((((((((((((W.setCell ⟨H5,0,none⟩ (vI 0)).setCell ⟨H5,1,none⟩ (vI 300)).setCell ⟨H5,2,none⟩ (vI 300)).setCell ⟨H5,3,none⟩ (vI 300)).setCell ⟨H5,4,none⟩ (vI 200)).setCell ⟨H5,5,none⟩ (vI 500000)).setCell ⟨H5,6,none⟩ (vI 300)).setCell ⟨H5,7,none⟩ (vI 300)).setCell ⟨H5,8,none⟩ (vI 200)).setCell ⟨H5,9,none⟩ (vI 200)).setCell ⟨H5,10,none⟩ (vI 500000)).setCell ⟨H5,11,none⟩ (vI 500000)).setCell ⟨H5,12,none⟩ (.int .u8 2)) H5 (lzp 0 300 300 300 200 500000 300 300 200 200 500000 500000 2):=(((((((((((((qH5.set 0 (vI 0) (by simp)).set 1 (vI 300) (by simp)).set 2 (vI 300) (by simp)).set 3 (vI 300) (by simp)).set 4 (vI 200) (by simp)).set 5 (vI 500000) (by simp)).set 6 (vI 300) (by simp)).set 7 (vI 300) (by simp)).set 8 (vI 200) (by simp)).set 9 (vI 200) (by simp)).set 10 (vI 500000) (by simp)).set 11 (vI 500000) (by simp)).set 12 (.int .u8 2) (by simp));have pH6:=(((((((((((((qH6.other H5 0 (vI 0) (by omega)).other H5 1 (vI 300) (by omega)).other H5 2 (vI 300) (by omega)).other H5 3 (vI 300) (by omega)).other H5 4 (vI 200) (by omega)).other H5 5 (vI 500000) (by omega)).other H5 6 (vI 300) (by omega)).other H5 7 (vI 300) (by omega)).other H5 8 (vI 200) (by omega)).other H5 9 (vI 200) (by omega)).other H5 10 (vI 500000) (by omega)).other H5 11 (vI 500000) (by omega)).other H5 12 (.int .u8 2) (by omega))
  refine rEt hK hNew ?_
  clear hK K hNew fz hs0 hs1 hs2 hs3 hs4 hs5 hs6 hs7 hs8 hs9 hs10 hs11 hs12 hs13 cz0 cz1 cz2 cz3 cz4 cz5 cz6 cz7 cz8 cz9 cz10 cz11 cz12 qH5 qH6 hHeld
  intro hHeld
  have qH5:=pH5;have qH6:=pH6;clear pH5 pH6;generalize (((((((((((((W.setCell ⟨H5,0,none⟩ (vI 0)).setCell ⟨H5,1,none⟩ (vI 300)).setCell ⟨H5,2,none⟩ (vI 300)).setCell ⟨H5,3,none⟩ (vI 300)).setCell ⟨H5,4,none⟩ (vI 200)).setCell ⟨H5,5,none⟩ (vI 500000)).setCell ⟨H5,6,none⟩ (vI 300)).setCell ⟨H5,7,none⟩ (vI 300)).setCell ⟨H5,8,none⟩ (vI 200)).setCell ⟨H5,9,none⟩ (vI 200)).setCell ⟨H5,10,none⟩ (vI 500000)).setCell ⟨H5,11,none⟩ (vI 500000)).setCell ⟨H5,12,none⟩ (.int .u8 2))=W1 at *;have fz:=qH6.fr;have cz0:=qH6.cell 0 _ rfl;have cz1:=qH6.cell 1 _ rfl;have cz2:=qH6.cell 2 _ rfl;have cz3:=qH6.cell 3 _ rfl;have cz4:=qH6.cell 4 _ rfl;have cz5:=qH6.cell 5 _ rfl;have cz6:=qH6.cell 6 _ rfl;have cz7:=qH6.cell 7 _ rfl;have cz8:=qH6.cell 8 _ rfl;have cz9:=qH6.cell 9 _ rfl;have cz10:=qH6.cell 10 _ rfl;have cz11:=qH6.cell 11 _ rfl;have cz12:=qH6.cell 12 _ rfl
  refine rEk ?_
  intro K hK
  have hs0:=hHeld;have hs1:=(Ab hs0 H6 0 rH6 (vI 0));have hs2:=(Ab hs1 H6 1 rH6 (vI 300));have hs3:=(Ab hs2 H6 2 rH6 (vI 300));have hs4:=(Ab hs3 H6 3 rH6 (vI 300));have hs5:=(Ab hs4 H6 4 rH6 (vI 200));have hs6:=(Ab hs5 H6 5 rH6 (vI 500000));have hs7:=(Ab hs6 H6 6 rH6 (vI 268));have hs8:=(Ab hs7 H6 7 rH6 (vI 330));have hs9:=(Ab hs8 H6 8 rH6 (vI 182));have hs10:=(Ab hs9 H6 9 rH6 (vI 224));have hs11:=(Ab hs10 H6 10 rH6 (vI 452000));have hs12:=(Ab hs11 H6 11 rH6 (vI 536000));have hs13:=(Ab hs12 H6 12 rH6 (.int .u8 2));have hNew:=hs13;have pH5:=(((((((((((((qH5.other H6 0 (vI 0) (by omega)).other H6 1 (vI 300) (by omega)).other H6 2 (vI 300) (by omega)).other H6 3 (vI 300) (by omega)).other H6 4 (vI 200) (by omega)).other H6 5 (vI 500000) (by omega)).other H6 6 (vI 268) (by omega)).other H6 7 (vI 330) (by omega)).other H6 8 (vI 182) (by omega)).other H6 9 (vI 224) (by omega)).other H6 10 (vI 452000) (by omega)).other H6 11 (vI 536000) (by omega)).other H6 12 (.int .u8 2) (by omega));have pH6:Has (((((((((((((W1.setCell ⟨H6,0,none⟩ (vI 0)).setCell ⟨H6,1,none⟩ (vI 300)).setCell ⟨H6,2,none⟩ (vI 300)).setCell ⟨H6,3,none⟩ (vI 300)).setCell ⟨H6,4,none⟩ (vI 200)).setCell ⟨H6,5,none⟩ (vI 500000)).setCell ⟨H6,6,none⟩ (vI 268)).setCell ⟨H6,7,none⟩ (vI 330)).setCell ⟨H6,8,none⟩ (vI 182)).setCell ⟨H6,9,none⟩ (vI 224)).setCell ⟨H6,10,none⟩ (vI 452000)).setCell ⟨H6,11,none⟩ (vI 536000)).setCell ⟨H6,12,none⟩ (.int .u8 2)) H6 (lzp 0 300 300 300 200 500000 268 330 182 224 452000 536000 2):=(((((((((((((qH6.set 0 (vI 0) (by simp)).set 1 (vI 300) (by simp)).set 2 (vI 300) (by simp)).set 3 (vI 300) (by simp)).set 4 (vI 200) (by simp)).set 5 (vI 500000) (by simp)).set 6 (vI 268) (by simp)).set 7 (vI 330) (by simp)).set 8 (vI 182) (by simp)).set 9 (vI 224) (by simp)).set 10 (vI 452000) (by simp)).set 11 (vI 536000) (by simp)).set 12 (.int .u8 2) (by simp))
  refine rEt hK hNew ?_
  clear hK K hNew fz hs0 hs1 hs2 hs3 hs4 hs5 hs6 hs7 hs8 hs9 hs10 hs11 hs12 hs13 cz0 cz1 cz2 cz3 cz4 cz5 cz6 cz7 cz8 cz9 cz10 cz11 cz12 qH5 qH6 hHeld
  intro hHeld
  have qH5:=pH5;have qH6:=pH6;clear pH5 pH6;generalize (((((((((((((W1.setCell ⟨H6,0,none⟩ (vI 0)).setCell ⟨H6,1,none⟩ (vI 300)).setCell ⟨H6,2,none⟩ (vI 300)).setCell ⟨H6,3,none⟩ (vI 300)).setCell ⟨H6,4,none⟩ (vI 200)).setCell ⟨H6,5,none⟩ (vI 500000)).setCell ⟨H6,6,none⟩ (vI 268)).setCell ⟨H6,7,none⟩ (vI 330)).setCell ⟨H6,8,none⟩ (vI 182)).setCell ⟨H6,9,none⟩ (vI 224)).setCell ⟨H6,10,none⟩ (vI 452000)).setCell ⟨H6,11,none⟩ (vI 536000)).setCell ⟨H6,12,none⟩ (.int .u8 2))=W2 at *
  refine rD ?_
  have c0:=qH5.cell 0 (vI 0) rfl;have c1:=qH5.cell 1 (vI 300) rfl;have c2:=qH5.cell 2 (vI 300) rfl;have c3:=qH5.cell 3 (vI 300) rfl;have c4:=qH5.cell 4 (vI 200) rfl;have c5:=qH5.cell 5 (vI 500000) rfl;have c6:=qH5.cell 6 (vI 300) rfl;have c7:=qH5.cell 7 (vI 300) rfl;have c8:=qH5.cell 8 (vI 200) rfl;have c9:=qH5.cell 9 (vI 200) rfl;have c10:=qH5.cell 10 (vI 500000) rfl;have c11:=qH5.cell 11 (vI 500000) rfl;have c12:=qH5.cell 12 (.int .u8 2) rfl;have d0:=qH6.cell 0 (vI 0) rfl;have d1:=qH6.cell 1 (vI 300) rfl;have d2:=qH6.cell 2 (vI 300) rfl;have d3:=qH6.cell 3 (vI 300) rfl;have d4:=qH6.cell 4 (vI 200) rfl;have d5:=qH6.cell 5 (vI 500000) rfl;have d6:=qH6.cell 6 (vI 268) rfl;have d7:=qH6.cell 7 (vI 330) rfl;have d8:=qH6.cell 8 (vI 182) rfl;have d9:=qH6.cell 9 (vI 224) rfl;have d10:=qH6.cell 10 (vI 452000) rfl;have d11:=qH6.cell 11 (vI 536000) rfl;have d12:=qH6.cell 12 (.int .u8 2) rfl;have HBE:=hid (HB4.out.trans (hHeld.mono HB4.out.size));clear qH5 qH6 hHeld
  go_wp2_with fail
  go_ret
  exact ⟨rfl,HBE.out⟩
 have st_8:Hid (∀ (H5:Nat) (W:World) (qH5:Has W H5 (lzp 0 0 0 0 0 0 0 0 0 0 0 0 0)) (rH5:w6.heap.size+0<=H5),SS W→wpAnyH Tryz.prog .any OPS QQ SS 3 #[b1,b1,b1,b1,b1,b1,b1,b1,b1,b0,b0,b0] (A0.put (some 5) (.pointer (some ⟨H5,0,none⟩))) W):=by
  subst hO hQ hA hSS
  refine hid ?_
  intro H5 W qH5 rH5 hHeld
  (try simp only [Act.put,pa,pb,pc])
  refine wpAnyH_ready (rs:=[9]) (by kernel_rfl) (by simp) ?_
  refine aD rfl (fun K hK=>mA st_8_9.out) ?_
  exact AllReadyH.nil
 have st_9:Hid (∀ (H6:Nat) (W:World) (qH6:Has W H6 (lzp 0 0 0 0 0 0 0 0 0 0 0 0 0)) (rH6:w6.heap.size+0<=H6),SS W→wpAnyH Tryz.prog .any OPS QQ SS 3 #[b1,b1,b1,b1,b1,b1,b1,b1,b0,b1,b0,b0] (A0.put (some 6) (.pointer (some ⟨H6,0,none⟩))) W):=by
  subst hO hQ hA hSS
  refine hid ?_
  intro H6 W qH6 rH6 hHeld
  (try simp only [Act.put,pa,pb,pc])
  refine wpAnyH_ready (rs:=[8]) (by kernel_rfl) (by simp) ?_
  refine aD rfl (fun K hK=>mA st_8_9.out) ?_
  exact AllReadyH.nil
 have st:Hid (∀ (W:World),SS W→wpAnyH Tryz.prog .any OPS QQ SS 4 #[b1,b1,b1,b1,b1,b1,b1,b1,b0,b0,b0,b0] A0 W):=by
  subst hO hQ hA hSS
  refine hid ?_
  intro W hHeld
  (try simp only [Act.put,pa,pb,pc])
  refine wpAnyH_ready (rs:=[8,9]) (by kernel_rfl) (by simp) ?_
  refine aD rfl (fun K hK=>mA st_8.out) ?_
  refine aD rfl (fun K hK=>mA st_9.out) ?_
  exact AllReadyH.nil
 subst hO hQ hA hSS
 exact st.out _  hHeld
