/- M47: RfLg, RfLe in one text. -/
import Derived.Test.YtedcanagfajcgaaGreatM44
import Derived.Test.YtedcanagfajcgaaGreatM29
set_option linter.unusedSimpArgs false
set_option linter.unusedVariables false
set_option maxRecDepth 100000
set_option maxHeartbeats 16000000
namespace Go.Proofs
theorem AbF{G:Prop}(h:G:=by
  go_enter Tryz.func22,Tryz.ntmps22
  go_wp2_with fail
  go_ret
  exact ⟨Af HF.out.symm,HS.out.B⟩):G:=h
end Go.Proofs
namespace Go.Proofs.YtedcanagfajcgaaGreat
open Go.RowKit
open Go.Lib (hid)
theorem Tm (a b:Int) (h0 : -4000000000<=a∧a<=4000000000) (h1 : -4000000000<=b∧b<=4000000000) (w:World):Calls Tryz.prog 81 #[vI a,vI b] w fun e w'=>e=.returned (vI ((a+b) / 2))∧w=w':=by
 have hs:(a+b) >>> 1=(a+b) / 2:=by rw [Int.shiftRight_eq_div_pow];rfl
 go_enter Tryz.func81,Tryz.ntmps81
 go_wp2
 go_ret
 exact ⟨Af rfl,rfl⟩
theorem Tq (d g:Int) (h0:0<=d) (h1:d<=100000000) (hg:1<=g) (hg2:g<=100000000) (w:World):Calls Tryz.prog 29 #[vI d,vI g] w fun e' w'=>e'=.returned (vI (tck d g))∧w=w':=by
 have HV:=hid (show tck d g=(d+g - 1) / g from rfl);have hb:=E8 h0 hg;have hd:(d+g - 1).tdiv g=(d+g - 1) / g:=Int.tdiv_eq_ediv_of_nonneg (by omega);have hq:=iW ((d+g - 1) / g);generalize (d+g - 1) / g=q at *
 go_enter Tryz.func29,Tryz.ntmps29
 go_wp2
 go_ret
 exact ⟨Af HV.out.symm,rfl⟩
def lgc (l:Lg) (dev:Int) (h:Hul):List Value:=(lzp l.co l.al l.sp dev l.we l.wn h.e0 h.e1 h.n0 h.n1 h.d0 h.d1 l.ph)
theorem Tf (s:Stp) (l:Lg) (dev:Int) (h:Hul) (left tas:Int) (w:World) (hl:s.lies w) (hok:s.ok) (hp:l.ph=1∨l.ph=2∨l.ph=3):Calls Tryz.prog 30 #[.agg s.cells.toArray,.agg (lgc l dev h).toArray,vI (s.ac.em+left),vI tas] w fun e w'=>e=.returned (vI (flw s l left tas))∧Below w.heap.size w w':=by
 have HS:=hid (Dt w s.cells.toArray (lgc l dev h).toArray 35 75)
 have HV:=hid (show flw s l left tas=if l.ph=1 then KH s.pf l.al (s.ac.em+left) else if l.ph=2 then KL s.pf l.al (s.ac.em+left) tas else JV s.pf l.al from rfl)
 have H1:=hid (fun W (h:Below w.heap.size w W)=>QP s.pf l.al (s.ac.em+left) W (hl.below h).pf hok.pf);have H2:=hid (fun W (h:Below w.heap.size w W)=>Po s.pf l.al (s.ac.em+left) tas W (hl.below h).pf hok.pf);have H3:=hid (fun W (h:Below w.heap.size w W)=>UE s.pf l.al W (hl.below h).pf hok.pf);have k0:=HS.out.at 1 _ rfl 12 (.int .u8 l.ph) rfl;have k1:=HS.out.at 1 _ rfl 1 (vI l.al) rfl;have k2:=HS.out.has 0 _ rfl;clear hl hok
 rcases hp with hp | hp | hp
 all_goals
  rw [hp] at k0 HV
  clear hp
  go_enter Tryz.func30,Tryz.ntmps30
  go_wp2_with (first | refine Dx (.tmp 25) rfl rfl rfl (HS.out.has 0 _ rfl) ?_ | refine Dx (.tmp 36) rfl rfl rfl (HS.out.has 0 _ rfl) ?_ | refine Dx (.tmp 13) rfl rfl rfl (HS.out.has 0 _ rfl) ?_)
  (first | with_reducible refine (H1.out _ HS.out.B).mono ?_ | with_reducible refine (H2.out _ HS.out.B).mono ?_ | with_reducible refine (H3.out _ HS.out.B).mono ?_)
  rintro e' w2 ⟨rfl,hB⟩
  have HB:=hid (Ae HS.out.B hB);clear hB
  go_wp2_with fail
  go_ret
  exact ⟨Af (HV.out.trans (by simp)).symm,HB.out⟩
theorem rdZ {G:Prop} (h:G:=by
  go_wp2_with fail
  go_quiet (fail)
  go_wp2_with fail
  go_ret
  exact ⟨Af HF.out.symm,Ag HS.out.B _⟩):G:=h
theorem Xc (s:Stp) (A B:Option Addr) (n c m d:Nat) (al sp:List Int) (w:World) (hno:s.no.length=s.sno.n) (ha:Ints w A n al) (hb:Ints w B m sp) (hn:n<=maxLen) (hm:m<=maxLen):Calls Tryz.prog 22 #[.agg s.cells.toArray,.slice A n c,.slice B m d] w fun e' w'=>e'=.returned (vI (fcE s al sp))∧Below w.heap.size w w':=by
 have HS:=hid (DR w s.cells.toArray 35);have HKK:=hid (fun W (h:BoxS w 1 [s.cells] W)=>show W.cell? ⟨w.heap.size,0,none⟩=some (.slice s.sno.A s.sno.n s.sno.c)∧W.cell? ⟨w.heap.size,29,none⟩=some (vI s.lv) from ⟨PQ (h.has 0 _ rfl),FP (h.has 0 _ rfl)⟩);have la:=ha.len;have lb:=hb.len
 unfold maxLen at hn hm
 obtain ⟨k0,k29⟩:=HKK.out _ HS.out
 by_cases h1:n=s.no.length
 rotate_left
 ·have HF:=hid (Sa (s:=s) (al:=al) (sp:=sp) (.inl (by omega)))
  have g1:((n:Int) == (s.sno.n:Int))=false:=Aw (by omega);have g2:=AL g1;clear ha hb la lb h1 hno
  exact AbF
 have g1:((n:Int) == (s.sno.n:Int))=true:=by rw [show n=s.sno.n by omega];simp
 have g2:((n:Int) != (s.sno.n:Int))=false:=by rw [bne,g1];rfl
 by_cases h2:m=s.no.length
 rotate_left
 ·have HF:=hid (Sa (s:=s) (al:=al) (sp:=sp) (.inr (by omega)))
  have g3:((m:Int) == (s.sno.n:Int))=false:=Aw (by omega);have g4:=AL g3;clear ha hb la lb h1 h2 hno
  exact AbF
 have g3:((m:Int) == (s.sno.n:Int))=true:=by rw [show m=s.sno.n by omega];simp
 have g4:((m:Int) != (s.sno.n:Int))=false:=by rw [bne,g3];rfl
 have HL:=hid (show ¬ (al.length≠s.no.length∨sp.length≠s.no.length) by omega);have HLA:=hid (show al.length=n∧sp.length=n∧m=n from ⟨la,by omega,by omega⟩);have HA:=hid ha;have HB:=hid hb;clear ha hb la lb h1 h2 hno
 go_enter Tryz.func22,Tryz.ntmps22
 go_wp2_with fail
 clear k0 k29 g1 g2 g3 g4;generalize w.alloc (.cells s.cells.toArray 35)=w1 at *
 go_loopw [24] (fun t wr=>Aah s al sp n w t wr) (fun t _=>n - (intOf t).toNat)
 case atStart=>exact ⟨0,by omega,rfl,by simp,by simp,HS.out⟩
 case round =>
  obtain ⟨k,hk,rfl,hall,hall2,hs⟩:=hrel;replace HS:=hid hs;have HALL:=hid hall;have HALL2:=hid hall2;clear hs hall hall2
  by_cases hlt:k<n
  ·obtain ⟨x,hx⟩:=Am HLA.out.1 hlt
   obtain ⟨y,hy⟩:=Am HLA.out.2.1 hlt;obtain ⟨bx,ox,hbx,hbl,cx⟩:=BZ HA.out hx;obtain ⟨by_,oy,hby,hbl2,cy⟩:=BZ HB.out hy;have HXX:=hid hx;have HYY:=hid hy;have HCX:=hid cx;have HCY:=hid cy;clear cx cy;have HBX:=hid hbx;have HBY:=hid hby
   have i1:(0:Int)<=(k:Int):=by omega
   have i2:(k:Int)<(m:Int):=by have:=HLA.out.2.2;omega
   have i3:(k:Int)<(n:Int):=by omega
   obtain ⟨k0,k29⟩:=HKK.out _ HS.out
   rw [hbx,hby]
   clear hx hbx hy hby k0 k29;have HXC:=hid (fun W (h:BoxS w 1 [s.cells] W)=>And.intro ((h.B.cell (p:=⟨bx,ox+k,none⟩) hbl).trans HCX.out) (And.intro ((h.B.cell (p:=⟨by_,oy+k,none⟩) hbl2).trans HCY.out) (HKK.out W h).2));have cc:=fun q=>HXC.out (wr.drewN q) (HS.out.below (Ag (AJ _ _) q))
   by_cases c1:x < -200000
   ·have HF:=hid (Mg HL.out (fun h=>GL (Au HXX.out) (lo := -200000) (hi:=s.lv) (by rw [Dz];omega) h.1))
    exact rdZ
   by_cases c2:s.lv<x
   ·have HF:=hid (Mg HL.out (fun h=>GL (Au HXX.out) (lo := -200000) (hi:=s.lv) (by rw [Dz];omega) h.1))
    exact rdZ
   by_cases c3:y<0
   ·have HF:=hid (Mg HL.out (fun h=>GL (Au HYY.out) (lo:=0) (hi:=1000) (by rw [Dz];omega) h.2))
    exact rdZ
   by_cases c4:1000<y
   ·have HF:=hid (Mg HL.out (fun h=>GL (Au HYY.out) (lo:=0) (hi:=1000) (by rw [Dz];omega) h.2))
    exact rdZ
   have G0:=hid (show inB x (-200000) s.lv=true by rw [Al];omega);have G1:=hid (show inB y 0 1000=true by rw [Al];omega)
   go_wp2_with fail
   go_quiet (fail)
   replace HS:=hid (HS.out.below (Ag (AJ _ _) nq));clear cc;generalize wr.drewN nq=w2 at *
   go_wp2_with fail
   go_roundw
   case rel=>exact ⟨k+1,by omega,by go_num,Co HALL.out HXX.out G0.out,Co HALL2.out HYY.out G1.out,HS.out⟩
   case measure=>exact zMs
  ·have hkn:=hid (show k=n by omega)
   have HF:=hid (AaD HL.out ⟨I7 (by have h:=HALL.out;rwa [CY (by have:=HLA.out;omega)] at h),I7 (by have h:=HALL2.out;rwa [CY (by have:=HLA.out;omega)] at h)⟩)
   have i2:¬ (k:Int)<(n:Int):=by omega
   go_wp2_with fail
   go_ret
   exact ⟨Af HF.out.symm,HS.out.B⟩
def lgZ (s:Stp):List (List Value):=[s.cells,(lzp 0 0 0 0 0 0 0 0 0 0 0 0 0)]
theorem EZ {P:Program} {F:FuncId} {args:Array Value} {w:World} {v:Value} (h:Calls P F args w fun e w'=>e=.returned v∧w=w'):Calls P F args w fun e w'=>e=.returned v∧Below w.heap.size w w':=h.mono fun _ _ h=>⟨h.1,h.2 ▸ AJ _ _⟩
theorem leY {G:Prop} (h:G:=by
  have d0:=q11.cell 0 _ rfl;have r0:=hHeld.at 1 _ rfl 0 _ rfl;have d1:=q11.cell 1 _ rfl;have r1:=hHeld.at 1 _ rfl 1 _ rfl;have d2:=q11.cell 2 _ rfl;have r2:=hHeld.at 1 _ rfl 2 _ rfl;have d3:=q11.cell 3 _ rfl;have r3:=hHeld.at 1 _ rfl 3 _ rfl;have d4:=q11.cell 4 _ rfl;have r4:=hHeld.at 1 _ rfl 4 _ rfl;have d5:=q11.cell 5 _ rfl;have r5:=hHeld.at 1 _ rfl 5 _ rfl;have d6:=q11.cell 6 _ rfl;have r6:=hHeld.at 1 _ rfl 6 _ rfl;have d7:=q11.cell 7 _ rfl;have r7:=hHeld.at 1 _ rfl 7 _ rfl;have d8:=q11.cell 8 _ rfl;have r8:=hHeld.at 1 _ rfl 8 _ rfl;have d9:=q11.cell 9 _ rfl;have r9:=hHeld.at 1 _ rfl 9 _ rfl;have d10:=q11.cell 10 _ rfl;have r10:=hHeld.at 1 _ rfl 10 _ rfl;have d11:=q11.cell 11 _ rfl;have r11:=hHeld.at 1 _ rfl 11 _ rfl;have d12:=q11.cell 12 _ rfl;have r12:=hHeld.at 1 _ rfl 12 _ rfl;have rf:=(show Has W18 (w.heap.size+1) (lzp 0 0 0 0 0 0 0 0 0 0 0 0 0) from hHeld.has 1 _ rfl).fr
  go_wp2_with fail
  exact bodyPost_ret (v:=.agg #[vI CO,vI ((ak+am) / 2),vI ((sk+sm) / 2),vI WD,vI WE,vI WN,vI HU.e0,vI HU.e1,vI HU.n0,vI HU.n1,vI HU.d0,vI HU.d1,.int .u8 PV]) (by simp [results,Tryz.results26,go_sem,r0,r1,r2,r3,r4,r5,r6,r7,r8,r9,r10,r11,r12]) rfl ⟨by rw [HV.out],(Ab (Ab (Ab (Ab (Ab (Ab (Ab (Ab (Ab (Ab (Ab (Ab (Ab hHeld.B _ _ (Cn _ _) _) _ _ (Cn _ _) _) _ _ (Cn _ _) _) _ _ (Cn _ _) _) _ _ (Cn _ _) _) _ _ (Cn _ _) _) _ _ (Cn _ _) _) _ _ (Cn _ _) _) _ _ (Cn _ _) _) _ _ (Cn _ _) _) _ _ (Cn _ _) _) _ _ (Cn _ _) _) _ _ (Cn _ _) _)⟩):G:=h
theorem leX {G:Prop} (h:G:=by
  have cc:=fun q=>FG (W16.drewN q) (hHeld.below (Ag (AJ _ _) q))
  go_quiet (fail)
  replace q11:=q11.below (Ag (AJ _ _) nq);replace hHeld:=hHeld.below (Ag (AJ _ _) nq);clear cc FG;generalize W16.drewN nq=W17 at *
  by_cases h2:am<ak
  ·try (exfalso;omega)
   all_goals
    have f0:=q11.fr;have c12:=q11.cell 12 _ rfl
    go_upto_region 12 with fail
    replace q11:=(show Has _ H11 (lzp CO ((ak+am) / 2) ((sk+sm) / 2) WD WE WN HU.e0 HU.e1 HU.n0 HU.n1 HU.d0 HU.d1 PV) from by rw [← HPV.out,if_neg h1,if_pos h2];exact q11.set 12 (.int .u8 3) (by simp));replace hHeld:=hHeld.set H11 12 r11 (.int .u8 3);clear f0 c12;generalize W17.setCell ⟨H11,12,none⟩ (.int .u8 3)=W18 at *
    exact leY
  go_upto_region 12 with fail
  replace q11:=(show Has _ H11 (lzp CO ((ak+am) / 2) ((sk+sm) / 2) WD WE WN HU.e0 HU.e1 HU.n0 HU.n1 HU.d0 HU.d1 PV) from by first | (rw [← HPV.out,if_pos h1];exact q11) | (rw [← HPV.out,if_neg h1,if_neg h2];exact q11));generalize W17=W18 at *
  exact leY):G:=h
theorem leZ {G:Prop} (h:G:=by
  refine rS (fun W=>BoxS w 2 (lgZ s) W∧Has W H9 (lz2 pk yk)∧Has W H10 (lz2 pm ym)∧W.cell? ⟨H11,1,none⟩=some (vI ((ak+am) / 2))) 24 ⟨hHeld.drew,q9.drew,q10.drew,q11.drew.cell 1 _ rfl⟩ (fun hHeld=>?_)
  replace q11:=q11.drew;clear q9 q10;generalize W6.drew=W7 at *;have FG:=FA;have FA:=fun W (h:BoxS w 2 (lgZ s) W∧Has W H9 (lz2 pk yk)∧Has W H10 (lz2 pm ym)∧W.cell? ⟨H11,1,none⟩=some (vI ((ak+am) / 2)))=>And.intro (FG W h.1) (And.intro (And.intro (And.intro (h.2.1.cell 0 _ rfl) (h.2.1.cell 1 _ rfl)) (And.intro (h.2.2.1.cell 0 _ rfl) (h.2.2.1.cell 1 _ rfl))) h.2.2.2)
  refine rQ ?_
  refine rY (Ou (.tmp 59) rfl rfl rfl (fun W hW=>HW.out W hW.1)) ?_
  repeat (first | refine rQ ?_ | refine rF ?_)
  refine rEk ?_
  intro K hK
  refine (EZ (HX2.out _)).mono ?_;rintro e2 W8 ⟨rfl,hB⟩
  go_wp2_with fail
  replace q11:=q11.below hB
  refine rEt hK ⟨hHeld.1.below hB,hHeld.2.1.below hB,hHeld.2.2.1.below hB,q11.cell 1 _ rfl⟩ ?_
  clear hK K hHeld hB
  intro hHeld
  repeat (first | refine rQ ?_ | refine rF ?_)
  refine rEk ?_
  intro K hK
  refine (EZ (HY2.out _)).mono ?_;rintro e2 W9 ⟨rfl,hB⟩
  go_wp2_with fail
  replace q11:=q11.below hB
  refine rEt hK ⟨hHeld.1.below hB,hHeld.2.1.below hB,hHeld.2.2.1.below hB,q11.cell 1 _ rfl⟩ ?_
  clear hK K hHeld hB
  intro hHeld
  repeat (first | refine rQ ?_ | refine rF ?_)
  refine rEk ?_
  intro K hK
  refine (HAT.out _ hHeld.1.B).mono ?_;rintro e2 W10 ⟨rfl,hB⟩
  go_wp2_with fail
  replace q11:=q11.below hB
  refine rEt hK ⟨hHeld.1.below hB,hHeld.2.1.below hB,hHeld.2.2.1.below hB,q11.cell 1 _ rfl⟩ ?_
  clear hK K hHeld hB
  intro hHeld
  repeat (first | refine rQ ?_ | refine rF ?_)
  have f0:=q11.fr;have c4:=q11.cell 4 _ rfl;have c5:=q11.cell 5 _ rfl
  refine rEk ?_
  intro K hK
  have hq:=(show Has _ H11 (lzp CO ((ak+am) / 2) ((sk+sm) / 2) 0 WE WN 0 0 0 0 0 0 2) from ((q11.set 4 (vI WE) (by simp)).set 5 (vI WN) (by simp)))
  refine rEt hK ⟨((hHeld.1.set H11 4 r11 (vI WE)).set H11 5 r11 (vI WN)),((hHeld.2.1.other H11 4 (vI WE) n911).other H11 5 (vI WN) n911),((hHeld.2.2.1.other H11 4 (vI WE) n1011).other H11 5 (vI WN) n1011),hq.cell 1 _ rfl⟩ ?_
  clear hK K hHeld f0 q11 c4 c5
  intro hHeld
  have q11:=hq;clear hq;generalize ((W10.setCell ⟨H11,4,none⟩ (vI WE)).setCell ⟨H11,5,none⟩ (vI WN))=W11 at *
  repeat (first | refine rQ ?_ | refine rF ?_)
  have f0:=q11.fr;have c3:=q11.cell 3 _ rfl
  refine rEk ?_
  intro K hK
  have hq:=(show Has _ H11 (lzp CO ((ak+am) / 2) ((sk+sm) / 2) WD WE WN 0 0 0 0 0 0 2) from (q11.set 3 (vI WD) (by simp)))
  refine rEt hK ⟨(hHeld.1.set H11 3 r11 (vI WD)),(hHeld.2.1.other H11 3 (vI WD) n911),(hHeld.2.2.1.other H11 3 (vI WD) n1011),hq.cell 1 _ rfl⟩ ?_
  clear hK K hHeld f0 q11 c3
  intro hHeld
  have q11:=hq;clear hq;generalize (W11.setCell ⟨H11,3,none⟩ (vI WD))=W12 at *
  repeat (first | refine rQ ?_ | refine rF ?_)
  refine rD ?_
  go_wp2_with (refine AC (.tmp 4) rfl rfl rfl (HW.out _ hHeld.1) ?_)
  refine (HHU.out _ hHeld.1.B).mono ?_;rintro e2 W13 ⟨rfl,hB⟩
  replace q11:=q11.below hB;replace hHeld:=hHeld.1.below hB;clear hB FA;have f0:=q11.fr;have c6:=q11.cell 6 _ rfl;have c7:=q11.cell 7 _ rfl;have c8:=q11.cell 8 _ rfl;have c9:=q11.cell 9 _ rfl;have c10:=q11.cell 10 _ rfl;have c11:=q11.cell 11 _ rfl
  go_upto_region 8 with fail
  replace q11:=(show Has _ H11 (lzp CO ((ak+am) / 2) ((sk+sm) / 2) WD WE WN HU.e0 HU.e1 HU.n0 HU.n1 HU.d0 HU.d1 2) from ((((((q11.set 6 (vI HU.e0) (by simp)).set 7 (vI HU.e1) (by simp)).set 8 (vI HU.n0) (by simp)).set 9 (vI HU.n1) (by simp)).set 10 (vI HU.d0) (by simp)).set 11 (vI HU.d1) (by simp)));replace hHeld:=((((((hHeld.set H11 6 r11 (vI HU.e0)).set H11 7 r11 (vI HU.e1)).set H11 8 r11 (vI HU.n0)).set H11 9 r11 (vI HU.n1)).set H11 10 r11 (vI HU.d0)).set H11 11 r11 (vI HU.d1));clear f0 c6 c7 c8 c9 c10 c11;generalize ((((((W13.setCell ⟨H11,6,none⟩ (vI HU.e0)).setCell ⟨H11,7,none⟩ (vI HU.e1)).setCell ⟨H11,8,none⟩ (vI HU.n0)).setCell ⟨H11,9,none⟩ (vI HU.n1)).setCell ⟨H11,10,none⟩ (vI HU.d0)).setCell ⟨H11,11,none⟩ (vI HU.d1))=W14 at *;have cc:=fun q=>FG (W14.drewN q) (hHeld.below (Ag (AJ _ _) q))
  go_quiet (fail)
  replace q11:=q11.below (Ag (AJ _ _) nq);replace hHeld:=hHeld.below (Ag (AJ _ _) nq);clear cc;generalize W14.drewN nq=W15 at *
  by_cases h1:ak<am
  ·have f0:=q11.fr
   have c12:=q11.cell 12 _ rfl
   go_upto_region 10 with fail
   replace q11:=(show Has _ H11 (lzp CO ((ak+am) / 2) ((sk+sm) / 2) WD WE WN HU.e0 HU.e1 HU.n0 HU.n1 HU.d0 HU.d1 1) from q11.set 12 (.int .u8 1) (by simp));replace hHeld:=hHeld.set H11 12 r11 (.int .u8 1);clear f0 c12;generalize W15.setCell ⟨H11,12,none⟩ (.int .u8 1)=W16 at *
   exact leX
  go_upto_region 10 with fail
  generalize W15=W16 at *
  exact leX):G:=h
theorem Aep (s:Stp) (k m:Nat) (hm:m=k+1) (A B:Option Addr) (n c n' d:Nat) (al sp:List Int) (w:World) (hl:s.lies w) (hok:s.ok) (G:StG s) (hk:m<s.no.length) (hF:FcG s al sp) (ha:Ints w A n al) (hb:Ints w B n' sp) :
  Calls Tryz.prog 26 #[.agg s.cells.toArray,.slice A n c,.slice B n' d,vI m] w fun e' w'=>e'=.returned (.agg (lgc (lgV s al sp k) (gAt s.gr (elD s.gr) (lgX s k) (lgY s k) (lgA al k)) (suH s k)).toArray)∧Below w.heap.size w w':=by
 have N:=StN.of hl;have hno:=N.no;have hmx:=hok.no
 unfold maxLen at hmx
 have la:=ha.len;have lb:=hb.len
 have hn1:n=s.no.length:=by have:=hF.la;omega
 have hn2:n'=s.no.length:=by have:=hF.ls;omega
 obtain ⟨b,off,hA⟩:=FC hl (by omega);obtain ⟨ba,oa,rfl⟩:=Eb ha (by omega);obtain ⟨bb,ob,rfl⟩:=Eb hb (by omega);have HS:=hid (show BoxS w 2 (lgZ s) _ from Dt w s.cells.toArray #[vI 0,vI 0,vI 0,vI 0,vI 0,vI 0,vI 0,vI 0,vI 0,vI 0,vI 0,vI 0,.int .u8 0] 35 75);have hak:=hF.a k (by omega);have ham:=hF.a m hk;have hsk:=hF.s k (by omega);have hsm:=hF.s m hk;have g1:=AR G N (k:=k) (by omega);have g2:=AR G N (k:=m) hk;have x1:=g1.px;have x2:=g2.px;have y1:=g1.py;have y2:=g2.py;have hlv:=G.lv
 have FA:=hid (fun W (h:BoxS w 2 (lgZ s) W) =>
  have n1:=Ce (hl.below h.B) hA (k:=k) (by omega);have n2:=Ce (hl.below h.B) hA (k:=m) hk;have q1:=Bu ha (k:=k) (by omega);have q2:=Bu ha (k:=m) (by omega);have q3:=Bu hb (k:=k) (by omega);have q4:=Bu hb (k:=m) (by omega)
  And.intro (And.intro (Dk (show Has W w.heap.size s.cells from h.has 0 _ rfl) hA) (And.intro (And.intro n1.1 n1.2.1) (And.intro n2.1 n2.2.1))) (And.intro (And.intro ((h.B.cell (p:=⟨ba,oa+k,none⟩) q1.1).trans q1.2) ((h.B.cell (p:=⟨ba,oa+m,none⟩) q2.1).trans q2.2)) (And.intro ((h.B.cell (p:=⟨bb,ob+k,none⟩) q3.1).trans q3.2) ((h.B.cell (p:=⟨bb,ob+m,none⟩) q4.1).trans q4.2))))
 have HW:=hid (fun W (h:BoxS w 2 (lgZ s) W)=>show Has W w.heap.size s.cells from h.has 0 _ rfl);have HCO:=hid (fun W=>Zm (Ac s k).px (Ac s k).py (Ac s m).px (Ac s m).py W);have HC0:=hid (show coE (Ac s k).px (Ac s k).py (Ac s m).px (Ac s m).py≠0→coV (Ac s k).px (Ac s k).py (Ac s m).px (Ac s m).py=0 from fun h=>if_pos h);have HAT:=hid (fun W (h:Below w.heap.size w W)=>rAt s.gr (((Ac s k).px+(Ac s m).px) / 2) (((Ac s k).py+(Ac s m).py) / 2) ((al.getD k 0+al.getD m 0) / 2) W (hl.below h).gr hok.gr G.gr (Gj (by omega) (by omega)) (by rw [Al];omega));have HHU:=hid (fun W (h:Below w.heap.size w W)=>QT s k m hm W (hl.below h) hok G hk)
 have HV:=hid (show lgc (lgV s al sp k) (gAt s.gr (elD s.gr) (lgX s k) (lgY s k) (lgA al k)) (suH s k)=(lzp (coV (Ac s k).px (Ac s k).py (Ac s m).px (Ac s m).py) ((al.getD k 0+al.getD m 0) / 2) ((sp.getD k 0+sp.getD m 0) / 2) (gAt s.gr (elD s.gr) (((Ac s k).px+(Ac s m).px) / 2) (((Ac s k).py+(Ac s m).py) / 2) ((al.getD k 0+al.getD m 0) / 2)) (gAt s.gr (elE s.gr) (((Ac s k).px+(Ac s m).px) / 2) (((Ac s k).py+(Ac s m).py) / 2) ((al.getD k 0+al.getD m 0) / 2)) (gAt s.gr (elN s.gr) (((Ac s k).px+(Ac s m).px) / 2) (((Ac s k).py+(Ac s m).py) / 2) ((al.getD k 0+al.getD m 0) / 2)) ((suH s k).e0) ((suH s k).e1) ((suH s k).n0) ((suH s k).n1) ((suH s k).d0) ((suH s k).d1) (if al.getD k 0<al.getD m 0 then 1 else if al.getD m 0<al.getD k 0 then 3 else 2)) by subst hm;rfl)
 have HA2:=hid (fun W=>Tm (al.getD k 0) (al.getD m 0) (by omega) (by omega) W);have HB2:=hid (fun W=>Tm (sp.getD k 0) (sp.getD m 0) (by omega) (by omega) W);have HX2:=hid (fun W=>Tm (Ac s k).px (Ac s m).px (by omega) (by omega) W);have HY2:=hid (fun W=>Tm (Ac s k).py (Ac s m).py (by omega) (by omega) W)
 have w1:IntKind.i64.wrap ((m:Int) - 1)=(k:Int):=by rw [(iW _)];omega
 have i0:(0:Int)<=(k:Int):=by omega
 have i1:(k:Int)<(s.sno.n:Int):=by omega
 have i2:(0:Int)<=(m:Int):=by omega
 have i3:(m:Int)<(s.sno.n:Int):=by omega
 have j1:(k:Int)<(n:Int):=by omega
 have j2:(m:Int)<(n:Int):=by omega
 have j3:(k:Int)<(n':Int):=by omega
 have j4:(m:Int)<(n':Int):=by omega
 clear hl hok G N hno g1 g2 hA hm hk hmx hF ha hb la lb hn1 hn2 hak ham hsk hsm x1 x2 y1 y2 hlv;generalize lgc (lgV s al sp k) (gAt s.gr (elD s.gr) (lgX s k) (lgY s k) (lgA al k)) (suH s k)=LV at *;generalize coV (Ac s k).px (Ac s k).py (Ac s m).px (Ac s m).py=CO at *;generalize coE (Ac s k).px (Ac s k).py (Ac s m).px (Ac s m).py=CE at *;generalize gAt s.gr (elE s.gr) (((Ac s k).px+(Ac s m).px) / 2) (((Ac s k).py+(Ac s m).py) / 2) ((al.getD k 0+al.getD m 0) / 2)=WE at *;generalize gAt s.gr (elN s.gr) (((Ac s k).px+(Ac s m).px) / 2) (((Ac s k).py+(Ac s m).py) / 2) ((al.getD k 0+al.getD m 0) / 2)=WN at *;generalize gAt s.gr (elD s.gr) (((Ac s k).px+(Ac s m).px) / 2) (((Ac s k).py+(Ac s m).py) / 2) ((al.getD k 0+al.getD m 0) / 2)=WD at *;generalize suH s k=HU at *;generalize (Ac s k).px=pk at *;generalize (Ac s m).px=pm at *;generalize (Ac s k).py=yk at *;generalize (Ac s m).py=ym at *;generalize al.getD k 0=ak at *;generalize al.getD m 0=am at *;generalize sp.getD k 0=sk at *;generalize sp.getD m 0=sm at *
 generalize hPV:(if ak<am then (1:Int) else if am<ak then 3 else 2)=PV at *
 have HPV:=hid hPV;clear hPV;replace FA:=FA.out
 go_enter Tryz.func26,Tryz.ntmps26
 go_wp2_with fail
 refine rS (fun W=>BoxS w 2 (lgZ s) W) 17 HS.out.drew (fun hHeld=>?_)
 generalize hW0:World.drew _=w2 at *;clear hW0 HS
 repeat (first | refine rQ ?_ | refine rF ?_)
 refine Be ?_
 intro OPS QQ A0 SS hO hQ hA hSS
 have TAIL:Hid (∀ (H9 H10:Nat) (W:World),Has W H9 (lz2 0 0)→Has W H10 (lz2 0 0)→w.heap.size+2<=H9→w.heap.size+2<=H10→H9≠H10→BoxS w 2 (lgZ s) W→wpAnyH Tryz.prog .any OPS QQ (fun W=>BoxS w 2 (lgZ s) W) 2 #[b1,b1,b1,b1,b1,b1,b1,b1,b1,b1,b1,b1,b1,b1,b1,b0,b0] ((A0.put (some 9) (.pointer (some ⟨H9,0,none⟩))).put (some 10) (.pointer (some ⟨H10,0,none⟩))) W):=by
  subst hO hQ hA hSS
  refine hid ?_
  intro H9 H10 W q9 q10 r9 r10 n910 hHeld
  (try simp only [Act.put,pa,pb,pc])
  have f0:=q9.fr;have c0:=q9.cell 0 _ rfl;have c1:=q9.cell 1 _ rfl
  refine rEk ?_
  intro K hK
  refine rEt hK ((hHeld.set H9 0 r9 (vI pk)).set H9 1 r9 (vI yk)) ?_
  clear hK K hHeld f0 c0 c1
  intro hHeld
  replace q9:=((q9.set 0 (vI pk) (by simp)).set 1 (vI yk) (by simp));replace q10:=((q10.other H9 0 (vI pk) n910.symm).other H9 1 (vI yk) n910.symm);generalize ((W.setCell ⟨H9,0,none⟩ (vI pk)).setCell ⟨H9,1,none⟩ (vI yk))=W1 at *;have f0:=q10.fr;have c0:=q10.cell 0 _ rfl;have c1:=q10.cell 1 _ rfl
  refine rEk ?_
  intro K hK
  refine rEt hK ((hHeld.set H10 0 r10 (vI pm)).set H10 1 r10 (vI ym)) ?_
  clear hK K hHeld f0 c0 c1
  intro hHeld
  replace q10:=((q10.set 0 (vI pm) (by simp)).set 1 (vI ym) (by simp));replace q9:=((q9.other H10 0 (vI pm) n910).other H10 1 (vI ym) n910);generalize ((W1.setCell ⟨H10,0,none⟩ (vI pm)).setCell ⟨H10,1,none⟩ (vI ym))=W2 at *
  refine rD ?_
  go_wp2_with fail
  refine rS (fun W=>BoxS w 2 (lgZ s) W) 23 hHeld.drew (fun hHeld=>?_)
  replace q9:=q9.drew;replace q10:=q10.drew;generalize hW0:World.drew _=w3 at *;clear hW0
  repeat (first | refine rQ ?_ | refine rF ?_)
  have CA:=hid (fun W (h:BoxS w 2 (lgZ s) W)=>EZ (HA2.out W));have CB:=hid (fun W (h:BoxS w 2 (lgZ s) W)=>EZ (HB2.out W));have qa:=q9;have qb:=q10;clear q9 q10
  refine Be ?_
  intro OPS QQ A0 SS hO hQ hA hSS
  have TAIL:Hid (∀ (H11:Nat) (W:World),Has W H9 (lz2 pk yk)→Has W H10 (lz2 pm ym)→Has W H11 (lzp 0 0 0 0 0 0 0 0 0 0 0 0 0)→w.heap.size+2<=H11→H9≠H11→H10≠H11→BoxS w 2 (lgZ s) W→wpAnyH Tryz.prog .any OPS QQ (fun W=>BoxS w 2 (lgZ s) W) 1 #[b1,b1,b1,b1,b1,b1,b1,b1,b1,b1,b1,b1,b1,b1,b1,b1,b1,b1,b1,b1,b1,b1,b0] ((((A0.put (some 36) (vI ((ak+am) / 2))).put (some 46) (vI ((sk+sm) / 2))).put (some 47) (.agg #[vI 0,vI ((ak+am) / 2),vI ((sk+sm) / 2),vI 0,vI 0,vI 0,vI 0,vI 0,vI 0,vI 0,vI 0,vI 0,.int .u8 2])).put (some 11) (.pointer (some ⟨H11,0,none⟩))) W):=by
   subst hO hQ hA hSS
   refine hid ?_
   intro H11 W q9 q10 q11 r11 n911 n1011 hHeld
   (try simp only [Act.put,pa,pb,pc])
   have f0:=q11.fr;have c0:=q11.cell 0 _ rfl;have c1:=q11.cell 1 _ rfl;have c2:=q11.cell 2 _ rfl;have c3:=q11.cell 3 _ rfl;have c4:=q11.cell 4 _ rfl;have c5:=q11.cell 5 _ rfl;have c6:=q11.cell 6 _ rfl;have c7:=q11.cell 7 _ rfl;have c8:=q11.cell 8 _ rfl;have c9:=q11.cell 9 _ rfl;have c10:=q11.cell 10 _ rfl;have c11:=q11.cell 11 _ rfl;have c12:=q11.cell 12 _ rfl
   refine rEk ?_
   intro K hK
   refine rEt hK (((((((((((((hHeld.set H11 0 r11 (vI 0)).set H11 1 r11 (vI ((ak+am) / 2))).set H11 2 r11 (vI ((sk+sm) / 2))).set H11 3 r11 (vI 0)).set H11 4 r11 (vI 0)).set H11 5 r11 (vI 0)).set H11 6 r11 (vI 0)).set H11 7 r11 (vI 0)).set H11 8 r11 (vI 0)).set H11 9 r11 (vI 0)).set H11 10 r11 (vI 0)).set H11 11 r11 (vI 0)).set H11 12 r11 (.int .u8 2)) ?_
   clear hK K hHeld f0 c0 c1 c2 c3 c4 c5 c6 c7 c8 c9 c10 c11 c12
   intro hHeld
   replace q11:=(((((((((((((q11.set 0 (vI 0) (by simp)).set 1 (vI ((ak+am) / 2)) (by simp)).set 2 (vI ((sk+sm) / 2)) (by simp)).set 3 (vI 0) (by simp)).set 4 (vI 0) (by simp)).set 5 (vI 0) (by simp)).set 6 (vI 0) (by simp)).set 7 (vI 0) (by simp)).set 8 (vI 0) (by simp)).set 9 (vI 0) (by simp)).set 10 (vI 0) (by simp)).set 11 (vI 0) (by simp)).set 12 (.int .u8 2) (by simp));replace q9:=(((((((((((((q9.other H11 0 (vI 0) n911).other H11 1 (vI ((ak+am) / 2)) n911).other H11 2 (vI ((sk+sm) / 2)) n911).other H11 3 (vI 0) n911).other H11 4 (vI 0) n911).other H11 5 (vI 0) n911).other H11 6 (vI 0) n911).other H11 7 (vI 0) n911).other H11 8 (vI 0) n911).other H11 9 (vI 0) n911).other H11 10 (vI 0) n911).other H11 11 (vI 0) n911).other H11 12 (.int .u8 2) n911);replace q10:=(((((((((((((q10.other H11 0 (vI 0) n1011).other H11 1 (vI ((ak+am) / 2)) n1011).other H11 2 (vI ((sk+sm) / 2)) n1011).other H11 3 (vI 0) n1011).other H11 4 (vI 0) n1011).other H11 5 (vI 0) n1011).other H11 6 (vI 0) n1011).other H11 7 (vI 0) n1011).other H11 8 (vI 0) n1011).other H11 9 (vI 0) n1011).other H11 10 (vI 0) n1011).other H11 11 (vI 0) n1011).other H11 12 (.int .u8 2) n1011);generalize (((((((((((((W.setCell ⟨H11,0,none⟩ (vI 0)).setCell ⟨H11,1,none⟩ (vI ((ak+am) / 2))).setCell ⟨H11,2,none⟩ (vI ((sk+sm) / 2))).setCell ⟨H11,3,none⟩ (vI 0)).setCell ⟨H11,4,none⟩ (vI 0)).setCell ⟨H11,5,none⟩ (vI 0)).setCell ⟨H11,6,none⟩ (vI 0)).setCell ⟨H11,7,none⟩ (vI 0)).setCell ⟨H11,8,none⟩ (vI 0)).setCell ⟨H11,9,none⟩ (vI 0)).setCell ⟨H11,10,none⟩ (vI 0)).setCell ⟨H11,11,none⟩ (vI 0)).setCell ⟨H11,12,none⟩ (.int .u8 2))=W4 at *
   refine rD ?_
   go_upto_region 3 with fail
   have a0:=q9.cell 0 _ rfl;have a1:=q9.cell 1 _ rfl;have a2:=q10.cell 0 _ rfl;have a3:=q10.cell 1 _ rfl
   go_wp2_with fail
   refine (HCO.out _).mono ?_;rintro e' W5 ⟨rfl,hB⟩
   replace hHeld:=hHeld.below hB;replace q9:=q9.below hB;replace q10:=q10.below hB;replace q11:=q11.below hB;clear a0 a1 a2 a3 hB
   by_cases hce:CE=0
   ·have e1:(CE == 0)=true:=by rw [hce];rfl
    have f0:=q11.fr;have c0:=q11.cell 0 _ rfl
    go_upto_region 6 with fail
    replace q11:=(show Has _ H11 (lzp CO ((ak+am) / 2) ((sk+sm) / 2) 0 0 0 0 0 0 0 0 0 2) from q11.set 0 (vI CO) (by simp));replace q9:=q9.other H11 0 (vI CO) n911;replace q10:=q10.other H11 0 (vI CO) n1011;replace hHeld:=hHeld.set H11 0 r11 (vI CO);clear f0 c0;generalize W5.setCell ⟨H11,0,none⟩ (vI CO)=W6 at *
    exact leZ
   ·have e1:(CE == 0)=false:=by simpa using hce
    have hco:=HC0.out hce;replace q11:=(show Has _ H11 (lzp CO ((ak+am) / 2) ((sk+sm) / 2) 0 0 0 0 0 0 0 0 0 2) from by rw [hco];exact q11);clear hco
    go_upto_region 6 with fail
    generalize W5=W6 at *
    exact leZ
  subst hO hQ hA hSS
  (try simp only [Act.put,pa,pb,pc] at TAIL)
  exact mR
 subst hO hQ hA hSS
 (try simp only [Act.put,pa,pb,pc] at TAIL)
 exact mR
