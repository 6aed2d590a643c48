
/- Layer 37: the examples hold. -/
import Derived.Test.YtheepmnhpclimaaGreatM16
import Derived.Test.YtheepmnhpclimaaGreatExE
import Derived.Test.YtheepmnhpclimaaGreatM20
import Derived.RegionTactic
set_option linter.unusedSimpArgs false
set_option linter.unusedVariables false
set_option maxRecDepth 100000
set_option maxHeartbeats 8000000
namespace Go.Proofs.YtheepmnhpclimaaGreat
open Go.RowKit
open Go.Lib (hid)
theorem awake37 (w:World):Calls Tryz.prog 10 #[] w fun e w'=>e=.returned (.bool true)∧Below w.heap.size w w':=by
 have HB0:=hid (Below.refl w.heap.size w)
 go_enter Tryz.func10,Tryz.ntmps10
 go_wp2_with fail
 refine (xExample 0 _).mono ?_;rintro e' w1 ⟨Ha,rfl,hla,hB⟩
 have HBa:=hid (bel_trans HB0.out hB);have HRa:=hid (run_ok hla (ex_ok Ha 0 0) (ex_run0 Ha).1 (l:=[⟨0,300,300,0,0,900000,0,0,0,0,900000,900000,0⟩,⟨0,300,300,300,200,500000,300,300,200,200,500000,500000,2⟩]) (ex_run0 Ha).2 rfl);have HWa:=hid hB;clear hB hla
 go_wp2_with fail
 refine HRa.out.mono ?_;rintro e' w2 ⟨A1,c1,rfl,hP1,-,hB⟩
 have HB1:=hid (bel_trans HBa.out hB);obtain ⟨y1,o1,rfl,hb1,hc1⟩:=hP1.cells (by decide);have HC1:=hid (fun W (h:Below w2.heap.size w2 W) j u hj=>(h.cell (p:=⟨y1,o1+1 * 13+j,none⟩) hb1).trans (hc1 1 ⟨0,300,300,300,200,500000,300,300,200,200,500000,500000,2⟩ rfl j u hj));clear hB HBa HRa hP1 hc1 HB0;have Q1:Hid (Has (w2.alloc (.cells #[.slice (some ⟨y1,o1,none⟩) 2 c1,vI 0,vI 0,.bool false] 57)) w2.heap.size [.slice (some ⟨y1,o1,none⟩) 2 c1,vI 0,vI 0,.bool false]):=hid (Has.new _ _ _);have HB2:=hid (bel_alloc1 HB1.out (.cells #[.slice (some ⟨y1,o1,none⟩) 2 c1,vI 0,vI 0,.bool false] 57));have HX1:=hid (below_alloc1 w2 (.cells #[.slice (some ⟨y1,o1,none⟩) 2 c1,vI 0,vI 0,.bool false] 57))
 go_wp2_with fail
 generalize w2.alloc (.cells #[.slice (some ⟨y1,o1,none⟩) 2 c1,vI 0,vI 0,.bool false] 57)=w3 at *
 refine (xExample 30 _).mono ?_;rintro e' w4 ⟨Hb,rfl,hlb,hB⟩
 have HBb:=hid (bel_trans HB2.out hB);have HRb:=hid (run_ok hlb (ex_ok Hb 0 30) (ex_run30 Hb).1 (l:=[⟨0,300,300,0,0,900000,0,0,0,0,900000,900000,0⟩,⟨0,300,300,300,200,500000,268,330,182,224,452000,536000,2⟩]) (ex_run30 Hb).2 rfl);have HWb:=hid hB;clear hB hlb;have Q1':=hid (Q1.out.below HWb.out);have HX1':=hid (HX1.out.trans (HWb.out.mono HX1.out.size));clear Q1 HX1 HWa HWb HB2
 go_wp2_with fail
 refine HRb.out.mono ?_;rintro e' w5 ⟨A2,c2,rfl,hP2,-,hB⟩
 have HB3:=hid (bel_trans HBb.out hB);obtain ⟨y2,o2,rfl,hb2,hc2⟩:=hP2.cells (by decide);have HC2:=hid (fun W (h:Below w5.heap.size w5 W) j u hj=>(h.cell (p:=⟨y2,o2+1 * 13+j,none⟩) hb2).trans (hc2 1 ⟨0,300,300,300,200,500000,268,330,182,224,452000,536000,2⟩ rfl j u hj));have Q1:=hid (Q1'.out.below hB);have HX1:=hid (HX1'.out.trans (hB.mono HX1'.out.size));have HX1w:=hid (fun W (h:Below w5.heap.size w5 W) j u hj=>HC1.out W (HX1.out.trans (h.mono HX1.out.size)) j u hj);clear hB HBb HRb hP2 hc2 HB1 Q1' HX1' HC1;have Q3:Hid (Has (w5.alloc (.cells #[.slice (some ⟨y2,o2,none⟩) 2 c2,vI 0,vI 0,.bool false] 57)) w5.heap.size [.slice (some ⟨y2,o2,none⟩) 2 c2,vI 0,vI 0,.bool false]):=hid (Has.new _ _ _);have HB4:=hid (bel_alloc1 HB3.out (.cells #[.slice (some ⟨y2,o2,none⟩) 2 c2,vI 0,vI 0,.bool false] 57));have HX3:=hid (below_alloc1 w5 (.cells #[.slice (some ⟨y2,o2,none⟩) 2 c2,vI 0,vI 0,.bool false] 57));replace Q1:=hid (Q1.out.alloc (.cells #[.slice (some ⟨y2,o2,none⟩) 2 c2,vI 0,vI 0,.bool false] 57));have k1:=Q1.out.cell 0 _ rfl
 go_wp2_with fail
 clear k1;generalize w5.alloc (.cells #[.slice (some ⟨y2,o2,none⟩) 2 c2,vI 0,vI 0,.bool false] 57)=w6 at *;generalize w2.heap.size=G1 at *;generalize hG3:w5.heap.size=G3 at *
 refine rS (fun W=>Below w6.heap.size w6 W) 12 ((Below.refl _ _).drew) (fun hHeld=>?_)
 have HQ1:=hid (fun W (h:Below w6.heap.size w6 W)=>(Q1.out.below h).cell 0 _ rfl);have HQ3:=hid (fun W (h:Below w6.heap.size w6 W)=>(Q3.out.below h).cell 0 _ rfl);have HY1:=hid (fun W (h:Below w6.heap.size w6 W) j u hj=>HX1w.out W (HX3.out.trans (h.mono (hG3 ▸ HX3.out.size))) j u hj);have HY2:=hid (fun W (h:Below w6.heap.size w6 W) j u hj=>HC2.out W (HX3.out.trans (h.mono (hG3 ▸ HX3.out.size))) j u hj)
 refine rQ ?_
 refine rT (fun W hW=>HQ1.out W hW) ?_
 refine rQ ?_
 refine rT (fun W hW=>And.intro (show W.cell? ⟨y1,o1+13,none⟩=some (vI 0) from HY1.out W hW 0 (vI 0) rfl) (And.intro (show W.cell? ⟨y1,o1+13+1,none⟩=some (vI 300) from HY1.out W hW 1 (vI 300) rfl) (And.intro (show W.cell? ⟨y1,o1+13+2,none⟩=some (vI 300) from HY1.out W hW 2 (vI 300) rfl) (And.intro (show W.cell? ⟨y1,o1+13+3,none⟩=some (vI 300) from HY1.out W hW 3 (vI 300) rfl) (And.intro (show W.cell? ⟨y1,o1+13+4,none⟩=some (vI 200) from HY1.out W hW 4 (vI 200) rfl) (And.intro (show W.cell? ⟨y1,o1+13+5,none⟩=some (vI 500000) from HY1.out W hW 5 (vI 500000) rfl) (And.intro (show W.cell? ⟨y1,o1+13+6,none⟩=some (vI 300) from HY1.out W hW 6 (vI 300) rfl) (And.intro (show W.cell? ⟨y1,o1+13+7,none⟩=some (vI 300) from HY1.out W hW 7 (vI 300) rfl) (And.intro (show W.cell? ⟨y1,o1+13+8,none⟩=some (vI 200) from HY1.out W hW 8 (vI 200) rfl) (And.intro (show W.cell? ⟨y1,o1+13+9,none⟩=some (vI 200) from HY1.out W hW 9 (vI 200) rfl) (And.intro (show W.cell? ⟨y1,o1+13+10,none⟩=some (vI 500000) from HY1.out W hW 10 (vI 500000) rfl) (And.intro (show W.cell? ⟨y1,o1+13+11,none⟩=some (vI 500000) from HY1.out W hW 11 (vI 500000) rfl) (show W.cell? ⟨y1,o1+13+12,none⟩=some (.int .u8 2) from HY1.out W hW 12 (.int .u8 2) rfl))))))))))))) ?_
 refine rQ ?_
 refine rT (fun W hW=>HQ3.out W hW) ?_
 refine rQ ?_
 refine rT (fun W hW=>And.intro (show W.cell? ⟨y2,o2+13,none⟩=some (vI 0) from HY2.out W hW 0 (vI 0) rfl) (And.intro (show W.cell? ⟨y2,o2+13+1,none⟩=some (vI 300) from HY2.out W hW 1 (vI 300) rfl) (And.intro (show W.cell? ⟨y2,o2+13+2,none⟩=some (vI 300) from HY2.out W hW 2 (vI 300) rfl) (And.intro (show W.cell? ⟨y2,o2+13+3,none⟩=some (vI 300) from HY2.out W hW 3 (vI 300) rfl) (And.intro (show W.cell? ⟨y2,o2+13+4,none⟩=some (vI 200) from HY2.out W hW 4 (vI 200) rfl) (And.intro (show W.cell? ⟨y2,o2+13+5,none⟩=some (vI 500000) from HY2.out W hW 5 (vI 500000) rfl) (And.intro (show W.cell? ⟨y2,o2+13+6,none⟩=some (vI 268) from HY2.out W hW 6 (vI 268) rfl) (And.intro (show W.cell? ⟨y2,o2+13+7,none⟩=some (vI 330) from HY2.out W hW 7 (vI 330) rfl) (And.intro (show W.cell? ⟨y2,o2+13+8,none⟩=some (vI 182) from HY2.out W hW 8 (vI 182) rfl) (And.intro (show W.cell? ⟨y2,o2+13+9,none⟩=some (vI 224) from HY2.out W hW 9 (vI 224) rfl) (And.intro (show W.cell? ⟨y2,o2+13+10,none⟩=some (vI 452000) from HY2.out W hW 10 (vI 452000) rfl) (And.intro (show W.cell? ⟨y2,o2+13+11,none⟩=some (vI 536000) from HY2.out W hW 11 (vI 536000) rfl) (show W.cell? ⟨y2,o2+13+12,none⟩=some (.int .u8 2) from HY2.out W hW 12 (.int .u8 2) rfl))))))))))))) ?_
 refine held_nameS ?_
 intro OPS QQ A0 SS hO hQ hA hSS
 have st_8_9:Hid (∀ (H5 H6:Nat) (W:World) (qH5:Has W H5 (lzp 0 0 0 0 0 0 0 0 0 0 0 0 0)) (rH5:w6.heap.size+0<=H5) (qH6:Has W H6 (lzp 0 0 0 0 0 0 0 0 0 0 0 0 0)) (rH6:w6.heap.size+0<=H6) (nH5H6:H5≠H6),SS W→wpAnyH Tryz.prog .any OPS QQ SS 2 #[b1,b1,b1,b1,b1,b1,b1,b1,b1,b1,b0,b0] ((A0.put (some 5) (.pointer (some ⟨H5,0,none⟩))).put (some 6) (.pointer (some ⟨H6,0,none⟩))) W):=by
  subst hO hQ hA hSS
  refine hid ?_
  intro H5 H6 W qH5 rH5 qH6 rH6 nH5H6 hHeld
  (try simp only [Act.put,pa,pb,pc])
  have fz:=qH5.fr;have cz0:=qH5.cell 0 _ rfl;have cz1:=qH5.cell 1 _ rfl;have cz2:=qH5.cell 2 _ rfl;have cz3:=qH5.cell 3 _ rfl;have cz4:=qH5.cell 4 _ rfl;have cz5:=qH5.cell 5 _ rfl;have cz6:=qH5.cell 6 _ rfl;have cz7:=qH5.cell 7 _ rfl;have cz8:=qH5.cell 8 _ rfl;have cz9:=qH5.cell 9 _ rfl;have cz10:=qH5.cell 10 _ rfl;have cz11:=qH5.cell 11 _ rfl;have cz12:=qH5.cell 12 _ rfl
  refine rEk ?_
  intro K hK
  have hs0:=hHeld;have hs1:=(below_set hs0 H5 0 rH5 (vI 0));have hs2:=(below_set hs1 H5 1 rH5 (vI 300));have hs3:=(below_set hs2 H5 2 rH5 (vI 300));have hs4:=(below_set hs3 H5 3 rH5 (vI 300));have hs5:=(below_set hs4 H5 4 rH5 (vI 200));have hs6:=(below_set hs5 H5 5 rH5 (vI 500000));have hs7:=(below_set hs6 H5 6 rH5 (vI 300));have hs8:=(below_set hs7 H5 7 rH5 (vI 300));have hs9:=(below_set hs8 H5 8 rH5 (vI 200));have hs10:=(below_set hs9 H5 9 rH5 (vI 200));have hs11:=(below_set hs10 H5 10 rH5 (vI 500000));have hs12:=(below_set hs11 H5 11 rH5 (vI 500000));have hs13:=(below_set hs12 H5 12 rH5 (.int .u8 2));have hNew:=hs13;have pH5:Has (((((((((((((W.setCell ⟨H5,0,none⟩ (vI 0)).setCell ⟨H5,1,none⟩ (vI 300)).setCell ⟨H5,2,none⟩ (vI 300)).setCell ⟨H5,3,none⟩ (vI 300)).setCell ⟨H5,4,none⟩ (vI 200)).setCell ⟨H5,5,none⟩ (vI 500000)).setCell ⟨H5,6,none⟩ (vI 300)).setCell ⟨H5,7,none⟩ (vI 300)).setCell ⟨H5,8,none⟩ (vI 200)).setCell ⟨H5,9,none⟩ (vI 200)).setCell ⟨H5,10,none⟩ (vI 500000)).setCell ⟨H5,11,none⟩ (vI 500000)).setCell ⟨H5,12,none⟩ (.int .u8 2)) H5 (lzp 0 300 300 300 200 500000 300 300 200 200 500000 500000 2):=(((((((((((((qH5.set 0 (vI 0) (by simp)).set 1 (vI 300) (by simp)).set 2 (vI 300) (by simp)).set 3 (vI 300) (by simp)).set 4 (vI 200) (by simp)).set 5 (vI 500000) (by simp)).set 6 (vI 300) (by simp)).set 7 (vI 300) (by simp)).set 8 (vI 200) (by simp)).set 9 (vI 200) (by simp)).set 10 (vI 500000) (by simp)).set 11 (vI 500000) (by simp)).set 12 (.int .u8 2) (by simp));have pH6:=(((((((((((((qH6.other H5 0 (vI 0) (by omega)).other H5 1 (vI 300) (by omega)).other H5 2 (vI 300) (by omega)).other H5 3 (vI 300) (by omega)).other H5 4 (vI 200) (by omega)).other H5 5 (vI 500000) (by omega)).other H5 6 (vI 300) (by omega)).other H5 7 (vI 300) (by omega)).other H5 8 (vI 200) (by omega)).other H5 9 (vI 200) (by omega)).other H5 10 (vI 500000) (by omega)).other H5 11 (vI 500000) (by omega)).other H5 12 (.int .u8 2) (by omega))
  refine rEt hK hNew ?_
  clear hK K hNew fz hs0 hs1 hs2 hs3 hs4 hs5 hs6 hs7 hs8 hs9 hs10 hs11 hs12 hs13 cz0 cz1 cz2 cz3 cz4 cz5 cz6 cz7 cz8 cz9 cz10 cz11 cz12 qH5 qH6 hHeld
  intro hHeld
  have qH5:=pH5;have qH6:=pH6;clear pH5 pH6;generalize (((((((((((((W.setCell ⟨H5,0,none⟩ (vI 0)).setCell ⟨H5,1,none⟩ (vI 300)).setCell ⟨H5,2,none⟩ (vI 300)).setCell ⟨H5,3,none⟩ (vI 300)).setCell ⟨H5,4,none⟩ (vI 200)).setCell ⟨H5,5,none⟩ (vI 500000)).setCell ⟨H5,6,none⟩ (vI 300)).setCell ⟨H5,7,none⟩ (vI 300)).setCell ⟨H5,8,none⟩ (vI 200)).setCell ⟨H5,9,none⟩ (vI 200)).setCell ⟨H5,10,none⟩ (vI 500000)).setCell ⟨H5,11,none⟩ (vI 500000)).setCell ⟨H5,12,none⟩ (.int .u8 2))=W1 at *;have fz:=qH6.fr;have cz0:=qH6.cell 0 _ rfl;have cz1:=qH6.cell 1 _ rfl;have cz2:=qH6.cell 2 _ rfl;have cz3:=qH6.cell 3 _ rfl;have cz4:=qH6.cell 4 _ rfl;have cz5:=qH6.cell 5 _ rfl;have cz6:=qH6.cell 6 _ rfl;have cz7:=qH6.cell 7 _ rfl;have cz8:=qH6.cell 8 _ rfl;have cz9:=qH6.cell 9 _ rfl;have cz10:=qH6.cell 10 _ rfl;have cz11:=qH6.cell 11 _ rfl;have cz12:=qH6.cell 12 _ rfl
  refine rEk ?_
  intro K hK
  have hs0:=hHeld;have hs1:=(below_set hs0 H6 0 rH6 (vI 0));have hs2:=(below_set hs1 H6 1 rH6 (vI 300));have hs3:=(below_set hs2 H6 2 rH6 (vI 300));have hs4:=(below_set hs3 H6 3 rH6 (vI 300));have hs5:=(below_set hs4 H6 4 rH6 (vI 200));have hs6:=(below_set hs5 H6 5 rH6 (vI 500000));have hs7:=(below_set hs6 H6 6 rH6 (vI 268));have hs8:=(below_set hs7 H6 7 rH6 (vI 330));have hs9:=(below_set hs8 H6 8 rH6 (vI 182));have hs10:=(below_set hs9 H6 9 rH6 (vI 224));have hs11:=(below_set hs10 H6 10 rH6 (vI 452000));have hs12:=(below_set hs11 H6 11 rH6 (vI 536000));have hs13:=(below_set hs12 H6 12 rH6 (.int .u8 2));have hNew:=hs13;have pH5:=(((((((((((((qH5.other H6 0 (vI 0) (by omega)).other H6 1 (vI 300) (by omega)).other H6 2 (vI 300) (by omega)).other H6 3 (vI 300) (by omega)).other H6 4 (vI 200) (by omega)).other H6 5 (vI 500000) (by omega)).other H6 6 (vI 268) (by omega)).other H6 7 (vI 330) (by omega)).other H6 8 (vI 182) (by omega)).other H6 9 (vI 224) (by omega)).other H6 10 (vI 452000) (by omega)).other H6 11 (vI 536000) (by omega)).other H6 12 (.int .u8 2) (by omega));have pH6:Has (((((((((((((W1.setCell ⟨H6,0,none⟩ (vI 0)).setCell ⟨H6,1,none⟩ (vI 300)).setCell ⟨H6,2,none⟩ (vI 300)).setCell ⟨H6,3,none⟩ (vI 300)).setCell ⟨H6,4,none⟩ (vI 200)).setCell ⟨H6,5,none⟩ (vI 500000)).setCell ⟨H6,6,none⟩ (vI 268)).setCell ⟨H6,7,none⟩ (vI 330)).setCell ⟨H6,8,none⟩ (vI 182)).setCell ⟨H6,9,none⟩ (vI 224)).setCell ⟨H6,10,none⟩ (vI 452000)).setCell ⟨H6,11,none⟩ (vI 536000)).setCell ⟨H6,12,none⟩ (.int .u8 2)) H6 (lzp 0 300 300 300 200 500000 268 330 182 224 452000 536000 2):=(((((((((((((qH6.set 0 (vI 0) (by simp)).set 1 (vI 300) (by simp)).set 2 (vI 300) (by simp)).set 3 (vI 300) (by simp)).set 4 (vI 200) (by simp)).set 5 (vI 500000) (by simp)).set 6 (vI 268) (by simp)).set 7 (vI 330) (by simp)).set 8 (vI 182) (by simp)).set 9 (vI 224) (by simp)).set 10 (vI 452000) (by simp)).set 11 (vI 536000) (by simp)).set 12 (.int .u8 2) (by simp))
  refine rEt hK hNew ?_
  clear hK K hNew fz hs0 hs1 hs2 hs3 hs4 hs5 hs6 hs7 hs8 hs9 hs10 hs11 hs12 hs13 cz0 cz1 cz2 cz3 cz4 cz5 cz6 cz7 cz8 cz9 cz10 cz11 cz12 qH5 qH6 hHeld
  intro hHeld
  have qH5:=pH5;have qH6:=pH6;clear pH5 pH6;generalize (((((((((((((W1.setCell ⟨H6,0,none⟩ (vI 0)).setCell ⟨H6,1,none⟩ (vI 300)).setCell ⟨H6,2,none⟩ (vI 300)).setCell ⟨H6,3,none⟩ (vI 300)).setCell ⟨H6,4,none⟩ (vI 200)).setCell ⟨H6,5,none⟩ (vI 500000)).setCell ⟨H6,6,none⟩ (vI 268)).setCell ⟨H6,7,none⟩ (vI 330)).setCell ⟨H6,8,none⟩ (vI 182)).setCell ⟨H6,9,none⟩ (vI 224)).setCell ⟨H6,10,none⟩ (vI 452000)).setCell ⟨H6,11,none⟩ (vI 536000)).setCell ⟨H6,12,none⟩ (.int .u8 2))=W2 at *
  refine rD ?_
  have c0:=qH5.cell 0 (vI 0) rfl;have c1:=qH5.cell 1 (vI 300) rfl;have c2:=qH5.cell 2 (vI 300) rfl;have c3:=qH5.cell 3 (vI 300) rfl;have c4:=qH5.cell 4 (vI 200) rfl;have c5:=qH5.cell 5 (vI 500000) rfl;have c6:=qH5.cell 6 (vI 300) rfl;have c7:=qH5.cell 7 (vI 300) rfl;have c8:=qH5.cell 8 (vI 200) rfl;have c9:=qH5.cell 9 (vI 200) rfl;have c10:=qH5.cell 10 (vI 500000) rfl;have c11:=qH5.cell 11 (vI 500000) rfl;have c12:=qH5.cell 12 (.int .u8 2) rfl;have d0:=qH6.cell 0 (vI 0) rfl;have d1:=qH6.cell 1 (vI 300) rfl;have d2:=qH6.cell 2 (vI 300) rfl;have d3:=qH6.cell 3 (vI 300) rfl;have d4:=qH6.cell 4 (vI 200) rfl;have d5:=qH6.cell 5 (vI 500000) rfl;have d6:=qH6.cell 6 (vI 268) rfl;have d7:=qH6.cell 7 (vI 330) rfl;have d8:=qH6.cell 8 (vI 182) rfl;have d9:=qH6.cell 9 (vI 224) rfl;have d10:=qH6.cell 10 (vI 452000) rfl;have d11:=qH6.cell 11 (vI 536000) rfl;have d12:=qH6.cell 12 (.int .u8 2) rfl;have HBE:=hid (HB4.out.trans (hHeld.mono HB4.out.size));clear qH5 qH6 hHeld
  go_wp2_with fail
  go_ret
  exact ⟨rfl,HBE.out⟩
 have st_8:Hid (∀ (H5:Nat) (W:World) (qH5:Has W H5 (lzp 0 0 0 0 0 0 0 0 0 0 0 0 0)) (rH5:w6.heap.size+0<=H5),SS W→wpAnyH Tryz.prog .any OPS QQ SS 3 #[b1,b1,b1,b1,b1,b1,b1,b1,b1,b0,b0,b0] (A0.put (some 5) (.pointer (some ⟨H5,0,none⟩))) W):=by
  subst hO hQ hA hSS
  refine hid ?_
  intro H5 W qH5 rH5 hHeld
  (try simp only [Act.put,pa,pb,pc])
  refine wpAnyH_ready (rs:=[9]) (by kernel_rfl) (by simp) ?_
  refine aD rfl (fun K hK=>mA st_8_9.out) ?_
  exact AllReadyH.nil
 have st_9:Hid (∀ (H6:Nat) (W:World) (qH6:Has W H6 (lzp 0 0 0 0 0 0 0 0 0 0 0 0 0)) (rH6:w6.heap.size+0<=H6),SS W→wpAnyH Tryz.prog .any OPS QQ SS 3 #[b1,b1,b1,b1,b1,b1,b1,b1,b0,b1,b0,b0] (A0.put (some 6) (.pointer (some ⟨H6,0,none⟩))) W):=by
  subst hO hQ hA hSS
  refine hid ?_
  intro H6 W qH6 rH6 hHeld
  (try simp only [Act.put,pa,pb,pc])
  refine wpAnyH_ready (rs:=[8]) (by kernel_rfl) (by simp) ?_
  refine aD rfl (fun K hK=>mA st_8_9.out) ?_
  exact AllReadyH.nil
 have st:Hid (∀ (W:World),SS W→wpAnyH Tryz.prog .any OPS QQ SS 4 #[b1,b1,b1,b1,b1,b1,b1,b1,b0,b0,b0,b0] A0 W):=by
  subst hO hQ hA hSS
  refine hid ?_
  intro W hHeld
  (try simp only [Act.put,pa,pb,pc])
  refine wpAnyH_ready (rs:=[8,9]) (by kernel_rfl) (by simp) ?_
  refine aD rfl (fun K hK=>mA st_8.out) ?_
  refine aD rfl (fun K hK=>mA st_9.out) ?_
  exact AllReadyH.nil
 subst hO hQ hA hSS
 exact st.out _  hHeld
end Go.Proofs.YtheepmnhpclimaaGreat
