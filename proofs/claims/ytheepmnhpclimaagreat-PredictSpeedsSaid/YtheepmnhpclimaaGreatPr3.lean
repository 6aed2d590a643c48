
/- Layer 37: predictions, the program's functions: what the forecast allows on a leg. -/
import Derived.Test.YtheepmnhpclimaaGreatPr1
import Derived.Test.YtheepmnhpclimaaGreatGd5
import Derived.Test.YtheepmnhpclimaaGreatM6
import Derived.Test.YtheepmnhpclimaaGreatM1
import Derived.RegionTactic
import Derived.Test.YtheepmnhpclimaaGreatM37
namespace Go.Proofs.YtheepmnhpclimaaGreat
set_option maxRecDepth 100000
set_option maxHeartbeats 8000000
set_option linter.unusedSimpArgs false
set_option linter.unusedVariables false
open Go.RowKit
open Go.Lib (hid)
theorem su_nd {s:Stp} {W:World} (h:s.lies W) {b off:Nat} (hA:s.sno.A=some ⟨b,off,none⟩) {k:Nat} (hk:k<s.no.length) :
  W.cell? ⟨b,off+k * 7,none⟩=some (vI (nodA s k).px)∧W.cell? ⟨b,off+k * 7+1,none⟩=some (vI (nodA s k).py)∧W.cell? ⟨b,off+k * 7+2,none⟩=some (vI (nodA s k).di)∧W.cell? ⟨b,off+k * 7+3,none⟩=some (vI (nodA s k).a0)∧W.cell? ⟨b,off+k * 7+4,none⟩=some (vI (nodA s k).a1)∧W.cell? ⟨b,off+k * 7+5,none⟩=some (vI (nodA s k).s0)∧W.cell? ⟨b,off+k * 7+6,none⟩=some (vI (nodA s k).s1):=by
 have hx:=List.getElem?_eq_getElem hk;obtain ⟨b',o',h1,_,h3⟩:=h.no.cells (by have:=h.no.len;omega)
 rw [hA] at h1;injection h1 with h1;injection h1 with h1 h2;subst h1;subst h2
 rw [nodA_of hx]
 exact ⟨h3 k _ hx 0 _ rfl,h3 k _ hx 1 _ rfl,h3 k _ hx 2 _ rfl,h3 k _ hx 3 _ rfl,h3 k _ hx 4 _ rfl,h3 k _ hx 5 _ rfl,h3 k _ hx 6 _ rfl⟩
theorem su_sl {s:Stp} {W:World} {bs b off:Nat} (h:Has W bs s.cells) (hA:s.sno.A=some ⟨b,off,none⟩):W.cell? ⟨bs,0,none⟩=some (.slice (some ⟨b,off,none⟩) s.sno.n s.sno.c):=hA ▸ su_no h
theorem su_A {s:Stp} {w:World} (h:s.lies w) (hn:0<s.no.length):∃ b off,s.sno.A=some ⟨b,off,none⟩:=by
 obtain ⟨b,off,h1,_,_⟩:=h.no.cells (by have:=h.no.len;omega)
 exact ⟨b,off,h1⟩
theorem ptB_of {x y:Int} (hx : -2000000≤x∧x≤2000000) (hy : -2000000≤y∧y≤2000000):ptB x y=true:=ptB_iff.2 ⟨hx,hy⟩
theorem xPhull (s:Stp) (k m:Nat) (hm:m=k+1) (w:World) (hl:s.lies w) (hok:s.ok) (G:StG s) (hk:m<s.no.length) :
  Calls Tryz.prog 59 #[.agg s.cells.toArray,vI m] w fun e' w'=>e'=.returned (.tuple #[.agg #[vI (suH s k).e0,vI (suH s k).e1,vI (suH s k).n0,vI (suH s k).n1],.agg #[vI (suH s k).d0,vI (suH s k).d1]])∧Below w.heap.size w w':=by
 have N:=StN.of hl;have hno:=N.no;have hmx:=hok.no
 unfold maxLen at hmx
 obtain ⟨b,off,hA⟩:=su_A hl (by omega);have HS:=hid (boxS3 w s.cells.toArray #[vI 0,vI 0,vI 0,vI 0] #[vI 0,vI 0] 35 96 60)
 have HKK:=hid (fun W (h:BoxS w 3 [s.cells,(lz4 0 0 0 0),(lz2 0 0)] W)=>show (W.cell? ⟨w.heap.size,0,none⟩=some (.slice (some ⟨b,off,none⟩) s.sno.n s.sno.c)∧W.cell? ⟨w.heap.size,29,none⟩=some (vI s.lv))∧(W.cell? ⟨b,off+k * 7,none⟩=some (vI (nodA s k).px)∧W.cell? ⟨b,off+k * 7+1,none⟩=some (vI (nodA s k).py))∧(W.cell? ⟨b,off+m * 7,none⟩=some (vI (nodA s m).px)∧W.cell? ⟨b,off+m * 7+1,none⟩=some (vI (nodA s m).py)) from
  have n1:=su_nd (hl.below h.B) hA (k:=k) (by omega);have n2:=su_nd (hl.below h.B) hA (k:=m) hk
  ⟨⟨su_sl (h.has 0 _ rfl) hA,su_lv (h.has 0 _ rfl)⟩,⟨n1.1,n1.2.1⟩,n2.1,n2.2.1⟩)
 have HW:=hid (fun W (h:BoxS w 3 [s.cells,(lz4 0 0 0 0),(lz2 0 0)] W)=>show Has W w.heap.size s.cells from h.has 0 _ rfl);have g1:=nod_good G N (k:=k) (by omega);have g2:=nod_good G N (k:=m) hk
 have HC:=hid (fun W (h:BoxS w 3 [s.cells,(lz4 0 0 0 0),(lz2 0 0)] W)=>show Calls Tryz.prog 130 #[.agg s.gr.cells.toArray,.agg #[vI (nodA s k).px,vI (nodA s k).py],.agg #[vI (nodA s m).px,vI (nodA s m).py],.agg #[vI (-200000),vI s.lv]] W fun e' w'=>e'=.returned (.tuple #[.agg #[vI (suH s k).e0,vI (suH s k).e1,vI (suH s k).n0,vI (suH s k).n1],.agg #[vI (suH s k).d0,vI (suH s k).d1],vI 0])∧Below W.heap.size W w' from by
  subst hm
  exact xHull s.gr (nodA s k).px (nodA s k).py (nodA s (k+1)).px (nodA s (k+1)).py (-200000) s.lv W (hl.below h.B).gr hok.gr G.gr (ptB_of g1.px g1.py) (ptB_of g2.px g2.py) (by omega) G.lv.1 G.lv.2)
 have w1:IntKind.i64.wrap ((m:Int) - 1)=(k:Int):=by rw [IntWalk.i64_in _ (by omega)];omega
 have i0:(0:Int)≤(k:Int):=by omega
 have i1:(k:Int)<(s.sno.n:Int):=by omega
 have i2:(0:Int)≤(m:Int):=by omega
 have i3:(m:Int)<(s.sno.n:Int):=by omega
 clear hl hok G N hno g1 g2 hA hm hk hmx;generalize suH s k=HV at *
 go_enter Tryz.func59,Tryz.ntmps59
 go_wp2_with fail
 refine held_start (S:=fun W=>BoxS w 3 [s.cells,(lz4 0 0 0 0),(lz2 0 0)] W) 28 #[false,false,false,false,false,false,false,false,false,false,false,false,false,false,false,false,false,false,false,false,false,false,false,false,false,false,false,false] rfl rfl (by kernel_rfl) (HS.out.drew) (fun hHeld=>?_)
 refine hL 0 10 (v:=?_) rfl rfl ?_ ?_
 rotate_left
 ·intro W hW
  go_simp;try with_reducible rfl
 (try simp only [Act.put,pa,pb,pc])
 refine hT 1 11 (v:=_) rfl rfl (yi_sgr (.tmp 10) rfl rfl rfl (fun W hW=>HW.out W hW)) ?_
 (try simp only [Act.put,pa,pb,pc])
 refine hL 2 12 (v:=?_) rfl rfl ?_ ?_
 rotate_left
 ·intro W hW
  go_simp;try with_reducible rfl
 (try simp only [Act.put,pa,pb,pc])
 refine hL 3 13 (v:=?_) rfl rfl ?_ ?_
 rotate_left
 ·intro W hW
  have kk:=HKK.out W hW;go_simp;try with_reducible rfl
 (try simp only [Act.put,pa,pb,pc])
 iterate 4 (refine hF (L:=_) (v:=?_) rfl rfl ?_ ?_;rotate_left;(intro W hW;go_simp;try with_reducible rfl);try simp only [Act.put,pa,pb,pc,setF])
 refine hL 8 18 (v:=?_) rfl rfl ?_ ?_
 rotate_left
 ·intro W hW
  have kk:=HKK.out W hW;go_simp;try with_reducible rfl
 (try simp only [Act.put,pa,pb,pc])
 refine hL 9 19 (v:=?_) rfl rfl ?_ ?_
 rotate_left
 ·intro W hW
  go_simp;try with_reducible rfl
 (try simp only [Act.put,pa,pb,pc])
 refine hL 10 20 (v:=?_) rfl rfl ?_ ?_
 rotate_left
 ·intro W hW
  have kk:=HKK.out W hW;go_simp;try with_reducible rfl
 (try simp only [Act.put,pa,pb,pc])
 iterate 3 (refine hF (L:=_) (v:=?_) rfl rfl ?_ ?_;rotate_left;(intro W hW;go_simp;try with_reducible rfl);try simp only [Act.put,pa,pb,pc,setF])
 refine hL 14 24 (v:=?_) rfl rfl ?_ ?_
 rotate_left
 ·intro W hW
  have kk:=HKK.out W hW;go_simp;try with_reducible rfl
 (try simp only [Act.put,pa,pb,pc])
 refine hL 15 25 (v:=?_) rfl rfl ?_ ?_
 rotate_left
 ·intro W hW
  go_simp;try with_reducible rfl
 (try simp only [Act.put,pa,pb,pc])
 refine hL 16 26 (v:=?_) rfl rfl ?_ ?_
 rotate_left
 ·intro W hW
  have kk:=HKK.out W hW;go_simp;try with_reducible rfl
 (try simp only [Act.put,pa,pb,pc])
 refine hL 17 27 (v:=?_) rfl rfl ?_ ?_
 rotate_left
 ·intro W hW
  go_simp;try with_reducible rfl
 (try simp only [Act.put,pa,pb,pc])
 refine held_nameS ?_
 intro OPS QQ A0 SS hO hQ hA hSS
 have st_18_23_24:Hid (∀ (H6 H7:Nat) (W:World) (qH6:Has W H6 (lz4 0 0 0 0)) (rH6:w.heap.size+3≤H6) (qH7:Has W H7 (lz2 0 0)) (rH7:w.heap.size+3≤H7) (nH6H7:H6≠H7),SS W→wpAnyH Tryz.prog .any OPS QQ SS 3 #[true,true,true,true,true,true,true,true,true,true,true,true,true,true,true,true,true,true,true,true,true,true,true,true,true,false,false,false] (((((((A0.put (some 28) (.tuple #[.agg #[vI HV.e0,vI HV.e1,vI HV.n0,vI HV.n1],.agg #[vI HV.d0,vI HV.d1],vI 0])).put (some 9) (.tuple #[.agg #[vI HV.e0,vI HV.e1,vI HV.n0,vI HV.n1],.agg #[vI HV.d0,vI HV.d1],vI 0])).put (some 29) (.agg #[vI HV.e0,vI HV.e1,vI HV.n0,vI HV.n1])).put (some 30) (.agg #[vI HV.d0,vI HV.d1])).put (some 31) (vI 0)).put (some 6) (.pointer (some ⟨H6,0,none⟩))).put (some 7) (.pointer (some ⟨H7,0,none⟩))) W):=by
  subst hO hQ hA hSS
  refine hid ?_
  intro H6 H7 W qH6 rH6 qH7 rH7 nH6H7 hHeld
  (try simp only [Act.put,pa,pb,pc])
  have fz:=qH6.fr;have cz0:=qH6.cell 0 _ rfl;have cz1:=qH6.cell 1 _ rfl;have cz2:=qH6.cell 2 _ rfl;have cz3:=qH6.cell 3 _ rfl
  refine wpAnyH_ready (rs:=[25]) (by kernel_rfl) (by simp) ?_
  refine AllReadyH.cons (o:=_) rfl (fun K hK=>?_) AllReadyH.nil
  go_simp
  have hNew:=((((hHeld.set H6 0 rH6 (vI HV.e0)).set H6 1 rH6 (vI HV.e1)).set H6 2 rH6 (vI HV.n0)).set H6 3 rH6 (vI HV.n1));have pH6:Has ((((W.setCell ⟨H6,0,none⟩ (vI HV.e0)).setCell ⟨H6,1,none⟩ (vI HV.e1)).setCell ⟨H6,2,none⟩ (vI HV.n0)).setCell ⟨H6,3,none⟩ (vI HV.n1)) H6 (lz4 HV.e0 HV.e1 HV.n0 HV.n1):=((((qH6.set 0 (vI HV.e0) (by simp)).set 1 (vI HV.e1) (by simp)).set 2 (vI HV.n0) (by simp)).set 3 (vI HV.n1) (by simp));have pH7:=((((qH7.other H6 0 (vI HV.e0) (by omega)).other H6 1 (vI HV.e1) (by omega)).other H6 2 (vI HV.n0) (by omega)).other H6 3 (vI HV.n1) (by omega))
  refine hK.out _ _ hNew (fun hHeld2=>?_)
  clear hK K hNew fz cz0 cz1 cz2 cz3 qH6 qH7 hHeld;have hHeld:=hHeld2;clear hHeld2;have qH6:=pH6;have qH7:=pH7;clear pH6 pH7
  (try simp only [Act.put,pa,pb,pc])
  generalize ((((W.setCell ⟨H6,0,none⟩ (vI HV.e0)).setCell ⟨H6,1,none⟩ (vI HV.e1)).setCell ⟨H6,2,none⟩ (vI HV.n0)).setCell ⟨H6,3,none⟩ (vI HV.n1))=W1 at *;have fz:=qH7.fr;have cz0:=qH7.cell 0 _ rfl;have cz1:=qH7.cell 1 _ rfl
  refine wpAnyH_ready (rs:=[26]) (by kernel_rfl) (by simp) ?_
  refine AllReadyH.cons (o:=_) rfl (fun K hK=>?_) AllReadyH.nil
  go_simp
  have hNew:=((hHeld.set H7 0 rH7 (vI HV.d0)).set H7 1 rH7 (vI HV.d1));have pH6:=((qH6.other H7 0 (vI HV.d0) (by omega)).other H7 1 (vI HV.d1) (by omega));have pH7:Has ((W1.setCell ⟨H7,0,none⟩ (vI HV.d0)).setCell ⟨H7,1,none⟩ (vI HV.d1)) H7 (lz2 HV.d0 HV.d1):=((qH7.set 0 (vI HV.d0) (by simp)).set 1 (vI HV.d1) (by simp))
  refine hK.out _ _ hNew (fun hHeld2=>?_)
  clear hK K hNew fz cz0 cz1 qH6 qH7 hHeld;have hHeld:=hHeld2;clear hHeld2;have qH6:=pH6;have qH7:=pH7;clear pH6 pH7
  (try simp only [Act.put,pa,pb,pc])
  generalize ((W1.setCell ⟨H7,0,none⟩ (vI HV.d0)).setCell ⟨H7,1,none⟩ (vI HV.d1))=W2 at *
  refine hL 27 8 (v:=?_) rfl rfl ?_ ?_
  rotate_left
  ·intro W hW
   go_simp;try with_reducible rfl
  (try simp only [Act.put,pa,pb,pc])
  refine wpAnyH_done (by kernel_rfl) ?_ _
  have HT:=hid (BoxS.B hHeld);have HQ6:=hid qH6.drew;have HQ7:=hid qH7.drew;replace HT:=hid HT.out.drew;have HSD:=hid hHeld.drew;clear hHeld qH6 qH7 nH6H7
  go_wp2_with fail
  refine held_start (S:=fun W=>Has W H6 (lz4 HV.e0 HV.e1 HV.n0 HV.n1)∧Has W H7 (lz2 HV.d0 HV.d1)) 4 #[false,false,false,false] rfl rfl (by kernel_rfl) (⟨HQ6.out,HQ7.out⟩) (fun hHeld=>?_)
  have r0:W2.drew.cell? ⟨w.heap.size+1,0,none⟩=some (vI 0):=HSD.out.at 1 _ rfl 0 _ rfl;have r1:W2.drew.cell? ⟨w.heap.size+1,1,none⟩=some (vI 0):=HSD.out.at 1 _ rfl 1 _ rfl;have r2:W2.drew.cell? ⟨w.heap.size+1,2,none⟩=some (vI 0):=HSD.out.at 1 _ rfl 2 _ rfl;have r3:W2.drew.cell? ⟨w.heap.size+1,3,none⟩=some (vI 0):=HSD.out.at 1 _ rfl 3 _ rfl;have rf:=fun o=>show W2.drew.frozen? ⟨w.heap.size+1,o,none⟩=false from HSD.out.fr 1 _ rfl o;have t0:W2.drew.cell? ⟨w.heap.size+1+1,0,none⟩=some (vI 0):=HSD.out.at 2 _ rfl 0 _ rfl;have t1:W2.drew.cell? ⟨w.heap.size+1+1,1,none⟩=some (vI 0):=HSD.out.at 2 _ rfl 1 _ rfl;have tf:=fun o=>show W2.drew.frozen? ⟨w.heap.size+1+1,o,none⟩=false from HSD.out.fr 2 _ rfl o;generalize W2.drew=W3 at *
  iterate 2 (refine hF (L:=_) (v:=?_) rfl rfl ?_ ?_;rotate_left;(intro W hW;have y0:=hW.1.cell 0 _ rfl;have y1:=hW.1.cell 1 _ rfl;have y2:=hW.1.cell 2 _ rfl;have y3:=hW.1.cell 3 _ rfl;have y4:=hW.2.cell 0 _ rfl;have y5:=hW.2.cell 1 _ rfl;clear hW;go_simp;try with_reducible rfl);try simp only [Act.put,pa,pb,pc,setF])
  refine wpAnyH_ready (rs:=[2]) (by kernel_rfl) (by simp) ?_
  refine AllReadyH.cons (o:=_) rfl (fun K hK=>?_) AllReadyH.nil
  go_simp
  refine hK.out _ _ ⟨((((hHeld.1.other (w.heap.size+1) 0 (vI HV.e0) (by omega)).other (w.heap.size+1) 1 (vI HV.e1) (by omega)).other (w.heap.size+1) 2 (vI HV.n0) (by omega)).other (w.heap.size+1) 3 (vI HV.n1) (by omega)),((((hHeld.2.other (w.heap.size+1) 0 (vI HV.e0) (by omega)).other (w.heap.size+1) 1 (vI HV.e1) (by omega)).other (w.heap.size+1) 2 (vI HV.n0) (by omega)).other (w.heap.size+1) 3 (vI HV.n1) (by omega))⟩ (fun hHeld2=>?_)
  clear hK K hHeld;have hHeld:=hHeld2;clear hHeld2
  (try simp only [Act.put,pa,pb,pc])
  refine wpAnyH_ready (rs:=[3]) (by kernel_rfl) (by simp) ?_
  refine AllReadyH.cons (o:=_) rfl (fun K hK=>?_) AllReadyH.nil
  go_simp
  refine hK.out _ _ ⟨((hHeld.1.other (w.heap.size+1+1) 0 (vI HV.d0) (by omega)).other (w.heap.size+1+1) 1 (vI HV.d1) (by omega)),((hHeld.2.other (w.heap.size+1+1) 0 (vI HV.d0) (by omega)).other (w.heap.size+1+1) 1 (vI HV.d1) (by omega))⟩ (fun hHeld2=>?_)
  clear hK K hHeld;have hHeld:=hHeld2;clear hHeld2
  (try simp only [Act.put,pa,pb,pc])
  refine wpAnyH_done (by kernel_rfl) ?_ _
  go_wp2_with fail
  exact bodyPost_ret (v:=.tuple #[.agg #[vI HV.e0,vI HV.e1,vI HV.n0,vI HV.n1],.agg #[vI HV.d0,vI HV.d1]]) (by simp [results,Tryz.results59,go_sem,r0,r1,r2,r3,t0,t1]) rfl ⟨rfl,by repeat (first | exact HT.out | refine Below.setCell ?_ (by first | (show w.heap.size≤w.heap.size+1;omega) | (show w.heap.size≤w.heap.size+1+1;omega)) _)⟩
 have st_18_23:Hid (∀ (H6:Nat) (W:World) (qH6:Has W H6 (lz4 0 0 0 0)) (rH6:w.heap.size+3≤H6),SS W→wpAnyH Tryz.prog .any OPS QQ SS 4 #[true,true,true,true,true,true,true,true,true,true,true,true,true,true,true,true,true,true,true,true,true,true,true,true,false,false,false,false] ((((((A0.put (some 28) (.tuple #[.agg #[vI HV.e0,vI HV.e1,vI HV.n0,vI HV.n1],.agg #[vI HV.d0,vI HV.d1],vI 0])).put (some 9) (.tuple #[.agg #[vI HV.e0,vI HV.e1,vI HV.n0,vI HV.n1],.agg #[vI HV.d0,vI HV.d1],vI 0])).put (some 29) (.agg #[vI HV.e0,vI HV.e1,vI HV.n0,vI HV.n1])).put (some 30) (.agg #[vI HV.d0,vI HV.d1])).put (some 31) (vI 0)).put (some 6) (.pointer (some ⟨H6,0,none⟩))) W):=by
  subst hO hQ hA hSS
  refine hid ?_
  intro H6 W qH6 rH6 hHeld
  (try simp only [Act.put,pa,pb,pc])
  refine wpAnyH_ready (rs:=[24]) (by kernel_rfl) (by simp) ?_
  refine AllReadyH.cons (o:=_) rfl (fun K hK=>?_) ?_
  ·go_simp
   have hNew:=hHeld.alloc (.cells #[vI 0,vI 0] 60)
   refine hK.out _ _ hNew (fun hHeld2=>?_)
   (try simp only [Act.put,pa,pb,pc])
   have nx:=st_18_23_24.out
   simp only [Act.put,pa,pb,pc] at nx
   exact nx H6 W.heap.size _ (qH6.alloc _) rH6 (Has.new _ _ _) hHeld.sz (by have:=qH6.lt;omega) hHeld2
  exact AllReadyH.nil
 have st_18_24:Hid (∀ (H7:Nat) (W:World) (qH7:Has W H7 (lz2 0 0)) (rH7:w.heap.size+3≤H7),SS W→wpAnyH Tryz.prog .any OPS QQ SS 4 #[true,true,true,true,true,true,true,true,true,true,true,true,true,true,true,true,true,true,true,true,true,true,true,false,true,false,false,false] ((((((A0.put (some 28) (.tuple #[.agg #[vI HV.e0,vI HV.e1,vI HV.n0,vI HV.n1],.agg #[vI HV.d0,vI HV.d1],vI 0])).put (some 9) (.tuple #[.agg #[vI HV.e0,vI HV.e1,vI HV.n0,vI HV.n1],.agg #[vI HV.d0,vI HV.d1],vI 0])).put (some 29) (.agg #[vI HV.e0,vI HV.e1,vI HV.n0,vI HV.n1])).put (some 30) (.agg #[vI HV.d0,vI HV.d1])).put (some 31) (vI 0)).put (some 7) (.pointer (some ⟨H7,0,none⟩))) W):=by
  subst hO hQ hA hSS
  refine hid ?_
  intro H7 W qH7 rH7 hHeld
  (try simp only [Act.put,pa,pb,pc])
  refine wpAnyH_ready (rs:=[23]) (by kernel_rfl) (by simp) ?_
  refine AllReadyH.cons (o:=_) rfl (fun K hK=>?_) ?_
  ·go_simp
   have hNew:=hHeld.alloc (.cells #[vI 0,vI 0,vI 0,vI 0] 96)
   refine hK.out _ _ hNew (fun hHeld2=>?_)
   (try simp only [Act.put,pa,pb,pc])
   have nx:=st_18_23_24.out
   simp only [Act.put,pa,pb,pc] at nx
   exact nx W.heap.size H7 _ (Has.new _ _ _) hHeld.sz (qH7.alloc _) rH7 (by have:=qH7.lt;omega) hHeld2
  exact AllReadyH.nil
 have st_23_24:Hid (∀ (H6 H7:Nat) (W:World) (qH6:Has W H6 (lz4 0 0 0 0)) (rH6:w.heap.size+3≤H6) (qH7:Has W H7 (lz2 0 0)) (rH7:w.heap.size+3≤H7) (nH6H7:H6≠H7),SS W→wpAnyH Tryz.prog .any OPS QQ SS 8 #[true,true,true,true,true,true,true,true,true,true,true,true,true,true,true,true,true,true,false,false,false,false,false,true,true,false,false,false] ((A0.put (some 6) (.pointer (some ⟨H6,0,none⟩))).put (some 7) (.pointer (some ⟨H7,0,none⟩))) W):=by
  subst hO hQ hA hSS
  refine hid ?_
  intro H6 H7 W qH6 rH6 qH7 rH7 nH6H7 hHeld
  (try simp only [Act.put,pa,pb,pc])
  refine wpAnyH_ready (rs:=[18]) (by kernel_rfl) (by simp) ?_
  refine AllReadyH.cons (o:=_) rfl (fun K hK=>?_) ?_
  ·go_simp
   refine (HC.out _ hHeld).mono ?_;rintro e2 W2 ⟨rfl,hB⟩
   go_wp2_with fail
   have hNew:=hHeld.below hB
   refine hK.out _ _ hNew (fun hHeld2=>?_)
   (try simp only [Act.put,pa,pb,pc])
   refine hL 19 9 (v:=?_) rfl rfl ?_ ?_
   rotate_left
   ·intro W hW
    go_simp;try with_reducible rfl
   (try simp only [Act.put,pa,pb,pc])
   refine hL 20 29 (v:=?_) rfl rfl ?_ ?_
   rotate_left
   ·intro W hW
    go_simp;try with_reducible rfl
   (try simp only [Act.put,pa,pb,pc])
   refine hL 21 30 (v:=?_) rfl rfl ?_ ?_
   rotate_left
   ·intro W hW
    go_simp;try with_reducible rfl
   (try simp only [Act.put,pa,pb,pc])
   refine hL 22 31 (v:=?_) rfl rfl ?_ ?_
   rotate_left
   ·intro W hW
    go_simp;try with_reducible rfl
   (try simp only [Act.put,pa,pb,pc])
   have nx:=st_18_23_24.out
   simp only [Act.put,pa,pb,pc] at nx
   exact nx H6 H7 _ (qH6.below hB) rH6 (qH7.below hB) rH7 nH6H7 hHeld2
  exact AllReadyH.nil
 have st_23:Hid (∀ (H6:Nat) (W:World) (qH6:Has W H6 (lz4 0 0 0 0)) (rH6:w.heap.size+3≤H6),SS W→wpAnyH Tryz.prog .any OPS QQ SS 9 #[true,true,true,true,true,true,true,true,true,true,true,true,true,true,true,true,true,true,false,false,false,false,false,true,false,false,false,false] (A0.put (some 6) (.pointer (some ⟨H6,0,none⟩))) W):=by
  subst hO hQ hA hSS
  refine hid ?_
  intro H6 W qH6 rH6 hHeld
  (try simp only [Act.put,pa,pb,pc])
  refine wpAnyH_ready (rs:=[18,24]) (by kernel_rfl) (by simp) ?_
  refine AllReadyH.cons (o:=_) rfl (fun K hK=>?_) ?_
  ·go_simp
   refine (HC.out _ hHeld).mono ?_;rintro e2 W2 ⟨rfl,hB⟩
   go_wp2_with fail
   have hNew:=hHeld.below hB
   refine hK.out _ _ hNew (fun hHeld2=>?_)
   (try simp only [Act.put,pa,pb,pc])
   refine hL 19 9 (v:=?_) rfl rfl ?_ ?_
   rotate_left
   ·intro W hW
    go_simp;try with_reducible rfl
   (try simp only [Act.put,pa,pb,pc])
   refine hL 20 29 (v:=?_) rfl rfl ?_ ?_
   rotate_left
   ·intro W hW
    go_simp;try with_reducible rfl
   (try simp only [Act.put,pa,pb,pc])
   refine hL 21 30 (v:=?_) rfl rfl ?_ ?_
   rotate_left
   ·intro W hW
    go_simp;try with_reducible rfl
   (try simp only [Act.put,pa,pb,pc])
   refine hL 22 31 (v:=?_) rfl rfl ?_ ?_
   rotate_left
   ·intro W hW
    go_simp;try with_reducible rfl
   (try simp only [Act.put,pa,pb,pc])
   have nx:=st_18_23.out
   simp only [Act.put,pa,pb,pc] at nx
   exact nx H6 _ (qH6.below hB) rH6 hHeld2
  refine AllReadyH.cons (o:=_) rfl (fun K hK=>?_) ?_
  ·go_simp
   have hNew:=hHeld.alloc (.cells #[vI 0,vI 0] 60)
   refine hK.out _ _ hNew (fun hHeld2=>?_)
   (try simp only [Act.put,pa,pb,pc])
   have nx:=st_23_24.out
   simp only [Act.put,pa,pb,pc] at nx
   exact nx H6 W.heap.size _ (qH6.alloc _) rH6 (Has.new _ _ _) hHeld.sz (by have:=qH6.lt;omega) hHeld2
  exact AllReadyH.nil
 have st_24:Hid (∀ (H7:Nat) (W:World) (qH7:Has W H7 (lz2 0 0)) (rH7:w.heap.size+3≤H7),SS W→wpAnyH Tryz.prog .any OPS QQ SS 9 #[true,true,true,true,true,true,true,true,true,true,true,true,true,true,true,true,true,true,false,false,false,false,false,false,true,false,false,false] (A0.put (some 7) (.pointer (some ⟨H7,0,none⟩))) W):=by
  subst hO hQ hA hSS
  refine hid ?_
  intro H7 W qH7 rH7 hHeld
  (try simp only [Act.put,pa,pb,pc])
  refine wpAnyH_ready (rs:=[18,23]) (by kernel_rfl) (by simp) ?_
  refine AllReadyH.cons (o:=_) rfl (fun K hK=>?_) ?_
  ·go_simp
   refine (HC.out _ hHeld).mono ?_;rintro e2 W2 ⟨rfl,hB⟩
   go_wp2_with fail
   have hNew:=hHeld.below hB
   refine hK.out _ _ hNew (fun hHeld2=>?_)
   (try simp only [Act.put,pa,pb,pc])
   refine hL 19 9 (v:=?_) rfl rfl ?_ ?_
   rotate_left
   ·intro W hW
    go_simp;try with_reducible rfl
   (try simp only [Act.put,pa,pb,pc])
   refine hL 20 29 (v:=?_) rfl rfl ?_ ?_
   rotate_left
   ·intro W hW
    go_simp;try with_reducible rfl
   (try simp only [Act.put,pa,pb,pc])
   refine hL 21 30 (v:=?_) rfl rfl ?_ ?_
   rotate_left
   ·intro W hW
    go_simp;try with_reducible rfl
   (try simp only [Act.put,pa,pb,pc])
   refine hL 22 31 (v:=?_) rfl rfl ?_ ?_
   rotate_left
   ·intro W hW
    go_simp;try with_reducible rfl
   (try simp only [Act.put,pa,pb,pc])
   have nx:=st_18_24.out
   simp only [Act.put,pa,pb,pc] at nx
   exact nx H7 _ (qH7.below hB) rH7 hHeld2
  refine AllReadyH.cons (o:=_) rfl (fun K hK=>?_) ?_
  ·go_simp
   have hNew:=hHeld.alloc (.cells #[vI 0,vI 0,vI 0,vI 0] 96)
   refine hK.out _ _ hNew (fun hHeld2=>?_)
   (try simp only [Act.put,pa,pb,pc])
   have nx:=st_23_24.out
   simp only [Act.put,pa,pb,pc] at nx
   exact nx W.heap.size H7 _ (Has.new _ _ _) hHeld.sz (qH7.alloc _) rH7 (by have:=qH7.lt;omega) hHeld2
  exact AllReadyH.nil
 have st_18:Hid (∀ (W:World),SS W→wpAnyH Tryz.prog .any OPS QQ SS 5 #[true,true,true,true,true,true,true,true,true,true,true,true,true,true,true,true,true,true,true,true,true,true,true,false,false,false,false,false] (((((A0.put (some 28) (.tuple #[.agg #[vI HV.e0,vI HV.e1,vI HV.n0,vI HV.n1],.agg #[vI HV.d0,vI HV.d1],vI 0])).put (some 9) (.tuple #[.agg #[vI HV.e0,vI HV.e1,vI HV.n0,vI HV.n1],.agg #[vI HV.d0,vI HV.d1],vI 0])).put (some 29) (.agg #[vI HV.e0,vI HV.e1,vI HV.n0,vI HV.n1])).put (some 30) (.agg #[vI HV.d0,vI HV.d1])).put (some 31) (vI 0)) W):=by
  subst hO hQ hA hSS
  refine hid ?_
  intro W hHeld
  (try simp only [Act.put,pa,pb,pc])
  refine wpAnyH_ready (rs:=[23,24]) (by kernel_rfl) (by simp) ?_
  refine AllReadyH.cons (o:=_) rfl (fun K hK=>?_) ?_
  ·go_simp
   have hNew:=hHeld.alloc (.cells #[vI 0,vI 0,vI 0,vI 0] 96)
   refine hK.out _ _ hNew (fun hHeld2=>?_)
   (try simp only [Act.put,pa,pb,pc])
   have nx:=st_18_23.out
   simp only [Act.put,pa,pb,pc] at nx
   exact nx W.heap.size _ (Has.new _ _ _) hHeld.sz hHeld2
  refine AllReadyH.cons (o:=_) rfl (fun K hK=>?_) ?_
  ·go_simp
   have hNew:=hHeld.alloc (.cells #[vI 0,vI 0] 60)
   refine hK.out _ _ hNew (fun hHeld2=>?_)
   (try simp only [Act.put,pa,pb,pc])
   have nx:=st_18_24.out
   simp only [Act.put,pa,pb,pc] at nx
   exact nx W.heap.size _ (Has.new _ _ _) hHeld.sz hHeld2
  exact AllReadyH.nil
 have st:Hid (∀ (W:World),SS W→wpAnyH Tryz.prog .any OPS QQ SS 10 #[true,true,true,true,true,true,true,true,true,true,true,true,true,true,true,true,true,true,false,false,false,false,false,false,false,false,false,false] A0 W):=by
  subst hO hQ hA hSS
  refine hid ?_
  intro W hHeld
  (try simp only [Act.put,pa,pb,pc])
  refine wpAnyH_ready (rs:=[18,23,24]) (by kernel_rfl) (by simp) ?_
  refine AllReadyH.cons (o:=_) rfl (fun K hK=>?_) ?_
  ·go_simp
   refine (HC.out _ hHeld).mono ?_;rintro e2 W2 ⟨rfl,hB⟩
   go_wp2_with fail
   have hNew:=hHeld.below hB
   refine hK.out _ _ hNew (fun hHeld2=>?_)
   (try simp only [Act.put,pa,pb,pc])
   refine hL 19 9 (v:=?_) rfl rfl ?_ ?_
   rotate_left
   ·intro W hW
    go_simp;try with_reducible rfl
   (try simp only [Act.put,pa,pb,pc])
   refine hL 20 29 (v:=?_) rfl rfl ?_ ?_
   rotate_left
   ·intro W hW
    go_simp;try with_reducible rfl
   (try simp only [Act.put,pa,pb,pc])
   refine hL 21 30 (v:=?_) rfl rfl ?_ ?_
   rotate_left
   ·intro W hW
    go_simp;try with_reducible rfl
   (try simp only [Act.put,pa,pb,pc])
   refine hL 22 31 (v:=?_) rfl rfl ?_ ?_
   rotate_left
   ·intro W hW
    go_simp;try with_reducible rfl
   (try simp only [Act.put,pa,pb,pc])
   have nx:=st_18.out
   simp only [Act.put,pa,pb,pc] at nx
   exact nx  _  hHeld2
  refine AllReadyH.cons (o:=_) rfl (fun K hK=>?_) ?_
  ·go_simp
   have hNew:=hHeld.alloc (.cells #[vI 0,vI 0,vI 0,vI 0] 96)
   refine hK.out _ _ hNew (fun hHeld2=>?_)
   (try simp only [Act.put,pa,pb,pc])
   have nx:=st_23.out
   simp only [Act.put,pa,pb,pc] at nx
   exact nx W.heap.size _ (Has.new _ _ _) hHeld.sz hHeld2
  refine AllReadyH.cons (o:=_) rfl (fun K hK=>?_) ?_
  ·go_simp
   have hNew:=hHeld.alloc (.cells #[vI 0,vI 0] 60)
   refine hK.out _ _ hNew (fun hHeld2=>?_)
   (try simp only [Act.put,pa,pb,pc])
   have nx:=st_24.out
   simp only [Act.put,pa,pb,pc] at nx
   exact nx W.heap.size _ (Has.new _ _ _) hHeld.sz hHeld2
  exact AllReadyH.nil
 subst hO hQ hA hSS
 exact st.out _  hHeld
end Go.Proofs.YtheepmnhpclimaaGreat
