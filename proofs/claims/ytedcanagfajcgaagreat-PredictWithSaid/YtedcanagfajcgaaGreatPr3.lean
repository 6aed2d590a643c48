
/- Layer 37: predictions, the program's functions: what the forecast allows on a leg. -/
import Derived.Test.YtedcanagfajcgaaGreatM42
import Derived.Test.YtedcanagfajcgaaGreatPr1
import Derived.Test.YtedcanagfajcgaaGreatGd5
import Derived.Test.YtedcanagfajcgaaGreatM6
set_option linter.unusedSimpArgs false
set_option linter.unusedVariables false
set_option maxRecDepth 100000
set_option maxHeartbeats 8000000
namespace Go.Proofs.YtedcanagfajcgaaGreat
open Go.RowKit
open Go.Lib (hid)
theorem Ce {s:Stp} {W:World} (h:s.lies W) {b off:Nat} (hA:s.sno.A=some ⟨b,off,none⟩) {k:Nat} (hk:k<s.no.length) :
  W.cell? ⟨b,off+k * 7,none⟩=some (vI (Ac s k).px)∧W.cell? ⟨b,off+k * 7+1,none⟩=some (vI (Ac s k).py)∧W.cell? ⟨b,off+k * 7+2,none⟩=some (vI (Ac s k).di)∧W.cell? ⟨b,off+k * 7+3,none⟩=some (vI (Ac s k).a0)∧W.cell? ⟨b,off+k * 7+4,none⟩=some (vI (Ac s k).a1)∧W.cell? ⟨b,off+k * 7+5,none⟩=some (vI (Ac s k).s0)∧W.cell? ⟨b,off+k * 7+6,none⟩=some (vI (Ac s k).s1):=by
 have hx:=AQ hk;obtain ⟨b',o',h1,_,h3⟩:=h.no.cells (by have:=h.no.len;omega)
 rw [hA] at h1;injection h1 with h1;injection h1 with h1 h2;subst h1;subst h2
 rw [GJ hx]
 exact ⟨h3 k _ hx 0 _ rfl,h3 k _ hx 1 _ rfl,h3 k _ hx 2 _ rfl,h3 k _ hx 3 _ rfl,h3 k _ hx 4 _ rfl,h3 k _ hx 5 _ rfl,h3 k _ hx 6 _ rfl⟩
theorem Dk {s:Stp} {W:World} {bs b off:Nat} (h:Has W bs s.cells) (hA:s.sno.A=some ⟨b,off,none⟩):W.cell? ⟨bs,0,none⟩=some (.slice (some ⟨b,off,none⟩) s.sno.n s.sno.c):=hA ▸ PQ h
theorem FC {s:Stp} {w:World} (h:s.lies w) (hn:0<s.no.length):∃ b off,s.sno.A=some ⟨b,off,none⟩:=by
 obtain ⟨b,off,h1,_,_⟩:=h.no.cells (by have:=h.no.len;omega)
 exact ⟨b,off,h1⟩
theorem Gj {x y:Int} (hx : -2000000<=x∧x<=2000000) (hy : -2000000<=y∧y<=2000000):ptB x y=true:=Eg.2 ⟨hx,hy⟩
theorem pk3 {w W:World} {a c b:Nat} {L M:List Value} (h:Below w.heap.size w W∧Has W a L∧Has W c M) (hb:w.heap.size<=b) (ha:a≠b) (hc:c≠b) (i:Nat) (v:Value):Below w.heap.size w (W.setCell ⟨b,i,none⟩ v)∧Has (W.setCell ⟨b,i,none⟩ v) a L∧Has (W.setCell ⟨b,i,none⟩ v) c M :=
 ⟨h.1.setCell (p:=⟨b,i,none⟩) hb v,h.2.1.other b i v ha,h.2.2.other b i v hc⟩
theorem phZ {G:Prop} (h:G:=by
 go_wp2_with fail
 refine rS (fun W=>BoxS w 3 [s.cells,(lz4 0 0 0 0),(lz2 0 0)] W) 28 HS.out.drew (fun hHeld=>?_)
 generalize hW0:World.drew _=w2 at *;clear hW0 HS;have FA:=HKK.out;have CA:=HC
 refine rQ ?_
 refine rY (Ou (.tmp 10) rfl rfl rfl (fun W hW=>HW.out W hW)) ?_
 repeat (first | refine rQ ?_ | refine rF ?_)
 refine Be ?_
 intro OPS QQ A0 SS hO hQ hA hSS
 have TAIL:Hid (∀ (H6 H7:Nat) (W:World),Has W H6 (lz4 0 0 0 0)→Has W H7 (lz2 0 0)→w.heap.size+3<=H6→w.heap.size+3<=H7→H6≠H7→BoxS w 3 [s.cells,(lz4 0 0 0 0),(lz2 0 0)] W→wpAnyH Tryz.prog .any OPS QQ (fun W=>BoxS w 3 [s.cells,(lz4 0 0 0 0),(lz2 0 0)] W) 3 #[b1,b1,b1,b1,b1,b1,b1,b1,b1,b1,b1,b1,b1,b1,b1,b1,b1,b1,b1,b1,b1,b1,b1,b1,b1,b0,b0,b0] (((((((A0.put (some 28) (.tuple #[.agg #[vI HV.e0,vI HV.e1,vI HV.n0,vI HV.n1],.agg #[vI HV.d0,vI HV.d1],vI 0])).put (some 9) (.tuple #[.agg #[vI HV.e0,vI HV.e1,vI HV.n0,vI HV.n1],.agg #[vI HV.d0,vI HV.d1],vI 0])).put (some 29) (.agg #[vI HV.e0,vI HV.e1,vI HV.n0,vI HV.n1])).put (some 30) (.agg #[vI HV.d0,vI HV.d1])).put (some 31) (vI 0)).put (some 6) (.pointer (some ⟨H6,0,none⟩))).put (some 7) (.pointer (some ⟨H7,0,none⟩))) W):=by
  subst hO hQ hA hSS
  refine hid ?_
  intro H6 H7 W q6 q7 r6 r7 n67 hHeld
  (try simp only [Act.put,pa,pb,pc])
  have f0:=q6.fr;have c0:=q6.cell 0 _ rfl;have c1:=q6.cell 1 _ rfl;have c2:=q6.cell 2 _ rfl;have c3:=q6.cell 3 _ rfl
  refine rEk ?_
  intro K hK
  refine rEt hK ((((hHeld.set H6 0 r6 (vI HV.e0)).set H6 1 r6 (vI HV.e1)).set H6 2 r6 (vI HV.n0)).set H6 3 r6 (vI HV.n1)) ?_
  clear hK K hHeld f0 c0 c1 c2 c3
  intro hHeld
  replace q6:=((((q6.set 0 (vI HV.e0) (by simp)).set 1 (vI HV.e1) (by simp)).set 2 (vI HV.n0) (by simp)).set 3 (vI HV.n1) (by simp));replace q7:=((((q7.other H6 0 (vI HV.e0) n67.symm).other H6 1 (vI HV.e1) n67.symm).other H6 2 (vI HV.n0) n67.symm).other H6 3 (vI HV.n1) n67.symm);generalize ((((W.setCell ⟨H6,0,none⟩ (vI HV.e0)).setCell ⟨H6,1,none⟩ (vI HV.e1)).setCell ⟨H6,2,none⟩ (vI HV.n0)).setCell ⟨H6,3,none⟩ (vI HV.n1))=W1 at *;have f0:=q7.fr;have c0:=q7.cell 0 _ rfl;have c1:=q7.cell 1 _ rfl
  refine rEk ?_
  intro K hK
  refine rEt hK ((hHeld.set H7 0 r7 (vI HV.d0)).set H7 1 r7 (vI HV.d1)) ?_
  clear hK K hHeld f0 c0 c1
  intro hHeld
  replace q7:=((q7.set 0 (vI HV.d0) (by simp)).set 1 (vI HV.d1) (by simp));replace q6:=((q6.other H7 0 (vI HV.d0) n67).other H7 1 (vI HV.d1) n67);generalize ((W1.setCell ⟨H7,0,none⟩ (vI HV.d0)).setCell ⟨H7,1,none⟩ (vI HV.d1))=W3 at *
  refine rQ ?_
  refine rD ?_
  go_wp2_with fail
  have Q4:=(show Has _ (w.heap.size+1) (lz4 0 0 0 0) from hHeld.has 1 _ rfl).drew;have Q5:=(show Has _ (w.heap.size+1+1) (lz2 0 0) from hHeld.has 2 _ rfl).drew
  refine rS (fun W=>Below w.heap.size w W∧Has W H6 (lz4 HV.e0 HV.e1 HV.n0 HV.n1)∧Has W H7 (lz2 HV.d0 HV.d1)) 4 ⟨hHeld.B.drew,q6.drew,q7.drew⟩ (fun hHeld=>?_)
  generalize W3.drew=W4 at *;have FB:=fun W (h:Below w.heap.size w W∧Has W H6 (lz4 HV.e0 HV.e1 HV.n0 HV.n1)∧Has W H7 (lz2 HV.d0 HV.d1))=>And.intro (And.intro (And.intro (h.2.1.cell 0 _ rfl) (h.2.1.cell 1 _ rfl)) (And.intro (h.2.1.cell 2 _ rfl) (h.2.1.cell 3 _ rfl))) (And.intro (h.2.2.cell 0 _ rfl) (h.2.2.cell 1 _ rfl))
  iterate 2 refine rT FB ?_
  have f0:=Q4.fr;have c0:=Q4.cell 0 _ rfl;have c1:=Q4.cell 1 _ rfl;have c2:=Q4.cell 2 _ rfl;have c3:=Q4.cell 3 _ rfl
  refine rEk ?_
  intro K hK
  refine rEt hK (pk3 (pk3 (pk3 (pk3 hHeld (by omega) (by omega) (by omega) 0 (vI HV.e0)) (by omega) (by omega) (by omega) 1 (vI HV.e1)) (by omega) (by omega) (by omega) 2 (vI HV.n0)) (by omega) (by omega) (by omega) 3 (vI HV.n1)) ?_
  clear hK K hHeld f0 c0 c1 c2 c3
  intro hHeld
  replace Q4:=((((Q4.set 0 (vI HV.e0) (by simp)).set 1 (vI HV.e1) (by simp)).set 2 (vI HV.n0) (by simp)).set 3 (vI HV.n1) (by simp));replace Q5:=((((Q5.other (w.heap.size+1) 0 (vI HV.e0) (by omega)).other (w.heap.size+1) 1 (vI HV.e1) (by omega)).other (w.heap.size+1) 2 (vI HV.n0) (by omega)).other (w.heap.size+1) 3 (vI HV.n1) (by omega));generalize ((((W4.setCell ⟨w.heap.size+1,0,none⟩ (vI HV.e0)).setCell ⟨w.heap.size+1,1,none⟩ (vI HV.e1)).setCell ⟨w.heap.size+1,2,none⟩ (vI HV.n0)).setCell ⟨w.heap.size+1,3,none⟩ (vI HV.n1))=W5 at *;have f0:=Q5.fr;have c0:=Q5.cell 0 _ rfl;have c1:=Q5.cell 1 _ rfl
  refine rEk ?_
  intro K hK
  refine rEt hK (pk3 (pk3 hHeld (by omega) (by omega) (by omega) 0 (vI HV.d0)) (by omega) (by omega) (by omega) 1 (vI HV.d1)) ?_
  clear hK K hHeld f0 c0 c1
  intro hHeld
  replace Q5:=((Q5.set 0 (vI HV.d0) (by simp)).set 1 (vI HV.d1) (by simp));replace Q4:=((Q4.other (w.heap.size+1+1) 0 (vI HV.d0) (by omega)).other (w.heap.size+1+1) 1 (vI HV.d1) (by omega));have p0:=Q4.cell 0 _ rfl;have p1:=Q4.cell 1 _ rfl;have p2:=Q4.cell 2 _ rfl;have p3:=Q4.cell 3 _ rfl;have p4:=Q5.cell 0 _ rfl;have p5:=Q5.cell 1 _ rfl
  refine rD ?_
  go_wp2_with fail
  exact bodyPost_ret (v:=.tuple #[.agg #[vI HV.e0,vI HV.e1,vI HV.n0,vI HV.n1],.agg #[vI HV.d0,vI HV.d1]]) (by simp [results,Tryz.results38,Tryz.results44,go_sem,p0,p1,p2,p3,p4,p5]) rfl ⟨rfl,hHeld.1⟩
 subst hO hQ hA hSS
 (try simp only [Act.put,pa,pb,pc] at TAIL)
 exact mR):G:=h
theorem RB (s:Stp) (k m:Nat) (hm:m=k+1) (w:World) (hl:s.lies w) (hok:s.ok) (G:StG s) (hk:m<s.no.length) :
  Calls Tryz.prog 38 #[.agg s.cells.toArray,vI m] w fun e' w'=>e'=.returned (.tuple #[.agg #[vI (suH s k).e0,vI (suH s k).e1,vI (suH s k).n0,vI (suH s k).n1],.agg #[vI (suH s k).d0,vI (suH s k).d1]])∧Below w.heap.size w w':=by
 have N:=StN.of hl;have hno:=N.no;have hmx:=hok.no
 unfold maxLen at hmx
 obtain ⟨b,off,hA⟩:=FC hl (by omega);have HS:=hid (OH w s.cells.toArray #[vI 0,vI 0,vI 0,vI 0] #[vI 0,vI 0] 35 73 50)
 have HKK:=hid (fun W (h:BoxS w 3 [s.cells,(lz4 0 0 0 0),(lz2 0 0)] W)=>show (W.cell? ⟨w.heap.size,0,none⟩=some (.slice (some ⟨b,off,none⟩) s.sno.n s.sno.c)∧W.cell? ⟨w.heap.size,29,none⟩=some (vI s.lv))∧(W.cell? ⟨b,off+k * 7,none⟩=some (vI (Ac s k).px)∧W.cell? ⟨b,off+k * 7+1,none⟩=some (vI (Ac s k).py))∧(W.cell? ⟨b,off+m * 7,none⟩=some (vI (Ac s m).px)∧W.cell? ⟨b,off+m * 7+1,none⟩=some (vI (Ac s m).py)) from
  have n1:=Ce (hl.below h.B) hA (k:=k) (by omega);have n2:=Ce (hl.below h.B) hA (k:=m) hk
  ⟨⟨Dk (h.has 0 _ rfl) hA,FP (h.has 0 _ rfl)⟩,⟨n1.1,n1.2.1⟩,n2.1,n2.2.1⟩)
 have HW:=hid (fun W (h:BoxS w 3 [s.cells,(lz4 0 0 0 0),(lz2 0 0)] W)=>show Has W w.heap.size s.cells from h.has 0 _ rfl);have g1:=AR G N (k:=k) (by omega);have g2:=AR G N (k:=m) hk
 have HC:=hid (fun W (h:BoxS w 3 [s.cells,(lz4 0 0 0 0),(lz2 0 0)] W)=>show Calls Tryz.prog 99 #[.agg s.gr.cells.toArray,.agg #[vI (Ac s k).px,vI (Ac s k).py],.agg #[vI (Ac s m).px,vI (Ac s m).py],.agg #[vI (-200000),vI s.lv]] W fun e' w'=>e'=.returned (.tuple #[.agg #[vI (suH s k).e0,vI (suH s k).e1,vI (suH s k).n0,vI (suH s k).n1],.agg #[vI (suH s k).d0,vI (suH s k).d1],vI 0])∧Below W.heap.size W w' from by
  subst hm
  exact AeJ s.gr (Ac s k).px (Ac s k).py (Ac s (k+1)).px (Ac s (k+1)).py (-200000) s.lv W (hl.below h.B).gr hok.gr G.gr (Gj g1.px g1.py) (Gj g2.px g2.py) (by omega) G.lv.1 G.lv.2)
 have w1:IntKind.i64.wrap ((m:Int) - 1)=(k:Int):=by rw [(iW _)];omega
 have i0:(0:Int)<=(k:Int):=by omega
 have i1:(k:Int)<(s.sno.n:Int):=by omega
 have i2:(0:Int)<=(m:Int):=by omega
 have i3:(m:Int)<(s.sno.n:Int):=by omega
 clear hl hok G N hno g1 g2 hA hm hk hmx;generalize suH s k=HV at *
 go_enter Tryz.func38,Tryz.ntmps38
 exact phZ
