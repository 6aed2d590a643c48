
/- Layer 38: the reference's Window and Binding; RtaWindow, the walk. -/
import Derived.Test.YtlbmdnfnahingaaGreatM61
import Derived.Test.YtlbmdnfnahingaaGreatM5
set_option linter.unusedSimpArgs false
set_option linter.unusedVariables false
set_option maxRecDepth 100000
set_option maxHeartbeats 8000000
namespace Go.Proofs.YtlbmdnfnahingaaGreat
open Go.RowKit
open Go.Lib (hid)
theorem Ahk (s:Stp) (node:Int) (w:World) (hl:s.lies w) (hok:s.ok) (hcap:s.sno.n<=s.sno.c):Calls Tryz.prog 13 #[.agg s.cells.toArray,vI node] w (WdP s node w):=by
 have HS:=hid (Dt w s.cells.toArray #[vI 0,vI 0] 35 53);have X4:Hid (Ex ((w.alloc (.cells s.cells.toArray 35)).alloc (.cells #[vI 0,vI 0] 53)) (w.heap.size+1) (lz2 0 0)):=hid (Ex.new _ _ _ _ (by simp));have HR:=hid (fun W (h:BoxS w 2 [s.cells,(lz2 0 0)] W)=>AgO s node 0 0 W (hl.below h.B) hok hcap)
 rw [show decide ((0:Int)<0)=false from by decide] at HR
 have N:=hid (StN.of hl);have HL:=hid hl;have HOK:=hid hok;clear hl hok hcap
 go_enter Tryz.func13,Tryz.ntmps13
 go_wp2_with (refine AC (.tmp 2) rfl rfl rfl (HS.out.has 0 _ rfl) ?_)
 refine (HR.out _ HS.out).mono ?_;rintro e' w1 ⟨hbad,hgood,hB⟩
 by_cases h0:opE s node false=0
 rotate_left
 ·have HE:=hid (AhE h0)
  have HNE:=hid h0;have e1:=Aw h0;have e2:=AL e1;obtain rfl:=hbad h0;replace HS:=hid ((HS.out.below hB).alloc (.cells #[.slice none 0 0,.slice none 0 0,.slice none 0 0] 112));clear hbad hgood hB HR X4
  let EE:=opE s node false
  exact r8w
 obtain ⟨A,c,A2,c2,A3,c3,rfl,P⟩:=hgood h0;have O:=hid (Af2 N.out h0).1;have hx:=Cq O.out.G N.out;obtain ⟨m,rfl⟩:=Int.eq_ofNat_of_zero_le (show 0<=node by have:=O.out.n1;omega);have HM:=hid (show m<s.no.length by have:=O.out.n2;omega);have H0:=hid h0;replace hB:=Bh hB (.cells #[.slice A s.no.length c,.slice A2 s.no.length c2,.slice A3 (s.no.length - 1) c3] 112);have HP:=hid (P.below (Aa w1 (.cells #[.slice A s.no.length c,.slice A2 s.no.length c2,.slice A3 (s.no.length - 1) c3] 112)));have Q6:=hid (Has.new w1 #[.slice A s.no.length c,.slice A2 s.no.length c2,.slice A3 (s.no.length - 1) c3] 112);have HF:=hid (fun W (h:BoxS w 2 [s.cells,(lz2 0 0)] W) (P:PlB s A A2 A3 c3 W) k hf=>AgU s A A2 A3 s.no.length c c2 (s.no.length - 1) c3 k W (HL.out.below h.B) HOK.out rfl rfl P hx.2 hf)
 unfold Vf at HF
 replace HS:=hid (HS.out.below hB);replace X4:=hid (X4.out.below hB)
 have i0:(0:Int)<=(m:Int):=by omega
 have i1:(m:Int)<(s.no.length:Int):=by have:=HM.out;omega
 have c6_1:=Q6.out.cell 1 _ rfl;have c6_2:=Q6.out.cell 2 _ rfl;clear hbad hgood hB HR P h0
 go_wp2_with fail
 clear c6_1 c6_2;generalize w1.alloc _=w2 at *;generalize w1.heap.size=H6 at *
 refine (PS O.out HP.out hx.2).mono ?_;rintro e' w3 ⟨rfl,hB⟩
 replace HS:=hid (HS.out.below hB);replace X4:=hid (X4.out.below hB);replace HP:=hid (HP.out.below hB);replace Q6:=hid (Q6.out.below hB);clear hB
 exact r8v
/-! ### the binding node -/
def BsR (s:Stp) (m:Nat) (B:World) (b t:Value) (wr:World):Prop:=∃ (best:Int) (k:Nat),k<=s.no.length∧b=vI best∧t=vI (k:Int)∧BsG s m best k∧BoxS B 0 [] wr
theorem Aic {s:Stp} {m:Int} {best:Int} {k:Nat} (h:BsG s m best k) : -1<=best∧best<k∨best = -1:=by
 rcases h with ⟨h,_⟩ | ⟨b,rfl,h,_⟩
 ·exact .inr h
 ·exact .inl ⟨by omega,by omega⟩
theorem AhR {s:Stp} {node:Int} (O:OpG s node) {k:Nat} (hk:k<s.no.length):tgt s (k:Int)=decide ((fam s (spn s)).getD k 0=((sdA s).getD k (0,0)).2):=by
 rw [AhD hk,AhY O hk,Ah (Cs.tight_get (by rw [Af3 O.al];exact hk))]
theorem Ag5 {W:World} {b off n:Nat} {l:Cs.Wins} (h:Pairs W (some ⟨b,off,none⟩) n l) {k:Nat} (hk:k<n):b<W.heap.size∧W.cell? ⟨b,off+k * 2,none⟩=some (vI (l.getD k (0,0)).1)∧W.cell? ⟨b,off+k * 2+1,none⟩=some (vI (l.getD k (0,0)).2):=by
 obtain ⟨b',o',h1,h2,h3⟩:=h.cells (by omega)
 injection h1 with h1;injection h1 with h1 h4;subst h1;subst h4
 obtain ⟨p,hp⟩:=Am h.len hk
 rw [Ah hp]
 exact ⟨h2,h3 k p hp 0 _ rfl,h3 k p hp 1 _ rfl⟩
theorem Ag6 (s:Stp) (node:Int) (w:World) (hl:s.lies w) (hok:s.ok) (hcap:s.sno.n<=s.sno.c) (hnode:I64 node):Calls Tryz.prog 15 #[.agg s.cells.toArray,vI node] w (BdP s node w):=by
 have HS:=hid (DR w s.cells.toArray 35);have HR:=hid (fun W (h:BoxS w 1 [s.cells] W)=>AgO s node 0 0 W (hl.below h.B) hok hcap)
 rw [show decide ((0:Int)<0)=false from by decide] at HR
 have N:=hid (StN.of hl);have HO:=hid (fun h=>(Af2 (node:=node) (late:=false) N.out h).1);clear hl hok hcap
 go_enter Tryz.func15,Tryz.ntmps15
 go_wp2_with (refine AC (.tmp 2) rfl rfl rfl (HS.out.has 0 _ rfl) ?_)
 refine (HR.out _ HS.out).mono ?_;rintro e' w1 ⟨hbad,hgood,hB⟩
 by_cases h0:opE s node false=0
 rotate_left
 ·have HNE:=hid h0
  have e1:=Aw h0;have e2:=AL e1;obtain rfl:=hbad h0;have HB:=hid (Bh (Ae HS.out.B hB) (.cells #[.slice none 0 0,.slice none 0 0,.slice none 0 0] 112));clear hbad hgood hB HR HO
  go_wp2_with fail
  go_ret2
  exact Aha rfl HNE.out HB.out
 obtain ⟨A,c,A2,c2,A3,c3,rfl,P⟩:=hgood h0;have O:=hid (HO.out h0);have hx:=Cq O.out.G N.out;obtain ⟨m,rfl⟩:=Int.eq_ofNat_of_zero_le (show 0<=node by have:=O.out.n1;omega);have HM:=hid (show m<s.no.length by have:=O.out.n2;omega);have H0:=hid h0;replace hB:=Bh hB (.cells #[.slice A s.no.length c,.slice A2 s.no.length c2,.slice A3 (s.no.length - 1) c3] 112);have HP:=hid (P.below (Aa w1 (.cells #[.slice A s.no.length c,.slice A2 s.no.length c2,.slice A3 (s.no.length - 1) c3] 112)));have Q6:=hid (Has.new w1 #[.slice A s.no.length c,.slice A2 s.no.length c2,.slice A3 (s.no.length - 1) c3] 112);replace HS:=hid (HS.out.below hB);have c6_1:=Q6.out.cell 1 _ rfl;have c6_2:=Q6.out.cell 2 _ rfl;clear hbad hgood hB HR HO P h0 hnode
 go_wp2_with fail
 clear c6_1 c6_2;generalize w1.alloc _=w2 at *;generalize w1.heap.size=H6 at *
 refine (PS O.out HP.out hx.2).mono ?_;rintro e' w3 ⟨rfl,hB⟩
 replace HS:=hid (HS.out.below hB);replace HP:=hid (HP.out.below hB);replace Q6:=hid (Q6.out.below hB);clear hB;have c6_1:=Q6.out.cell 1 _ rfl;have c6_2:=Q6.out.cell 2 _ rfl
 have HFA:=hid (show Calls Tryz.prog 54 #[.slice A2 s.no.length c2,.slice A3 (s.no.length - 1) c3,vI (spn s)] w3 (JJ (fam s (spn s)) s.no.length 0 w3) from by
  have h:=RV A2 A3 s.no.length c2 (s.no.length - 1) c3 (sdA s) (spS s) (spn s) w3 HP.out.ws HP.out.st (by unfold maxLen;omega) (by unfold maxLen;omega) HP.out.cap.le HP.out.cap.mx
  rw [Aik O.out (Ah6 O.out)] at h
  simp only [Gf,IX] at h
  exact h)
 go_wp2_with fail
 clear c6_1 c6_2
 refine HFA.out.mono ?_;rintro e' w4 ⟨A4,c4,rfl,hI,hB⟩
 replace HS:=hid (HS.out.below hB);replace Q6:=hid (Q6.out.below hB);have HWS:=hid (HP.out.ws.below hB);obtain ⟨b4,o4,rfl⟩:=Ail hI (by omega);obtain ⟨b2,o2,rfl⟩:=AgW HWS.out (by omega);have HI:=hid hI;clear hB HFA HP hI;have c6_1:=Q6.out.cell 1 _ rfl
 go_wp2_with fail
 clear c6_1 Q6;have HB:=hid HS.out.B;clear HS
 go_loopw [12,45] (fun b t wr=>BsR s m w4 b t wr) (fun _ t _=>s.no.length - (intOf t).toNat)
 case atStart=>exact ⟨-1,0,by omega,rfl,rfl,Aiv _,MS _⟩
 case round =>
 obtain ⟨best,k,hk,rfl,rfl,hG,hs⟩:=hrel;have HG:=hid hG;have HR:=hid hs;clear hs
 by_cases hlt:k<s.no.length
 rotate_left
 ·have i2:¬ (k:Int)<(s.no.length:Int):=by omega
  have HV:=hid (AhP HM.out (show BsG s m best s.no.length from by rw [show s.no.length=k by omega];exact hG));clear hG HG
  go_wp2_with fail
  go_ret2
  exact Ahb H0.out HV.out (Ae HB.out HR.out.B)
 have i1:(0:Int)<=(k:Int):=by omega
 have i2:(k:Int)<(s.no.length:Int):=by omega
 have hbd:=Aic hG;have hm:=HM.out;have w1':=iW ((k:Int) - m);have w2':=iW ((m:Int) - k);have w3':=iW (best - m);have w4':=iW ((m:Int) - best);obtain ⟨hb2,p0,p1⟩:=Ag5 (HWS.out.below HR.out.B) (k:=k) (by omega);have HC4:=hid (fun W (h:Below w4.heap.size w4 W)=>(Ahg (HI.out.below h) (k:=k) (by omega)).2);have HTG:=hid (AhR O.out hlt);clear hbd hG;generalize ((sdA s).getD k (0,0)).1=Y0 at *;generalize ((sdA s).getD k (0,0)).2=Y1 at *;generalize (fam s (spn s)).getD k 0=X at *
 go_wp2_with fail
 have Q:=hid (Has.new wr #[vI Y0,vI Y1] 53);replace HR:=hid (HR.out.alloc (.cells #[vI Y0,vI Y1] 53));generalize wr.alloc _=w5 at *;generalize wr.heap.size=H7 at *
 refine rS (fun W=>BoxS w4 0 [] W∧Has W H7 (lz2 Y0 Y1)) 28 ⟨HR.out.drew,Q.out.drew⟩ (fun hHeld=>?_)
 generalize hW0:World.drew _=w6 at *;clear hW0 HR Q p0 p1;have FA:=fun W (h:BoxS w4 0 [] W∧Has W H7 (lz2 Y0 Y1))=>And.intro (HC4.out W h.1.B) (h.2.cell 1 (vI Y1) rfl)
 by_cases hxy:X=Y1
 rotate_left
 ·have hT:=HTG.out.trans (BJ hxy)
  have hN:=hid (Aie HG.out hT);have e1:=Aw hxy;clear hT HTG hxy
  repeat (first | refine rQ ?_ | refine rF ?_ | refine rU ?_)
  refine rD ?_
  clear FA
  go_wp2_with fail
  go_roundw
  case rel=>exact ⟨best,k+1,by omega,rfl,by go_num,hN.out,hHeld.1⟩
  case measure=>exact zMs
 have hT:=HTG.out.trans (Ct hxy)
 have e1:(X == Y1)=true:=by rw [hxy];simp
 clear HTG
 by_cases hneg:best<0
 ·have hN:=hid (Ahd HG.out hT (.inl hneg))
  clear hT
  repeat (first | refine rQ ?_ | refine rF ?_ | refine rU ?_)
  refine rD ?_
  clear FA
  go_wp2_with fail
  go_roundw
  case rel=>exact ⟨k,k+1,by omega,rfl,by go_num,hN.out,hHeld.1⟩
  case measure=>exact zMs
 by_cases hd:max ((k:Int) - m) (m - k)<max (best - m) (m - best)
 ·have hN:=hid (Ahd HG.out hT (.inr hd))
  clear hT
  repeat (first | refine rQ ?_ | refine rF ?_ | refine rU ?_)
  refine rD ?_
  clear FA
  go_wp2_with fail
  go_roundw
  case rel=>exact ⟨k,k+1,by omega,rfl,by go_num,hN.out,hHeld.1⟩
  case measure=>exact zMs
 ·have hN:=hid (AhQ HG.out hneg hd)
  clear hT
  repeat (first | refine rQ ?_ | refine rF ?_ | refine rU ?_)
  refine rD ?_
  clear FA
  go_wp2_with fail
  go_roundw
  case rel=>exact ⟨best,k+1,by omega,rfl,by go_num,hN.out,hHeld.1⟩
  case measure=>exact zMs
/-! ### the law -/
theorem walk_RtaWindow (s:Stp) (node:Int) (w:World) (hl:s.lies w) (hok:s.ok) (hsw:AbQ s) (hn0:(Lit.int .i64 node).wf=true):Calls Tryz.prog 4 #[.agg s.cells.toArray,vI node] w fun e w'=>e=.returned (.bool true)∧Below w.heap.size w w':=by
 have HS:=hid (DR w s.cells.toArray 35);have HAW:=hid Ag0;have hnode:I64 node:=Az hn0;have H1:=hid (fun W (h:BoxS w 1 [s.cells] W)=>SA s node W (hl.below h.B) hok hsw.cap hnode);have H2:=hid (fun W (h:BoxS w 1 [s.cells] W)=>Ahk s node W (hl.below h.B) hok hsw.cap.le);have H3:=hid (fun W (h:BoxS w 1 [s.cells] W)=>Q3 s node W (hl.below h.B) hok hsw.cap hnode);have H4:=hid (fun W (h:BoxS w 1 [s.cells] W)=>Ag6 s node W (hl.below h.B) hok hsw.cap.le hnode)
 unfold WdP at H1 H2
 unfold BdP at H3 H4
 generalize okI (wdE s node) _=x at *;generalize okI (wdE s node) _=y at *;generalize wdE s node=E at *;generalize opE s node false=E2 at *;generalize bdV s node=v at *;clear hl hok hsw hn0 hnode
 go_enter Tryz.func4,Tryz.ntmps4
 go_wp2_with fail
 refine (HAW.out _).mono ?_;rintro e' w1 ⟨rfl,hB⟩
 replace HS:=hid (HS.out.below hB);clear hB HAW
 go_wp2_with (refine AC (.tmp 2) rfl rfl rfl (HS.out.has 0 _ rfl) ?_)
 refine (H1.out _ HS.out).mono ?_;rintro e' w2 ⟨rfl,hB⟩
 replace HS:=hid ((HS.out.below hB).alloc (.cells #[vI x,vI y] 53));have Q1:=hid (Has.new w2 #[vI x,vI y] 53);clear hB H1
 go_wp2_with (refine AC (.tmp 2) rfl rfl rfl (HS.out.has 0 _ rfl) ?_)
 generalize w2.alloc _=w3 at *;generalize w2.heap.size=B5 at *
 refine (H2.out _ HS.out).mono ?_;rintro e' w4 ⟨rfl,hB⟩
 replace HS:=hid ((HS.out.below hB).alloc (.cells #[vI x,vI y] 53));replace Q1:=hid ((Q1.out.below hB).alloc (.cells #[vI x,vI y] 53));have Q2:=hid (Has.new w4 #[vI x,vI y] 53);clear hB H2
 go_wp2_with (refine AC (.tmp 2) rfl rfl rfl (HS.out.has 0 _ rfl) ?_)
 generalize w4.alloc _=w5 at *;generalize w4.heap.size=B7 at *
 refine (H3.out _ HS.out).mono ?_;rintro e' w6 ⟨rfl,hB⟩
 replace HS:=hid (HS.out.below hB);replace Q1:=hid (Q1.out.below hB);replace Q2:=hid (Q2.out.below hB);clear hB H3
 go_wp2_with (refine AC (.tmp 2) rfl rfl rfl (HS.out.has 0 _ rfl) ?_)
 refine (H4.out _ HS.out).mono ?_;rintro e' w7 ⟨rfl,hB⟩
 have a0:=(Q1.out.below hB).cell 0 _ rfl;have a1:=(Q1.out.below hB).cell 1 _ rfl;have b0':=(Q2.out.below hB).cell 0 _ rfl;have b1':=(Q2.out.below hB).cell 1 _ rfl;have HB:=hid (Ae HS.out.B hB);clear hB H4 HS Q1 Q2
 go_wp2_with fail
 go_ret
 exact ⟨by simp,HB.out⟩
