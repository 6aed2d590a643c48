/- M60: RtF, RtO, RtW, RtB, RtS in one text. -/
import Derived.Test.YtlbmdnfnahingaaGreatM30
set_option linter.unusedSimpArgs false
set_option linter.unusedVariables false
set_option maxRecDepth 100000
set_option maxHeartbeats 8000000
namespace Go.Proofs.YtlbmdnfnahingaaGreat
open Go.RowKit
open Go.Lib (hid)
theorem Agr (s:Stp) (A A2 A3:Option Addr) (c c2 c3:Nat) (sp k:Int) (w:World) (hl:s.lies w) (hok:s.ok) (P:PlB s A A2 A3 c3 w) (hx:s.no.length<=64) (hf:Sp.faE (sdA s) (spS s) k=0):Calls Tryz.prog 49 #[.agg #[.slice A s.no.length c,.slice A2 s.no.length c2,.slice A3 (s.no.length - 1) c3,vI sp],.agg s.cells.toArray,vI k] w (Vf (okL (fkE s k) (fkL s k)) (okN (fkE s k) s.no.length) (fkE s k) w):=by
 have HS:=hid (Dt w #[.slice A s.no.length c,.slice A2 s.no.length c2,.slice A3 (s.no.length - 1) c3,vI sp] s.cells.toArray 107 35);have HFA:=hid (fun W (h:Below w.heap.size w W)=>Ag7 A2 A3 s.no.length c2 (s.no.length - 1) c3 (sdA s) (spS s) k W (P.ws.below h) (P.st.below h) (by unfold maxLen;omega) (by unfold maxLen;omega) P.cap.le P.cap.mx)
 rw [hf] at HFA
 simp only [Gf,IX] at HFA
 have HW:=hid (fun W (h:Below w.heap.size w W) A' c' (hb:Ints W A' s.no.length (fam s k))=>show Calls Tryz.prog 57 #[.agg s.cells.toArray,.slice A s.no.length c,.slice A' s.no.length c'] W (Vf (okL (fkE s k) (fkL s k)) (okN (fkE s k) s.no.length) (fkE s k) W) from Ac7 s A A' s.no.length c s.no.length c' (C8 s) (fam s k) W (hl.below h) hok (P.al.below h) hb (by unfold maxLen;omega) (by unfold maxLen;omega))
 rw [show Sp.faL (sdA s) (spS s) k=fam s k from rfl] at HFA
 generalize fam s k=fmL at *;generalize okL (fkE s k) (fkL s k)=RL at *;generalize okN (fkE s k) s.no.length=RN at *;generalize fkE s k=E at *;have d1:=HS.out.at 0 _ rfl 1 _ rfl;have d2:=HS.out.at 0 _ rfl 2 _ rfl
 rw [Nat.add_zero] at d1 d2
 clear hl hok P hx hf
 go_enter Tryz.func49,Tryz.ntmps49
 go_wp2_with fail
 clear d1 d2
 refine (HFA.out _ HS.out.B).mono ?_;rintro e' w1 ⟨A4,c4,rfl,hI,hB⟩
 replace HS:=hid (HS.out.below hB);have HI:=hid hI;clear hB hI HFA;have d0:=HS.out.at 0 _ rfl 0 _ rfl
 rw [Nat.add_zero] at d0
 go_wp2_with (refine AC (.tmp 4) rfl rfl rfl (HS.out.has 1 _ rfl) ?_)
 clear d0
 refine (HW.out _ HS.out.B _ _ HI.out).mono ?_;rintro e' w2 ⟨A5,c5,rfl,hP,hK,hB⟩
 have HP:=hid (And.intro hP (And.intro hK (Ae HS.out.B hB)));clear hP hK hB
 go_wp2_with fail
 go_ret2
 exact ⟨A5,c5,rfl,HP.out.1,HP.out.2.1,HP.out.2.2⟩
/-- the lengths of the legs so far -/ def DiR (s : Stp) (B : World) (v t : Value) (wr : World) : Prop := ∃ k : Nat, k + 1 <= s.no.length ∧ t = vI (k : Int) ∧ BoxS B 0 [] wr ∧ Ow G9 1 2 B.heap.size ((EI s).take k) v wr
theorem roZ {G:Prop} (h:G:=by
 have q2:=HS.out.has 1 _ rfl;have f0:=q2.fr;have c0:=q2.cell 0 _ rfl;have c1:=q2.cell 1 _ rfl;have c2:=q2.cell 2 _ rfl;have c3:=q2.cell 3 _ rfl;have Q:=hid (Ag3 q2 HS.out.B (Cn _ _) rfl (.slice none 0 0) (.slice none 0 0) (.slice none 0 0) (vI 0));clear q2 HS
 go_wp2_with fail
 obtain ⟨r,hB⟩:=Q.out;have p0:=r.cell 0 _ rfl;have p1:=r.cell 1 _ rfl;have p2:=r.cell 2 _ rfl;have p3:=r.cell 3 _ rfl;generalize hW0:World.setCell _ _ _=W5 at *;clear hW0
 exact bodyPost_ret (v:=.tuple #[.agg #[.slice none 0 0,.slice none 0 0,.slice none 0 0,vI 0],vI EE]) (by simp [EE,results,Tryz.results48,go_sem,p0,p1,p2,p3]) rfl (Ahs HE.out (by first | exact HNE.out | decide) hB)):G:=h
theorem Af4 (s:Stp) (node:Int) (late:Bool) (w:World) (hl:s.lies w) (hok:s.ok) (hcap:BS s.sno.A s.sno.n s.sno.c) (hnode:I64 node):Calls Tryz.prog 48 #[.agg s.cells.toArray,vI node,.bool late] w (FmP s node late w):=by
 obtain ⟨i0,hi,hz0,hz1,hz2⟩:=info_parts CU;have HS:=hid (Dt w s.cells.toArray #[.slice none 0 0,.slice none 0 0,.slice none 0 0,vI 0] 35 107);have X4:Hid (Ex ((w.alloc (.cells s.cells.toArray 35)).alloc (.cells #[.slice none 0 0,.slice none 0 0,.slice none 0 0,vI 0] 107)) (w.heap.size+1) [.slice none 0 0,.slice none 0 0,.slice none 0 0,vI 0]):=hid (Ex.new _ _ _ _ (by simp));have N:=hid (StN.of hl);have HL:=hid hl;have HOK:=hid hok;have HC:=hid hcap;have HK:=hid (fun W (h:BoxS w 2 [s.cells,[.slice none 0 0,.slice none 0 0,.slice none 0 0,vI 0]] W)=>show W.cell? ⟨w.heap.size,0,none⟩=some (.slice s.sno.A s.sno.n s.sno.c) from PQ (h.has 0 _ rfl));have HX:=hid (fun W (h:BoxS w 2 [s.cells,[.slice none 0 0,.slice none 0 0,.slice none 0 0,vI 0]] W)=>show W.cell? ⟨w.heap.size,32,none⟩=some (vI s.acc)∧W.cell? ⟨w.heap.size,33,none⟩=some (vI s.dec) from ⟨Oh (h.has 0 _ rfl),Oi (h.has 0 _ rfl)⟩);clear hl hok hcap hnode
 go_enter Tryz.func48,Tryz.ntmps48
 go_wp2_with (refine AC (.tmp 3) rfl rfl rfl (HS.out.has 0 _ rfl) ?_)
 refine (Jj s _ (HL.out.below HS.out.B) HOK.out).mono ?_;rintro e' w1 ⟨rfl,hB⟩
 replace HS:=hid (HS.out.below hB);replace X4:=hid (X4.out.below hB);clear hB
 by_cases h0:suE s=0
 rotate_left
 ·have HE:=hid (AgE (node:=node) (late:=late) h0)
  have HNE:=hid h0;have e1:=Aw h0;have e2:=AL e1;clear X4 HK HX
  let EE:=suE s
  exact roZ
 rw [h0]
 have G:=hid (Cm h0);have hn2:=Cq G.out N.out;have HNO:=hid N.out.no;have HSU:=hid h0;have k0:=HK.out _ HS.out
 by_cases h1:node<1∨(s.no.length:Int)<=node∨late=true
 ·have HE:=hid (AgK h0 h1)
  clear X4 HK HX h0
  let EE:=(1:Int)
  have hno:=HNO.out
  by_cases c1:node<1
  ·exact roZ
  by_cases c2:(s.sno.n:Int)<=node
  ·exact roZ
  have c3:late=true:=h1.elim (fun h=>absurd h c1) fun h=>h.elim (fun h=>absurd (show (s.sno.n:Int)<=node by omega) c2) id;subst c3
  exact roZ
 have c1:¬ node<1:=fun h=>h1 (.inl h);have c2:¬ (s.sno.n:Int)<=node:=fun h=>h1 (.inr (.inl (by have:=HNO.out;omega)));obtain rfl:late=false:=eq_false_of_ne_true fun h=>h1 (.inr (.inr h));have HH1:=hid h1;have X9:Hid (Ex (w1.alloc (.cells #[.slice none 0 0,.slice none 0 0,.slice none 0 0,vI 0] 107)) w1.heap.size [.slice none 0 0,.slice none 0 0,.slice none 0 0,vI 0]):=hid (Ex.new _ _ _ _ rfl);have Q9:=hid (Has.new w1 #[.slice none 0 0,.slice none 0 0,.slice none 0 0,vI 0] 107);have r9:w.heap.size+2<=w1.heap.size:=HS.out.sz;replace HS:=hid (HS.out.alloc (.cells #[.slice none 0 0,.slice none 0 0,.slice none 0 0,vI 0] 107));replace X4:=hid (X4.out.below (Aa w1 (.cells #[.slice none 0 0,.slice none 0 0,.slice none 0 0,vI 0] 107)));clear h1 h0
 go_wp2_with (refine AC (.tmp 3) rfl rfl rfl (HS.out.has 0 _ rfl) ?_)
 generalize w1.alloc _=w2 at *;generalize w1.heap.size=H9 at *;clear k0 c1 c2;have hA:=P6 s w2 (HL.out.below HS.out.B) HOK.out
 unfold Ul at hA
 refine hA.mono ?_;rintro e' w3 ⟨A,c,rfl,hI,hB⟩
 replace HS:=hid (HS.out.below hB);replace X4:=hid (X4.out.below hB);replace X9:=hid (X9.out.below hB);replace Q9:=hid (Q9.out.below hB);clear hB hA
 by_cases h0:Dr s=0
 rotate_left
 ·have HE:=hid (AgL HSU.out HH1.out h0)
  have HNE:=hid h0;have e1:=Aw h0;have e2:=AL e1;generalize okN (Dr s) s.no.length=n1 at *;have f9:=Q9.out.fr;have k9:=Q9.out.cell 0 _ rfl;replace HS:=hid (HS.out.set H9 0 r9 (.slice A n1 c));clear X4 X9 Q9 HK HX hI
  let EE:=Dr s
  exact roZ
 have HAE:=hid h0
 rw [h0] at hI ⊢
 simp only [Gf,IX] at hI ⊢
 have A0:=hid (OG N.out h0);have HI:=hid (hI.set_ne (Agh hI hn2.1 X9.out) 0 (.slice A s.no.length c));clear hI h0;have f9:=Q9.out.fr;have k9:=Q9.out.cell 0 _ rfl;replace HS:=hid (HS.out.set H9 0 r9 (.slice A s.no.length c));replace X9:=hid (X9.out.set 0 (.slice A s.no.length c) (by simp));replace Q9:=hid (Q9.out.set 0 (.slice A s.no.length c) (by simp));replace X4:=hid (X4.out.other H9 0 (.slice A s.no.length c) (by omega));have k9':=Q9.out.cell 0 _ rfl
 go_wp2_with (refine AC (.tmp 3) rfl rfl rfl (HS.out.has 0 _ rfl) ?_)
 clear f9 k9 k9';generalize hW0:World.setCell _ _ _=w4 at *;clear hW0;have hP:=XY s A s.no.length c (C8 s) w4 (HL.out.below HS.out.B) HOK.out HI.out (by unfold maxLen;omega)
 rw [AfH G.out N.out HSU.out A0.out] at hP
 unfold FY at hP
 simp only [Gf,IX] at hP
 refine hP.mono ?_;rintro e' w5 ⟨A2,c2,rfl,hW,-,hB⟩
 replace HS:=hid (HS.out.below hB);replace X4:=hid (X4.out.below hB);replace X9:=hid (X9.out.below hB);replace Q9:=hid (Q9.out.below hB);have hI:=HI.out.below hB;replace HI:=hid (hI.set_ne (Agh hI hn2.1 X9.out) 1 (.slice A2 s.no.length c2));have HW:=hid (show Pairs (w5.setCell ⟨H9,1,none⟩ (.slice A2 s.no.length c2)) A2 s.no.length (sdA s) from Recs.set_ne hW (AfV hW (by omega) X9.out) 1 (.slice A2 s.no.length c2));clear hB hP hW hI;have f9:=Q9.out.fr;have k9:=Q9.out.cell 1 _ rfl;replace HS:=hid (HS.out.set H9 1 r9 (.slice A2 s.no.length c2));replace X9:=hid (X9.out.set 1 (.slice A2 s.no.length c2) (by simp));replace Q9:=hid (Q9.out.set 1 (.slice A2 s.no.length c2) (by simp));replace X4:=hid (X4.out.other H9 1 (.slice A2 s.no.length c2) (by omega));obtain ⟨b,off,hA⟩:=FC HL.out (by have:=HNO.out;omega);have HND:=hid (fun W (h:BoxS w 2 [s.cells,[.slice none 0 0,.slice none 0 0,.slice none 0 0,vI 0]] W) k (hk:k<s.no.length)=>Ce (HL.out.below h.B) hA hk);have k0:=HK.out _ HS.out
 rw [hA] at k0
 have i1:1<=s.sno.n:=by have:=HNO.out;omega
 have i2:¬ s.sno.c=1:=by have:=HC.out.le;have:=HNO.out;omega
 have i3:s.sno.n<=s.sno.c:=HC.out.le
 go_wp2_with fail
 clear f9 k9 k0 i2;generalize hW0:World.setCell _ _ _=w6 at *;clear hW0;have HDL:=hid (Qo G.out N.out).2;have HY:=hid (fun W (h:BoxS w6 0 [] W)=>And.intro (HS.out.below h.B) (And.intro (X4.out.below h.B) (And.intro (X9.out.below h.B) (And.intro (Q9.out.below h.B) (And.intro (HI.out.below h.B) (HW.out.below h.B))))));clear HS X4 X9 Q9 HI HW
 go_loopw [11,60] (fun v t wr=>DiR s w6 v t wr) (fun _ t _=>s.sno.n - (intOf t).toNat)
 case atStart=>exact ⟨0,by omega,rfl,Agv _,Ow.start _ _ _ _ _⟩
 case round =>
 obtain ⟨k,hk,rfl,hs,ho⟩:=hrel;obtain ⟨hS,hX4,hX9,hQ9,hI,hW⟩:=HY.out _ hs;have HS:=hid hS;have HR:=hid hs;have HO:=hid ho;clear hs ho hS
 by_cases hlt:k+1<s.no.length
 ·have i4:(k:Int)<((s.sno.n - 1:Nat):Int):=by have:=HNO.out;omega
  have i5:(0:Int)<=(k:Int):=by omega
  obtain ⟨c0,c1,c2,c3,c4,c5,c6⟩:=HND.out _ HS.out (k+1) hlt
  rw [show off+(k+1) * 7=off+7+k * 7 by omega] at c0 c1 c2 c3 c4 c5 c6
  have hlen:((EI s).take k).length<=64:=by rw [List.length_take];omega
  have HTK:=hid (Agj (s:=s) hlt);clear hX4 hX9 hQ9 hI hW;generalize (EI s).take k=l at *;generalize Ac s (k+1)=M at *
  go_wp2_with (at_builtin;refine wpList_append_own_at _ rfl _ _ 23 rfl w6.heap.size 2 i0 (vI 0) 1 8 Tryz.underlying23 hi hz0 hz1 hz2 rfl (by decide) _ _ _ rfl (((HO.out.alloc _).alloc _).own) ⟨wr.heap.size+1,0,none⟩ 1 1 [vI M.di] rfl rfl (AY _ _ (by first | rfl | simp) _ _ _ rfl) (by intro u hu;simp at hu;rcases hu with rfl;rfl) (by unfold maxLen;omega) (by omega) (by have:=HR.out.sz;simp;omega) ?_;intro v1 w7 hown hgrow hnil hblk)
  have HS7:=hid (((HR.out.alloc _).alloc _).grown hgrow (fun k hk=>(HO.out.lt hk).1));have HO7:=hid (Ow.next (l:=l) (f:=G9) (x:=M.di) hown)
  go_roundw
  case rel=>exact ⟨k+1,by omega,by go_num,HS7.out,by rw [HTK.out];exact HO7.out⟩
  case measure=>exact zMs
 have i4:¬ (k:Int)<((s.sno.n - 1:Nat):Int):=by have:=HNO.out;omega
 rw [CY (by rw [HDL.out];omega)] at HO
 obtain ⟨A',c',hv,hD,-⟩:=HO.out.ints HDL.out;have HD:=hid hD;have X4:=hid hX4;have X9:=hid hX9;have Q9:=hid hQ9;have HI:=hid hI;have HW:=hid hW;subst hv;obtain ⟨k1,k2⟩:=HX.out _ HS.out;clear hD hX4 hX9 hQ9 hI hW HO HY HR
 go_wp2_with fail
 clear k1 k2;have hT:=Af7 A' (s.no.length - 1) c' (EI s) s.acc s.dec wr HD.out (by unfold maxLen;omega)
 rw [AcT G.out N.out] at hT
 unfold FY at hT
 simp only [Gf,IX] at hT
 refine hT.mono ?_;rintro e' w7 ⟨A3,c3,rfl,hT3,hc3,hB⟩
 replace HS:=hid (HS.out.below hB);replace X4:=hid (X4.out.below hB);replace X9:=hid (X9.out.below hB);replace Q9:=hid (Q9.out.below hB);have hP:PlB s A A2 A3 c3 w7:=⟨HI.out.below hB,HW.out.below hB,hT3,hc3⟩;have HP:=hid (hP.set ⟨Agh hP.al hn2.1 X9.out,AfV hP.ws (by omega) X9.out,AfV hP.st (by omega) X9.out⟩ 2 (.slice A3 (s.no.length - 1) c3));clear hB hT hT3 hc3 HI HW HD hP;have f9:=Q9.out.fr;have k9:=Q9.out.cell 2 _ rfl;replace HS:=hid (HS.out.set H9 2 r9 (.slice A3 (s.no.length - 1) c3));replace X9:=hid (X9.out.set 2 (.slice A3 (s.no.length - 1) c3) (by simp));replace Q9:=hid (Q9.out.set 2 (.slice A3 (s.no.length - 1) c3) (by simp));replace X4:=hid (X4.out.other H9 2 (.slice A3 (s.no.length - 1) c3) (by omega));have k9':=Q9.out.cell 1 _ rfl;have k9'':=Q9.out.cell 2 _ rfl
 go_wp2_with fail
 clear f9 k9 k9' k9'';generalize hW0:World.setCell _ _ _=w8 at *;clear hW0
 refine (Ahz A2 A3 s.no.length c2 (s.no.length - 1) c3 (sdA s) (spS s) w8 HP.out.ws HP.out.st (by unfold maxLen;omega) (by unfold maxLen;omega) HP.out.cap.le HP.out.cap.mx).mono ?_;rintro e' w9 ⟨rfl,hB⟩
 replace HS:=hid (HS.out.below hB);replace X4:=hid (X4.out.below hB);replace X9:=hid (X9.out.below hB);replace Q9:=hid (Q9.out.below hB);replace HP:=hid (HP.out.below hB);have HSP:=hid (AgM HSU.out HH1.out HAE.out);clear hB;have f9:=Q9.out.fr;have k9:=Q9.out.cell 3 _ rfl
 by_cases h3:Sp.spE (sdA s) (spS s)=0
 rotate_left
 ·have HE:=hid HSP.out
  have HNE:=hid h3;have e1:=Aw h3;have e2:=AL e1;generalize okI (Sp.spE (sdA s) (spS s)) (Sp.spV (sdA s) (spS s))=V at *;replace HS:=hid (HS.out.set H9 3 r9 (vI V));clear X4 X9 Q9 HK HX HP
  let EE:=Sp.spE (sdA s) (spS s)
  exact roZ
 have HE:=hid (HSP.out.trans h3)
 rw [h3,show okI 0 (Sp.spV (sdA s) (spS s))=spn s from if_pos rfl]
 have hP:=HP.out.set ⟨Agh HP.out.al hn2.1 X9.out,AfV HP.out.ws (by omega) X9.out,AfV HP.out.st (by omega) X9.out⟩ 3 (vI (spn s));replace HS:=hid (HS.out.set H9 3 r9 (vI (spn s)));replace Q9:=hid (Q9.out.set 3 (vI (spn s)) (by simp));replace X4:=hid (X4.out.other H9 3 (vI (spn s)) (by omega));replace HP:=hid hP;have hne:=And.intro (Agh HP.out.al hn2.1 X4.out) (And.intro (AfV HP.out.ws (by omega) X4.out) (AfV HP.out.st (by omega) X4.out));clear X9 hP HSP h3;have q0:=Q9.out.cell 0 _ rfl;have q1:=Q9.out.cell 1 _ rfl;have q2:=Q9.out.cell 2 _ rfl;have q3:=Q9.out.cell 3 (vI (spn s)) rfl;have u:=HS.out.has 1 _ rfl;have f0:=u.fr;have c0:=u.cell 0 _ rfl;have c1:=u.cell 1 _ rfl;have d2:=u.cell 2 _ rfl;have d3:=u.cell 3 _ rfl;have Q:=hid (Ag3 u HS.out.B (Cn _ _) rfl (.slice A s.no.length c) (.slice A2 s.no.length c2) (.slice A3 (s.no.length - 1) c3) (vI (spn s)));replace HP:=hid ((((HP.out.set hne 0 (.slice A s.no.length c)).set hne 1 (.slice A2 s.no.length c2)).set hne 2 (.slice A3 (s.no.length - 1) c3)).set hne 3 (vI (spn s)));clear u hne X4 HS Q9
 go_wp2_with fail
 obtain ⟨r,hB⟩:=Q.out;have p0:=r.cell 0 _ rfl;have p1:=r.cell 1 _ rfl;have p2:=r.cell 2 _ rfl;have p3:=r.cell 3 _ rfl;generalize hW0:World.setCell _ _ _=W5 at *;clear hW0
 exact bodyPost_ret (v:=.tuple #[.agg #[.slice A s.no.length c,.slice A2 s.no.length c2,.slice A3 (s.no.length - 1) c3,vI (spn s)],vI 0]) (by simp [results,Tryz.results48,go_sem,p0,p1,p2,p3]) rfl (Ah0 HE.out HP.out hB)
theorem r8w {G:Prop} (h:G:=by
 have q2:=HS.out.has 1 _ rfl;have f0:=q2.fr;have c0:=q2.cell 0 _ rfl;have c1:=q2.cell 1 _ rfl;have Q:=hid (Ain q2 HS.out.B (Cn _ _) rfl (vI 0) (vI 0));clear q2 HS
 go_wp2_with fail
 obtain ⟨r,hB⟩:=Q.out;have p0:=r.cell 0 _ rfl;have p1:=r.cell 1 _ rfl;generalize hW0:World.setCell _ _ _=W5 at *;clear hW0
 exact bodyPost_ret (v:=.tuple #[.agg #[vI 0,vI 0],vI EE]) (by simp [EE,results,Tryz.results12,Tryz.results13,go_sem,p0,p1]) rfl (Ah7 HE.out HNE.out hB)):G:=h
theorem r8v {G:Prop} (h:G:=by
 have c6_0:=Q6.out.cell 0 _ rfl;have c6_1:=Q6.out.cell 1 _ rfl;have c6_2:=Q6.out.cell 2 _ rfl
 try have c6_3:=Q6.out.cell 3 (vI (spn s)) rfl
 go_wp2_with (refine AC (.tmp 2) rfl rfl rfl (HS.out.has 0 _ rfl) ?_)
 clear c6_0 c6_1 c6_2
 try clear c6_3
 refine (HF.out _ HS.out HP.out _ (fk_go (k:=spn s) O.out N.out (Agp _ _:0<=spn s) (Bt _))).mono ?_;rintro e' w4 ⟨A4,c4,rfl,hp,-,hB⟩
 replace HS:=hid (HS.out.below hB);replace X4:=hid (X4.out.below hB);replace HP:=hid (HP.out.below hB);replace Q6:=hid (Q6.out.below hB);have P4:=hid hp;clear hB hp
 by_cases h1:fkE s (spn s)=0
 rotate_left
 ·have HE:=hid (Air H0.out h1)
  have HNE:=hid h1;have e1:=Aw h1;have e2:=AL e1;clear X4 HP Q6 P4 HF
  let EE:=fkE s (spn s)
  exact r8w
 have HW2:=hid (Ais H0.out h1)
 rw [h1] at P4 ⊢
 simp only [Gf,IX] at P4 ⊢
 clear h1;have c6_0:=Q6.out.cell 0 _ rfl;have c6_1:=Q6.out.cell 1 _ rfl;have c6_2:=Q6.out.cell 2 _ rfl
 try have c6_3:=Q6.out.cell 3 (vI (spn s)) rfl
 go_wp2_with (refine AC (.tmp 2) rfl rfl rfl (HS.out.has 0 _ rfl) ?_)
 clear c6_0 c6_1 c6_2
 try clear c6_3
 refine (HF.out _ HS.out HP.out _ (fk_go O.out N.out (Bt 0) (Agp _ _:0<=spn s))).mono ?_;rintro e' w5 ⟨A5,c5,rfl,hp,-,hB⟩
 replace HS:=hid (HS.out.below hB);replace X4:=hid (X4.out.below hB);replace P4:=hid (P4.out.below hB);have P5:=hid hp;clear hB hp HP Q6 HF
 by_cases h1:fkE s 0=0
 rotate_left
 ·have HE:=hid (show wdE s (m:Int)=fkE s 0 from HW2.out)
  have HNE:=hid h1;have e1:=Aw h1;have e2:=AL e1;clear X4 P4 P5
  let EE:=fkE s 0
  exact r8w
 have HE:=hid (HW2.out.trans h1)
 rw [h1] at P5 ⊢
 simp only [Gf,IX] at P5 ⊢
 obtain ⟨b4,o4,rfl⟩:=KV P4.out (by omega);obtain ⟨b5,o5,rfl⟩:=KV P5.out (by omega);have n4:b4≠w.heap.size+1:=Ag2 P4.out (by omega) X4.out b4 o4 rfl;have n5:b5≠w.heap.size+1:=Ag2 P5.out (by omega) X4.out b5 o5 rfl;have C4:=hid (show w5.cell? ⟨b4,o4+m * 13+4,none⟩=some (vI (fkT s (spn s) ((m:Int)).toNat)) from (E5 P4.out (Agd HM.out)).2 4 _ (by rw [Int.toNat_natCast];rfl));have C5:=hid (show w5.cell? ⟨b5,o5+m * 13+4,none⟩=some (vI (fkT s 0 ((m:Int)).toNat)) from (E5 P5.out (Agd HM.out)).2 4 _ (by rw [Int.toNat_natCast];rfl));clear h1 HW2 P4 P5 X4;generalize hta:fkT s (spn s) ((m:Int)).toNat=ta at *;generalize htb:fkT s 0 ((m:Int)).toNat=tb at *;have HTT:=hid (And.intro hta.symm htb.symm);clear hta htb
 go_wp2_with fail
 have q2:=(HS.out.has 1 _ rfl).drew
 refine rS (fun W=>Below w.heap.size w W∧W.cell? ⟨b4,o4+m * 13+4,none⟩=some (vI ta)∧W.cell? ⟨b5,o5+m * 13+4,none⟩=some (vI tb)) 13 ⟨HS.out.B.drew,(World.cell?_drew _ _).trans C4.out,(World.cell?_drew _ _).trans C5.out⟩ (fun hHeld=>?_)
 generalize hW0:World.drew _=w6 at *;clear hW0 HS C4 C5;have FA:=fun W (h:Below w.heap.size w W∧W.cell? ⟨b4,o4+m * 13+4,none⟩=some (vI ta)∧W.cell? ⟨b5,o5+m * 13+4,none⟩=some (vI tb))=>And.intro h.2.1 h.2.2
 repeat (first | refine rQ ?_ | refine rF ?_)
 have f0:=q2.fr;have c0:=q2.cell 0 _ rfl;have c1:=q2.cell 1 _ rfl
 refine rEk ?_
 intro K hK
 refine rEt hK ⟨Ab (Ab hHeld.1 _ _ (by omega) (vI ta)) _ _ (by omega) (vI tb),AgR hHeld.2.1 n4 _ _,AgR hHeld.2.2 n5 _ _⟩ ?_
 clear hK K f0 c0 c1 FA hHeld
 intro hHeld
 have q4:Has _ (w.heap.size+1) (lz2 ta tb):=(q2.set 0 (vI ta) (by simp)).set 1 (vI tb) (by simp);generalize hW0:World.setCell _ _ _=w7 at *;clear hW0;have p0:=q4.cell 0 (vI ta) rfl;have p1:=q4.cell 1 (vI tb) rfl
 repeat refine rQ ?_
 refine rD ?_
 go_wp2_with fail
 exact bodyPost_ret (v:=.tuple #[.agg #[vI ta,vI tb],vI 0]) (by simp [results,Tryz.results12,Tryz.results13,go_sem,p0,p1]) rfl (Ait HE.out HTT.out.1 HTT.out.2 hHeld.1)):G:=h
theorem SA (s:Stp) (node:Int) (w:World) (hl:s.lies w) (hok:s.ok) (hcap:BS s.sno.A s.sno.n s.sno.c) (hnode:I64 node):Calls Tryz.prog 12 #[.agg s.cells.toArray,vI node] w (WdP s node w):=by
 have HS:=hid (Dt w s.cells.toArray #[vI 0,vI 0] 35 53);have X4:Hid (Ex ((w.alloc (.cells s.cells.toArray 35)).alloc (.cells #[vI 0,vI 0] 53)) (w.heap.size+1) (lz2 0 0)):=hid (Ex.new _ _ _ _ (by simp));have HR:=hid (fun W (h:BoxS w 2 [s.cells,(lz2 0 0)] W)=>Af4 s node false W (hl.below h.B) hok hcap hnode)
 skip
 have N:=hid (StN.of hl);have HL:=hid hl;have HOK:=hid hok;clear hl hok hnode hcap
 go_enter Tryz.func12,Tryz.ntmps12
 go_wp2_with (refine AC (.tmp 2) rfl rfl rfl (HS.out.has 0 _ rfl) ?_)
 refine (HR.out _ HS.out).mono ?_;rintro e' w1 ⟨hbad,hgood,hB⟩
 by_cases h0:opE s node false=0
 rotate_left
 ·have HE:=hid (AhE h0)
  have HNE:=hid h0;have e1:=Aw h0;have e2:=AL e1;obtain rfl:=hbad h0;replace HS:=hid ((HS.out.below hB).alloc (.cells #[.slice none 0 0,.slice none 0 0,.slice none 0 0,vI 0] 107));clear hbad hgood hB HR X4
  let EE:=opE s node false
  exact r8w
 obtain ⟨A,c,A2,c2,A3,c3,rfl,P⟩:=hgood h0;have O:=hid (Af2 N.out h0).1;have hx:=Cq O.out.G N.out;obtain ⟨m,rfl⟩:=Int.eq_ofNat_of_zero_le (show 0<=node by have:=O.out.n1;omega);have HM:=hid (show m<s.no.length by have:=O.out.n2;omega);have H0:=hid h0;replace hB:=Bh hB (.cells #[.slice A s.no.length c,.slice A2 s.no.length c2,.slice A3 (s.no.length - 1) c3,vI (spn s)] 107);have HP:=hid (P.below (Aa w1 (.cells #[.slice A s.no.length c,.slice A2 s.no.length c2,.slice A3 (s.no.length - 1) c3,vI (spn s)] 107)));have Q6:=hid (Has.new w1 #[.slice A s.no.length c,.slice A2 s.no.length c2,.slice A3 (s.no.length - 1) c3,vI (spn s)] 107);have HF:=hid (fun W (h:BoxS w 2 [s.cells,(lz2 0 0)] W) (P:PlB s A A2 A3 c3 W) k hf=>Agr s A A2 A3 c c2 c3 (spn s) k W (HL.out.below h.B) HOK.out P hx.2 hf)
 unfold Vf at HF
 replace HS:=hid (HS.out.below hB);replace X4:=hid (X4.out.below hB)
 have i0:(0:Int)<=(m:Int):=by omega
 have i1:(m:Int)<(s.no.length:Int):=by have:=HM.out;omega
 clear hbad hgood hB HR P h0
 exact r8v
theorem rbN {G:Prop} (h:G:=by
 refine rS (fun W=>BoxS wr 0 [] W) 22 (MS wr).drew (fun hHeld=>?_)
 generalize hW0:World.drew _=w6 at *;clear hW0
 repeat (first | refine rQ ?_ | refine rF ?_ | refine rU ?_)
 refine rD ?_
 have HH:=hid hHeld;clear hHeld
 try clear FA
 go_wp2_with fail
 go_roundw
 case rel=>exact ⟨j+1,by omega,by first | go_num | rfl,HF.out.1,HF.out.2,HJ.out.below HH.out.B⟩
 case measure=>exact zMs):G:=h
theorem Q3 (s:Stp) (node:Int) (w:World) (hl:s.lies w) (hok:s.ok) (hcap:BS s.sno.A s.sno.n s.sno.c) (hnode:I64 node):Calls Tryz.prog 14 #[.agg s.cells.toArray,vI node] w (BdP s node w):=by
 have HS:=hid (DR w s.cells.toArray 35);have HR:=hid (fun W (h:BoxS w 1 [s.cells] W)=>Af4 s node false W (hl.below h.B) hok hcap hnode);have N:=hid (StN.of hl);clear hl hok hcap hnode
 go_enter Tryz.func14,Tryz.ntmps14
 go_wp2_with (refine AC (.tmp 2) rfl rfl rfl (HS.out.has 0 _ rfl) ?_)
 refine (HR.out _ HS.out).mono ?_;rintro e' w1 ⟨hbad,hgood,hB⟩
 by_cases h0:opE s node false=0
 rotate_left
 ·have HNE:=hid h0
  have e1:=Aw h0;have e2:=AL e1;obtain rfl:=hbad h0;have HB:=hid (Bh (Ae HS.out.B hB) (.cells #[.slice none 0 0,.slice none 0 0,.slice none 0 0,vI 0] 107));clear hbad hgood hB HR
  go_wp2_with fail
  go_ret2
  exact Aha rfl HNE.out HB.out
 obtain ⟨A,c,A2,c2,A3,c3,rfl,P⟩:=hgood h0;have O:=hid (Af2 N.out h0).1;have hx:=Cq O.out.G N.out;have hnd:=O.out.n1;have hnd2:=O.out.n2;have HH0:=hid h0;obtain ⟨b2,o2,rfl⟩:=AgW P.ws (by omega);replace hB:=Bh hB (.cells #[.slice A s.no.length c,.slice (some ⟨b2,o2,none⟩) s.no.length c2,.slice A3 (s.no.length - 1) c3,vI (spn s)] 107);have HP:=hid (P.below (Aa w1 (.cells #[.slice A s.no.length c,.slice (some ⟨b2,o2,none⟩) s.no.length c2,.slice A3 (s.no.length - 1) c3,vI (spn s)] 107)));have Q6:=hid (Has.new w1 #[.slice A s.no.length c,.slice (some ⟨b2,o2,none⟩) s.no.length c2,.slice A3 (s.no.length - 1) c3,vI (spn s)] 107);replace HS:=hid (HS.out.below hB);have c6_1:=Q6.out.cell 1 _ rfl;have c6_2:=Q6.out.cell 2 _ rfl;clear hbad hgood hB HR P h0
 go_wp2_with fail
 clear c6_1 c6_2;generalize w1.alloc _=w2 at *;generalize w1.heap.size=H6 at *
 refine (X7 _ A3 s.no.length c2 (s.no.length - 1) c3 (sdA s) (spS s) w2 HP.out.ws HP.out.st (by unfold maxLen;omega) (by unfold maxLen;omega) HP.out.cap.le HP.out.cap.mx).mono ?_;rintro e' w3 ⟨h1,-,hB⟩
 obtain ⟨A4,c4,rfl,hP4⟩:=h1 O.out.tg;replace HS:=hid (HS.out.below hB);replace Q6:=hid (Q6.out.below hB);have I2:=HP.out.ws.below hB;obtain ⟨b4,o4,rfl⟩:=AgW hP4 (by omega);have HY:=hid (fun W (h:BoxS w3 0 [] W)=>HS.out.below h.B);have HZ:=hid (fun W (h:BoxS w3 0 [] W)=>Q6.out.below h.B);have HCC:=hid (fun W (h:BoxS w3 0 [] W) m (hm:m<s.no.length)=>show W.cell? ⟨b4,o4+m * 2+1,none⟩=some (vI ((Cs.tight (sdA s) (spS s)).getD m (0,0)).2)∧W.cell? ⟨b2,o2+m * 2+1,none⟩=some (vI ((sdA s).getD m (0,0)).2) from ⟨(LD (hP4.below h.B) hm).2,(LD (I2.below h.B) hm).2⟩);clear hB h1 hP4 I2 HP
 go_wp2_with fail
 go_loopw [9] (fun t wr=>BdR s node w3 t wr) (fun t _=>s.no.length - (intOf t).toNat)
 case atStart=>exact ⟨0,by omega,rfl,rfl,MS _⟩
 case round =>
 clear HS Q6;obtain ⟨d,hd,rfl,hbd,hs⟩:=hrel;have HD:=hid hbd;have HR:=hid hs;clear hbd hs
 by_cases hlt:d<s.no.length
 rotate_left
 ·have hlt':¬ (d:Int)<(s.no.length:Int):=by omega
  have HV:=hid (show bdF s node 0 s.no.length = -1 from by rw [HD.out,show s.no.length - d=0 by omega];rfl)
  go_wp2_with fail
  go_ret2
  exact Ahb HH0.out HV.out (HY.out _ HR.out).B
 have hlt':(d:Int)<(s.no.length:Int):=by omega
 have wa:=iW (node - (d:Int));have wb:=iW (node+(d:Int));have wd:=iW ((d:Int)+1)
 have HDS:=hid (show bdF s node 0 s.no.length=if tgt s (node - d)=true then node - d else if tgt s (node+d)=true then node+d else bdF s node (d+1) (s.no.length - (d+1)) from by rw [HD.out,show s.no.length - d=s.no.length - (d+1)+1 by omega];exact Aib)
 go_wp2_with fail
 clear wa wb;generalize node - (d:Int)=x at *;generalize node+(d:Int)=y at *;have HXY:=hid (show Has (wr.alloc (.cells #[vI x,vI y] 3)) wr.heap.size (lz2 x y) from Has.new _ _ _);replace HR:=hid (HR.out.alloc (.cells #[vI x,vI y] 3));generalize wr.alloc (.cells #[vI x,vI y] 3)=w5 at *;generalize wr.heap.size=H5 at *;have HYX:=hid (fun W (h:BoxS w5 0 [] W)=>HXY.out.below h.B)
 go_loopw [46] (fun t wr=>BdJ s x y w5 t wr) (fun t _=>2 - (intOf t).toNat)
 case atStart=>exact ⟨0,by omega,rfl,fun h=>by omega,fun h=>by omega,MS _⟩
 case round =>
 clear HXY;obtain ⟨j,hj,rfl,ha,hb,hs⟩:=hrel;have HA:=hid (And.intro ha hb);have HJ:=hid hs;clear ha hb hs
 by_cases hj2:j<2
 rotate_left
 ·have hj2':¬ (j:Int)<2:=by omega
  have HV:=hid (show bdF s node 0 s.no.length=bdF s node (d+1) (s.no.length - (d+1)) from by rw [HDS.out,HA.out.1 (by omega),HA.out.2 (by omega)];rfl)
  go_wp2_with fail
  go_roundw
  case rel=>exact ⟨d+1,by omega,by first | go_num | rfl,HV.out,HR.out.below HJ.out.B⟩
  case measure=>exact zMs
 have hj2':(j:Int)<2:=by omega
 have hj0:0<=(j:Int):=by omega
 obtain ⟨z,hz,HZ0,HZT⟩:∃ z:Int,Hid (∀ W,BoxS w5 0 [] W→W.cell? ⟨H5,j,none⟩=some (vI z))∧Hid (tgt s z=true→bdF s node 0 s.no.length=z)∧Hid (tgt s z=false→(1<=j+1→tgt s x=false)∧(2<=j+1→tgt s y=false)):=by
  by_cases e:j=0
  ·subst e
   refine ⟨x,hid fun W h=>(HYX.out W h).cell 0 _ rfl,hid fun h=>by rw [HDS.out,if_pos h],hid fun h=>⟨fun _=>h,fun h2=>by omega⟩⟩
  ·obtain rfl:j=1:=by omega
   have hx:=HA.out.1 (by omega)
   refine ⟨y,hid fun W h=>(HYX.out W h).cell 1 _ rfl,hid fun h=>by rw [HDS.out,if_neg (by rw [hx];decide),if_pos h],hid fun h=>⟨fun _=>hx,fun _=>h⟩⟩
 have z0:=hz.out _ HJ.out
 go_wp2_with fail
 clear z0;have FA:=fun W (h:BoxS wr 0 [] W)=>True.intro
 by_cases h0:0<=z
 rotate_left
 ·have HF:=hid (HZT.out (Ahn (by omega)))
  exact rbN
 by_cases h1:z<(s.no.length:Int)
 rotate_left
 ·have HF:=hid (HZT.out (Ahn (by omega)))
  exact rbN
 obtain ⟨m,rfl⟩:=Int.eq_ofNat_of_zero_le h0
 have hm:m<s.no.length:=by omega
 have hT:=AhD hm;clear FA;have FA:=fun W (h:BoxS wr 0 [] W)=>And.intro (HCC.out W (HR.out.below (HJ.out.below h.B).B) m hm) ((HZ.out W (HR.out.below (HJ.out.below h.B).B)).cell 1 _ rfl);generalize ((Cs.tight (sdA s) (spS s)).getD m (0,0)).2=th at *;generalize ((sdA s).getD m (0,0)).2=wh at *
 by_cases he:th=wh
 rotate_left
 ·have HF:=hid (HZT.out (by rw [hT];exact BJ he))
  have e1:(th == wh)=false:=by simp [he]
  clear he hT
  exact rbN
 have HF:=hid (HZ0.out (by rw [hT];exact Ct he))
 have e1:(th == wh)=true:=by simp [he]
 clear he hT
 refine rS (fun W=>BoxS wr 0 [] W) 22 (MS wr).drew (fun hHeld=>?_)
 generalize hW0:World.drew _=w6 at *;clear hW0
 repeat (first | refine rQ ?_ | refine rF ?_ | refine rU ?_)
 refine rD ?_
 have HH:=hid hHeld;clear hHeld
 try clear FA
 go_wp2_with fail
 go_ret2
 exact Ahb HH0.out HF.out (HY.out _ (HR.out.below (HJ.out.below HH.out.B).B)).B
theorem r8s {G:Prop} (h:G:=by
  have q2:=HS.out.has 2 _ rfl;have f0:=q2.fr;have c0:=q2.cell 0 _ rfl;have c1:=q2.cell 1 _ rfl;have c2:=q2.cell 2 _ rfl;have c3:=q2.cell 3 _ rfl;have Q:=hid (Ag3 q2 HS.out.B (Cn _ _) rfl (.slice none 0 0) (vI 0) (vI 0) (.bool false));clear q2 HS
  go_wp2_with fail
  obtain ⟨r,hB⟩:=Q.out;have p0:=r.cell 0 _ rfl;have p1:=r.cell 1 _ rfl;have p2:=r.cell 2 _ rfl;have p3:=r.cell 3 _ rfl;generalize hW0:World.setCell _ _ _=W5 at *;clear hW0
  exact bodyPost_ret (v:=.tuple #[.agg #[.slice none 0 0,vI 0,vI 0,.bool false],vI 0,vI EE]) (by simp [EE,results,Tryz.results16,Tryz.results17,go_sem,p0,p1,p2,p3]) rfl (Ah3 HE.out HNE.out hB)):G:=h
theorem r8o {G:Prop} (h:G:=by
  have q2:=HS.out.has 2 _ rfl;have f0:=q2.fr;have c0:=q2.cell 0 _ rfl;have c1:=q2.cell 1 _ rfl;have c2:=q2.cell 2 _ rfl;have c3:=q2.cell 3 _ rfl;have Q:=hid (Ag3 q2 HS.out.B (Cn _ _) rfl (.slice (some ⟨b4,o4,none⟩) s.no.length c4) (vI 0) (vI 0) (.bool false));replace P4:=hid (And.intro (Recs.set_ne (Recs.set_ne (Recs.set_ne (Recs.set_ne P4.out.1 HNE4.out 0 (.slice (some ⟨b4,o4,none⟩) s.no.length c4)) HNE4.out 1 (vI 0)) HNE4.out 2 (vI 0)) HNE4.out 3 (.bool false)) P4.out.2);clear q2 HS
  go_wp2_with fail
  obtain ⟨r,hB⟩:=Q.out;have p0:=r.cell 0 _ rfl;have p1:=r.cell 1 _ rfl;have p2:=r.cell 2 _ rfl;have p3:=r.cell 3 _ rfl;generalize hW0:World.setCell _ _ _=W5 at *;clear hW0
  exact bodyPost_ret (v:=.tuple #[.agg #[.slice (some ⟨b4,o4,none⟩) s.no.length c4,vI 0,vI 0,.bool false],vI VV,vI 0]) (by simp [VV,results,Tryz.results16,Tryz.results17,go_sem,p0,p1,p2,p3]) rfl (Aip HVV.out.1 (HVV.out.2.2.trans hv) HVV.out.2.1 P4.out.1 P4.out.2 hB)):G:=h
theorem r8e {G:Prop} (h:G:=by
  first
    | (have HH:=hid hHeld
       clear hHeld HR
       go_wp2_with fail
       refine rS (fun W=>BoxS w 3 [s.cells,(lz2 lo hi),[.slice none 0 0,vI 0,vI 0,.bool false]] W∧Below w4.heap.size w4 W) 8 ⟨HH.out.1.drew,HH.out.2.drew⟩ (fun hHeld=>?_)
       generalize hW0:World.drew _=w7 at *;clear hW0 HH
       by_cases h3:T<lo
       rotate_left
       · repeat (first | refine rQ ?_ | refine rF ?_)
         refine rD ?_
         have HS:=hid hHeld.1;replace P4:=hid (And.intro (P4.out.1.below hHeld.2) P4.out.2)
         have hv:max (lo - T) 0=0:=by omega
         clear FA hHeld
         let VV:=(0:Int)
         exact r8o
       have w3':IntKind.i64.wrap (lo - T)=lo - T:=IntWalk.i64_in _ (by have:=HLO.out;unfold I64 at this;omega)
       repeat (first | refine rQ ?_ | refine rF ?_)
       refine rD ?_
       have HH:=hid hHeld;clear hHeld
       go_wp2_with fail
       refine rS (fun W=>BoxS w 3 [s.cells,(lz2 lo hi),[.slice none 0 0,vI 0,vI 0,.bool false]] W∧Below w4.heap.size w4 W) 9 ⟨HH.out.1.drew,HH.out.2.drew⟩ (fun hHeld=>?_)
       generalize hW0:World.drew _=w8 at *;clear hW0 HH
       repeat (first | refine rQ ?_ | refine rF ?_)
       refine rD ?_
       have HS:=hid hHeld.1;replace P4:=hid (And.intro (P4.out.1.below hHeld.2) P4.out.2)
       have hv:max (lo - T) 0=lo - T:=by omega
       clear FA hHeld
       let VV:=lo - T
       exact r8o)
    | (obtain ⟨⟨l0,l1⟩,lt⟩:=FA _ hHeld
       have HS:=hid hHeld.1;replace P4:=hid (And.intro (P4.out.1.below hHeld.2) P4.out.2);clear FA hHeld HR
       by_cases h3:T<lo
       rotate_left
       · have hv:max (lo - T) 0=0:=by omega
         let VV:=(0:Int)
         exact r8o
       have w3':IntKind.i64.wrap (lo - T)=lo - T:=IntWalk.i64_in _ (by have:=HLO.out;unfold I64 at this;omega)
       have hv:max (lo - T) 0=lo - T:=by omega
       let VV:=lo - T
       exact r8o)):G:=h
theorem r8f {G:Prop} (h:G:=by
  refine (HF.out _ HS.out HP.out _ (fk_go O.out N.out (show (0:Int)<=k by omega) hlt)).mono ?_;rintro e' w4 ⟨A4,c4,rfl,hp,hc4,hB⟩
  replace HS:=hid (HS.out.below hB);replace X4:=hid (X4.out.below hB);replace HR:=hid (HR.out.below hB);have P4:=hid (And.intro hp hc4);have w1':=iW ((k:Int)+1);clear hB hp HP hc4
  by_cases h1:fkE s (k:Int)=0
  rotate_left
  · have hN:=hid (fun i (h:i<k+1)=>show ¬ (fkE s (i:Nat)=0∧fkT s (i:Nat) m<=hi) from fun q=>by
      by_cases e:i=k
      · subst e;exact h1 q.1
      · exact HNO.out i (by omega) q)
    have e1:=Aw h1;have e2:=AL e1;clear X4 P4 h1;generalize fkE s (k:Int)=E at *
    go_wp2_with fail
    refine rS (fun W=>BoxS w3 0 [] W) 12 HR.out.drew (fun hHeld=>?_)
    generalize hW0:World.drew _=w6 at *;clear hW0 HR HS
    repeat (first | refine rQ ?_ | refine rU ?_)
    refine rD ?_
    go_wp2_with fail
    go_roundw
    case rel=>exact ⟨k+1,by omega,by go_num,hN.out,hHeld⟩
    case measure=>exact zMs
  have H1:=hid h1
  rw [h1] at P4 ⊢
  simp only [Gf,IX] at P4 ⊢
  clear h1;obtain ⟨b4,o4,rfl⟩:=KV P4.out.1 (by omega);have HNE4:=hid (Ahh P4.out.1 (by omega) (by decide) X4.out);have HC4:=hid (fun W (h:BoxS w 3 [s.cells,(lz2 lo hi),[.slice none 0 0,vI 0,vI 0,.bool false]] W∧Below w4.heap.size w4 W)=>And.intro (HK.out W h.1) (show W.cell? ⟨b4,o4+m * 13+4,none⟩=some (vI (fkT s k m)) from (E5 (P4.out.1.below h.2) (Agd HM.out)).2 4 _ rfl));have hpi:=(AhZ O.out N.out (show (0:Int)<=k by omega) H1.out HM.out).tick
  rw [show (psP s (C8 s) (fam s k) m).tick=fkT s k m from rfl] at hpi
  have HV:=hid (fun h2=>Ah4 (lo:=lo) (hi:=hi) O.out N.out H0.out hlt H1.out h2 HNO.out)
  have hN:=hid (fun (h2:¬ fkT s (k:Int) m<=hi) i (h:i<k+1)=>show ¬ (fkE s (i:Nat)=0∧fkT s (i:Nat) m<=hi) from fun q=>by
      by_cases e:i=k
      · subst e;exact h2 q.2
      · exact HNO.out i (by omega) q)
  clear X4 HNO;generalize fkT s (k:Int) m=T at *
  go_wp2_with fail
  refine rS (fun W=>BoxS w 3 [s.cells,(lz2 lo hi),[.slice none 0 0,vI 0,vI 0,.bool false]] W∧Below w4.heap.size w4 W) 12 ⟨HS.out.drew,(AJ _ _).drew⟩ (fun hHeld=>?_)
  replace HR:=hid HR.out.drew;generalize hW0:World.drew _=w6 at *;clear hW0 HS;have FA:=HC4.out
  by_cases h2:T<=hi
  rotate_left
  · repeat (first | refine rQ ?_ | refine rF ?_ | refine rU ?_)
    refine rD ?_
    clear FA
    go_wp2_with fail
    go_roundw
    case rel=>exact ⟨k+1,by omega,by go_num,hN.out (by omega),HR.out⟩
    case measure=>exact zMs
  obtain ⟨v1,v2,v3⟩:=HV.out h2;have HVV:=hid (And.intro v1 (And.intro v2 v3));clear HV hN v1 v2 v3
  repeat (first | refine rQ ?_ | refine rF ?_ | refine rU ?_)
  refine rD ?_
  exact r8e):G:=h
theorem r8l {G:Prop} (h:G:=by
  have HY:=hid (fun W (h:BoxS w3 0 [] W)=>And.intro (HS.out.below h.B) (And.intro (X4.out.below h.B) (And.intro (HP.out.below h.B) (Q6.out.below h.B))));have HSB:=hid (Ahc w3);clear HS X4 HP Q6
  go_loopw [13] (fun t wr=>SvR s m hi w3 t wr) (fun t _=>(spn s).toNat+1 - (intOf t).toNat)
  case atStart=>exact ⟨0,by have:=HSN.out;omega,rfl,fun i h=>absurd h (Nat.not_lt_zero _),HSB.out⟩
  case round =>
  obtain ⟨k,hk,rfl,hno,hs⟩:=hrel;have HNO:=hid hno;obtain ⟨hS,hX,hP,hQ⟩:=HY.out _ hs;have HS:=hid hS;have HR:=hid hs;clear hs hno hS;have hsn:=HSN.out;have c6_0:=hQ.cell 0 _ rfl;have c6_1:=hQ.cell 1 _ rfl;have c6_2:=hQ.cell 2 _ rfl
  try have c6_3:=hQ.cell 3 (vI (spn s)) rfl
  by_cases hlt:(k:Int)<=spn s
  rotate_left
  · have HE:=hid (Ahm (lo:=lo) (hi:=hi) (node:=m) H0.out hsn.1 (fun i hi=>HNO.out i (by omega)))
    have HNE:=hid (show (16:Int)≠0 from by decide);clear hX hP hQ HR HF HNO
    let EE:=(16:Int)
    exact r8s
  have X4:=hid hX;have HP:=hid hP;clear hX hP hQ
  go_wp2_with (refine AC (.tmp 3) rfl rfl rfl (HS.out.has 0 _ rfl) ?_)
  clear c6_0 c6_1 c6_2
  try clear c6_3
  exact r8f):G:=h
theorem Ha (s:Stp) (node lo hi:Int) (w:World) (hl:s.lies w) (hok:s.ok) (hcap:BS s.sno.A s.sno.n s.sno.c) (hnode:I64 node) (hlo:I64 lo) (hhi:I64 hi):Calls Tryz.prog 16 #[.agg s.cells.toArray,vI node,.agg #[vI lo,vI hi]] w (SoP s node lo hi w):=by
  have HS:=hid (OH w s.cells.toArray #[vI lo,vI hi] #[.slice none 0 0,vI 0,vI 0,.bool false] 35 53 41);have X4:Hid (Ex (((w.alloc (.cells s.cells.toArray 35)).alloc (.cells #[vI lo,vI hi] 53)).alloc (.cells #[.slice none 0 0,vI 0,vI 0,.bool false] 41)) (w.heap.size+2) [.slice none 0 0,vI 0,vI 0,.bool false]):=hid (Ex.new _ _ _ _ (by simp));have HR:=hid (fun W (h:BoxS w 3 [s.cells,(lz2 lo hi),[.slice none 0 0,vI 0,vI 0,.bool false]] W)=>Af4 s node (decide (hi<lo)) W (hl.below h.B) hok hcap hnode);have N:=hid (StN.of hl);have HL:=hid hl;have HOK:=hid hok;have HLO:=hid hlo;have HK:=hid (fun W (h:BoxS w 3 [s.cells,(lz2 lo hi),[.slice none 0 0,vI 0,vI 0,.bool false]] W)=>show W.cell? ⟨w.heap.size+1,0,none⟩=some (vI lo)∧W.cell? ⟨w.heap.size+1,1,none⟩=some (vI hi) from ⟨h.at 1 _ rfl 0 _ rfl,h.at 1 _ rfl 1 _ rfl⟩);clear hl hok hcap hlo
  go_enter Tryz.func16,Tryz.ntmps16
  obtain ⟨k0,k1⟩:=HK.out _ HS.out
  go_wp2_with (refine AC (.tmp 3) rfl rfl rfl (HS.out.has 0 _ rfl) ?_)
  clear k0 k1
  refine (HR.out _ HS.out).mono ?_;rintro e' w1 ⟨hbad,hgood,hB⟩
  by_cases h0:opE s node (decide (hi<lo))=0
  rotate_left
  · have HE:=hid (AhB h0)
    have HNE:=hid h0;have e1:=Aw h0;have e2:=AL e1;obtain rfl:=hbad h0;replace HS:=hid ((HS.out.below hB).alloc (.cells #[.slice none 0 0,.slice none 0 0,.slice none 0 0,vI 0] 107));clear hbad hgood hB HR X4 HK
    let EE:=opE s node (decide (hi<lo))
    exact r8s
  obtain ⟨A,c,A2,c2,A3,c3,rfl,P⟩:=hgood h0;have O:=hid (Af2 N.out h0).1;have hx:=Cq O.out.G N.out;obtain ⟨m,rfl⟩:=Int.eq_ofNat_of_zero_le (show 0<=node by have:=O.out.n1;omega);have HM:=hid (show m<s.no.length by have:=O.out.n2;omega);have H0:=hid h0;replace hB:=Bh hB (.cells #[.slice A s.no.length c,.slice A2 s.no.length c2,.slice A3 (s.no.length - 1) c3,vI (spn s)] 107);have HP:=hid (P.below (Aa w1 (.cells #[.slice A s.no.length c,.slice A2 s.no.length c2,.slice A3 (s.no.length - 1) c3,vI (spn s)] 107)));have Q6:=hid (Has.new w1 #[.slice A s.no.length c,.slice A2 s.no.length c2,.slice A3 (s.no.length - 1) c3,vI (spn s)] 107);have HF:=hid (fun W (h:BoxS w 3 [s.cells,(lz2 lo hi),[.slice none 0 0,vI 0,vI 0,.bool false]] W) (P:PlB s A A2 A3 c3 W) k hf=>Agr s A A2 A3 c c2 c3 (spn s) k W (HL.out.below h.B) HOK.out P hx.2 hf)
  unfold Vf at HF
  replace HS:=hid (HS.out.below hB);replace X4:=hid (X4.out.below hB)
  have i0:(0:Int)<=(m:Int):=by omega
  have i1:(m:Int)<(s.no.length:Int):=by have:=HM.out;omega
  have HSN:=hid (AgX O.out N.out);clear hbad hgood hB HR P h0;have c6_0:=Q6.out.cell 0 _ rfl;have c6_1:=Q6.out.cell 1 _ rfl;have c6_2:=Q6.out.cell 2 _ rfl;have c6_3:=Q6.out.cell 3 (vI (spn s)) rfl;clear hnode hhi
  go_wp2_with (refine AC (.tmp 3) rfl rfl rfl (HS.out.has 0 _ rfl) ?_)
  clear c6_0 c6_1 c6_2 c6_3;generalize w1.heap.size=H6 at *
  refine (HF.out _ HS.out HP.out _ (fk_go (k:=spn s) O.out N.out (Agp _ _:0<=spn s) (Bt _))).mono ?_;rintro e' w4 ⟨A4,c4,rfl,hp,-,hB⟩
  replace HS:=hid (HS.out.below hB);replace X4:=hid (X4.out.below hB);replace HP:=hid (HP.out.below hB);replace Q6:=hid (Q6.out.below hB);have P4:=hid hp;clear hB hp;have HB4:=hid (fun W (h:BoxS w 3 [s.cells,(lz2 lo hi),[.slice none 0 0,vI 0,vI 0,.bool false]] W∧Below w4.heap.size w4 W)=>And.intro (X4.out.below h.2) (And.intro (HP.out.below h.2) (Q6.out.below h.2)));clear X4 HP Q6
  by_cases h1:fkE s (spn s)=0
  rotate_left
  · have e1:=Aw h1
    generalize fkE s (spn s)=E at *;clear P4 h1
    go_wp2_with fail
    refine rS (fun W=>BoxS w 3 [s.cells,(lz2 lo hi),[.slice none 0 0,vI 0,vI 0,.bool false]] W∧Below w4.heap.size w4 W) 12 ⟨HS.out.drew,(AJ _ _).drew⟩ (fun hHeld=>?_)
    generalize hW0:World.drew _=w3 at *;clear hW0 HS
    repeat (first | refine rQ ?_ | refine rU ?_)
    refine rD ?_
    obtain ⟨hX,hP,hQ⟩:=HB4.out _ hHeld;have HS:=hid hHeld.1;have X4:=hid hX;have HP:=hid hP;have Q6:=hid hQ;clear hHeld hX hP hQ HB4 e1
    go_wp2_with fail
    exact r8l
  have H1:=hid h1
  rw [h1] at P4 ⊢
  simp only [Gf,IX] at P4 ⊢
  clear h1;obtain ⟨b4,o4,rfl⟩:=KV P4.out (by omega);have FA:=fun W (h:BoxS w 3 [s.cells,(lz2 lo hi),[.slice none 0 0,vI 0,vI 0,.bool false]] W∧Below w4.heap.size w4 W)=>And.intro (HK.out W h.1) (show W.cell? ⟨b4,o4+m * 13+4,none⟩=some (vI (fkT s (spn s) m)) from (E5 (P4.out.below h.2) (Agd HM.out)).2 4 _ rfl)
  go_wp2_with fail
  refine rS (fun W=>BoxS w 3 [s.cells,(lz2 lo hi),[.slice none 0 0,vI 0,vI 0,.bool false]] W∧Below w4.heap.size w4 W) 12 ⟨HS.out.drew,(AJ _ _).drew⟩ (fun hHeld=>?_)
  generalize hW0:World.drew _=w3 at *;clear hW0 HS P4
  by_cases h2:hi<fkT s (spn s) m
  · have HE:=hid (AhC (lo:=lo) (hi:=hi) (node:=(m:Int)) H0.out ⟨H1.out,by rw [Int.toNat_natCast];exact h2⟩)
    have HNE:=hid (show (16:Int)≠0 from by decide);generalize fkT s (spn s) m=T at *
    repeat (first | refine rQ ?_ | refine rF ?_ | refine rU ?_)
    refine rD ?_
    have HS:=hid hHeld.1;clear FA hHeld HB4 HF
    let EE:=(16:Int)
    exact r8s
  generalize fkT s (spn s) m=T at *
  repeat (first | refine rQ ?_ | refine rF ?_ | refine rU ?_)
  refine rD ?_
  obtain ⟨hX,hP,hQ⟩:=HB4.out _ hHeld;have HS:=hid hHeld.1;have X4:=hid hX;have HP:=hid hP;have Q6:=hid hQ;clear FA hHeld hX hP hQ HB4 h2 H1;generalize T=T0 at *
  go_wp2_with fail
  exact r8l
