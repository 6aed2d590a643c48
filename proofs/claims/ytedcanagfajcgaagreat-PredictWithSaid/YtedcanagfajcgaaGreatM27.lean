/- M27: Pr11, RecP in one text. -/
import Derived.Test.YtedcanagfajcgaaGreatPr10
set_option linter.unusedSimpArgs false
set_option linter.unusedVariables false
set_option maxRecDepth 100000
set_option maxHeartbeats 16000000
namespace Go.Proofs.YtedcanagfajcgaaGreat
open Go.RowKit
open Go.Lib (hid)
theorem O7:(Tryz.prog.info? 52).map (fun i=>(i.zero,i.size,i.bytes))=some (some (.agg #[vI 0,vI 0,vI 0,vI 0,vI 0,vI 0,vI 0,vI 0,vI 0,vI 0,vI 0,vI 0,.int .u8 0]),13,104):=by kernel_rfl
def Vf (l:List Pass) (n:Nat) (E:Int) (w:World) (e:Ending) (w':World):Prop:=∃ A c,e=.returned (.tuple #[.slice A n c,vI E])∧Passes w' A n l∧BS A n c∧Below w.heap.size w w'
theorem JG {l:List Pass} {n:Nat} {E E':Int} {w w':World} (hE:E=E') (h0:E'≠0) (hb:Below w.heap.size w w'):Vf (okL E l) (okN E n) E w (.returned (.tuple #[.slice none 0 0,vI E'])) w':=by
 subst hE
 unfold okL okN
 rw [if_neg h0,if_neg h0]
 exact ⟨none,0,rfl,Recs.nil _ _ _,⟨Bn _,Nat.zero_le _,fun _=>rfl⟩,hb⟩
theorem XQ {l:List Pass} {n:Nat} {E:Int} {w w':World} {e:Ending} (hE:E=0) (h:∃ A c,e=.returned (.tuple #[.slice A n c,vI 0])∧Passes w' A n l∧BS A n c) (hb:Below w.heap.size w w'):Vf (okL E l) (okN E n) E w e w':=by
 subst hE
 unfold okL okN
 rw [if_pos rfl,if_pos rfl]
 obtain ⟨A,c,h1,h2,h3⟩:=h
 exact ⟨A,c,h1,h2,h3,hb⟩
theorem Pm (p:Pass):∀ u ∈ p.cells,u.oneCell'=true:=by
 intro u hu
 unfold Pass.cells at hu
 simp only [List.mem_cons,List.not_mem_nil,or_false] at hu
 rcases hu with h | h | h | h | h | h | h | h | h | h | h | h | h <;> (rw [h];rfl)
noncomputable def Acz (s:Stp) (al sp:List Int):Cs.Wins:=(List.range s.no.length).map fun k=>((lgV s al sp k).we,(lgV s al sp k).wn)
theorem Ze {s:Stp} (G:StG s) (N:StN s) {al sp:List Int} (Fc:FcG s al sp):AdC s (Acz s al sp):=fun k hk=>by
 have h:=(Wy G N Fc hk).2
 have e:(Acz s al sp).getD k (0,0)=((lgV s al sp k).we,(lgV s al sp k).wn):=by
  unfold Acz
  rw [Dp,List.getElem?_map,List.getElem?_range (by omega)];rfl
 rw [e]
 exact ⟨h.1,h.2⟩
theorem psI {s:Stp} (G:StG s) (N:StN s) {al sp:List Int} (Fc:FcG s al sp) {k:Nat} (hk:k<s.no.length) (h:psE s al sp k=0):PsI (psP s al sp k):=by
 have f:=AaE G N Fc (Ze G N Fc) k hk h;have n64:=Cq G N;have h1:=f.t';have h2:=f.f';have h3:=f.t0;have h4:=f.fu.lo;have h5:=f.fu.hi;have h6:=f.fu.le;have h7:=(Dv G.ac).1
 exact ⟨by omega,by omega,by omega,by omega,by omega,by omega⟩
theorem Jg {s:Stp} {al sp:List Int} {k:Nat} (hk:k<s.no.length):(wtL s al sp).take (k+1)=(wtL s al sp).take k ++ [psP s al sp k]:=Aq _ k _ (TP hk)
theorem QK {s:Stp} {al sp:List Int}:∀ {n k:Nat},k+1<=n→psE s al sp k=0→nxE s (psP s al sp k) al sp k≠0→psE s al sp n=nxE s (psP s al sp k) al sp k
 | 0,k,hk,_,_=>by omega
 | n+1,k,hk,h0,h1=>by
  by_cases e:k=n
  ·subst e
   exact if_neg (by rw [h0];decide)
  ·have ih:=QK (n:=n) (k:=k) (by omega) h0 h1
   have:psE s al sp (n+1)=psE s al sp n:=if_pos (by rw [ih];exact h1)
   rw [this,ih]
theorem AaW {s:Stp} {al sp:List Int} {k:Nat} (h0:psE s al sp k=0) (h1:nxE s (psP s al sp k) al sp k=0):psE s al sp (k+1)=0:=by
 have:psE s al sp (k+1)=nxE s (psP s al sp k) al sp k:=if_neg (by rw [h0];decide)
 rw [this,h1]
theorem XP {s:Stp} {al sp:List Int} (h:suE s≠0):wtE s al sp=suE s:=if_pos h
theorem XN {s:Stp} {al sp:List Int} (h:suE s=0) (h2:fcE s al sp≠0):wtE s al sp=fcE s al sp:=by unfold wtE;rw [if_neg (by rw [h];decide),if_pos h2]
theorem XO {s:Stp} {al sp:List Int} (h:suE s=0) (h2:fcE s al sp=0):wtE s al sp=psE s al sp (s.no.length - 1):=by unfold wtE;rw [if_neg (by rw [h];decide),if_neg (by rw [h2];decide)]
def AdE (s:Stp) (al sp:List Int) (w:World) (v t:Value) (wr:World):Prop:=∃ k:Nat,k+1<=s.no.length∧t=vI ((k+1:Nat):Int)∧psE s al sp k=0∧BoxS w 1 [s.cells] wr∧Ow Pass.cells 13 52 (w.heap.size+1) ((wtL s al sp).take (k+1)) v wr
theorem Ac7 (s:Stp) (A A2:Option Addr) (n c n' d:Nat) (al sp:List Int) (w:World) (hl:s.lies w) (hok:s.ok) (ha:Ints w A n al) (hb:Ints w A2 n' sp) (hn:n<=maxLen) (hn':n'<=maxLen):Calls Tryz.prog 6 #[.agg s.cells.toArray,.slice A n c,.slice A2 n' d] w (Vf (okL (wtE s al sp) (wtL s al sp)) (okN (wtE s al sp) s.no.length) (wtE s al sp) w):=by
 obtain ⟨i0,hi,hz0,hz1,hz2⟩:=info_parts O7;have HS:=hid (DR w s.cells.toArray 35);have HC:=hid (fun W (h:BoxS w 1 [s.cells] W)=>Jj s W (hl.below h.B) hok)
 by_cases hE:suE s=0
 rotate_left
 ·have HX:=hid (XP (al:=al) (sp:=sp) hE)
  generalize suE s=E at *;have e1:=Aw hE;have e2:=AL e1;have HE:=hid hE;clear hl hok hE ha hb hn hn'
  go_enter Tryz.func6,Tryz.ntmps6
  go_wp2_with (refine AC (.tmp 3) rfl rfl rfl (HS.out.has 0 _ rfl) ?_)
  refine (HC.out _ HS.out).mono ?_;rintro e' w1 ⟨rfl,hB⟩
  have HB:=hid (Ae HS.out.B hB);clear hB
  go_wp2_with fail
  go_ret2
  exact JG HX.out HE.out HB.out
 have N:=StN.of hl;have hno:=N.no;have HCF:=hid (fun W (h:BoxS w 1 [s.cells] W)=>Ia s A A2 n c n' d al sp W hno (ha.below h.B) (hb.below h.B) hn hn')
 rw [hE] at HC
 by_cases hF:fcE s al sp=0
 rotate_left
 ·have HX:=hid (XN hE hF)
  generalize fcE s al sp=E at *;have e1:=Aw hF;have e2:=AL e1;have HE:=hid hF;clear hl hok hE ha hb hn hn' hF N hno
  go_enter Tryz.func6,Tryz.ntmps6
  go_wp2_with (refine AC (.tmp 3) rfl rfl rfl (HS.out.has 0 _ rfl) ?_)
  refine (HC.out _ HS.out).mono ?_;rintro e' w1 ⟨rfl,hB⟩
  replace HS:=hid (HS.out.below hB);clear hB
  go_wp2_with (refine AC (.tmp 3) rfl rfl rfl (HS.out.has 0 _ rfl) ?_)
  refine (HCF.out _ HS.out).mono ?_;rintro e' w1 ⟨rfl,hB⟩
  have HB:=hid (Ae HS.out.B hB);clear hB
  go_wp2_with fail
  go_ret2
  exact JG HX.out HE.out HB.out
 have HX:=hid (XO hE hF);have G:=Cm hE;have Fc:=J7 hF
 rw [hF] at HCF
 have hn2:=Cq G N;have la:=ha.len;have lb:=hb.len
 have hn1:n=s.no.length:=by have:=Fc.la;omega
 have hn3:n'=s.no.length:=by have:=Fc.ls;omega
 obtain ⟨b,off,hA⟩:=FC hl (by omega);obtain ⟨ba,oa,rfl⟩:=Eb ha (by omega);obtain ⟨bb,ob,rfl⟩:=Eb hb (by omega)
 have HAA:=hid (fun W (h:BoxS w 1 [s.cells] W)=>show W.cell? ⟨ba,oa,none⟩=some (vI (al.getD 0 0))∧W.cell? ⟨bb,ob,none⟩=some (vI (sp.getD 0 0)) from
  have q2:=Bu ha (k:=0) (by omega);have q4:=Bu hb (k:=0) (by omega)
  ⟨(h.B.cell (p:=⟨ba,oa,none⟩) q2.1).trans q2.2,(h.B.cell (p:=⟨bb,ob,none⟩) q4.1).trans q4.2⟩)
 have HNS:=hid (fun W (h:BoxS w 1 [s.cells] W)=>show W.cell? ⟨w.heap.size,0,none⟩=some (.slice (some ⟨b,off,none⟩) s.sno.n s.sno.c) from Dk (h.has 0 _ rfl) hA)
 have HN0:=hid (fun W (h:BoxS w 1 [s.cells] W)=>show W.cell? ⟨b,off,none⟩=some (vI (Ac s 0).px)∧W.cell? ⟨b,off+1,none⟩=some (vI (Ac s 0).py) from by
  have q:=Ce (hl.below h.B) hA (k:=0) (by omega)
  simp only [Nat.zero_mul,Nat.add_zero] at q
  exact ⟨q.1,q.2.1⟩)
 have HM:=hid (fun W (h:BoxS w 1 [s.cells] W)=>show W.cell? ⟨w.heap.size,31,none⟩=some (vI s.mch) from JE (h.has 0 _ rfl));have HLF:=hid (fun W=>Oo s.ac W);have g0:=AR G N (k:=0) (by omega);have hal:=Fc.a 0 (by omega);have HAT:=hid (fun W (h:BoxS w 1 [s.cells] W)=>AeI s.gr (Ac s 0).px (Ac s 0).py (al.getD 0 0) W (hl.below h.B).gr hok.gr G.gr (Gj g0.px g0.py) (Al.2 (by have:=G.lv;omega)));have HSC:=hid (fun W=>XZ (sp.getD 0 0) s.mch (al.getD 0 0) (gAt s.gr (elD s.gr) (Ac s 0).px (Ac s 0).py (al.getD 0 0)) W);have HNX:=hid (fun W (h:BoxS w 1 [s.cells] W) k m (hm:m=k+1) (hk:m<s.no.length) p (hp:PsI p)=>Ac5 s k m hm (some ⟨ba,oa,none⟩) (some ⟨bb,ob,none⟩) n c n' d al sp p W (hl.below h.B) hok G hk Fc (ha.below h.B) (hb.below h.B) hp);have HPI:=hid (fun k (hk:k<s.no.length) (h:psE s al sp k=0)=>psI G N Fc hk h);have HNO:=hid hno;have HFS:=hid (show psP s al sp 0=⟨al.getD 0 0,sp.getD 0 0,Ck (sp.getD 0 0) s.mch (al.getD 0 0) (gAt s.gr (elD s.gr) (Ac s 0).px (Ac s 0).py (al.getD 0 0)),0,0,s.ac.left,0,0,0,0,s.ac.left,s.ac.left,0⟩ from rfl)
 have i2:(0:Int)<(s.sno.n:Int):=by omega
 have j1:(0:Int)<(n:Int):=by omega
 have j2:(0:Int)<(n':Int):=by omega
 have j3:0<n:=by omega
 have j4:0<n':=by omega
 have j5:0<s.sno.n:=by omega
 clear hl hok hE ha hb hn hn' hF N hno la lb hn1 hn3 hA G Fc g0 hal;generalize gAt s.gr (elE s.gr) (Ac s 0).px (Ac s 0).py (al.getD 0 0)=WE at *;generalize gAt s.gr (elN s.gr) (Ac s 0).px (Ac s 0).py (al.getD 0 0)=WN at *;generalize gAt s.gr (elD s.gr) (Ac s 0).px (Ac s 0).py (al.getD 0 0)=WD at *;generalize al.getD 0 0=a0 at *;generalize sp.getD 0 0=s0 at *;generalize Ck s0 s.mch a0 WD=TA at *;generalize He s0 s.mch a0 WD=TE at *;generalize s.ac.left=LF at *
 go_enter Tryz.func6,Tryz.ntmps6
 go_wp2_with (refine AC (.tmp 3) rfl rfl rfl (HS.out.has 0 _ rfl) ?_)
 refine (HC.out _ HS.out).mono ?_;rintro e' w1 ⟨rfl,hB⟩
 replace HS:=hid (HS.out.below hB);clear hB HC
 go_wp2_with (refine AC (.tmp 3) rfl rfl rfl (HS.out.has 0 _ rfl) ?_)
 refine (HCF.out _ HS.out).mono ?_;rintro e' w2 ⟨rfl,hB⟩
 replace HS:=hid (HS.out.below hB);clear hB HCF
 go_wp2_with (refine FZ (.tmp 31) rfl rfl rfl (HS.out.has 0 _ rfl) ?_)
 refine (HLF.out _).mono ?_;rintro e' w3 ⟨rfl,hB⟩
 replace HS:=hid (HS.out.below hB);clear hB HLF
 go_wp2_with fail
 refine rS (fun W=>BoxS w 1 [s.cells] W) 13 (HS.out.drew) (fun hHeld=>?_)
 iterate 2 refine rQ ?_
 refine rT (fun W hW=>HAA.out W hW) ?_
 iterate 2 refine rQ ?_
 refine rT (fun W hW=>HAA.out W hW) ?_
 iterate 5 refine rQ ?_
 refine rEk ?_
 intro K hK
 have hNew:=hHeld.alloc (.cells #[vI 0,vI 0,vI 0,vI 0,vI 0,vI 0,vI 0,vI 0,vI 0,vI 0,vI 0,vI 0,.int .u8 0] 52)
 refine rEt hK hNew ?_
 clear hK K hNew hHeld
 intro hHeld
 refine rEk ?_
 intro K hK
 have hNew:=(HS.out.alloc (.cells #[vI a0,vI s0,vI 0,vI 0,vI 0,vI LF,vI 0,vI 0,vI 0,vI 0,vI LF,vI LF,.int .u8 0] 52)).drew
 refine rEt hK hNew ?_
 clear hK K hNew hHeld
 intro hHeld
 refine rD ?_
 clear hHeld;have Q11:Hid (Has ((w3.alloc (.cells #[vI a0,vI s0,vI 0,vI 0,vI 0,vI LF,vI 0,vI 0,vI 0,vI 0,vI LF,vI LF,.int .u8 0] 52)).drew) w3.heap.size (lzp a0 s0 0 0 0 LF 0 0 0 0 LF LF 0)):=hid (Has.new _ _ _).drew;have r11:w.heap.size+1<=w3.heap.size:=HS.out.sz;replace HS:=hid ((HS.out.alloc (.cells #[vI a0,vI s0,vI 0,vI 0,vI 0,vI LF,vI 0,vI 0,vI 0,vI 0,vI LF,vI LF,.int .u8 0] 52)).drew);generalize (w3.alloc (.cells #[vI a0,vI s0,vI 0,vI 0,vI 0,vI LF,vI 0,vI 0,vI 0,vI 0,vI LF,vI LF,.int .u8 0] 52)).drew=W4 at *;generalize w3.heap.size=H11 at *
 go_wp2_with fail
 have qH11:=Q11.out.drew
 refine rS (fun W=>BoxS w 1 [s.cells] W) 19 (HS.out.drew) (fun hHeld=>?_)
 refine rQ ?_
 refine rY (Ou (.tmp 46) rfl rfl rfl (fun W hW=>hW.has 0 _ rfl)) ?_
 refine rQ ?_
 refine rT (fun W hW=>HNS.out W hW) ?_
 iterate 2 refine rQ ?_
 refine rT (fun W hW=>HN0.out W hW) ?_
 iterate 2 refine rQ ?_
 refine rT (fun W hW=>HAA.out W hW) ?_
 refine Be ?_
 intro OPS QQ A0 SS hO hQ hA hSS
 have st_10_15:Hid (∀ (H12:Nat) (W:World) (qH11:Has W H11 (lzp a0 s0 0 0 0 LF 0 0 0 0 LF LF 0)) (qH12:Has W H12 (lz2 0 0)) (rH12:w.heap.size+1<=H12) (nH11H12:H11≠H12),SS W→wpAnyH Tryz.prog .any OPS QQ SS 3 #[b1,b1,b1,b1,b1,b1,b1,b1,b1,b1,b1,b1,b1,b1,b1,b1,b0,b0,b0] ((((((A0.put (some 56) (.tuple #[.agg #[vI WE,vI WN],vI WD,vI 0])).put (some 45) (.tuple #[.agg #[vI WE,vI WN],vI WD,vI 0])).put (some 57) (.agg #[vI WE,vI WN])).put (some 58) (vI WD)).put (some 59) (vI 0)).put (some 12) (.pointer (some ⟨H12,0,none⟩))) W):=by
  subst hO hQ hA hSS
  refine hid ?_
  intro H12 W qH11 qH12 rH12 nH11H12 hHeld
  (try simp only [Act.put,pa,pb,pc])
  have fz:=qH12.fr;have cz0:=qH12.cell 0 _ rfl;have cz1:=qH12.cell 1 _ rfl
  refine rEk ?_
  intro K hK
  have hs0:=hHeld;have hs1:=(hs0.set H12 0 rH12 (vI WE));have hs2:=(hs1.set H12 1 rH12 (vI WN));have hNew:=hs2;have pH11:=((qH11.other H12 0 (vI WE) (by omega)).other H12 1 (vI WN) (by omega));have pH12:Has ((W.setCell ⟨H12,0,none⟩ (vI WE)).setCell ⟨H12,1,none⟩ (vI WN)) H12 (lz2 WE WN):=((qH12.set 0 (vI WE) (by simp)).set 1 (vI WN) (by simp))
  refine rEt hK hNew ?_
  clear hK K hNew fz hs0 hs1 hs2 cz0 cz1 qH11 qH12 hHeld
  intro hHeld
  have qH11:=pH11;have qH12:=pH12;clear pH11 pH12
  iterate 2 refine rQ ?_
  generalize ((W.setCell ⟨H12,0,none⟩ (vI WE)).setCell ⟨H12,1,none⟩ (vI WN))=W5 at *
  refine rD ?_
  replace HS:=hid (hHeld);replace Q11:=hid qH11;clear qH11;have Q12:=hid qH12;have r12:=rH12;have n11_12:=nH11H12;clear qH12 rH12 nH11H12 hHeld
  go_wp2_with fail
  refine rS (fun W=>BoxS w 1 [s.cells] W∧Has W H12 (lz2 WE WN)) 15 ((And.intro (HS.out.drew) (Q12.out.drew))) (fun hHeld=>?_)
  replace Q11:=hid Q11.out.drew
  iterate 2 refine rQ ?_
  refine rT (fun W hW=>HAA.out W hW.1) ?_
  refine rQ ?_
  refine rT (fun W hW=>HM.out W hW.1) ?_
  iterate 2 refine rQ ?_
  refine rT (fun W hW=>HAA.out W hW.1) ?_
  refine rQ ?_
  refine rEk ?_
  intro K hK
  refine (HSC.out _).mono ?_;rintro e2 w4 ⟨rfl,hB⟩
  go_wp2_with fail
  have hNew:=(And.intro (hHeld.1.below hB) (hHeld.2.below hB));replace Q11:=hid (Q11.out.below hB);clear hB
  refine rEt hK hNew ?_
  clear hK K hNew hHeld
  intro hHeld
  iterate 4 refine rQ ?_
  have fz:=Q11.out.fr;have cz:=Q11.out.cell 2 (vI 0) rfl
  refine rEk ?_
  intro K hK
  have hNew:=(And.intro ((hHeld.1.set H11 2 r11 (vI TA))) ((hHeld.2.other H11 2 (vI TA) n11_12.symm)))
  refine rEt hK hNew ?_
  clear hK K hNew hHeld
  intro hHeld
  refine rD ?_
  clear fz cz;replace HS:=hid (hHeld.1);replace Q12:=hid (hHeld.2);clear hHeld;replace Q11:=hid (show Has (w4.setCell ⟨H11,2,none⟩ (vI TA)) H11 (lzp a0 s0 TA 0 0 LF 0 0 0 0 LF LF 0) from Q11.out.set 2 (vI TA) (by simp));generalize w4.setCell ⟨H11,2,none⟩ (vI TA)=W6 at *;have c11_0:=Q11.out.cell 0 (vI a0) rfl;have c11_1:=Q11.out.cell 1 (vI s0) rfl;have c11_2:=Q11.out.cell 2 (vI TA) rfl;have c11_3:=Q11.out.cell 3 (vI 0) rfl;have c11_4:=Q11.out.cell 4 (vI 0) rfl;have c11_5:=Q11.out.cell 5 (vI LF) rfl;have c11_6:=Q11.out.cell 6 (vI 0) rfl;have c11_7:=Q11.out.cell 7 (vI 0) rfl;have c11_8:=Q11.out.cell 8 (vI 0) rfl;have c11_9:=Q11.out.cell 9 (vI 0) rfl;have c11_10:=Q11.out.cell 10 (vI LF) rfl;have c11_11:=Q11.out.cell 11 (vI LF) rfl;have c11_12:=Q11.out.cell 12 (.int .u8 0) rfl
  have HO:=hid (show Ow Pass.cells 13 52 (w.heap.size+1) ((wtL s al sp).take (0+1)) (.slice (some ⟨W6.heap.size,0,none⟩) 1 1) (W6.alloc (.cells #[vI a0,vI s0,vI TA,vI 0,vI 0,vI LF,vI 0,vI 0,vI 0,vI 0,vI LF,vI LF,.int .u8 0] 52)) from by
   rw [Jg (by omega),HFS.out]
   exact ⟨World.ownsRow_lit (size:=13) W6 #[vI a0,vI s0,vI TA,vI 0,vI 0,vI LF,vI 0,vI 0,vI 0,vI 0,vI LF,vI LF,.int .u8 0] 1 HS.out.sz (by unfold maxLen;omega) rfl⟩)
  have HS2:=hid (HS.out.alloc (.cells #[vI a0,vI s0,vI TA,vI 0,vI 0,vI LF,vI 0,vI 0,vI 0,vI 0,vI LF,vI LF,.int .u8 0] 52))
  go_wp2_with fail
  clear c11_0 c11_1 c11_2 c11_3 c11_4 c11_5 c11_6 c11_7 c11_8 c11_9 c11_10 c11_11 c11_12;clear HS Q11 Q12 HFS HN0 HAA HAT HSC HM;have HS:=HS2;clear HS2;generalize W6.alloc (.cells #[vI a0,vI s0,vI TA,vI 0,vI 0,vI LF,vI 0,vI 0,vI 0,vI 0,vI LF,vI LF,.int .u8 0] 52)=W7 at *
  go_loopw [15,16] (fun v t wr=>AdE s al sp w v t wr) (fun _ t _=>s.no.length - (intOf t).toNat)
  case atStart=>exact ⟨0,by omega,rfl,rfl,HS.out,HO.out⟩
  case round =>
   clear HO HS;obtain ⟨k,hk,rfl,hpe,hs,ho⟩:=hrel;have HS:=hid hs;have HO:=hid ho;have HPE:=hid hpe;clear hs ho hpe;have k0:=HNS.out _ HS.out;obtain ⟨m,hm⟩:∃ m,k+1=m:=⟨_,rfl⟩
   rw [hm] at HO ⊢
   by_cases hlt:m<s.no.length
   ·obtain ⟨Av,cv,hv,hPv,hcv⟩:=HO.out.res (n:=m) (show ∀ x:Pass,x.cells.length=13 from fun _=>rfl) (by rw [List.length_take,Jf];omega)
    obtain ⟨bv,ov,rfl,hbl,hcc⟩:=hPv.cells (by omega);have HVF:=hid hv
    have hget:((wtL s al sp).take m)[k]? = some (psP s al sp k):=by rw [List.getElem?_take,if_pos (by omega)];exact TP (by omega)
    have HLC:=hid (fun W (h:Below wr.heap.size wr W) j u hj=>(h.cell (p:=⟨bv,ov+k * 13+j,none⟩) hbl).trans (hcc k _ hget j u hj));have HNK:=hid (fun W (h:BoxS w 1 [s.cells] W)=>HNX.out W h k m hm.symm hlt (psP s al sp k) (HPI.out k (by omega) HPE.out));have HTK:=hid (Jg (s:=s) (al:=al) (sp:=sp) (k:=m) hlt);have HPS:=hid (show psP s al sp m=nxP s (psP s al sp k) al sp k from by rw [← hm];rfl)
    have hlen:((wtL s al sp).take m).length<=64:=by rw [List.length_take];omega
    have i1:(0:Int)<=(k:Int):=by omega
    have i3:(k:Int)<(m:Int):=by omega
    have i4:(m:Int)<(s.sno.n:Int):=by have:=HNO.out;omega
    have w1:IntKind.i64.wrap ((m:Int) - 1)=(k:Int):=by rw [(iW _)];omega
    have Hm:=hid hm
    have HQ0:=hid (fun (h0:nxE s (psP s al sp k) al sp k=0)=>show (if nxE s (psP s al sp k) al sp k=0 then nxP s (psP s al sp k) al sp k else Uk)=psP s al sp m from by rw [if_pos h0,HPS.out])
    have HP0:=hid (fun (h0:nxE s (psP s al sp k) al sp k=0)=>show psE s al sp m=0 from by rw [← hm];exact AaW HPE.out h0);have HP1:=hid (fun (h0:nxE s (psP s al sp k) al sp k≠0)=>show wtE s al sp=nxE s (psP s al sp k) al sp k from HX.out.trans (QK (by omega) HPE.out h0));generalize psP s al sp k=p at *;generalize nxP s p al sp k=q0 at *;generalize nxE s p al sp k=E at *
    have HNQ:=hid (fun W (h:BoxS w 1 [s.cells] W)=>(HNK.out W h).mono fun e' w' (h':Jk E q0 W e' w')=>show e'=.returned (.tuple #[.agg (if E=0 then q0 else Uk).cells.toArray,vI E])∧Below W.heap.size W w' from h')
    generalize (if E=0 then q0 else Uk)=q at *
    rw [show q.cells.toArray=#[vI q.alt,vI q.cas,vI q.tas,vI q.ground,vI q.tick,vI q.fuel,vI q.gl,vI q.gh,vI q.tl,vI q.th,vI q.fl,vI q.fh,.int .u8 q.phase] from rfl] at HNQ
    generalize hLL:(wtL s al sp).take m=LL at *;have HLL:=hid hLL;clear hLL hget hPv hcv hcc HNK HPS hm;subst hv
    go_wp2_with fail
    refine rS (fun W=>BoxS w 1 [s.cells] W∧Below wr.heap.size wr W) 16 (⟨HS.out.drew,(AJ _ _).drew⟩) (fun hHeld=>?_)
    refine rY (FM (.tmp 3) rfl rfl rfl (fun W hW=>hW.1.has 0 _ rfl)) ?_
    iterate 4 refine rQ ?_
    refine rT (fun W hW=>And.intro (show W.cell? ⟨bv,ov+k * 13,none⟩=some (vI p.alt) from HLC.out W hW.2 0 (vI p.alt) rfl) (And.intro (show W.cell? ⟨bv,ov+k * 13+1,none⟩=some (vI p.cas) from HLC.out W hW.2 1 (vI p.cas) rfl) (And.intro (show W.cell? ⟨bv,ov+k * 13+2,none⟩=some (vI p.tas) from HLC.out W hW.2 2 (vI p.tas) rfl) (And.intro (show W.cell? ⟨bv,ov+k * 13+3,none⟩=some (vI p.ground) from HLC.out W hW.2 3 (vI p.ground) rfl) (And.intro (show W.cell? ⟨bv,ov+k * 13+4,none⟩=some (vI p.tick) from HLC.out W hW.2 4 (vI p.tick) rfl) (And.intro (show W.cell? ⟨bv,ov+k * 13+5,none⟩=some (vI p.fuel) from HLC.out W hW.2 5 (vI p.fuel) rfl) (And.intro (show W.cell? ⟨bv,ov+k * 13+6,none⟩=some (vI p.gl) from HLC.out W hW.2 6 (vI p.gl) rfl) (And.intro (show W.cell? ⟨bv,ov+k * 13+7,none⟩=some (vI p.gh) from HLC.out W hW.2 7 (vI p.gh) rfl) (And.intro (show W.cell? ⟨bv,ov+k * 13+8,none⟩=some (vI p.tl) from HLC.out W hW.2 8 (vI p.tl) rfl) (And.intro (show W.cell? ⟨bv,ov+k * 13+9,none⟩=some (vI p.th) from HLC.out W hW.2 9 (vI p.th) rfl) (And.intro (show W.cell? ⟨bv,ov+k * 13+10,none⟩=some (vI p.fl) from HLC.out W hW.2 10 (vI p.fl) rfl) (And.intro (show W.cell? ⟨bv,ov+k * 13+11,none⟩=some (vI p.fh) from HLC.out W hW.2 11 (vI p.fh) rfl) (show W.cell? ⟨bv,ov+k * 13+12,none⟩=some (.int .u8 p.phase) from HLC.out W hW.2 12 (.int .u8 p.phase) rfl))))))))))))) ?_
    iterate 3 refine rQ ?_
    refine Be ?_
    intro OPS QQ A0 SS hO hQ hA hSS
    have st_9_13:Hid (∀ (H17:Nat) (W:World) (qH17:Has W H17 (lzp 0 0 0 0 0 0 0 0 0 0 0 0 0)) (rH17:wr.heap.size+0<=H17),SS W→wpAnyH Tryz.prog .any OPS QQ SS 2 #[b1,b1,b1,b1,b1,b1,b1,b1,b1,b1,b1,b1,b1,b1,b0,b0] (((((A0.put (some 93) (.tuple #[.agg #[vI q.alt,vI q.cas,vI q.tas,vI q.ground,vI q.tick,vI q.fuel,vI q.gl,vI q.gh,vI q.tl,vI q.th,vI q.fl,vI q.fh,.int .u8 q.phase],vI E])).put (some 83) (.tuple #[.agg #[vI q.alt,vI q.cas,vI q.tas,vI q.ground,vI q.tick,vI q.fuel,vI q.gl,vI q.gh,vI q.tl,vI q.th,vI q.fl,vI q.fh,.int .u8 q.phase],vI E])).put (some 94) (.agg #[vI q.alt,vI q.cas,vI q.tas,vI q.ground,vI q.tick,vI q.fuel,vI q.gl,vI q.gh,vI q.tl,vI q.th,vI q.fl,vI q.fh,.int .u8 q.phase])).put (some 95) (vI E)).put (some 17) (.pointer (some ⟨H17,0,none⟩))) W):=by
     subst hO hQ hA hSS
     refine hid ?_
     intro H17 W qH17 rH17 hHeld
     (try simp only [Act.put,pa,pb,pc])
     have fz:=qH17.fr;have cz0:=qH17.cell 0 _ rfl;have cz1:=qH17.cell 1 _ rfl;have cz2:=qH17.cell 2 _ rfl;have cz3:=qH17.cell 3 _ rfl;have cz4:=qH17.cell 4 _ rfl;have cz5:=qH17.cell 5 _ rfl;have cz6:=qH17.cell 6 _ rfl;have cz7:=qH17.cell 7 _ rfl;have cz8:=qH17.cell 8 _ rfl;have cz9:=qH17.cell 9 _ rfl;have cz10:=qH17.cell 10 _ rfl;have cz11:=qH17.cell 11 _ rfl;have cz12:=qH17.cell 12 _ rfl
     refine rEk ?_
     intro K hK
     have hs0:=hHeld;have hs1:=(And.intro ((hs0).1.set H17 0 (Nat.le_trans HS.out.sz rH17) (vI q.alt)) (Ab (hs0).2 H17 0 rH17 (vI q.alt)));have hs2:=(And.intro ((hs1).1.set H17 1 (Nat.le_trans HS.out.sz rH17) (vI q.cas)) (Ab (hs1).2 H17 1 rH17 (vI q.cas)));have hs3:=(And.intro ((hs2).1.set H17 2 (Nat.le_trans HS.out.sz rH17) (vI q.tas)) (Ab (hs2).2 H17 2 rH17 (vI q.tas)));have hs4:=(And.intro ((hs3).1.set H17 3 (Nat.le_trans HS.out.sz rH17) (vI q.ground)) (Ab (hs3).2 H17 3 rH17 (vI q.ground)));have hs5:=(And.intro ((hs4).1.set H17 4 (Nat.le_trans HS.out.sz rH17) (vI q.tick)) (Ab (hs4).2 H17 4 rH17 (vI q.tick)));have hs6:=(And.intro ((hs5).1.set H17 5 (Nat.le_trans HS.out.sz rH17) (vI q.fuel)) (Ab (hs5).2 H17 5 rH17 (vI q.fuel)));have hs7:=(And.intro ((hs6).1.set H17 6 (Nat.le_trans HS.out.sz rH17) (vI q.gl)) (Ab (hs6).2 H17 6 rH17 (vI q.gl)));have hs8:=(And.intro ((hs7).1.set H17 7 (Nat.le_trans HS.out.sz rH17) (vI q.gh)) (Ab (hs7).2 H17 7 rH17 (vI q.gh)));have hs9:=(And.intro ((hs8).1.set H17 8 (Nat.le_trans HS.out.sz rH17) (vI q.tl)) (Ab (hs8).2 H17 8 rH17 (vI q.tl)));have hs10:=(And.intro ((hs9).1.set H17 9 (Nat.le_trans HS.out.sz rH17) (vI q.th)) (Ab (hs9).2 H17 9 rH17 (vI q.th)));have hs11:=(And.intro ((hs10).1.set H17 10 (Nat.le_trans HS.out.sz rH17) (vI q.fl)) (Ab (hs10).2 H17 10 rH17 (vI q.fl)));have hs12:=(And.intro ((hs11).1.set H17 11 (Nat.le_trans HS.out.sz rH17) (vI q.fh)) (Ab (hs11).2 H17 11 rH17 (vI q.fh)));have hs13:=(And.intro ((hs12).1.set H17 12 (Nat.le_trans HS.out.sz rH17) (.int .u8 q.phase)) (Ab (hs12).2 H17 12 rH17 (.int .u8 q.phase)));have hNew:=hs13;have pH17:Has (((((((((((((W.setCell ⟨H17,0,none⟩ (vI q.alt)).setCell ⟨H17,1,none⟩ (vI q.cas)).setCell ⟨H17,2,none⟩ (vI q.tas)).setCell ⟨H17,3,none⟩ (vI q.ground)).setCell ⟨H17,4,none⟩ (vI q.tick)).setCell ⟨H17,5,none⟩ (vI q.fuel)).setCell ⟨H17,6,none⟩ (vI q.gl)).setCell ⟨H17,7,none⟩ (vI q.gh)).setCell ⟨H17,8,none⟩ (vI q.tl)).setCell ⟨H17,9,none⟩ (vI q.th)).setCell ⟨H17,10,none⟩ (vI q.fl)).setCell ⟨H17,11,none⟩ (vI q.fh)).setCell ⟨H17,12,none⟩ (.int .u8 q.phase)) H17 (lzp q.alt q.cas q.tas q.ground q.tick q.fuel q.gl q.gh q.tl q.th q.fl q.fh q.phase):=(((((((((((((qH17.set 0 (vI q.alt) (by simp)).set 1 (vI q.cas) (by simp)).set 2 (vI q.tas) (by simp)).set 3 (vI q.ground) (by simp)).set 4 (vI q.tick) (by simp)).set 5 (vI q.fuel) (by simp)).set 6 (vI q.gl) (by simp)).set 7 (vI q.gh) (by simp)).set 8 (vI q.tl) (by simp)).set 9 (vI q.th) (by simp)).set 10 (vI q.fl) (by simp)).set 11 (vI q.fh) (by simp)).set 12 (.int .u8 q.phase) (by simp))
     refine rEt hK hNew ?_
     clear hK K hNew fz hs0 hs1 hs2 hs3 hs4 hs5 hs6 hs7 hs8 hs9 hs10 hs11 hs12 hs13 cz0 cz1 cz2 cz3 cz4 cz5 cz6 cz7 cz8 cz9 cz10 cz11 cz12 qH17 hHeld
     intro hHeld
     have qH17:=pH17;clear pH17
     refine rQ ?_
     generalize (((((((((((((W.setCell ⟨H17,0,none⟩ (vI q.alt)).setCell ⟨H17,1,none⟩ (vI q.cas)).setCell ⟨H17,2,none⟩ (vI q.tas)).setCell ⟨H17,3,none⟩ (vI q.ground)).setCell ⟨H17,4,none⟩ (vI q.tick)).setCell ⟨H17,5,none⟩ (vI q.fuel)).setCell ⟨H17,6,none⟩ (vI q.gl)).setCell ⟨H17,7,none⟩ (vI q.gh)).setCell ⟨H17,8,none⟩ (vI q.tl)).setCell ⟨H17,9,none⟩ (vI q.th)).setCell ⟨H17,10,none⟩ (vI q.fl)).setCell ⟨H17,11,none⟩ (vI q.fh)).setCell ⟨H17,12,none⟩ (.int .u8 q.phase))=W8 at *
     refine rD ?_
     replace HS:=hid hHeld.1;have HBW:=hid hHeld.2;have Q17:=hid qH17;clear qH17 hHeld;replace HO:=hid (HO.out.below HBW.out);clear HBW HLC HNQ k0;have k0:=HNS.out _ HS.out;have c0:=Q17.out.cell 0 (vI q.alt) rfl;have c1:=Q17.out.cell 1 (vI q.cas) rfl;have c2:=Q17.out.cell 2 (vI q.tas) rfl;have c3:=Q17.out.cell 3 (vI q.ground) rfl;have c4:=Q17.out.cell 4 (vI q.tick) rfl;have c5:=Q17.out.cell 5 (vI q.fuel) rfl;have c6:=Q17.out.cell 6 (vI q.gl) rfl;have c7:=Q17.out.cell 7 (vI q.gh) rfl;have c8:=Q17.out.cell 8 (vI q.tl) rfl;have c9:=Q17.out.cell 9 (vI q.th) rfl;have c10:=Q17.out.cell 10 (vI q.fl) rfl;have c11:=Q17.out.cell 11 (vI q.fh) rfl;have c12:=Q17.out.cell 12 (.int .u8 q.phase) rfl
     by_cases hne:E=0
     rotate_left
     ·have e1:=Aw hne
      have e2:=AL e1;have HE:=hid (HP1.out hne);have HNE:=hid hne;clear hne
      go_wp2_with fail
      go_ret2
      exact JG HE.out HNE.out HS.out.B
     have HQ:=hid (HQ0.out hne);have HPM:=hid (HP0.out hne);subst hne;clear HQ0 HP0 HP1
     go_wp2_with (at_builtin;refine wpList_append_own_at _ rfl _ _ 37 rfl (w.heap.size+1) 52 i0 (.agg #[vI 0,vI 0,vI 0,vI 0,vI 0,vI 0,vI 0,vI 0,vI 0,vI 0,vI 0,vI 0,.int .u8 0]) 13 104 Tryz.underlying37 hi hz0 hz1 hz2 rfl (by decide) _ _ _ rfl ((HO.out.alloc _).own) ⟨W8.heap.size,0,none⟩ 1 1 (lzp q.alt q.cas q.tas q.ground q.tick q.fuel q.gl q.gh q.tl q.th q.fl q.fh q.phase) rfl rfl (AY _ _ (by first | rfl | simp) _ _ _ rfl) (Pm q) (by unfold maxLen;omega) (by omega) (by have:=HS.out.sz;simp;omega) ?_;intro v1 w7 hown hgrow hnil hblk)
     have HS7:=hid ((HS.out.alloc _).grown hgrow (fun k hk=>(HO.out.lt hk).1));have HO7:=hid (Ow.next (l:=LL) (f:=Pass.cells) (x:=q) hown);clear hown hgrow hnil hblk HS HO
     go_roundw
     case rel=>exact ⟨m,by omega,by go_num,HPM.out,HS7.out,by rw [HTK.out,← HQ.out];exact HO7.out⟩
     case measure=>exact zMs
    have st_9:Hid (∀ (W:World),SS W→wpAnyH Tryz.prog .any OPS QQ SS 3 #[b1,b1,b1,b1,b1,b1,b1,b1,b1,b1,b1,b1,b1,b0,b0,b0] ((((A0.put (some 93) (.tuple #[.agg #[vI q.alt,vI q.cas,vI q.tas,vI q.ground,vI q.tick,vI q.fuel,vI q.gl,vI q.gh,vI q.tl,vI q.th,vI q.fl,vI q.fh,.int .u8 q.phase],vI E])).put (some 83) (.tuple #[.agg #[vI q.alt,vI q.cas,vI q.tas,vI q.ground,vI q.tick,vI q.fuel,vI q.gl,vI q.gh,vI q.tl,vI q.th,vI q.fl,vI q.fh,.int .u8 q.phase],vI E])).put (some 94) (.agg #[vI q.alt,vI q.cas,vI q.tas,vI q.ground,vI q.tick,vI q.fuel,vI q.gl,vI q.gh,vI q.tl,vI q.th,vI q.fl,vI q.fh,.int .u8 q.phase])).put (some 95) (vI E)) W):=by
     subst hO hQ hA hSS
     refine hid ?_
     intro W hHeld
     (try simp only [Act.put,pa,pb,pc])
     refine wpAnyH_ready (rs:=[13]) (by kernel_rfl) (by simp) ?_
     refine AllReadyH.cons (o:=_) rfl (fun K hK=>?_) ?_
     ·go_simp
      have hNew:=And.intro (hHeld.1.alloc (.cells #[vI 0,vI 0,vI 0,vI 0,vI 0,vI 0,vI 0,vI 0,vI 0,vI 0,vI 0,vI 0,.int .u8 0] 52)) (Bh hHeld.2 (.cells #[vI 0,vI 0,vI 0,vI 0,vI 0,vI 0,vI 0,vI 0,vI 0,vI 0,vI 0,vI 0,.int .u8 0] 52));have rH17N:wr.heap.size+0<=W.heap.size:=hHeld.2.size
      refine rEt hK hNew (fun hHeld2=>?_)
      exact mN st_9_13.out
     exact AllReadyH.nil
    have st_13:Hid (∀ (H17:Nat) (W:World) (qH17:Has W H17 (lzp 0 0 0 0 0 0 0 0 0 0 0 0 0)) (rH17:wr.heap.size+0<=H17),SS W→wpAnyH Tryz.prog .any OPS QQ SS 6 #[b1,b1,b1,b1,b1,b1,b1,b1,b1,b0,b0,b0,b0,b1,b0,b0] (A0.put (some 17) (.pointer (some ⟨H17,0,none⟩))) W):=by
     subst hO hQ hA hSS
     refine hid ?_
     intro H17 W qH17 rH17 hHeld
     (try simp only [Act.put,pa,pb,pc])
     refine wpAnyH_ready (rs:=[9]) (by kernel_rfl) (by simp) ?_
     refine AllReadyH.cons (o:=_) rfl (fun K hK=>?_) ?_
     ·go_simp
      refine (HNQ.out _ hHeld.1).mono ?_;rintro e2 W2 ⟨rfl,hB⟩
      go_wp2_with fail
      have hNew:=And.intro (hHeld.1.below hB) (Ae hHeld.2 hB)
      refine rEt hK hNew (fun hHeld2=>?_)
      iterate 3 refine rQ ?_
      exact mN st_9_13.out
     exact AllReadyH.nil
    have st:Hid (∀ (W:World),SS W→wpAnyH Tryz.prog .any OPS QQ SS 7 #[b1,b1,b1,b1,b1,b1,b1,b1,b1,b0,b0,b0,b0,b0,b0,b0] A0 W):=by
     subst hO hQ hA hSS
     refine hid ?_
     intro W hHeld
     (try simp only [Act.put,pa,pb,pc])
     refine wpAnyH_ready (rs:=[9,13]) (by kernel_rfl) (by simp) ?_
     refine AllReadyH.cons (o:=_) rfl (fun K hK=>?_) ?_
     ·go_simp
      refine (HNQ.out _ hHeld.1).mono ?_;rintro e2 W2 ⟨rfl,hB⟩
      go_wp2_with fail
      have hNew:=And.intro (hHeld.1.below hB) (Ae hHeld.2 hB)
      refine rEt hK hNew (fun hHeld2=>?_)
      iterate 3 refine rQ ?_
      exact mN st_9.out
     refine AllReadyH.cons (o:=_) rfl (fun K hK=>?_) ?_
     ·go_simp
      have hNew:=And.intro (hHeld.1.alloc (.cells #[vI 0,vI 0,vI 0,vI 0,vI 0,vI 0,vI 0,vI 0,vI 0,vI 0,vI 0,vI 0,.int .u8 0] 52)) (Bh hHeld.2 (.cells #[vI 0,vI 0,vI 0,vI 0,vI 0,vI 0,vI 0,vI 0,vI 0,vI 0,vI 0,vI 0,.int .u8 0] 52));have rH17N:wr.heap.size+0<=W.heap.size:=hHeld.2.size
      refine rEt hK hNew (fun hHeld2=>?_)
      exact mN st_13.out
     exact AllReadyH.nil
    subst hO hQ hA hSS
    exact st.out _  hHeld
   ·have HE:=hid (show wtE s al sp=0 from by rw [HX.out,show s.no.length - 1=k by omega];exact HPE.out)
    have HO2:=hid (show Ow Pass.cells 13 52 (w.heap.size+1) (wtL s al sp) _ wr from by have h:=HO.out;rwa [CY (by rw [Jf];omega)] at h);obtain ⟨A',c',hv,hP,hcap⟩:=HO2.out.res (show ∀ x:Pass,x.cells.length=13 from fun _=>rfl) (Jf s al sp);have HP:=hid hP;have HCAP:=hid hcap
    have i2:¬ (m:Int)<(s.sno.n:Int):=by have:=HNO.out;omega
    subst hv;clear hP hcap HO HO2
    go_wp2_with fail
    go_ret2
    exact XQ HE.out ⟨A',c',rfl,HP.out,HCAP.out⟩ HS.out.B
 have st_10:Hid (∀ (W:World) (qH11:Has W H11 (lzp a0 s0 0 0 0 LF 0 0 0 0 LF LF 0)),SS W→wpAnyH Tryz.prog .any OPS QQ SS 4 #[b1,b1,b1,b1,b1,b1,b1,b1,b1,b1,b1,b1,b1,b1,b1,b0,b0,b0,b0] (((((A0.put (some 56) (.tuple #[.agg #[vI WE,vI WN],vI WD,vI 0])).put (some 45) (.tuple #[.agg #[vI WE,vI WN],vI WD,vI 0])).put (some 57) (.agg #[vI WE,vI WN])).put (some 58) (vI WD)).put (some 59) (vI 0)) W):=by
  subst hO hQ hA hSS
  refine hid ?_
  intro W qH11 hHeld
  (try simp only [Act.put,pa,pb,pc])
  refine wpAnyH_ready (rs:=[15]) (by kernel_rfl) (by simp) ?_
  refine aD rfl (fun K hK=>mA st_10_15.out) ?_
  exact AllReadyH.nil
 have st_15:Hid (∀ (H12:Nat) (W:World) (qH11:Has W H11 (lzp a0 s0 0 0 0 LF 0 0 0 0 LF LF 0)) (qH12:Has W H12 (lz2 0 0)) (rH12:w.heap.size+1<=H12) (nH11H12:H11≠H12),SS W→wpAnyH Tryz.prog .any OPS QQ SS 8 #[b1,b1,b1,b1,b1,b1,b1,b1,b1,b1,b0,b0,b0,b0,b0,b1,b0,b0,b0] (A0.put (some 12) (.pointer (some ⟨H12,0,none⟩))) W):=by
  subst hO hQ hA hSS
  refine hid ?_
  intro H12 W qH11 qH12 rH12 nH11H12 hHeld
  (try simp only [Act.put,pa,pb,pc])
  refine wpAnyH_ready (rs:=[10]) (by kernel_rfl) (by simp) ?_
  refine AllReadyH.cons (o:=_) rfl (fun K hK=>?_) ?_
  ·go_simp
   refine (HAT.out _ hHeld).mono ?_;rintro e2 W2 ⟨rfl,hB⟩
   go_wp2_with fail
   have hNew:=hHeld.below hB
   refine rEt hK hNew (fun hHeld2=>?_)
   iterate 4 refine rQ ?_
   exact mN st_10_15.out
  exact AllReadyH.nil
 have st:Hid (∀ (W:World) (qH11:Has W H11 (lzp a0 s0 0 0 0 LF 0 0 0 0 LF LF 0)),SS W→wpAnyH Tryz.prog .any OPS QQ SS 9 #[b1,b1,b1,b1,b1,b1,b1,b1,b1,b1,b0,b0,b0,b0,b0,b0,b0,b0,b0] A0 W):=by
  subst hO hQ hA hSS
  refine hid ?_
  intro W qH11 hHeld
  (try simp only [Act.put,pa,pb,pc])
  refine wpAnyH_ready (rs:=[10,15]) (by kernel_rfl) (by simp) ?_
  refine AllReadyH.cons (o:=_) rfl (fun K hK=>?_) ?_
  ·go_simp
   refine (HAT.out _ hHeld).mono ?_;rintro e2 W2 ⟨rfl,hB⟩
   go_wp2_with fail
   have hNew:=hHeld.below hB
   refine rEt hK hNew (fun hHeld2=>?_)
   iterate 4 refine rQ ?_
   exact mN st_10.out
  refine aD rfl (fun K hK=>mA st_15.out) ?_
  exact AllReadyH.nil
 subst hO hQ hA hSS
 exact st.out _ qH11 hHeld
theorem Gy {W:World} {a p:Addr} {v u:Value} (hv:W.cell? a=some v) (h:W.cell? p=some u):(W.setCell a v).cell? p=some u:=by
 by_cases e:a=p
 ·subst e;rw [World.cell?_setCell_same _ _ _ hv];rw [hv] at h;exact h
 ·rw [World.cell?_setCell_other _ a p v e];exact h
theorem Recs.keep {α:Type} {f:α→List Value} {sz:Nat} {W:World} {A:Option Addr} {n:Nat} {l:List α} {a:Addr} {u v:Value} (h:Recs f sz W A n l) (hu:W.cell? a=some u) (hf:∀ (x:α) (j:Nat),(f x)[j]?≠some u):Recs f sz (W.setCell a v) A n l :=
 ⟨h.len,fun hn=>by
  obtain ⟨b,off,h1,h2,h3⟩:=h.cells hn
  refine ⟨b,off,h1,by simpa [World.setCell] using h2,fun k x hk j y hy=>?_⟩
  have h4:=h3 k x hk j y hy
  rw [World.cell?_setCell_other _ a _ v (by
   intro e
   rw [← e,hu] at h4
   injection h4 with h4
   exact hf x j (by rw [hy,h4]))]
  exact h4⟩
theorem Recs.same {α:Type} {f:α→List Value} {sz:Nat} {W:World} {A:Option Addr} {n:Nat} {l:List α} {a:Addr} {v:Value} (h:Recs f sz W A n l) (hv:W.cell? a=some v):Recs f sz (W.setCell a v) A n l :=
 ⟨h.len,fun hn=>by
  obtain ⟨b,off,h1,h2,h3⟩:=h.cells hn
  exact ⟨b,off,h1,by simpa [World.setCell] using h2,fun k x hk j y hy=>Gy hv (h3 k x hk j y hy)⟩⟩
theorem UI {α:Type} {f:α→List Value} {sz:Nat} {W:World} {A:Option Addr} {n:Nat} {l:List α} {b:Nat} {v:Value} (h:Recs f sz W A n l) (h0:W.cell? ⟨b,0,none⟩=some (.slice none 0 0)) (h1:W.cell? ⟨b,1,none⟩=some (vI 0)) (h2:W.cell? ⟨b,2,none⟩=some (vI 0)) (h3:W.cell? ⟨b,3,none⟩=some (.bool false)) (hf:∀ (x:α) (j:Nat),(f x)[j]?≠some (.slice none 0 0)) :
  Recs f sz ((((W.setCell ⟨b,0,none⟩ v).setCell ⟨b,1,none⟩ (vI 0)).setCell ⟨b,2,none⟩ (vI 0)).setCell ⟨b,3,none⟩ (.bool false)) A n l:=by
 have e:∀ i,i≠0→(W.setCell ⟨b,0,none⟩ v).cell? ⟨b,i,none⟩=W.cell? ⟨b,i,none⟩:=fun i hi=>World.cell?_setCell_other _ ⟨b,0,none⟩ ⟨b,i,none⟩ v (by intro e;injection e with _ e;omega);have e1:=(e 1 (by decide)).trans h1;have e2:=(e 2 (by decide)).trans h2;have e3:=(e 3 (by decide)).trans h3;have f2:=Gy e1 e2;have f3:=Gy e1 e3
 exact (((h.keep h0 hf).same e1).same f2).same (Gy f2 f3)
theorem Zf (x:Pass) (j:Nat):(Pass.cells x)[j]?≠some (.slice none 0 0):=by
 intro h
 unfold Pass.cells at h
 have:=Au h
 simp at this
