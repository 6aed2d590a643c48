
/- Layer 37: the passages of a flight, the reference's With. -/
import Derived.Test.YtedcanagfajcgaaGreatM47
import Derived.Test.YtedcanagfajcgaaGreatM45
import Derived.Test.YtedcanagfajcgaaGreatM27
set_option linter.unusedSimpArgs false
set_option linter.unusedVariables false
set_option maxRecDepth 100000
set_option maxHeartbeats 16000000
namespace Go.Proofs
theorem P5{G:Prop}(h:G:=by
  go_wp2_with fail
  go_ret2
  exact GU HE.out (by decide) hB.out):G:=h
theorem RL{G:Prop}(h:G:=by
  subst hO hQ hA hSS
  (try simp only [Act.put,pa,pb,pc] at TAIL)
  exact mR):G:=h
end Go.Proofs
namespace Go.Proofs.YtedcanagfajcgaaGreat
open Go.RowKit
open Go.Lib (hid)
def wtD (s:Stp) (al:List Int) (k:Nat):Int:=gAt s.gr (elD s.gr) (lgX s k) (lgY s k) (lgA al k)
def WtO (l:List Pass) (n:Nat) (E:Int) (w:World) (e:Ending) (w':World):Prop:=∃ A c,e=.returned (.tuple #[.slice A n c,vI E])∧Passes w' A n l∧BS A n c∧Below w.heap.size w w'∧Ow Pass.cells 13 52 w.heap.size l (.slice A n c) w'
theorem GU {l:List Pass} {n:Nat} {E E':Int} {w w':World} (hE:E=E') (h0:E'≠0) (hb:Below w.heap.size w w'):WtO (okL E l) (okN E n) E w (.returned (.tuple #[.slice none 0 0,vI E'])) w':=by
 subst hE
 unfold okL okN
 rw [if_neg h0,if_neg h0]
 exact ⟨none,0,rfl,Recs.nil _ _ _,⟨Bn _,Nat.zero_le _,fun _=>rfl⟩,hb,Ow.start _ _ _ _ _⟩
theorem Ac2 {l:List Pass} {n N:Nat} {E:Int} {w w':World} {A:Option Addr} {c:Nat} (hE:E=0) (h1:Passes w' A n l) (h2:BS A n c) (hb:Below w.heap.size w w') (hN:w.heap.size<=N) (ho:Ow Pass.cells 13 52 N l (.slice A n c) w'):WtO (okL E l) (okN E n) E w (.returned (.tuple #[.slice A n c,vI 0])) w':=by
 subst hE
 exact ⟨A,c,rfl,h1,h2,hb,⟨NQ ho.own hN⟩⟩
structure WtR (s:Stp) (w wr:World) (H16 H19 H20:Nat) (c19 c20:List Value) (W:World):Prop where
 S:BoxS w 1 [s.cells] W
 l:Has W H19 c19
 q:Has W H20 c20
 G:wr.grownBy W (some H16)
 h16:w.heap.size+1<=H16∧H16<wr.heap.size
 h19:wr.heap.size<=H19
 h20:wr.heap.size<=H20
section
variable {s:Stp} {w wr W W1:World} {H16 H19 H20:Nat} {c19 c20:List Value}
theorem O0 {w w1 w2:World} {r:Option Nat} (h:w.grownBy w1 r) (h2:w1.grownBy w2 r):w.grownBy w2 r:=⟨h2.os.trans h.os,h2.tape.trans h.tape,h2.output.trans h.output,Nat.le_trans h.size h2.size,fun k hk hr=>(h2.block k (Nat.lt_of_lt_of_le hk h.size) hr).trans (h.block k hk hr)⟩
theorem WtR.sz (h:WtR s w wr H16 H19 H20 c19 c20 W):wr.heap.size<=W.heap.size:=h.G.size
theorem WtR.below (h:WtR s w wr H16 H19 H20 c19 c20 W) (hB:Below W.heap.size W W1):WtR s w wr H16 H19 H20 c19 c20 W1:=⟨h.S.below hB,h.l.below hB,h.q.below hB,O0 h.G (En hB _),h.h16,h.h19,h.h20⟩
theorem WtR.drew (h:WtR s w wr H16 H19 H20 c19 c20 W):WtR s w wr H16 H19 H20 c19 c20 W.drew:=h.below (AJ _ _).drew
theorem WtR.alloc (h:WtR s w wr H16 H19 H20 c19 c20 W) (o:Obj):WtR s w wr H16 H19 H20 c19 c20 (W.alloc o):=h.below (Aa _ _)
theorem WtR.set16 (h:WtR s w wr H16 H19 H20 c19 c20 W) (i:Nat) (v:Value):WtR s w wr H16 H19 H20 c19 c20 (W.setCell ⟨H16,i,none⟩ v) :=
 ⟨h.S.set H16 i h.h16.1 v,h.l.other H16 i v (by have:=h.h16;have:=h.h19;omega),h.q.other H16 i v (by have:=h.h16;have:=h.h20;omega),O0 h.G (Ej _ _ _),h.h16,h.h19,h.h20⟩
theorem WtR.setN (h:WtR s w wr H16 H19 H20 c19 c20 W) (b i:Nat) (hb:wr.heap.size<=b) (h1:H19≠b) (h2:H20≠b) (v:Value):WtR s w wr H16 H19 H20 c19 c20 (W.setCell ⟨b,i,none⟩ v) :=
 have g:=Ej W ⟨b,i,none⟩ v
 ⟨h.S.set b i (by have:=h.h16;omega) v,h.l.other b i v h1,h.q.other b i v h2,⟨g.os.trans h.G.os,g.tape.trans h.G.tape,g.output.trans h.G.output,Nat.le_trans h.G.size g.size,fun k hk hr=>(g.block k (Nat.lt_of_lt_of_le hk h.G.size) (by intro e;injection e with e;subst e;exact absurd hb (by show ¬ wr.heap.size<=k;omega))).trans (h.G.block k hk hr)⟩,h.h16,h.h19,h.h20⟩
end
structure WtP (s:Stp) (w wr:World) (H16 H19 H20 H30:Nat) (c19 c20 c16 c30:List Value) (W:World):Prop where
 R:WtR s w wr H16 H19 H20 c19 c20 W
 p:Has W H16 c16
 t:Has W H30 c30
section
variable {s:Stp} {w wr W W1:World} {H16 H19 H20 H30:Nat} {c19 c20 c16 c30:List Value}
theorem WtP.sz (h:WtP s w wr H16 H19 H20 H30 c19 c20 c16 c30 W):wr.heap.size<=W.heap.size:=h.R.sz
theorem WtP.below (h:WtP s w wr H16 H19 H20 H30 c19 c20 c16 c30 W) (hB:Below W.heap.size W W1):WtP s w wr H16 H19 H20 H30 c19 c20 c16 c30 W1:=⟨h.R.below hB,h.p.below hB,h.t.below hB⟩
theorem WtP.alloc (h:WtP s w wr H16 H19 H20 H30 c19 c20 c16 c30 W) (o:Obj):WtP s w wr H16 H19 H20 H30 c19 c20 c16 c30 (W.alloc o):=⟨h.R.alloc _,h.p.alloc _,h.t.alloc _⟩
theorem WtP.setN (h:WtP s w wr H16 H19 H20 H30 c19 c20 c16 c30 W) (b i:Nat) (hb:wr.heap.size<=b) (h1:H19≠b) (h2:H20≠b) (h3:H30≠b) (v:Value):WtP s w wr H16 H19 H20 H30 c19 c20 c16 c30 (W.setCell ⟨b,i,none⟩ v) :=
 ⟨h.R.setN b i hb h1 h2 v,h.p.other b i v (by have:=h.R.h16;omega),h.t.other b i v h3⟩
end
theorem AcA {v:Value} {H:Nat} (h:∀ b,v.ownBlock=some b→b≠H):v.ownBlock=none∨v.ownBlock≠some H:=by
 cases e:v.ownBlock with
 | none=>exact .inl rfl
 | some b=>exact .inr (fun e2=>by injection e2 with e2;exact h b e e2)
def AbS (s:Stp) (al sp:List Int) (w:World) (H16:Nat) (v t:Value) (wr:World):Prop:=∃ k:Nat,k+1<=s.no.length∧t=vI ((k+1:Nat):Int)∧psE s al sp k=0∧BoxS w 1 [s.cells] wr∧Has wr H16 (psP s al sp k).cells∧w.heap.size+1<=H16∧(∀ b,v.ownBlock=some b→b≠H16)∧Ow Pass.cells 13 52 (w.heap.size+1) ((wtL s al sp).take (k+1)) v wr
theorem AcJ (s:Stp) (A A2:Option Addr) (n c n' d:Nat) (al sp:List Int) (w:World) (hl:s.lies w) (hok:s.ok) (ha:Ints w A n al) (hb:Ints w A2 n' sp) (hn:n<=maxLen) (hn':n'<=maxLen):Calls Tryz.prog 7 #[.agg s.cells.toArray,.slice A n c,.slice A2 n' d] w (WtO (okL (wtE s al sp) (wtL s al sp)) (okN (wtE s al sp) s.no.length) (wtE s al sp) w):=by
 obtain ⟨i0,hi,hz0,hz1,hz2⟩:=info_parts O7;have HS:=hid (DR w s.cells.toArray 35);have HC:=hid (fun W (h:BoxS w 1 [s.cells] W)=>I5 s W (hl.below h.B) hok)
 by_cases hE:suE s=0
 rotate_left
 ·have HX:=hid (XP (al:=al) (sp:=sp) hE)
  generalize suE s=E at *;have e1:=Aw hE;have e2:=AL e1;have HE:=hid hE;clear hl hok hE ha hb hn hn'
  go_enter Tryz.func7,Tryz.ntmps7
  go_wp2_with (refine AC (.tmp 3) rfl rfl rfl (HS.out.has 0 _ rfl) ?_)
  refine (HC.out _ HS.out).mono ?_;rintro e' w1 ⟨rfl,hB⟩
  have HB:=hid (Ae HS.out.B hB);clear hB
  go_wp2_with fail
  go_ret2
  exact GU HX.out HE.out HB.out
 have N:=StN.of hl;have hno:=N.no;have HCF:=hid (fun W (h:BoxS w 1 [s.cells] W)=>Xc s A A2 n c n' d al sp W hno (ha.below h.B) (hb.below h.B) hn hn')
 rw [hE] at HC
 by_cases hF:fcE s al sp=0
 rotate_left
 ·have HX:=hid (XN hE hF)
  generalize fcE s al sp=E at *;have e1:=Aw hF;have e2:=AL e1;have HE:=hid hF;clear hl hok hE ha hb hn hn' hF N hno
  go_enter Tryz.func7,Tryz.ntmps7
  go_wp2_with (refine AC (.tmp 3) rfl rfl rfl (HS.out.has 0 _ rfl) ?_)
  refine (HC.out _ HS.out).mono ?_;rintro e' w1 ⟨rfl,hB⟩
  replace HS:=hid (HS.out.below hB);clear hB
  go_wp2_with (refine AC (.tmp 3) rfl rfl rfl (HS.out.has 0 _ rfl) ?_)
  refine (HCF.out _ HS.out).mono ?_;rintro e' w1 ⟨rfl,hB⟩
  have HB:=hid (Ae HS.out.B hB);clear hB
  go_wp2_with fail
  go_ret2
  exact GU HX.out HE.out HB.out
 have HX:=hid (XO hE hF);have G:=Cm hE;have Fc:=J7 hF
 rw [hF] at HCF
 have hn2:=Cq G N;have la:=ha.len;have lb:=hb.len
 have hn1:n=s.no.length:=by have:=Fc.la;omega
 have hn3:n'=s.no.length:=by have:=Fc.ls;omega
 obtain ⟨b,off,hA⟩:=FC hl (by omega);obtain ⟨ba,oa,rfl⟩:=Eb ha (by omega);obtain ⟨bb,ob,rfl⟩:=Eb hb (by omega)
 have HAA:=hid (fun W (h:BoxS w 1 [s.cells] W)=>show W.cell? ⟨ba,oa,none⟩=some (vI (al.getD 0 0))∧W.cell? ⟨bb,ob,none⟩=some (vI (sp.getD 0 0)) from
  have q2:=Bu ha (k:=0) (by omega);have q4:=Bu hb (k:=0) (by omega)
  ⟨(h.B.cell (p:=⟨ba,oa,none⟩) q2.1).trans q2.2,(h.B.cell (p:=⟨bb,ob,none⟩) q4.1).trans q4.2⟩)
 have HNS:=hid (fun W (h:BoxS w 1 [s.cells] W)=>show W.cell? ⟨w.heap.size,0,none⟩=some (.slice (some ⟨b,off,none⟩) s.sno.n s.sno.c) from Dk (h.has 0 _ rfl) hA)
 have HN0:=hid (fun W (h:BoxS w 1 [s.cells] W)=>show W.cell? ⟨b,off,none⟩=some (vI (Ac s 0).px)∧W.cell? ⟨b,off+1,none⟩=some (vI (Ac s 0).py) from by
  have q:=Ce (hl.below h.B) hA (k:=0) (by omega)
  simp only [Nat.zero_mul,Nat.add_zero] at q
  exact ⟨q.1,q.2.1⟩)
 have HM:=hid (fun W (h:BoxS w 1 [s.cells] W)=>show W.cell? ⟨w.heap.size,31,none⟩=some (vI s.mch) from JE (h.has 0 _ rfl));have HLF:=hid (fun W=>Tg s.ac W);have g0:=AR G N (k:=0) (by omega);have hal:=Fc.a 0 (by omega);have HAT:=hid (fun W (h:BoxS w 1 [s.cells] W)=>rAt s.gr (Ac s 0).px (Ac s 0).py (al.getD 0 0) W (hl.below h.B).gr hok.gr G.gr (Gj g0.px g0.py) (Al.2 (by have:=G.lv;omega)));have HSC:=hid (fun W=>QU (sp.getD 0 0) s.mch (al.getD 0 0) (gAt s.gr (elD s.gr) (Ac s 0).px (Ac s 0).py (al.getD 0 0)) W);have HPI:=hid (fun k (hk:k<s.no.length) (h:psE s al sp k=0)=>psI G N Fc hk h);have HNO:=hid hno;have HFS:=hid (show psP s al sp 0=⟨al.getD 0 0,sp.getD 0 0,Ck (sp.getD 0 0) s.mch (al.getD 0 0) (gAt s.gr (elD s.gr) (Ac s 0).px (Ac s 0).py (al.getD 0 0)),0,0,s.ac.left,0,0,0,0,s.ac.left,s.ac.left,0⟩ from rfl)
 have i2:(0:Int)<(s.sno.n:Int):=by omega
 have j1:(0:Int)<(n:Int):=by omega
 have j2:(0:Int)<(n':Int):=by omega
 have j3:0<n:=by omega
 have j4:0<n':=by omega
 have j5:0<s.sno.n:=by omega
 have FA:=fun W (h:BoxS w 1 [s.cells] W)=>And.intro (And.intro (HAA.out W h) (HNS.out W h)) (And.intro (HN0.out W h) (HM.out W h));have HW:=hid (fun W (h:BoxS w 1 [s.cells] W)=>show Has W w.heap.size s.cells from h.has 0 _ rfl);have HLG:=hid (fun W (h:BoxS w 1 [s.cells] W) k m (hm:m=k+1) (hk:m<s.no.length)=>show Calls Tryz.prog 26 #[.agg s.cells.toArray,.slice (some ⟨ba,oa,none⟩) n c,.slice (some ⟨bb,ob,none⟩) n' d,vI m] W fun e' w'=>e'=.returned (.agg #[vI (nxV s al sp k).l.co,vI (nxV s al sp k).l.al,vI (nxV s al sp k).l.sp,vI (wtD s al k),vI (nxV s al sp k).l.we,vI (nxV s al sp k).l.wn,vI (nxV s al sp k).h.e0,vI (nxV s al sp k).h.e1,vI (nxV s al sp k).h.n0,vI (nxV s al sp k).h.n1,vI (nxV s al sp k).h.d0,vI (nxV s al sp k).h.d1,.int .u8 (nxV s al sp k).l.ph])∧Below W.heap.size W w' from Aep s k m hm (some ⟨ba,oa,none⟩) (some ⟨bb,ob,none⟩) n c n' d al sp W (hl.below h.B) hok G hk Fc (ha.below h.B) (hb.below h.B));have HS9:=hid (fun W a b c d=>QU a b c d W);have HGR:=hid (fun W k=>Tk (nxV s al sp k).l.co (nxV s al sp k).l.ta (nxV s al sp k).l.we (nxV s al sp k).l.wn (Gz _ _ _ _) W);have HGI:=hid (fun W k=>UD (nxV s al sp k).l.co (nxV s al sp k).slow (nxV s al sp k).fast (nxV s al sp k).h.e0 (nxV s al sp k).h.e1 (nxV s al sp k).h.n0 (nxV s al sp k).h.n1 (Gz _ _ _ _) W);have HBI:=hid (fun W a b c d e f=>Zk a b c d e f W);have HFL:=hid (fun W (h:BoxS w 1 [s.cells] W) (l:Lg) dv (hh:Hul) left tas hp=>show Calls Tryz.prog 30 #[.agg s.cells.toArray,.agg #[vI l.co,vI l.al,vI l.sp,vI dv,vI l.we,vI l.wn,vI hh.e0,vI hh.e1,vI hh.n0,vI hh.n1,vI hh.d0,vI hh.d1,.int .u8 l.ph],vI (s.ac.em+left),vI tas] W fun e w'=>e=.returned (vI (flw s l left tas))∧Below W.heap.size W w' from Tf s l dv hh left tas W (hl.below h.B) hok hp);have HFB:=hid (fun l left tas=>Io G N l left tas);have HPH:=hid (fun k=>show (nxV s al sp k).l.ph=1∨(nxV s al sp k).l.ph=2∨(nxV s al sp k).l.ph=3 from NE al k)
 have HDI:=hid (fun W (h:BoxS w 1 [s.cells] W) k m (hm:m=k+1) (hk:m<s.no.length)=>show W.cell? ⟨b,off+m * 7+2,none⟩=some (vI (nxV s al sp k).di) from by subst hm;exact (Ce (hl.below h.B) hA hk).2.2.1);have HDB:=hid (fun k m (hm:m=k+1) (hk:m<s.no.length)=>show 0<=(nxV s al sp k).di∧(nxV s al sp k).di<=8000000 from by subst hm;exact (AR G N hk).di)
 have HAL:=hid (fun W (h:BoxS w 1 [s.cells] W) k (hk:k<s.no.length) =>
  have q2:=Bu ha (k:=k) (by omega);have q4:=Bu hb (k:=k) (by omega)
  And.intro ((h.B.cell (p:=⟨ba,oa+k,none⟩) q2.1).trans q2.2) ((h.B.cell (p:=⟨bb,ob+k,none⟩) q4.1).trans q4.2))
 have HSE:=hid (fun k=>show Ck (nxV s al sp k).l.sp s.mch (nxV s al sp k).l.al (wtD s al k)=(nxV s al sp k).l.ta∧Ck (nxV s al sp k).l.sp s.mch (nxV s al sp k).l.al (nxV s al sp k).h.d0=(nxV s al sp k).slow∧Ck (nxV s al sp k).l.sp s.mch (nxV s al sp k).l.al (nxV s al sp k).h.d1=(nxV s al sp k).fast from ⟨rfl,rfl,rfl⟩);have HEM:=hid ((Dv G.ac).1);have HMM:=hid (fun W (h:BoxS w 1 [s.cells] W)=>show Has W w.heap.size s.cells from h.has 0 _ rfl);have HN3:=hid (And.intro hn1 hn3);clear hl hok hE ha hb hn hn' hF N hno la lb hn1 hn3 hA G Fc g0 hal;generalize gAt s.gr (elE s.gr) (Ac s 0).px (Ac s 0).py (al.getD 0 0)=WE at *;generalize gAt s.gr (elN s.gr) (Ac s 0).px (Ac s 0).py (al.getD 0 0)=WN at *;generalize gAt s.gr (elD s.gr) (Ac s 0).px (Ac s 0).py (al.getD 0 0)=WD at *;generalize al.getD 0 0=a0 at *;generalize sp.getD 0 0=s0 at *;generalize Ck s0 s.mch a0 WD=TA at *;generalize He s0 s.mch a0 WD=TE at *;generalize s.ac.left=LF at *
 go_enter Tryz.func7,Tryz.ntmps7
 go_wp2_with (refine AC (.tmp 3) rfl rfl rfl (HS.out.has 0 _ rfl) ?_)
 refine (HC.out _ HS.out).mono ?_;rintro e' w1 ⟨rfl,hB⟩
 replace HS:=hid (HS.out.below hB);clear hB HC
 go_wp2_with (refine AC (.tmp 3) rfl rfl rfl (HS.out.has 0 _ rfl) ?_)
 refine (HCF.out _ HS.out).mono ?_;rintro e' w2 ⟨rfl,hB⟩
 replace HS:=hid (HS.out.below hB);clear hB HCF
 go_wp2_with (refine FZ (.tmp 44) rfl rfl rfl (HS.out.has 0 _ rfl) ?_)
 refine (HLF.out _).mono ?_;rintro e' w3 ⟨rfl,hB⟩
 replace HS:=hid (HS.out.below hB);clear hB HLF
 go_wp2_with fail
 refine rS (fun W=>BoxS w 1 [s.cells] W) 19 HS.out.drew (fun hHeld=>?_)
 generalize hW0:World.drew _=w4 at *;clear hW0 HS
 refine rQ ?_
 refine rY (Ou (.tmp 48) rfl rfl rfl (fun W hW=>HW.out W hW)) ?_
 repeat (first | refine rQ ?_ | refine rF ?_)
 have CA:=hid (fun W (h:BoxS w 1 [s.cells] W)=>HAT.out W h)
 refine Be ?_
 intro OPS QQ A0 SS hO hQ hA hSS
 have TAIL:Hid (∀ (H11:Nat) (W:World),Has W H11 (lz2 0 0)→w.heap.size+1<=H11→BoxS w 1 [s.cells] W→wpAnyH Tryz.prog .any OPS QQ (fun W=>BoxS w 1 [s.cells] W) 3 #[b1,b1,b1,b1,b1,b1,b1,b1,b1,b1,b1,b1,b1,b1,b1,b1,b0,b0,b0] ((((((A0.put (some 58) (.tuple #[.agg #[vI WE,vI WN],vI WD,vI 0])).put (some 47) (.tuple #[.agg #[vI WE,vI WN],vI WD,vI 0])).put (some 59) (.agg #[vI WE,vI WN])).put (some 60) (vI WD)).put (some 61) (vI 0)).put (some 11) (.pointer (some ⟨H11,0,none⟩))) W):=by
  subst hO hQ hA hSS
  refine hid ?_
  intro H11 W q11 r11 hHeld
  (try simp only [Act.put,pa,pb,pc])
  have f0:=q11.fr;have c0:=q11.cell 0 _ rfl;have c1:=q11.cell 1 _ rfl
  refine rEk ?_
  intro K hK
  refine rEt hK ((hHeld.set H11 0 r11 (vI WE)).set H11 1 r11 (vI WN)) ?_
  clear hK K hHeld f0 c0 c1
  intro hHeld
  replace q11:=((q11.set 0 (vI WE) (by simp)).set 1 (vI WN) (by simp));generalize ((W.setCell ⟨H11,0,none⟩ (vI WE)).setCell ⟨H11,1,none⟩ (vI WN))=W1 at *
  iterate 2 refine rQ ?_
  refine rD ?_
  clear q11 r11
  go_wp2_with fail
  refine rS (fun W=>BoxS w 1 [s.cells] W) 15 hHeld.drew (fun hHeld=>?_)
  generalize hW0:World.drew _=w5 at *;clear hW0
  repeat (first | refine rQ ?_ | refine rF ?_)
  refine rEk ?_
  intro K hK
  refine (HSC.out _).mono ?_;rintro e2 W2 ⟨rfl,hB⟩
  go_wp2_with fail
  refine rEt hK (hHeld.below hB) ?_
  clear hK K hHeld hB
  intro hHeld
  repeat (first | refine rQ ?_ | refine rF ?_)
  refine rD ?_
  go_wp2_with fail
  refine rS (fun W=>BoxS w 1 [s.cells] W) 14 hHeld.drew (fun hHeld=>?_)
  generalize hW0:World.drew _=w6 at *;clear hW0
  repeat (first | refine rQ ?_ | refine rF ?_)
  have r16:=hHeld.sz
  refine rEk ?_
  intro K hK
  refine rEa hK (hHeld.alloc _) (fun W3 hHeld2 q16 old=>?_)
  clear hK K hHeld old;have hHeld:=hHeld2;clear hHeld2;generalize w6.heap.size=H16 at *;have f0:=q16.fr;have c0:=q16.cell 0 _ rfl;have c1:=q16.cell 1 _ rfl;have c2:=q16.cell 2 _ rfl;have c3:=q16.cell 3 _ rfl;have c4:=q16.cell 4 _ rfl;have c5:=q16.cell 5 _ rfl;have c6:=q16.cell 6 _ rfl;have c7:=q16.cell 7 _ rfl;have c8:=q16.cell 8 _ rfl;have c9:=q16.cell 9 _ rfl;have c10:=q16.cell 10 _ rfl;have c11:=q16.cell 11 _ rfl;have c12:=q16.cell 12 _ rfl
  refine rEk ?_
  intro K hK
  refine rEt hK (((((((((((((hHeld.set H16 0 r16 (vI a0)).set H16 1 r16 (vI s0)).set H16 2 r16 (vI TA)).set H16 3 r16 (vI 0)).set H16 4 r16 (vI 0)).set H16 5 r16 (vI LF)).set H16 6 r16 (vI 0)).set H16 7 r16 (vI 0)).set H16 8 r16 (vI 0)).set H16 9 r16 (vI 0)).set H16 10 r16 (vI LF)).set H16 11 r16 (vI LF)).set H16 12 r16 (.int .u8 0)) ?_
  clear hK K hHeld f0 c0 c1 c2 c3 c4 c5 c6 c7 c8 c9 c10 c11 c12
  intro hHeld
  replace q16:=(((((((((((((q16.set 0 (vI a0) (by simp)).set 1 (vI s0) (by simp)).set 2 (vI TA) (by simp)).set 3 (vI 0) (by simp)).set 4 (vI 0) (by simp)).set 5 (vI LF) (by simp)).set 6 (vI 0) (by simp)).set 7 (vI 0) (by simp)).set 8 (vI 0) (by simp)).set 9 (vI 0) (by simp)).set 10 (vI LF) (by simp)).set 11 (vI LF) (by simp)).set 12 (.int .u8 0) (by simp));generalize (((((((((((((W3.setCell ⟨H16,0,none⟩ (vI a0)).setCell ⟨H16,1,none⟩ (vI s0)).setCell ⟨H16,2,none⟩ (vI TA)).setCell ⟨H16,3,none⟩ (vI 0)).setCell ⟨H16,4,none⟩ (vI 0)).setCell ⟨H16,5,none⟩ (vI LF)).setCell ⟨H16,6,none⟩ (vI 0)).setCell ⟨H16,7,none⟩ (vI 0)).setCell ⟨H16,8,none⟩ (vI 0)).setCell ⟨H16,9,none⟩ (vI 0)).setCell ⟨H16,10,none⟩ (vI LF)).setCell ⟨H16,11,none⟩ (vI LF)).setCell ⟨H16,12,none⟩ (.int .u8 0))=W4 at *
  refine rD ?_
  replace q16:=(show Has W4 H16 (lzp a0 s0 TA 0 0 LF 0 0 0 0 LF LF 0) from q16);have c0:=q16.cell 0 _ rfl;have c1:=q16.cell 1 _ rfl;have c2:=q16.cell 2 _ rfl;have c3:=q16.cell 3 _ rfl;have c4:=q16.cell 4 _ rfl;have c5:=q16.cell 5 _ rfl;have c6:=q16.cell 6 _ rfl;have c7:=q16.cell 7 _ rfl;have c8:=q16.cell 8 _ rfl;have c9:=q16.cell 9 _ rfl;have c10:=q16.cell 10 _ rfl;have c11:=q16.cell 11 _ rfl;have c12:=q16.cell 12 _ rfl
  have HO:=hid (show Ow Pass.cells 13 52 (w.heap.size+1) ((wtL s al sp).take (0+1)) (.slice (some ⟨W4.heap.size,0,none⟩) 1 1) (W4.alloc (.cells #[vI a0,vI s0,vI TA,vI 0,vI 0,vI LF,vI 0,vI 0,vI 0,vI 0,vI LF,vI LF,.int .u8 0] 52)) from by
   rw [Jg (by omega),HFS.out]
   exact ⟨World.ownsRow_lit (size:=13) W4 #[vI a0,vI s0,vI TA,vI 0,vI 0,vI LF,vI 0,vI 0,vI 0,vI 0,vI LF,vI LF,.int .u8 0] 1 hHeld.sz (by unfold maxLen;omega) rfl⟩)
  have HS:=hid (hHeld.alloc (.cells #[vI a0,vI s0,vI TA,vI 0,vI 0,vI LF,vI 0,vI 0,vI 0,vI 0,vI LF,vI LF,.int .u8 0] 52));have Q16:=hid (show Has (W4.alloc (.cells #[vI a0,vI s0,vI TA,vI 0,vI 0,vI LF,vI 0,vI 0,vI 0,vI 0,vI LF,vI LF,.int .u8 0] 52)) H16 (psP s al sp 0).cells from by rw [HFS.out];exact q16.alloc _);have HNE:=hid (show ∀ b,(Value.slice (some ⟨W4.heap.size,0,none⟩) 1 1).ownBlock=some b→b≠H16 from fun b h=>by have:=q16.lt;simp [Value.ownBlock] at h;omega)
  go_wp2_with fail
  clear FA HAA HN0 HAT HSC HFS q16;generalize W4.alloc (.cells #[vI a0,vI s0,vI TA,vI 0,vI 0,vI LF,vI 0,vI 0,vI 0,vI 0,vI LF,vI LF,.int .u8 0] 52)=W7 at *
  go_loopw [17,18] (fun v t wr=>AbS s al sp w H16 v t wr) (fun _ t _=>s.no.length - (intOf t).toNat)
  case atStart=>exact ⟨0,by omega,rfl,rfl,HS.out,Q16.out,r16,HNE.out,HO.out⟩
  case round =>
   clear HO HS Q16 HNE r16;obtain ⟨k,hk,rfl,hpe,hs,hq,r16,hne,ho⟩:=hrel;have HS:=hid hs;have HO:=hid ho;have HPE:=hid hpe;have HNE:=hid hne;have Q16:=hid hq;clear hs ho hpe hne hq;have k0:=HNS.out _ HS.out;obtain ⟨m,hm⟩:∃ m,k+1=m:=⟨_,rfl⟩
   rw [hm] at HO ⊢
   by_cases hlt:m<s.no.length
   rotate_left
   ·have HE:=hid (show wtE s al sp=0 from by rw [HX.out,show s.no.length - 1=k by omega];exact HPE.out)
    have HO2:=hid (show Ow Pass.cells 13 52 (w.heap.size+1) (wtL s al sp) _ wr from by have h:=HO.out;rwa [CY (by rw [Jf];omega)] at h);obtain ⟨A',c',hv,hP,hcap⟩:=HO2.out.res (show ∀ x:Pass,x.cells.length=13 from fun _=>rfl) (Jf s al sp);have HP:=hid hP;have HCAP:=hid hcap
    have i2:¬ (m:Int)<(s.sno.n:Int):=by have:=HNO.out;omega
    subst hv;clear hP hcap HO
    go_wp2_with fail
    go_ret2
    exact Ac2 HE.out HP.out HCAP.out HS.out.B (Nat.le_succ _) HO2.out
   have HTK:=hid (Jg (s:=s) (al:=al) (sp:=sp) (k:=m) hlt);have HPS:=hid (show psP s al sp m=(nxV s al sp k).P s (psP s al sp k) (al.getD m 0) (sp.getD m 0) from by rw [← hm];rfl)
   have hlen:((wtL s al sp).take m).length<=64:=by rw [List.length_take];omega
   have i1:(0:Int)<=(m:Int):=by omega
   have i2:(m:Int)<(n:Int):=by have:=HN3.out;omega
   have i3:(m:Int)<(n':Int):=by have:=HN3.out;omega
   have i4:(m:Int)<(s.sno.n:Int):=by have:=HNO.out;omega
   have HP0:=hid (fun (h0:(nxV s al sp k).E s (psP s al sp k)=0)=>show psE s al sp m=0 from by rw [← hm];exact AaW HPE.out h0);have HP1:=hid (fun (h0:(nxV s al sp k).E s (psP s al sp k)≠0)=>show wtE s al sp=(nxV s al sp k).E s (psP s al sp k) from HX.out.trans (QK (by omega) HPE.out h0));have PI:=HPI.out k (by omega) HPE.out;have hdi:=HDB.out k m hm.symm hlt;have HDX:=hid (fun W (h:BoxS w 1 [s.cells] W)=>HDI.out W h k m hm.symm hlt);have HAX:=hid (fun W (h:BoxS w 1 [s.cells] W)=>HAL.out W h m hlt);have HLX:=hid (fun W (h:BoxS w 1 [s.cells] W)=>HLG.out W h k m hm.symm hlt);have HSX:=hid (HSE.out k);have HPX:=hid (HPH.out k);have HGX:=hid (fun W=>HGR.out W k);have HGY:=hid (fun W=>HGI.out W k);have hem:=HEM.out;clear HLG HDI HDB HAL HSE HPH HGR HGI HEM HPI;generalize psP s al sp k=p at *;generalize nxV s al sp k=x at *;generalize wtD s al k=dv at *;generalize al.getD m 0=am at *;generalize sp.getD m 0=sm at *
   have HEV:=hid (show x.E s p=if x.l.ta=0∨x.slow=0 then 10 else if gsE x.l.co x.l.ta x.l.we x.l.wn≠0 then gsE x.l.co x.l.ta x.l.we x.l.wn else if giE x.l.co x.slow x.fast x.h.e0 x.h.e1 x.h.n0 x.h.n1≠0 then giE x.l.co x.slow x.fast x.h.e0 x.h.e1 x.h.n0 x.h.n1 else if x.fu s p<0 then 15 else biE p.fl p.fh (x.f0 s p) (x.f1 s p) x.t0 x.t1 from rfl)
   have HXP:=hid (show x.P s p am sm=⟨am,sm,x.l.ta,x.g,p.tick+x.t,x.fu s p,x.gl,x.gh,p.tl+x.t0,p.th+x.t1,biL p.fl p.fh (x.f0 s p) (x.f1 s p) x.t0 x.t1,biH p.fl p.fh (x.f0 s p) (x.f1 s p) x.t0 x.t1,x.l.ph⟩ from rfl);generalize hLL:(wtL s al sp).take m=LL at *;have HLL:=hid hLL;have Hm:=hid hm;clear hLL hm;have c0:=Q16.out.cell 0 (vI p.alt) rfl;have c1:=Q16.out.cell 1 (vI p.cas) rfl;have c2:=Q16.out.cell 2 (vI p.tas) rfl;have c3:=Q16.out.cell 3 (vI p.ground) rfl;have c4:=Q16.out.cell 4 (vI p.tick) rfl;have c5:=Q16.out.cell 5 (vI p.fuel) rfl;have c6:=Q16.out.cell 6 (vI p.gl) rfl;have c7:=Q16.out.cell 7 (vI p.gh) rfl;have c8:=Q16.out.cell 8 (vI p.tl) rfl;have c9:=Q16.out.cell 9 (vI p.th) rfl;have c10:=Q16.out.cell 10 (vI p.fl) rfl;have c11:=Q16.out.cell 11 (vI p.fh) rfl;have c12:=Q16.out.cell 12 (.int .u8 p.phase) rfl
   go_wp2_with (refine AC (.tmp 3) rfl rfl rfl (HMM.out _ HS.out) ?_)
   refine (HLX.out _ HS.out).mono ?_;rintro e2 V1 ⟨rfl,hB⟩
   clear c0 c1 c2 c3 c4 c5 c6 c7 c8 c9 c10 c11 c12 k0;have qp:=Q16.out.below hB;have c0:=(qp.alloc (.cells #[vI x.l.co,vI x.l.al,vI x.l.sp,vI dv,vI x.l.we,vI x.l.wn,vI x.h.e0,vI x.h.e1,vI x.h.n0,vI x.h.n1,vI x.h.d0,vI x.h.d1,.int .u8 x.l.ph] 75)).cell 0 (vI p.alt) rfl;have c1:=(qp.alloc (.cells #[vI x.l.co,vI x.l.al,vI x.l.sp,vI dv,vI x.l.we,vI x.l.wn,vI x.h.e0,vI x.h.e1,vI x.h.n0,vI x.h.n1,vI x.h.d0,vI x.h.d1,.int .u8 x.l.ph] 75)).cell 1 (vI p.cas) rfl;have c2:=(qp.alloc (.cells #[vI x.l.co,vI x.l.al,vI x.l.sp,vI dv,vI x.l.we,vI x.l.wn,vI x.h.e0,vI x.h.e1,vI x.h.n0,vI x.h.n1,vI x.h.d0,vI x.h.d1,.int .u8 x.l.ph] 75)).cell 2 (vI p.tas) rfl;have c3:=(qp.alloc (.cells #[vI x.l.co,vI x.l.al,vI x.l.sp,vI dv,vI x.l.we,vI x.l.wn,vI x.h.e0,vI x.h.e1,vI x.h.n0,vI x.h.n1,vI x.h.d0,vI x.h.d1,.int .u8 x.l.ph] 75)).cell 3 (vI p.ground) rfl;have c4:=(qp.alloc (.cells #[vI x.l.co,vI x.l.al,vI x.l.sp,vI dv,vI x.l.we,vI x.l.wn,vI x.h.e0,vI x.h.e1,vI x.h.n0,vI x.h.n1,vI x.h.d0,vI x.h.d1,.int .u8 x.l.ph] 75)).cell 4 (vI p.tick) rfl;have c5:=(qp.alloc (.cells #[vI x.l.co,vI x.l.al,vI x.l.sp,vI dv,vI x.l.we,vI x.l.wn,vI x.h.e0,vI x.h.e1,vI x.h.n0,vI x.h.n1,vI x.h.d0,vI x.h.d1,.int .u8 x.l.ph] 75)).cell 5 (vI p.fuel) rfl;have c6:=(qp.alloc (.cells #[vI x.l.co,vI x.l.al,vI x.l.sp,vI dv,vI x.l.we,vI x.l.wn,vI x.h.e0,vI x.h.e1,vI x.h.n0,vI x.h.n1,vI x.h.d0,vI x.h.d1,.int .u8 x.l.ph] 75)).cell 6 (vI p.gl) rfl;have c7:=(qp.alloc (.cells #[vI x.l.co,vI x.l.al,vI x.l.sp,vI dv,vI x.l.we,vI x.l.wn,vI x.h.e0,vI x.h.e1,vI x.h.n0,vI x.h.n1,vI x.h.d0,vI x.h.d1,.int .u8 x.l.ph] 75)).cell 7 (vI p.gh) rfl;have c8:=(qp.alloc (.cells #[vI x.l.co,vI x.l.al,vI x.l.sp,vI dv,vI x.l.we,vI x.l.wn,vI x.h.e0,vI x.h.e1,vI x.h.n0,vI x.h.n1,vI x.h.d0,vI x.h.d1,.int .u8 x.l.ph] 75)).cell 8 (vI p.tl) rfl;have c9:=(qp.alloc (.cells #[vI x.l.co,vI x.l.al,vI x.l.sp,vI dv,vI x.l.we,vI x.l.wn,vI x.h.e0,vI x.h.e1,vI x.h.n0,vI x.h.n1,vI x.h.d0,vI x.h.d1,.int .u8 x.l.ph] 75)).cell 9 (vI p.th) rfl
   have c10:=(qp.alloc (.cells #[vI x.l.co,vI x.l.al,vI x.l.sp,vI dv,vI x.l.we,vI x.l.wn,vI x.h.e0,vI x.h.e1,vI x.h.n0,vI x.h.n1,vI x.h.d0,vI x.h.d1,.int .u8 x.l.ph] 75)).cell 10 (vI p.fl) rfl;have c11:=(qp.alloc (.cells #[vI x.l.co,vI x.l.al,vI x.l.sp,vI dv,vI x.l.we,vI x.l.wn,vI x.h.e0,vI x.h.e1,vI x.h.n0,vI x.h.n1,vI x.h.d0,vI x.h.d1,.int .u8 x.l.ph] 75)).cell 11 (vI p.fh) rfl;have c12:=(qp.alloc (.cells #[vI x.l.co,vI x.l.al,vI x.l.sp,vI dv,vI x.l.we,vI x.l.wn,vI x.h.e0,vI x.h.e1,vI x.h.n0,vI x.h.n1,vI x.h.d0,vI x.h.d1,.int .u8 x.l.ph] 75)).cell 12 (.int .u8 p.phase) rfl
   go_upto_region 17 with fail
   have hR:WtR s w wr H16 V1.heap.size (V1.heap.size+1) (lgc x.l dv x.h) p.cells ((V1.alloc (.cells #[vI x.l.co,vI x.l.al,vI x.l.sp,vI dv,vI x.l.we,vI x.l.wn,vI x.h.e0,vI x.h.e1,vI x.h.n0,vI x.h.n1,vI x.h.d0,vI x.h.d1,.int .u8 x.l.ph] 75)).alloc (.cells #[vI p.alt,vI p.cas,vI p.tas,vI p.ground,vI p.tick,vI p.fuel,vI p.gl,vI p.gh,vI p.tl,vI p.th,vI p.fl,vI p.fh,.int .u8 p.phase] 52)):=⟨((HS.out.below hB).alloc _).alloc _,(Has.new _ _ _).alloc _,Has.newAt _ _ _ _ (by simp),En ((hB.alloc hB.size _).alloc (by have:=hB.size;simp;omega) _) _,⟨r16,Q16.out.lt⟩,hB.size,Nat.le_succ_of_le hB.size⟩;have q16:Has ((V1.alloc (.cells #[vI x.l.co,vI x.l.al,vI x.l.sp,vI dv,vI x.l.we,vI x.l.wn,vI x.h.e0,vI x.h.e1,vI x.h.n0,vI x.h.n1,vI x.h.d0,vI x.h.d1,.int .u8 x.l.ph] 75)).alloc (.cells #[vI p.alt,vI p.cas,vI p.tas,vI p.ground,vI p.tick,vI p.fuel,vI p.gl,vI p.gh,vI p.tl,vI p.th,vI p.fl,vI p.fh,.int .u8 p.phase] 52)) H16 (lzp p.alt p.cas p.tas p.ground p.tick p.fuel p.gl p.gh p.tl p.th p.fl p.fh p.phase):=(qp.alloc _).alloc _
   have n920:V1.heap.size≠V1.heap.size+1:=by omega
   clear qp hB c0 c1 c2 c3 c4 c5 c6 c7 c8 c9 c10 c11 c12;generalize (V1.alloc (.cells #[vI x.l.co,vI x.l.al,vI x.l.sp,vI dv,vI x.l.we,vI x.l.wn,vI x.h.e0,vI x.h.e1,vI x.h.n0,vI x.h.n1,vI x.h.d0,vI x.h.d1,.int .u8 x.l.ph] 75)).alloc (.cells #[vI p.alt,vI p.cas,vI p.tas,vI p.ground,vI p.tick,vI p.fuel,vI p.gl,vI p.gh,vI p.tl,vI p.th,vI p.fl,vI p.fh,.int .u8 p.phase] 52)=V2 at *;generalize V1.heap.size+1=H20 at *;generalize V1.heap.size=H19 at *;have HK:=hid (fun W (h:WtR s w wr H16 H19 H20 (lgc x.l dv x.h) p.cells W)=>(And.intro (And.intro (And.intro (And.intro (HNS.out W h.S) (And.intro (HM.out W h.S) (Xx (HMM.out W h.S)))) (And.intro (And.intro (HDX.out W h.S) (HAX.out W h.S)) (And.intro (h.l.cell 0 (vI x.l.co) rfl) (h.l.cell 1 (vI x.l.al) rfl)))) (And.intro (And.intro (And.intro (h.l.cell 2 (vI x.l.sp) rfl) (h.l.cell 3 (vI dv) rfl)) (And.intro (h.l.cell 4 (vI x.l.we) rfl) (h.l.cell 5 (vI x.l.wn) rfl))) (And.intro (And.intro (h.l.cell 6 (vI x.h.e0) rfl) (h.l.cell 7 (vI x.h.e1) rfl)) (And.intro (h.l.cell 8 (vI x.h.n0) rfl) (h.l.cell 9 (vI x.h.n1) rfl))))) (And.intro (And.intro (And.intro (And.intro (h.l.cell 10 (vI x.h.d0) rfl) (h.l.cell 11 (vI x.h.d1) rfl)) (And.intro (h.l.cell 12 (.int .u8 x.l.ph) rfl) (h.q.cell 0 (vI p.alt) rfl))) (And.intro (And.intro (h.q.cell 1 (vI p.cas) rfl) (h.q.cell 2 (vI p.tas) rfl)) (And.intro (h.q.cell 3 (vI p.ground) rfl) (h.q.cell 4 (vI p.tick) rfl)))) (And.intro (And.intro (And.intro (h.q.cell 5 (vI p.fuel) rfl) (h.q.cell 6 (vI p.gl) rfl)) (And.intro (h.q.cell 7 (vI p.gh) rfl) (h.q.cell 8 (vI p.tl) rfl))) (And.intro (And.intro (h.q.cell 9 (vI p.th) rfl) (h.q.cell 10 (vI p.fl) rfl)) (And.intro (h.q.cell 11 (vI p.fh) rfl) (h.q.cell 12 (.int .u8 p.phase) rfl)))))))
   refine rS (fun W=>WtR s w wr H16 H19 H20 (lgc x.l dv x.h) p.cells W) 12 hR.drew (fun hHeld=>?_)
   replace q16:=q16.drew;generalize V2.drew=V3 at *;have FA:=HK.out
   repeat (first | refine rQ ?_ | refine rF ?_)
   have f0:=q16.fr;have c0:=q16.cell 0 _ rfl;have c1:=q16.cell 1 _ rfl;have c2:=q16.cell 2 _ rfl;have c3:=q16.cell 3 _ rfl;have c4:=q16.cell 4 _ rfl;have c5:=q16.cell 5 _ rfl;have c6:=q16.cell 6 _ rfl;have c7:=q16.cell 7 _ rfl;have c8:=q16.cell 8 _ rfl;have c9:=q16.cell 9 _ rfl;have c10:=q16.cell 10 _ rfl;have c11:=q16.cell 11 _ rfl;have c12:=q16.cell 12 _ rfl
   refine rEk ?_
   intro K hK
   refine rEt hK (((((((((((((hHeld.set16 0 (vI am)).set16 1 (vI sm)).set16 2 (vI 0)).set16 3 (vI 0)).set16 4 (vI 0)).set16 5 (vI 0)).set16 6 (vI 0)).set16 7 (vI 0)).set16 8 (vI 0)).set16 9 (vI 0)).set16 10 (vI 0)).set16 11 (vI 0)).set16 12 (.int .u8 x.l.ph)) ?_
   clear hK K hHeld hR f0 FA c0 c1 c2 c3 c4 c5 c6 c7 c8 c9 c10 c11 c12
   intro hR
   replace q16:=(show Has _ H16 (lzp am sm 0 0 0 0 0 0 0 0 0 0 x.l.ph) from (((((((((((((q16.set 0 (vI am) (by simp)).set 1 (vI sm) (by simp)).set 2 (vI 0) (by simp)).set 3 (vI 0) (by simp)).set 4 (vI 0) (by simp)).set 5 (vI 0) (by simp)).set 6 (vI 0) (by simp)).set 7 (vI 0) (by simp)).set 8 (vI 0) (by simp)).set 9 (vI 0) (by simp)).set 10 (vI 0) (by simp)).set 11 (vI 0) (by simp)).set 12 (.int .u8 x.l.ph) (by simp)));generalize hW0:World.setCell _ _ _=V4 at *;clear hW0
   refine rD ?_
   have K:=HK.out _ hR
   go_wp2_with fail
   refine (HS9.out _ x.l.sp s.mch x.l.al dv).mono ?_;rintro e2 V5 ⟨rfl,hB⟩
   replace q16:=q16.below hB;replace hR:=hR.below hB;clear hB K
   rw [HSX.out.1]
   have f0:=q16.fr;have c2:=q16.cell 2 _ rfl;have K:=HK.out _ hR
   go_upto_region 19 with fail
   clear f0 K c2;replace q16:=(show Has _ H16 (lzp am sm x.l.ta 0 0 0 0 0 0 0 0 0 x.l.ph) from (q16.set 2 (vI x.l.ta) (by simp)));replace hR:=(hR.set16 2 (vI x.l.ta));generalize hW0:World.setCell _ _ _=V6 at *;clear hW0;have K:=HK.out _ hR
   go_wp2_with fail
   refine (HS9.out _ x.l.sp s.mch x.l.al x.h.d0).mono ?_;rintro e2 V7 ⟨rfl,hB⟩
   replace q16:=q16.below hB;replace hR:=hR.below hB;clear hB K
   rw [HSX.out.2.1]
   have K:=HK.out _ hR
   go_wp2_with fail
   refine (HS9.out _ x.l.sp s.mch x.l.al x.h.d1).mono ?_;rintro e2 V8 ⟨rfl,hB⟩
   replace q16:=q16.below hB;replace hR:=hR.below hB;clear hB K
   rw [HSX.out.2.2]
   by_cases hta:x.l.ta=0∨x.slow=0
   ·have HE:=hid (show wtE s al sp=10 from (HP1.out (by rw [HEV.out,if_pos hta];decide)).trans (HEV.out.trans (if_pos hta)))
    have c2:=q16.cell 2 _ rfl;have hB:=hid hR.S.B;clear hR
    rcases hta with hta | hta
    ·have e1:=IK hta
     exact P5
    by_cases hta2:x.l.ta=0
    ·have e1:=IK hta2
     exact P5
    ·have e1:=Aw hta2
     have e2:=IK hta
     exact P5
   have e1:(x.l.ta == 0)=false:=Aw (fun h=>hta (.inl h));have e2:(x.slow == 0)=false:=Aw (fun h=>hta (.inr h));have c2:=q16.cell 2 _ rfl
   go_upto_region 23 with fail
   clear c2 e1 e2;have hGV:=KQ x.l.co x.l.ta x.l.we x.l.wn;have HG0:=hid (show gsE x.l.co x.l.ta x.l.we x.l.wn=0→1<=x.g∧x.g<=4800 from fun h0=>by have q:=GH h0;have q1:=q.hlo;have q2:=q.hv;show 1<=gsV x.l.co x.l.ta x.l.we x.l.wn / 1024∧gsV x.l.co x.l.ta x.l.we x.l.wn / 1024<=4800;omega);have HI0:=hid (show giE x.l.co x.slow x.fast x.h.e0 x.h.e1 x.h.n0 x.h.n1=0→1<=x.gl∧x.gl<=x.gh∧x.gh<=100000 from fun h0=>by have q:=(SE h0).1;have q3:=AaJ h0;show 1<=giL x.l.co x.slow x.fast x.h.e0 x.h.e1 x.h.n0 x.h.n1∧giL x.l.co x.slow x.fast x.h.e0 x.h.e1 x.h.n0 x.h.n1<=giH x.l.co x.slow x.fast x.h.e0 x.h.e1 x.h.n0 x.h.n1∧giH x.l.co x.slow x.fast x.h.e0 x.h.e1 x.h.n0 x.h.n1<=100000;omega);have q1:(gsV x.l.co x.l.ta x.l.we x.l.wn).tdiv 1024=x.g:=Int.tdiv_eq_ediv_of_nonneg hGV.1;replace HGX:=hid (fun W=>show Calls Tryz.prog 27 #[vI x.l.co,vI x.l.ta,.agg #[vI x.l.we,vI x.l.wn]] W (fun e' w'=>∃ dd:Int,e'=.returned (.tuple #[vI (gsV x.l.co x.l.ta x.l.we x.l.wn),vI dd,vI (gsE x.l.co x.l.ta x.l.we x.l.wn)])∧Below W.heap.size W w') from HGX.out W);replace HGY:=hid (fun W=>show Calls Tryz.prog 28 #[vI x.l.co,.agg #[vI x.slow,vI x.fast],.agg #[vI x.h.e0,vI x.h.e1,vI x.h.n0,vI x.h.n1]] W (fun e' w'=>e'=.returned (.tuple #[.agg #[vI x.gl,vI x.gh],vI (giE x.l.co x.slow x.fast x.h.e0 x.h.e1 x.h.n0 x.h.n1)])∧Below W.heap.size W w') from HGY.out W);generalize gsE x.l.co x.l.ta x.l.we x.l.wn=GE at *;generalize gsV x.l.co x.l.ta x.l.we x.l.wn=GV at *;generalize giE x.l.co x.slow x.fast x.h.e0 x.h.e1 x.h.n0 x.h.n1=IE at *;have c2:=q16.cell 2 _ rfl;have K:=HK.out _ hR
   go_wp2_with fail
   refine (HGX.out _).mono ?_;rintro e2 V9 ⟨dd,rfl,hB⟩
   replace q16:=q16.below hB;replace hR:=hR.below hB;clear hB K c2
   by_cases hge:GE=0
   rotate_left
   ·have HE:=hid (show wtE s al sp=_ from (HP1.out (by rw [HEV.out,if_neg hta,if_pos hge];exact hge)).trans (HEV.out.trans (by rw [if_neg hta,if_pos hge])))
    have e1:=Aw hge;have e2:=AL e1;have HNE:=hid hge;have hB:=hid hR.S.B;clear hR
    go_wp2_with fail
    go_ret2
    exact GU HE.out HNE.out hB.out
   have hg:=HG0.out hge;have q2:IntKind.i64.wrap x.g=x.g:=iW _;subst hge;have f0:=q16.fr;have c3:=q16.cell 3 _ rfl;have K:=HK.out _ hR
   go_upto_region 27 with fail
   clear f0 K c3;replace q16:=(show Has _ H16 (lzp am sm x.l.ta x.g 0 0 0 0 0 0 0 0 x.l.ph) from (q16.set 3 (vI x.g) (by simp)));replace hR:=(hR.set16 3 (vI x.g));generalize hW0:World.setCell _ _ _=V10 at *;clear hW0;clear q1 q2 hGV HGX;have K:=HK.out _ hR
   go_wp2_with fail
   refine (HGY.out _).mono ?_;rintro e2 V11 ⟨rfl,hB⟩
   replace q16:=q16.below hB;replace hR:=hR.below hB;clear hB K;have f0:=q16.fr;have c6:=q16.cell 6 _ rfl;have c7:=q16.cell 7 _ rfl;have K:=HK.out _ hR
   go_upto_region 28 with fail
   clear f0 K c6 c7;replace q16:=(show Has _ H16 (lzp am sm x.l.ta x.g 0 0 x.gl x.gh 0 0 0 0 x.l.ph) from ((q16.set 6 (vI x.gl) (by simp)).set 7 (vI x.gh) (by simp)));replace hR:=((hR.set16 6 (vI x.gl)).set16 7 (vI x.gh));generalize hW0:World.setCell _ _ _=V12 at *;clear hW0
   by_cases hie:IE=0
   rotate_left
   ·have HE:=hid (show wtE s al sp=_ from (HP1.out (by rw [HEV.out,if_neg hta,if_neg (by decide),if_pos hie];exact hie)).trans (HEV.out.trans (by rw [if_neg hta,if_neg (by decide),if_pos hie])))
    have e1:=Aw hie;have e2:=AL e1;have HNE:=hid hie;have hB:=hid hR.S.B;clear hR
    go_wp2_with fail
    go_ret2
    exact GU HE.out HNE.out hB.out
   have hgi:=HI0.out hie;subst hie;clear HGY HI0 HG0;have HTU:=hid (fun W=>show Calls Tryz.prog 29 #[vI x.di,vI x.g] W (fun e w'=>e=.returned (vI x.t)∧W=w') from Tq x.di x.g hdi.1 (by omega) hg.1 (by omega) W);have HTA:=hid (fun W=>show Calls Tryz.prog 29 #[vI x.di,vI x.gh] W (fun e w'=>e=.returned (vI x.t0)∧W=w') from Tq x.di x.gh hdi.1 (by omega) (by omega) (by omega) W);have HTB:=hid (fun W=>show Calls Tryz.prog 29 #[vI x.di,vI x.gl] W (fun e w'=>e=.returned (vI x.t1)∧W=w') from Tq x.di x.gl hdi.1 (by omega) (by omega) (by omega) W);have ht:=(show 0<=x.t∧x.t<=x.di from JF hdi.1 hg.1);have htA:=(show 0<=x.t0∧x.t0<=x.di from JF hdi.1 (by omega));have htB:=(show 0<=x.t1∧x.t1<=x.di from JF hdi.1 (by omega));have c3:=q16.cell 3 _ rfl;have K:=HK.out _ hR
   go_wp2_with fail
   refine (EZ (HTU.out _)).mono ?_;rintro e2 V13 ⟨rfl,hB⟩
   replace q16:=q16.below hB;replace hR:=hR.below hB;clear hB K c3;have K:=HK.out _ hR
   go_upto_region 32 with fail
   clear K
   refine rS (fun W=>WtP s w wr H16 H19 H20 H20 (lgc x.l dv x.h) p.cells (lzp am sm x.l.ta x.g 0 0 x.gl x.gh 0 0 0 0 x.l.ph) p.cells W) 13 ⟨hR.drew,q16.drew,hR.drew.q⟩ (fun hHeld=>?_)
   generalize V13.drew=V14 at *;have FA:=fun W (h:WtP s w wr H16 H19 H20 H20 (lgc x.l dv x.h) p.cells (lzp am sm x.l.ta x.g 0 0 x.gl x.gh 0 0 0 0 x.l.ph) p.cells W)=>And.intro (HK.out W h.R) (And.intro (And.intro (And.intro (h.p.cell 0 (vI am) rfl) (And.intro (h.p.cell 1 (vI sm) rfl) (h.p.cell 2 (vI x.l.ta) rfl))) (And.intro (h.p.cell 3 (vI x.g) rfl) (And.intro (h.p.cell 4 (vI 0) rfl) (h.p.cell 5 (vI 0) rfl)))) (And.intro (And.intro (h.p.cell 6 (vI x.gl) rfl) (And.intro (h.p.cell 7 (vI x.gh) rfl) (h.p.cell 8 (vI 0) rfl))) (And.intro (And.intro (h.p.cell 9 (vI 0) rfl) (h.p.cell 10 (vI 0) rfl)) (And.intro (h.p.cell 11 (vI 0) rfl) (h.p.cell 12 (.int .u8 x.l.ph) rfl)))));have HY:=hid (fun W (h:WtP s w wr H16 H19 H20 H20 (lgc x.l dv x.h) p.cells (lzp am sm x.l.ta x.g 0 0 x.gl x.gh 0 0 0 0 x.l.ph) p.cells W)=>HMM.out W h.R.S);clear hR q16
   repeat (first | refine rQ ?_ | refine rF ?_)
   have qa:=hHeld.R.l;have qb:=hHeld.R.q;have CA:=hid (fun W (h:WtP s w wr H16 H19 H20 H20 (lgc x.l dv x.h) p.cells (lzp am sm x.l.ta x.g 0 0 x.gl x.gh 0 0 0 0 x.l.ph) p.cells W)=>EZ (HTA.out W));have CB:=hid (fun W (h:WtP s w wr H16 H19 H20 H20 (lgc x.l dv x.h) p.cells (lzp am sm x.l.ta x.g 0 0 x.gl x.gh 0 0 0 0 x.l.ph) p.cells W)=>EZ (HTB.out W))
   refine Be ?_
   intro OPS QQ A0 SS hO hQ hA hSS
   have TAIL:Hid (∀ (H30:Nat) (W:World),Has W H30 (lz2 0 0)→wr.heap.size<=H30→H19<H30→H20<H30→WtP s w wr H16 H19 H20 H20 (lgc x.l dv x.h) p.cells (lzp am sm x.l.ta x.g 0 0 x.gl x.gh 0 0 0 0 x.l.ph) p.cells W→wpAnyH Tryz.prog .any OPS QQ (fun W=>WtP s w wr H16 H19 H20 H20 (lgc x.l dv x.h) p.cells (lzp am sm x.l.ta x.g 0 0 x.gl x.gh 0 0 0 0 x.l.ph) p.cells W) 1 #[b1,b1,b1,b1,b1,b1,b1,b1,b1,b1,b1,b1,b0] ((((A0.put (some 205) (vI x.t0)).put (some 210) (vI x.t1)).put (some 211) (.agg #[vI x.t0,vI x.t1])).put (some 30) (.pointer (some ⟨H30,0,none⟩))) W):=by
    subst hO hQ hA hSS
    refine hid ?_
    intro H30 W qH30 rH30 h1930 h2030 hHeld
    have n19:=Nat.ne_of_lt h1930;have n20:=Nat.ne_of_lt h2030
    (try simp only [Act.put,pa,pb,pc])
    clear FA HY;have f0:=qH30.fr;have c0:=qH30.cell 0 _ rfl;have c1:=qH30.cell 1 _ rfl
    refine rEk ?_
    intro K hK
    refine rEt hK ((hHeld.setN H30 0 rH30 n19 n20 n20 (vI x.t0)).setN H30 1 rH30 n19 n20 n20 (vI x.t1)) ?_
    clear hK K hHeld f0 c0 c1
    intro hHeld
    replace qH30:=(show Has _ H30 (lz2 x.t0 x.t1) from ((qH30.set 0 (vI x.t0) (by simp)).set 1 (vI x.t1) (by simp)));generalize hW0:World.setCell _ _ _=V15 at *;clear hW0
    refine rD ?_
    have hR:=hHeld.R;have q16:=hHeld.p;clear hHeld
    have n30:H30≠H16:=by have:=hR.h16;omega
    have w1:IntKind.i64.wrap (p.tick+x.t)=p.tick+x.t:=IntWalk.i64_in _ (by have:=PI.tick;omega);have w2:IntKind.i64.wrap (p.tl+x.t0)=p.tl+x.t0:=IntWalk.i64_in _ (by have:=PI.tl;omega);have w3:IntKind.i64.wrap (p.th+x.t1)=p.th+x.t1:=IntWalk.i64_in _ (by have:=PI.th;omega);have f0:=q16.fr;have c4:=q16.cell 4 _ rfl;have K:=HK.out _ hR
    go_upto_region 34 with fail
    clear f0 K c4;replace qH30:=(qH30.other H16 4 (vI (p.tick+x.t)) n30);replace q16:=(show Has _ H16 (lzp am sm x.l.ta x.g (p.tick+x.t) 0 x.gl x.gh 0 0 0 0 x.l.ph) from (q16.set 4 (vI (p.tick+x.t)) (by simp)));replace hR:=(hR.set16 4 (vI (p.tick+x.t)));generalize hW0:World.setCell _ _ _=V16 at *;clear hW0;have d0:=qH30.cell 0 (vI x.t0) rfl;have d1:=qH30.cell 1 (vI x.t1) rfl;have f0:=q16.fr;have c8:=q16.cell 8 _ rfl;have c9:=q16.cell 9 _ rfl;have K:=HK.out _ hR
    go_upto_region 35 with fail
    clear f0 K c8 c9;replace qH30:=((qH30.other H16 8 (vI (p.tl+x.t0)) n30).other H16 9 (vI (p.th+x.t1)) n30);replace q16:=(show Has _ H16 (lzp am sm x.l.ta x.g (p.tick+x.t) 0 x.gl x.gh (p.tl+x.t0) (p.th+x.t1) 0 0 x.l.ph) from ((q16.set 8 (vI (p.tl+x.t0)) (by simp)).set 9 (vI (p.th+x.t1)) (by simp)));replace hR:=((hR.set16 8 (vI (p.tl+x.t0))).set16 9 (vI (p.th+x.t1)));generalize hW0:World.setCell _ _ _=V17 at *;clear hW0;clear d0 d1 w1 w2 w3;have hfb:=HFB.out x.l p.fuel x.l.ta;have hmb:=SV (a:=x.t) (b:=flw s x.l p.fuel x.l.ta) (by omega) hfb;have HFX:=hid (fun W (h:BoxS w 1 [s.cells] W)=>HFL.out W h x.l dv x.h p.fuel x.l.ta HPX.out);have HFU:=hid (show x.fu s p=p.fuel - x.t * flw s x.l p.fuel x.l.ta from rfl);generalize flw s x.l p.fuel x.l.ta=FL at *;have w1:IntKind.i64.wrap (s.ac.em+p.fuel)=s.ac.em+p.fuel:=IntWalk.i64_in _ (by have:=PI.fuel;omega);have w2:=iW (x.t * FL);have w3:IntKind.i64.wrap (p.fuel - x.t * FL)=p.fuel - x.t * FL:=IntWalk.i64_in _ (by have:=PI.fuel;omega)
    refine rS (fun W=>WtR s w wr H16 H19 H20 (lgc x.l dv x.h) p.cells W∧W.cell? ⟨H16,2,none⟩=some (vI x.l.ta)) 18 ⟨hR.drew,q16.drew.cell 2 _ rfl⟩ (fun hHeld=>?_)
    replace q16:=q16.drew;replace qH30:=qH30.drew;generalize V17.drew=V18 at *;have FA:=fun W (h:WtR s w wr H16 H19 H20 (lgc x.l dv x.h) p.cells W∧W.cell? ⟨H16,2,none⟩=some (vI x.l.ta))=>And.intro (HK.out W h.1) h.2;have HY:=hid (fun W (h:WtR s w wr H16 H19 H20 (lgc x.l dv x.h) p.cells W∧W.cell? ⟨H16,2,none⟩=some (vI x.l.ta))=>HMM.out W h.1.S);clear hR
    iterate 3 (first | refine rQ ?_ | refine rF ?_)
    refine rY (FM (.tmp 3) rfl rfl rfl (fun W hW=>HY.out W hW)) ?_
    repeat (first | refine rQ ?_ | refine rF ?_)
    refine rEk ?_
    intro K hK
    refine (HFX.out _ hHeld.1.S).mono ?_;rintro e2 V19 ⟨rfl,hB⟩
    go_wp2_with fail
    replace q16:=q16.below hB;replace qH30:=qH30.below hB
    refine rEt hK ⟨hHeld.1.below hB,q16.cell 2 _ rfl⟩ ?_
    clear hK K hHeld hB
    intro hHeld
    repeat (first | refine rQ ?_ | refine rF ?_)
    have f0:=q16.fr;have c5:=q16.cell 5 _ rfl
    refine rEk ?_
    intro K hK
    replace q16:=(show Has _ H16 (lzp am sm x.l.ta x.g (p.tick+x.t) (p.fuel - x.t * FL) x.gl x.gh (p.tl+x.t0) (p.th+x.t1) 0 0 x.l.ph) from q16.set 5 (vI (p.fuel - x.t * FL)) (by simp))
    refine rEt hK ⟨hHeld.1.set16 5 (vI (p.fuel - x.t * FL)),q16.cell 2 _ rfl⟩ ?_
    replace qH30:=qH30.other H16 5 (vI (p.fuel - x.t * FL)) n30;clear hK K hHeld f0 c5 FA HY
    intro hHeld
    generalize hW0:World.setCell _ _ _=V20 at *;clear hW0
    refine rD ?_
    have hR:=hHeld.1;clear hHeld w1 w2 w3;have c5:=q16.cell 5 _ rfl
    by_cases hfu:p.fuel - x.t * FL<0
    ·have HE:=hid (show wtE s al sp=15 from (HP1.out (by rw [HEV.out,if_neg hta,if_neg (by decide),if_neg (by decide),if_pos (by rw [HFU.out];exact hfu)];decide)).trans (HEV.out.trans (by rw [if_neg hta,if_neg (by decide),if_neg (by decide),if_pos (by rw [HFU.out];exact hfu)])))
     have hB:=hid hR.S.B;clear hR
     exact P5
    go_upto_region 38 with fail
    clear c5;have HFX0:=hid (fun W (h:BoxS w 1 [s.cells] W)=>show Calls Tryz.prog 30 #[.agg s.cells.toArray,.agg #[vI x.l.co,vI x.l.al,vI x.l.sp,vI dv,vI x.l.we,vI x.l.wn,vI x.h.e0,vI x.h.e1,vI x.h.n0,vI x.h.n1,vI x.h.d0,vI x.h.d1,.int .u8 x.l.ph],vI (s.ac.em+p.fl),vI x.slow] W (fun e w'=>e=.returned (vI (x.f0 s p))∧Below W.heap.size W w') from HFL.out W h x.l dv x.h p.fl x.slow HPX.out);have HFX1:=hid (fun W (h:BoxS w 1 [s.cells] W)=>show Calls Tryz.prog 30 #[.agg s.cells.toArray,.agg #[vI x.l.co,vI x.l.al,vI x.l.sp,vI dv,vI x.l.we,vI x.l.wn,vI x.h.e0,vI x.h.e1,vI x.h.n0,vI x.h.n1,vI x.h.d0,vI x.h.d1,.int .u8 x.l.ph],vI (s.ac.em+p.fh),vI x.fast] W (fun e w'=>e=.returned (vI (x.f1 s p))∧Below W.heap.size W w') from HFL.out W h x.l dv x.h p.fh x.fast HPX.out);have w1:IntKind.i64.wrap (s.ac.em+p.fl)=s.ac.em+p.fl:=IntWalk.i64_in _ (by have:=PI.fl;omega);have w2:IntKind.i64.wrap (s.ac.em+p.fh)=s.ac.em+p.fh:=IntWalk.i64_in _ (by have:=PI.fh;omega)
    refine rS (fun W=>WtP s w wr H16 H19 H20 H30 (lgc x.l dv x.h) p.cells (lzp am sm x.l.ta x.g (p.tick+x.t) (p.fuel - x.t * FL) x.gl x.gh (p.tl+x.t0) (p.th+x.t1) 0 0 x.l.ph) (lz2 x.t0 x.t1) W) 25 ⟨hR.drew,q16.drew,qH30.drew⟩ (fun hHeld=>?_)
    generalize V20.drew=V21 at *;have FA:=fun W (h:WtP s w wr H16 H19 H20 H30 (lgc x.l dv x.h) p.cells (lzp am sm x.l.ta x.g (p.tick+x.t) (p.fuel - x.t * FL) x.gl x.gh (p.tl+x.t0) (p.th+x.t1) 0 0 x.l.ph) (lz2 x.t0 x.t1) W)=>And.intro (HK.out W h.R) (And.intro (And.intro (And.intro (h.p.cell 0 (vI am) rfl) (And.intro (h.p.cell 1 (vI sm) rfl) (h.p.cell 2 (vI x.l.ta) rfl))) (And.intro (h.p.cell 3 (vI x.g) rfl) (And.intro (h.p.cell 4 (vI (p.tick+x.t)) rfl) (h.p.cell 5 (vI (p.fuel - x.t * FL)) rfl)))) (And.intro (And.intro (h.p.cell 6 (vI x.gl) rfl) (And.intro (h.p.cell 7 (vI x.gh) rfl) (h.p.cell 8 (vI (p.tl+x.t0)) rfl))) (And.intro (And.intro (h.p.cell 9 (vI (p.th+x.t1)) rfl) (h.p.cell 10 (vI 0) rfl)) (And.intro (h.p.cell 11 (vI 0) rfl) (h.p.cell 12 (.int .u8 x.l.ph) rfl)))));have HY:=hid (fun W (h:WtP s w wr H16 H19 H20 H30 (lgc x.l dv x.h) p.cells (lzp am sm x.l.ta x.g (p.tick+x.t) (p.fuel - x.t * FL) x.gl x.gh (p.tl+x.t0) (p.th+x.t1) 0 0 x.l.ph) (lz2 x.t0 x.t1) W)=>HMM.out W h.R.S);clear hR q16
    refine rY (FM (.tmp 3) rfl rfl rfl (fun W hW=>HY.out W hW)) ?_
    iterate 9 (first | refine rQ ?_ | refine rF ?_)
    refine rY (FM (.tmp 3) rfl rfl rfl (fun W hW=>HY.out W hW)) ?_
    repeat (first | refine rQ ?_ | refine rF ?_)
    have qa:=hHeld.t;have CA:=hid (fun W (h:WtP s w wr H16 H19 H20 H30 (lgc x.l dv x.h) p.cells (lzp am sm x.l.ta x.g (p.tick+x.t) (p.fuel - x.t * FL) x.gl x.gh (p.tl+x.t0) (p.th+x.t1) 0 0 x.l.ph) (lz2 x.t0 x.t1) W)=>HFX0.out W h.R.S);have CB:=hid (fun W (h:WtP s w wr H16 H19 H20 H30 (lgc x.l dv x.h) p.cells (lzp am sm x.l.ta x.g (p.tick+x.t) (p.fuel - x.t * FL) x.gl x.gh (p.tl+x.t0) (p.th+x.t1) 0 0 x.l.ph) (lz2 x.t0 x.t1) W)=>HFX1.out W h.R.S)
    refine Be ?_
    intro OPS QQ A0 SS hO hQ hA hSS
    have TAIL:Hid (∀ (H31:Nat) (W:World),Has W H31 (lz2 0 0)→wr.heap.size<=H31→H30<H31→WtP s w wr H16 H19 H20 H30 (lgc x.l dv x.h) p.cells (lzp am sm x.l.ta x.g (p.tick+x.t) (p.fuel - x.t * FL) x.gl x.gh (p.tl+x.t0) (p.th+x.t1) 0 0 x.l.ph) (lz2 x.t0 x.t1) W→wpAnyH Tryz.prog .any OPS QQ (fun W=>WtP s w wr H16 H19 H20 H30 (lgc x.l dv x.h) p.cells (lzp am sm x.l.ta x.g (p.tick+x.t) (p.fuel - x.t * FL) x.gl x.gh (p.tl+x.t0) (p.th+x.t1) 0 0 x.l.ph) (lz2 x.t0 x.t1) W) 1 #[b1,b1,b1,b1,b1,b1,b1,b1,b1,b1,b1,b1,b1,b1,b1,b1,b1,b1,b1,b1,b1,b1,b1,b1,b0] ((((A0.put (some 261) (vI (x.f0 s p))).put (some 272) (vI (x.f1 s p))).put (some 273) (.agg #[vI (x.f0 s p),vI (x.f1 s p)])).put (some 31) (.pointer (some ⟨H31,0,none⟩))) W):=by
     subst hO hQ hA hSS
     refine hid ?_
     intro H31 W qH31 rH31 h3031 hHeld
     have n19:H19≠H31:=by omega
     have n20:H20≠H31:=by omega
     (try simp only [Act.put,pa,pb,pc])
     clear FA HY;have f0:=qH31.fr;have c0:=qH31.cell 0 _ rfl;have c1:=qH31.cell 1 _ rfl
     refine rEk ?_
     intro K hK
     refine rEt hK ((hHeld.setN H31 0 rH31 n19 n20 (Nat.ne_of_lt h3031) (vI (x.f0 s p))).setN H31 1 rH31 n19 n20 (Nat.ne_of_lt h3031) (vI (x.f1 s p))) ?_
     clear hK K hHeld f0 c0 c1
     intro hHeld
     replace qH31:=(show Has _ H31 (lz2 (x.f0 s p) (x.f1 s p)) from ((qH31.set 0 (vI (x.f0 s p)) (by simp)).set 1 (vI (x.f1 s p)) (by simp)));generalize hW0:World.setCell _ _ _=V22 at *;clear hW0
     refine rD ?_
     have hR:=hHeld.R;have q16:=hHeld.p;have qH30:=hHeld.t;clear hHeld w1 w2
     have n31:H31≠H16:=by have:=hR.h16;omega
     have e0:=qH31.cell 0 (vI (x.f0 s p)) rfl;have e1:=qH31.cell 1 (vI (x.f1 s p)) rfl;have e2:=qH30.cell 0 (vI x.t0) rfl;have e3:=qH30.cell 1 (vI x.t1) rfl;have K:=HK.out _ hR
     go_wp2_with fail
     refine (HBI.out _ p.fl p.fh (x.f0 s p) (x.f1 s p) x.t0 x.t1).mono ?_;rintro e2 V23 ⟨rfl,hB⟩
     replace qH30:=qH30.below hB;replace qH31:=qH31.below hB;replace q16:=q16.below hB;replace hR:=hR.below hB;clear hB K e0 e1 e2 e3;have f0:=q16.fr;have c10:=q16.cell 10 _ rfl;have c11:=q16.cell 11 _ rfl;have K:=HK.out _ hR
     go_upto_region 40 with fail
     clear f0 K c10 c11;replace qH30:=((qH30.other H16 10 (vI (biL p.fl p.fh (x.f0 s p) (x.f1 s p) x.t0 x.t1)) n30).other H16 11 (vI (biH p.fl p.fh (x.f0 s p) (x.f1 s p) x.t0 x.t1)) n30);replace qH31:=((qH31.other H16 10 (vI (biL p.fl p.fh (x.f0 s p) (x.f1 s p) x.t0 x.t1)) n31).other H16 11 (vI (biH p.fl p.fh (x.f0 s p) (x.f1 s p) x.t0 x.t1)) n31);replace q16:=(show Has _ H16 (lzp am sm x.l.ta x.g (p.tick+x.t) (p.fuel - x.t * FL) x.gl x.gh (p.tl+x.t0) (p.th+x.t1) (biL p.fl p.fh (x.f0 s p) (x.f1 s p) x.t0 x.t1) (biH p.fl p.fh (x.f0 s p) (x.f1 s p) x.t0 x.t1) x.l.ph) from ((q16.set 10 (vI (biL p.fl p.fh (x.f0 s p) (x.f1 s p) x.t0 x.t1)) (by simp)).set 11 (vI (biH p.fl p.fh (x.f0 s p) (x.f1 s p) x.t0 x.t1)) (by simp)));replace hR:=((hR.set16 10 (vI (biL p.fl p.fh (x.f0 s p) (x.f1 s p) x.t0 x.t1))).set16 11 (vI (biH p.fl p.fh (x.f0 s p) (x.f1 s p) x.t0 x.t1)));generalize hW0:World.setCell _ _ _=V24 at *;clear hW0;generalize hbi:biE p.fl p.fh (x.f0 s p) (x.f1 s p) x.t0 x.t1=BE at *;clear hbi
     by_cases hbe:BE=0
     rotate_left
     ·have HE:=hid (show wtE s al sp=_ from (HP1.out (by rw [HEV.out,if_neg hta,if_neg (by decide),if_neg (by decide),if_neg (by rw [HFU.out];omega)];exact hbe)).trans (HEV.out.trans (by rw [if_neg hta,if_neg (by decide),if_neg (by decide),if_neg (by rw [HFU.out];omega)])))
      have e1:=Aw hbe;have e2:=AL e1;have HNE:=hid hbe;have hB:=hid hR.S.B;clear hR
      go_wp2_with fail
      go_ret2
      exact GU HE.out HNE.out hB.out
     subst hbe;have HE0:=(show x.E s p=0 from HEV.out.trans (by rw [if_neg hta,if_neg (by decide),if_neg (by decide),if_neg (by rw [HFU.out];omega)]));have HPM:=hid (HP0.out HE0);have HO2:=hid (HO.out.grown hR.G (AcA HNE.out));clear HO HK qH30 qH31;have c0:=q16.cell 0 _ rfl;have c1:=q16.cell 1 _ rfl;have c2:=q16.cell 2 _ rfl;have c3:=q16.cell 3 _ rfl;have c4:=q16.cell 4 _ rfl;have c5:=q16.cell 5 _ rfl;have c6:=q16.cell 6 _ rfl;have c7:=q16.cell 7 _ rfl;have c8:=q16.cell 8 _ rfl;have c9:=q16.cell 9 _ rfl;have c10:=q16.cell 10 _ rfl;have c11:=q16.cell 11 _ rfl;have c12:=q16.cell 12 _ rfl
     go_wp2_with (at_builtin;refine wpList_append_own_at _ rfl _ _ 37 rfl (w.heap.size+1) 52 i0 (.agg #[vI 0,vI 0,vI 0,vI 0,vI 0,vI 0,vI 0,vI 0,vI 0,vI 0,vI 0,vI 0,.int .u8 0]) 13 104 Tryz.underlying37 hi hz0 hz1 hz2 rfl (by decide) _ _ _ rfl ((HO2.out.alloc _).own) ⟨V24.heap.size,0,none⟩ 1 1 (lzp am sm x.l.ta x.g (p.tick+x.t) (p.fuel - x.t * FL) x.gl x.gh (p.tl+x.t0) (p.th+x.t1) (biL p.fl p.fh (x.f0 s p) (x.f1 s p) x.t0 x.t1) (biH p.fl p.fh (x.f0 s p) (x.f1 s p) x.t0 x.t1) x.l.ph) rfl rfl (AY _ _ (by first | rfl | simp) _ _ _ rfl) (Pm ⟨am,sm,x.l.ta,x.g,p.tick+x.t,p.fuel - x.t * FL,x.gl,x.gh,p.tl+x.t0,p.th+x.t1,biL p.fl p.fh (x.f0 s p) (x.f1 s p) x.t0 x.t1,biH p.fl p.fh (x.f0 s p) (x.f1 s p) x.t0 x.t1,x.l.ph⟩) (by unfold maxLen;omega) (by omega) (by have:=hR.S.sz;simp;omega) ?_;intro v1 w7 hown hgrow hnil hblk)
     have S7:=hid ((hR.S.alloc _).grown hgrow (fun k hk=>(HO2.out.lt hk).1));have Q7:=hid ((q16.alloc _).grown hgrow (fun e=>HNE.out H16 e.symm rfl))
     have N7:=hid (show ∀ b,v1.ownBlock=some b→b≠H16 from fun b hb=>by
      rcases hblk with e | e
      ·exact HNE.out b (e.symm.trans hb)
      ·rw [e] at hb
       have h1:=q16.lt
       simp at hb
       omega)
     have HO7:=hid (Ow.next (l:=LL) (f:=Pass.cells) (x:=⟨am,sm,x.l.ta,x.g,p.tick+x.t,p.fuel - x.t * FL,x.gl,x.gh,p.tl+x.t0,p.th+x.t1,biL p.fl p.fh (x.f0 s p) (x.f1 s p) x.t0 x.t1,biH p.fl p.fh (x.f0 s p) (x.f1 s p) x.t0 x.t1,x.l.ph⟩) hown);clear hown hgrow hnil hblk HO2 hR q16
     go_roundw
     case rel=>exact ⟨m,by omega,by go_num,HPM.out,S7.out,by rw [HPS.out,HXP.out,HFU.out];exact Q7.out,r16,N7.out,by rw [HTK.out,HPS.out,HXP.out,HFU.out];exact HO7.out⟩
     case measure=>exact zMs
    exact RL
   exact RL
 exact RL
