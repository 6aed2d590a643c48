/- M28: Pr4, Pr5 in one text. -/
import Derived.Test.YtedcanagfajcgaaGreatPr3
import Derived.Test.YtedcanagfajcgaaGreatM14
set_option linter.unusedSimpArgs false
set_option linter.unusedVariables false
set_option maxRecDepth 100000
set_option maxHeartbeats 8000000
namespace Go.Proofs.YtedcanagfajcgaaGreat
open Go.RowKit
open Go.Lib (hid)
theorem JP (a b:Int) (h1 : -1000000<=a∧a<=1000000) (h2 : -1000000<=b∧b<=1000000) (w:World):Calls Tryz.prog 216 #[.agg #[vI a,vI b]] w fun e' w'=>e'=.returned (vI (grt a b))∧Below w.heap.size w w':=by
 have HS:=hid (DR w #[vI a,vI b] 50);have HKK:=hid (fun W (h:BoxS w 1 [(lz2 a b)] W)=>show W.cell? ⟨w.heap.size,0,none⟩=some (vI a)∧W.cell? ⟨w.heap.size,1,none⟩=some (vI b) from ⟨h.at 0 _ rfl 0 _ rfl,h.at 0 _ rfl 1 _ rfl⟩);have HA:=hid (fun W=>(JY a (by omega) W).mono (R':=fun e' w'=>e'=.returned (vI (Bo a))∧Below W.heap.size W w') (by rintro e' w' ⟨rfl,rfl⟩;exact ⟨rfl,AJ _ _⟩));have HB:=hid (fun W=>(JY b (by omega) W).mono (R':=fun e' w'=>e'=.returned (vI (Bo b))∧Below W.heap.size W w') (by rintro e' w' ⟨rfl,rfl⟩;exact ⟨rfl,AJ _ _⟩));have HV:=hid (show grt a b=max (Bo a) (Bo b) from rfl);generalize Bo a=A at *;generalize Bo b=B at *;clear h1 h2
 go_enter Tryz.func216,Tryz.ntmps216
 go_wp2_with fail
 refine rS (fun W=>BoxS w 1 [(lz2 a b)] W) 8 (HS.out.drew) (fun hHeld=>?_)
 refine rQ ?_
 refine rT (fun W hW=>HKK.out W hW) ?_
 refine rQ ?_
 refine rT (fun W hW=>HKK.out W hW) ?_
 refine rEk ?_
 intro K hK
 refine (HA.out _).mono ?_;rintro e2 w4 ⟨rfl,hB⟩
 go_wp2_with fail
 have hNew:=hHeld.below hB;clear hB
 refine rEt hK hNew ?_
 clear hK K hNew hHeld
 intro hHeld
 refine rEk ?_
 intro K hK
 refine (HB.out _).mono ?_;rintro e2 w4 ⟨rfl,hB⟩
 go_wp2_with fail
 have hNew:=hHeld.below hB;clear hB
 refine rEt hK hNew ?_
 clear hK K hNew hHeld
 intro hHeld
 iterate 2 refine rQ ?_
 refine rD ?_
 have HT:=hid (BoxS.B hHeld);clear hHeld
 go_wp2_with fail
 go_ret
 exact ⟨Af HV.out.symm,HT.out⟩
theorem Rz (s:Stp) (k m:Nat) (hm:m=k+1) (w:World) (hl:s.lies w) (hok:s.ok) (G:StG s) (hk:m<s.no.length):Calls Tryz.prog 180 #[.agg s.cells.toArray,vI m] w fun e' w'=>e'=.returned (vI (ltV s k))∧Below w.heap.size w w':=by
 have N:=StN.of hl;have hno:=N.no;have hmx:=hok.no
 unfold maxLen at hmx
 obtain ⟨b,off,hA⟩:=FC hl (by omega);have HS:=hid (DR w s.cells.toArray 35)
 have HKK:=hid (fun W (h:BoxS w 1 [s.cells] W)=>show (W.cell? ⟨w.heap.size,0,none⟩=some (.slice (some ⟨b,off,none⟩) s.sno.n s.sno.c)∧W.cell? ⟨w.heap.size,29,none⟩=some (vI s.lv)∧W.cell? ⟨w.heap.size,30,none⟩=some (vI s.cas))∧W.cell? ⟨b,off+k * 7+6,none⟩=some (vI (Ac s k).s1)∧W.cell? ⟨b,off+m * 7+6,none⟩=some (vI (Ac s m).s1)∧W.cell? ⟨b,off+m * 7+2,none⟩=some (vI (Ac s m).di) from
  have n1:=Ce (hl.below h.B) hA (k:=k) (by omega);have n2:=Ce (hl.below h.B) hA (k:=m) hk
  ⟨⟨Dk (h.has 0 _ rfl) hA,FP (h.has 0 _ rfl),IA (h.has 0 _ rfl)⟩,n1.2.2.2.2.2.2,n2.2.2.2.2.2.2,n2.2.2.1⟩)
 have HH:=hid (fun W (h:BoxS w 1 [s.cells] W)=>RB s k m hm W (hl.below h.B) hok G hk);have hh:=Og G k;have g1:=AR G N (k:=k) (by omega);have g2:=AR G N (k:=m) hk;have g1s:=g1.s1;have g2s:=g2.s1;have g1z:=g1.s0;have g2z:=g2.s0;have g1y:=g1.ss;have g2y:=g2.ss;have g2d:=g2.di;have gc:=G.cas
 have HL:=hid (show ltV s k=if tsV ((min (Ac s k).s1 s.cas+min (Ac s m).s1 s.cas) / 2) s.lv (suH s k).d1+grt (suH s k).e0 (suH s k).e1+grt (suH s k).n0 (suH s k).n1=0 then 50000 else min ((Ac s m).di / (tsV ((min (Ac s k).s1 s.cas+min (Ac s m).s1 s.cas) / 2) s.lv (suH s k).d1+grt (suH s k).e0 (suH s k).e1+grt (suH s k).n0 (suH s k).n1)) 50000 from by subst hm;rfl)
 have HT:=hid (fun W=>AeR ((min (Ac s k).s1 s.cas+min (Ac s m).s1 s.cas) / 2) s.lv (suH s k).d1 W);have ht:=Abc ((min (Ac s k).s1 s.cas+min (Ac s m).s1 s.cas) / 2) s.lv (suH s k).d1;have HG1:=hid (fun W=>JP (suH s k).e0 (suH s k).e1 (by omega) (by omega) W);have HG2:=hid (fun W=>JP (suH s k).n0 (suH s k).n1 (by omega) (by omega) W)
 have b1:0<=grt (suH s k).e0 (suH s k).e1∧grt (suH s k).e0 (suH s k).e1<=400:=by unfold grt Bo;omega
 have b2:0<=grt (suH s k).n0 (suH s k).n1∧grt (suH s k).n0 (suH s k).n1<=400:=by unfold grt Bo;omega
 have w1:IntKind.i64.wrap ((m:Int) - 1)=(k:Int):=by rw [(iW _)];omega
 have i0:(0:Int)<=(k:Int):=by omega
 have i1:(k:Int)<(s.sno.n:Int):=by omega
 have i2:(0:Int)<=(m:Int):=by omega
 have i3:(m:Int)<(s.sno.n:Int):=by omega
 have z2:=iW (min (Ac s k).s1 s.cas+min (Ac s m).s1 s.cas);have z3:(min (Ac s k).s1 s.cas+min (Ac s m).s1 s.cas).tdiv 2=((min (Ac s k).s1 s.cas+min (Ac s m).s1 s.cas) / 2):=Int.tdiv_eq_ediv_of_nonneg (by omega);have z4:IntKind.i64.wrap ((min (Ac s k).s1 s.cas+min (Ac s m).s1 s.cas) / 2)=((min (Ac s k).s1 s.cas+min (Ac s m).s1 s.cas) / 2):=iW _;clear hl hok G N hno g1 g2 hA hm hk hmx hh g1s g2s g1z g2z g1y g2y gc;generalize suH s k=HV at *;generalize tsV ((min (Ac s k).s1 s.cas+min (Ac s m).s1 s.cas) / 2) s.lv HV.d1=TS at *;generalize grt HV.e0 HV.e1=GE at *;generalize grt HV.n0 HV.n1=GN at *
 go_enter Tryz.func180,Tryz.ntmps180
 go_wp2_with (refine AC (.tmp 2) rfl rfl rfl (HS.out.has 0 _ rfl) ?_)
 refine (HH.out _ HS.out).mono ?_;rintro e' w1 ⟨rfl,hB⟩
 replace HS:=hid (HS.out.below hB);clear hB
 go_wp2_with fail
 have H5:Hid (Has ((w1.alloc (.cells #[vI HV.e0,vI HV.e1,vI HV.n0,vI HV.n1] 73)).alloc (.cells #[vI HV.d0,vI HV.d1] 50)) w1.heap.size (lz4 HV.e0 HV.e1 HV.n0 HV.n1)):=hid ((Has.new _ _ _).alloc _);have H6:Hid (Has ((w1.alloc (.cells #[vI HV.e0,vI HV.e1,vI HV.n0,vI HV.n1] 73)).alloc (.cells #[vI HV.d0,vI HV.d1] 50)) (w1.heap.size+1) (lz2 HV.d0 HV.d1)):=hid (Has.newAt _ _ _ _ (by simp));replace HS:=hid ((HS.out.alloc (.cells #[vI HV.e0,vI HV.e1,vI HV.n0,vI HV.n1] 73)).alloc (.cells #[vI HV.d0,vI HV.d1] 50));generalize (w1.alloc (.cells #[vI HV.e0,vI HV.e1,vI HV.n0,vI HV.n1] 73)).alloc (.cells #[vI HV.d0,vI HV.d1] 50)=w2 at *;generalize w1.heap.size=B5 at *;generalize B5+1=B6 at *
 refine rS (fun W=>BoxS w 1 [s.cells] W) 24 (HS.out.drew) (fun hHeld=>?_)
 refine rQ ?_
 refine rT (fun W hW=>HKK.out W hW) ?_
 iterate 5 refine rQ ?_
 refine rT (fun W hW=>HKK.out W hW) ?_
 refine rQ ?_
 refine rT (fun W hW=>HKK.out W hW) ?_
 iterate 2 refine rQ ?_
 refine rT (fun W hW=>HKK.out W hW) ?_
 iterate 4 refine rQ ?_
 refine rT (fun W hW=>HKK.out W hW) ?_
 refine rQ ?_
 refine rT (fun W hW=>HKK.out W hW) ?_
 iterate 4 refine rQ ?_
 refine rD ?_
 clear hHeld;replace HS:=hid HS.out.drew;replace H5:=hid H5.out.drew;replace H6:=hid H6.out.drew;generalize w2.drew=w3 at *;have kk:=HKK.out _ HS.out;obtain ⟨⟨_,k29,_⟩,_,_,_⟩:=kk;have k61:=H6.out.cell 1 _ rfl;clear z2 z3 z4
 go_wp2_with fail
 refine (HT.out _).mono ?_;rintro e' w4 ⟨rfl,hB⟩
 replace HS:=hid (HS.out.below hB);replace H5:=hid (H5.out.below hB);clear hB k29 k61
 go_wp2_with fail
 have u1:=iW (TS+GE);have u2:=iW (TS+GE+GN)
 refine rS (fun W=>BoxS w 1 [s.cells] W∧Has W B5 (lz4 HV.e0 HV.e1 HV.n0 HV.n1)) 10 (⟨HS.out.drew,H5.out.drew⟩) (fun hHeld=>?_)
 iterate 2 refine rQ ?_
 refine rT (fun W hW=>And.intro (hW.2.cell 0 _ rfl) (And.intro (hW.2.cell 1 _ rfl) (And.intro (hW.2.cell 2 _ rfl) (hW.2.cell 3 _ rfl)))) ?_
 refine rQ ?_
 refine rT (fun W hW=>And.intro (hW.2.cell 0 _ rfl) (And.intro (hW.2.cell 1 _ rfl) (And.intro (hW.2.cell 2 _ rfl) (hW.2.cell 3 _ rfl)))) ?_
 refine rEk ?_
 intro K hK
 refine (HG1.out _).mono ?_;rintro e2 w5 ⟨rfl,hB⟩
 go_wp2_with fail
 have hNew:=And.intro (hHeld.1.below hB) (hHeld.2.below hB);clear hB
 refine rEt hK hNew ?_
 clear hK K hNew hHeld
 intro hHeld
 refine rQ ?_
 refine rEk ?_
 intro K hK
 refine (HG2.out _).mono ?_;rintro e2 w5 ⟨rfl,hB⟩
 go_wp2_with fail
 have hNew:=And.intro (hHeld.1.below hB) (hHeld.2.below hB);clear hB
 refine rEt hK hNew ?_
 clear hK K hNew hHeld
 intro hHeld
 iterate 2 refine rQ ?_
 refine rD ?_
 replace HS:=hid (BoxS.B hHeld.1);have kk:=HKK.out _ hHeld.1;obtain ⟨⟨k0,_,_⟩,_,_,k2⟩:=kk;clear hHeld u1 u2 H5 H6
 by_cases hz:TS+GE+GN=0
 ·have HF:=hid (HL.out.trans (if_pos hz))
  have e1:(TS+GE+GN == 0)=true:=by rw [hz];rfl
  clear hz HL
  go_wp2_with fail
  go_ret
  exact ⟨Af HF.out.symm,HS.out⟩
 ·have HF:=hid (HL.out.trans (if_neg hz))
  have e1:(TS+GE+GN == 0)=false:=Aw hz;have u1:((Ac s m).di).tdiv (TS+GE+GN)=(Ac s m).di / (TS+GE+GN):=Int.tdiv_eq_ediv_of_nonneg g2d.1
  have u2:IntKind.i64.wrap ((Ac s m).di / (TS+GE+GN))=(Ac s m).di / (TS+GE+GN):=IntWalk.i64_in _ (by
   have:=Int.ediv_nonneg g2d.1 (show 0<=TS+GE+GN by omega);have:=Int.ediv_le_self (TS+GE+GN) g2d.1
   omega)
  have u3:¬ (TS+GE+GN=0):=hz;clear HL
  go_wp2_with fail
  go_ret
  exact ⟨Af HF.out.symm,HS.out⟩
def AbP (s:Stp) (w:World) (h v t:Value) (wr:World):Prop:=∃ k:Nat,k+1<=s.no.length∧t=vI ((k+1:Nat):Int)∧h=vI (hgt s k)∧BoxS w 1 [s.cells] wr∧Ow win 2 136 (w.heap.size+1) ((Cy s).take k) v wr
theorem UV {s:Stp} {k:Nat} (hk:k+1<s.no.length):(Cy s).take (k+1)=(Cy s).take k ++ [LQ s k]:=Aq _ k _ (Xu hk)
theorem Ad3 (s:Stp):hgt s 0=min s.lv (Ac s 0).a1:=rfl
theorem Ad4 (s:Stp) (k:Nat):hgt s (k+1)=min (min (riN s (hgt s k) k) s.lv) (Ac s (k+1)).a1:=rfl
theorem Z9 (s:Stp) (w:World) (hl:s.lies w) (hok:s.ok):Calls Tryz.prog 108 #[.agg s.cells.toArray] w (FY (okL (suE s) (Cy s)) (okN (suE s) (s.no.length - 1)) (suE s) w):=by
 obtain ⟨i0,hi,hz0,hz1,hz2⟩:=info_parts IU;have HS:=hid (DR w s.cells.toArray 35);have HC:=hid (fun W (h:BoxS w 1 [s.cells] W)=>Jj s W (hl.below h.B) hok)
 by_cases hE:suE s=0
 rotate_left
 ·generalize suE s=E at *
  have e1:=Aw hE;have e2:=AL e1;have HE:=hid hE;clear hl hok hE
  go_enter Tryz.func108,Tryz.ntmps108
  go_wp2_with (refine AC (.tmp 1) rfl rfl rfl (HS.out.has 0 _ rfl) ?_)
  refine (HC.out _ HS.out).mono ?_;rintro e' w1 ⟨rfl,hB⟩
  have HB:=hid (Ae HS.out.B hB);clear hB
  go_wp2_with fail
  go_ret2
  exact Ca rfl HE.out HB.out
 have G:=Cm hE;have N:=StN.of hl;have hno:=N.no;have hn2:=Cq G N
 rw [hE] at HC
 have HEE:=hid hE;obtain ⟨b,off,hA⟩:=FC hl (by omega);have HNS:=hid (fun W (h:BoxS w 1 [s.cells] W)=>show W.cell? ⟨w.heap.size,0,none⟩=some (.slice (some ⟨b,off,none⟩) s.sno.n s.sno.c) from Dk (h.has 0 _ rfl) hA);have HLV:=hid (fun W (h:BoxS w 1 [s.cells] W)=>show W.cell? ⟨w.heap.size,29,none⟩=some (vI s.lv) from FP (h.has 0 _ rfl));have HND:=hid (fun W (h:BoxS w 1 [s.cells] W) k (hk:k<s.no.length)=>show W.cell? ⟨b,off+k * 7+4,none⟩=some (vI (Ac s k).a1) from (Ce (hl.below h.B) hA hk).2.2.2.2.1);have HM:=hid (fun W=>TT s.ac W);have HD:=hid (fun W (h:BoxS w 1 [s.cells] W)=>XV s.pf (-200000) W (hl.below h.B).pf hok.pf);have HT:=hid (fun W (h:BoxS w 1 [s.cells] W) k m (hm:m=k+1) (hk:m<s.no.length)=>Rz s k m hm W (hl.below h.B) hok G hk);have HR:=hid (fun W (h:BoxS w 1 [s.cells] W) a t=>AeP s.pf a s.ac.mass t W (hl.below h.B).pf hok.pf);have HG:=hid G;have HN:=hid N;have HNO:=hid hno;clear hl hok hE G N hA hno;obtain ⟨DS,hDS⟩:∃ d,Im s.pf (-200000)=d:=⟨_,rfl⟩
 rw [hDS] at HD
 have HDS:=hid hDS;clear hDS
 go_enter Tryz.func108,Tryz.ntmps108
 go_wp2_with (refine AC (.tmp 1) rfl rfl rfl (HS.out.has 0 _ rfl) ?_)
 refine (HC.out _ HS.out).mono ?_;rintro e' w1 ⟨rfl,hB⟩
 replace HS:=hid (HS.out.below hB);clear hB HC
 go_wp2_with (refine FZ (.tmp 19) rfl rfl rfl (HS.out.has 0 _ rfl) ?_)
 refine (HM.out _).mono ?_;rintro e' w2 ⟨rfl,hB⟩
 replace HS:=hid (HS.out.below hB);clear hB HM
 go_wp2_with (refine Dx (.tmp 23) rfl rfl rfl (HS.out.has 0 _ rfl) ?_)
 refine (HD.out _ HS.out).mono ?_;rintro e' w3 ⟨rfl,hB⟩
 replace HS:=hid (HS.out.below hB);clear hB HD
 go_wp2_with fail
 have i1:0<s.sno.n:=by have:=HNO.out;omega
 have HKK:=hid (fun W (h:BoxS w 1 [s.cells] W)=>show (W.cell? ⟨w.heap.size,0,none⟩=some (.slice (some ⟨b,off,none⟩) s.sno.n s.sno.c)∧W.cell? ⟨w.heap.size,29,none⟩=some (vI s.lv))∧W.cell? ⟨b,off+0 * 7+4,none⟩=some (vI (Ac s 0).a1) from ⟨⟨HNS.out W h,HLV.out W h⟩,HND.out W h 0 (by omega)⟩)
 rw [Nat.zero_mul,Nat.add_zero] at HKK
 refine rS (fun W=>BoxS w 1 [s.cells] W) 10 (HS.out.drew) (fun hHeld=>?_)
 refine rQ ?_
 refine rT (fun W hW=>HKK.out W hW) ?_
 refine rQ ?_
 refine rT (fun W hW=>HKK.out W hW) ?_
 iterate 3 refine rQ ?_
 refine rT (fun W hW=>HKK.out W hW) ?_
 iterate 2 refine rQ ?_
 refine rD ?_
 replace HS:=hid hHeld;clear hHeld HKK i1;generalize w3.drew=w4 at *
 rw [← Ad3 s]
 go_wp2_with fail
 go_loopw [8,9,10] (fun h v t wr=>AbP s w h v t wr) (fun _ _ t _=>s.no.length - (intOf t).toNat)
 case atStart=>exact ⟨0,by omega,rfl,rfl,HS.out,Ow.start _ _ _ _ _⟩
 case round =>
  obtain ⟨k,hk,rfl,rfl,hs,ho⟩:=hrel;replace HS:=hid hs;have HO:=hid ho;clear hs ho;have k0:=HNS.out _ HS.out;obtain ⟨m,hm⟩:∃ m,k+1=m:=⟨_,rfl⟩
  rw [hm]
  by_cases hlt:m<s.no.length
  ·have i1:(0:Int)<=(m:Int):=by omega
   have i2:(m:Int)<(s.sno.n:Int):=by have:=HNO.out;omega
   have b1:=QB HG.out HN.out (k:=k) (by omega);have b2:=Qw HG.out HN.out k (by omega);have b3:=HG.out.lv;have b4:=Xh HG.out HN.out (k:=k) (by omega) (h:=hgt s k) (by omega)
   have b6:0<=DS * ltV s k∧DS * ltV s k<=500000000:=by have h:=(TB HG.out HN.out (k:=k) (by omega)).2;rw [show (LQ s k).2=Im s.pf (-200000) * ltV s k from rfl,HDS.out] at h;exact h
   have z1:=iW (DS * ltV s k);have z2:=iW (riN s (hgt s k) k - hgt s k);have HTK:=hid (UV (s:=s) (k:=k) (by omega));have HSK:=hid (show LQ s k=(riN s (hgt s k) k - hgt s k,DS * ltV s k) from by rw [← HDS.out];rfl);have HHS:=hid (Ad4 s k);have HRI:=hid (show riN s (hgt s k) k=rsV s.pf (hgt s k) s.ac.mass (ltV s k) from rfl)
   have hlen:((Cy s).take k).length<=64:=by rw [List.length_take,Ja];omega
   have HT1:=hid (HT.out _ HS.out k m hm.symm hlt);have HND1:=hid (fun W h=>HND.out W h m hlt)
   rw [hm] at HHS
   have Hm:=hid hm;clear b1 b2 b3 b4 b6 hm
   go_wp2_with (refine AC (.tmp 1) rfl rfl rfl (HS.out.has 0 _ rfl) ?_)
   refine HT1.out.mono ?_;rintro e' w5 ⟨rfl,hB⟩
   replace HS:=hid (HS.out.below hB);replace HO:=hid (HO.out.below hB);clear hB HT1 k0
   go_wp2_with (refine Dx (.tmp 48) rfl rfl rfl (HS.out.has 0 _ rfl) ?_)
   refine (HR.out _ HS.out _ _).mono ?_;rintro e' w6 ⟨rfl,hB⟩
   replace HS:=hid (HS.out.below hB);replace HO:=hid (HO.out.below hB);clear hB
   rw [← HRI.out]
   generalize riN s (hgt s k) k=RI at *;generalize ltV s k=LT at *;generalize hgt s k=HH at *;generalize hLL:(Cy s).take k=LL at *;have HLL:=hid hLL;clear hLL
   go_wp2_with (at_builtin;refine wpList_append_own_at _ rfl _ _ 89 rfl (w.heap.size+1) 136 i0 (.agg #[vI 0,vI 0]) 2 16 Tryz.underlying89 hi hz0 hz1 hz2 rfl (by decide) _ _ _ rfl ((HO.out.alloc _).own) ⟨w6.heap.size,0,none⟩ 1 1 (lz2 (RI - HH) (DS * LT)) rfl rfl (AY _ _ (by first | rfl | simp) _ _ _ rfl) (by intro u hu;simp at hu;rcases hu with rfl | rfl <;> rfl) (by unfold maxLen;omega) (by omega) (by have:=HS.out.sz;simp;omega) ?_;intro v1 w7 hown hgrow hnil hblk)
   have HS7:=hid ((HS.out.alloc _).grown hgrow (fun k hk=>(HO.out.lt hk).1));have HO7:=hid (Ow.next (l:=LL) (f:=win) (x:=(RI - HH,DS * LT)) hown);clear hown hgrow hnil hblk HS HO z1 z2;have HS:=HS7;clear HS7;have HKK:=hid (fun W (h:BoxS w 1 [s.cells] W)=>show (W.cell? ⟨w.heap.size,0,none⟩=some (.slice (some ⟨b,off,none⟩) s.sno.n s.sno.c)∧W.cell? ⟨w.heap.size,29,none⟩=some (vI s.lv))∧W.cell? ⟨b,off+m * 7+4,none⟩=some (vI (Ac s m).a1) from ⟨⟨HNS.out W h,HLV.out W h⟩,HND1.out W h⟩)
   go_wp2_with fail
   refine rS (fun W=>BoxS w 1 [s.cells] W) 12 (HS.out.drew) (fun hHeld=>?_)
   iterate 2 refine rQ ?_
   refine rT (fun W hW=>HKK.out W hW) ?_
   refine rQ ?_
   refine rT (fun W hW=>HKK.out W hW) ?_
   iterate 4 refine rQ ?_
   refine rT (fun W hW=>HKK.out W hW) ?_
   refine rVm ((vI (min (min RI s.lv) (Ac s m).a1))) ?_
   refine rQ ?_
   refine rD ?_
   replace HS:=hid hHeld;replace HO7:=hid HO7.out.drew;clear hHeld HKK;generalize w7.drew=w8 at *
   go_wp2_with fail
   go_roundw
   case rel=>exact ⟨m,by omega,by go_num,by rw [← Hm.out] at HHS ⊢;rw [HHS.out];congr 1;omega,HS.out,by rw [← Hm.out,HTK.out,HSK.out];exact HO7.out⟩
   case measure=>exact zMs
  ·have HKN:=hid (show k=s.no.length - 1 by omega)
   have HO2:=hid (show Ow win 2 136 (w.heap.size+1) (Cy s) _ wr from by have h:=HO.out;rwa [CY (by rw [Ja];omega)] at h);obtain ⟨A',c',hv,hP,hcap⟩:=HO2.out.res Dm (show (Cy s).length=s.no.length - 1 from Ja s);have HP:=hid hP;have HCAP:=hid hcap
   have i2:¬ (m:Int)<(s.sno.n:Int):=by have:=HNO.out;omega
   subst hv;clear hP hcap HO HO2
   go_wp2_with fail
   go_ret2
   exact IY HEE.out ⟨A',c',rfl,HP.out,HCAP.out⟩ HS.out.B
def AbR (s:Stp) (w:World) (v t:Value) (wr:World):Prop:=∃ k:Nat,k<=s.no.length∧t=vI (k:Int)∧BoxS w 1 [s.cells] wr∧Ow win 2 65 (w.heap.size+1) ((awL s).take k) v wr
theorem Vh {s:Stp} {k:Nat} (hk:k<s.no.length):(awL s).take (k+1)=(awL s).take k ++ [((Ac s k).a0,(Ac s k).a1)]:=Aq _ k _ (J4 hk)
def Afa (l:Cs.Wins) (n:Nat) (w:World) (e:Ending) (w':World):Prop:=∃ g cap,e=.returned (.slice (some ⟨g,0,none⟩) n cap)∧w'.ownsRow w.heap.size 65 2 (.slice (some ⟨g,0,none⟩) n cap) n (l.flatMap win)∧n<=cap∧cap<=maxLen∧Below w.heap.size w w'
theorem NQ {w:World} {B B':Nat} {e:TypeId} {sz n:Nat} {v:Value} {xs:List Value} (h:w.ownsRow B e sz v n xs) (hb:B'<=B):w.ownsRow B' e sz v n xs:=by
 obtain ⟨h1,h2⟩:=h
 refine ⟨h1,?_⟩
 rcases h2 with h2 | ⟨g,cap,cur,h3,h4,h5⟩
 ·exact .inl h2
 ·exact .inr ⟨g,cap,cur,h3,Nat.le_trans hb h4,h5⟩
theorem U0 (s:Stp) (w:World) (hl:s.lies w) (hok:s.ok) (G:StG s):Calls Tryz.prog 109 #[.agg s.cells.toArray] w (Afa (awL s) s.no.length w):=by
 obtain ⟨i0,hi,hz0,hz1,hz2⟩:=info_parts Fh;have HS:=hid (DR w s.cells.toArray 35);have N:=StN.of hl;have hno:=N.no;have hn2:=Cq G N;obtain ⟨b,off,hA⟩:=FC hl (by omega);have HNS:=hid (fun W (h:BoxS w 1 [s.cells] W)=>show W.cell? ⟨w.heap.size,0,none⟩=some (.slice (some ⟨b,off,none⟩) s.sno.n s.sno.c) from Dk (h.has 0 _ rfl) hA);have HND:=hid (fun W (h:BoxS w 1 [s.cells] W) k (hk:k<s.no.length)=>Ce (hl.below h.B) hA hk);have HNO:=hid hno;clear hl hok G N hA hno
 go_enter Tryz.func109,Tryz.ntmps109
 have k0:=HNS.out _ HS.out
 go_wp2_with fail
 clear k0;generalize w.alloc (.cells s.cells.toArray 35)=w1 at *
 go_loopw [3,9] (fun v t wr=>AbR s w v t wr) (fun _ t _=>s.no.length - (intOf t).toNat)
 case atStart=>exact ⟨0,by omega,rfl,HS.out,Ow.start _ _ _ _ _⟩
 case round =>
  obtain ⟨k,hk,rfl,hs,ho⟩:=hrel;replace HS:=hid hs;have HO:=hid ho;clear hs ho
  by_cases hlt:k<s.no.length
  ·have HTK:=hid (Vh (s:=s) hlt)
   have i1:(0:Int)<=(k:Int):=by omega
   have i2:(k:Int)<(s.sno.n:Int):=by have:=HNO.out;omega
   obtain ⟨c0,c1,c2,c3,c4,c5,c6⟩:=HND.out _ HS.out k hlt
   have hlen:((awL s).take k).length<=64:=by rw [List.length_take,Cf];omega
   generalize hLL:(awL s).take k=LL at *;have HLL:=hid hLL;clear hLL
   go_wp2_with (at_builtin;refine wpList_append_own_at _ rfl _ _ 86 rfl (w.heap.size+1) 65 i0 (.agg #[vI 0,vI 0]) 2 16 Tryz.underlying86 hi hz0 hz1 hz2 rfl (by decide) _ _ _ rfl (((HO.out.alloc _).alloc _).own) ⟨wr.heap.size+1,0,none⟩ 1 1 (lz2 ((Ac s k).a0) ((Ac s k).a1)) rfl rfl (AY _ _ (by first | rfl | simp) _ _ _ rfl) (by intro u hu;simp at hu;rcases hu with rfl | rfl <;> rfl) (by unfold maxLen;omega) (by omega) (by have:=HS.out.sz;simp;omega) ?_;intro v1 w7 hown hgrow hnil hblk)
   have HS7:=hid (((HS.out.alloc _).alloc _).grown hgrow (fun k hk=>(HO.out.lt hk).1));have HO7:=hid (Ow.next (l:=LL) (f:=win) (x:=((Ac s k).a0,(Ac s k).a1)) hown);clear hown hgrow hnil hblk HS HO c0 c1 c2 c3 c4 c5 c6
   go_roundw
   case rel=>exact ⟨k+1,by omega,by go_num,HS7.out,by rw [HTK.out];exact HO7.out⟩
   case measure=>exact zMs
  ·have HO2:=hid (show Ow win 2 65 (w.heap.size+1) (awL s) _ wr from by have h:=HO.out;rwa [CY (by rw [Cf];omega)] at h)
   obtain ⟨g,cap,hv,hown,hnc,hcm⟩:=HO2.out.own_of (Cf s) (by omega);have HOW:=hid (NQ hown (show w.heap.size<=w.heap.size+1 by omega));have HCC:=hid (And.intro hnc hcm)
   have i2:¬ (k:Int)<(s.sno.n:Int):=by have:=HNO.out;omega
   subst hv;clear hown hnc hcm HO HO2
   go_wp2_with fail
   go_ret
   exact ⟨g,cap,rfl,HOW.out,HCC.out.1,HCC.out.2,HS.out.B⟩
