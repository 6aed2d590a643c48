/- M49: RfSp, RfSt, RfRn in one text. -/
import Derived.Test.YtedcanagfajcgaaGreatM46
import Derived.Test.YtedcanagfajcgaaGreatM29
import Derived.Test.YtedcanagfajcgaaGreatM44
import Derived.Test.YtedcanagfajcgaaGreatM47
import Derived.Test.YtedcanagfajcgaaGreatRfWt
import Derived.Test.YtedcanagfajcgaaGreatM21
set_option linter.unusedSimpArgs false
set_option linter.unusedVariables false
set_option maxRecDepth 100000
set_option maxHeartbeats 8000000
namespace Go.Proofs.YtedcanagfajcgaaGreat
open Go.RowKit
open Go.Lib (hid)
theorem AbX {W:World} {v:Value} {a b:Int} {t:TypeId} (h:a=b):W.alloc (.cells #[v,vI a] t)=W.alloc (.cells #[v,vI b] t):=by rw [h]
theorem Xb (s:Stp) (A:Option Addr) (n c:Nat) (al:List Int) (w:World) (hl:s.lies w) (hok:s.ok) (hal:Ints w A n al) (hn:n<=maxLen):Calls Tryz.prog 33 #[.agg s.cells.toArray,.slice A n c] w (FY (okL (sdE s al) (sdL s al)) (okN (sdE s al) n) (sdE s al) w):=by
 obtain ⟨i0,hi,hz0,hz1,hz2⟩:=info_parts Fh;have HS:=hid (DR w s.cells.toArray 35);have HC:=hid (fun W (h:BoxS w 1 [s.cells] W)=>I5 s W (hl.below h.B) hok)
 by_cases hE:suE s=0
 rotate_left
 ·have HX:=hid (Xo (al:=al) hE)
  generalize suE s=E at *;have e1:=Aw hE;have e2:=AL e1;have HE:=hid hE;clear hl hok hE hal hn
  go_enter Tryz.func33,Tryz.ntmps33
  go_wp2_with (refine AC (.tmp 2) rfl rfl rfl (HS.out.has 0 _ rfl) ?_)
  refine (HC.out _ HS.out).mono ?_;rintro e' w1 ⟨rfl,hB⟩
  have HB:=hid (Ae HS.out.B hB);clear hB
  go_wp2_with fail
  go_ret2
  exact Ca HX.out HE.out HB.out
 have G:=Cm hE;have N:=StN.of hl;have hno:=N.no;have hn2:=Cq G N
 rw [hE] at HC
 have HEE:=hid hE;obtain ⟨b,off,hA⟩:=FC hl (by omega);have HNS:=hid (fun W (h:BoxS w 1 [s.cells] W)=>show W.cell? ⟨w.heap.size,0,none⟩=some (.slice (some ⟨b,off,none⟩) s.sno.n s.sno.c) from Dk (h.has 0 _ rfl) hA);have hlen:=hal.len
 unfold maxLen at hn
 by_cases hnn:n=s.no.length
 rotate_left
 ·have HX:=hid (Aa4 hE (show al.length≠s.no.length by omega))
  have g1:((n:Int) == (s.sno.n:Int))=false:=Aw (by omega);have g2:=AL g1;clear hl hok hE hal G N hA hno hn2 hlen hnn
  go_enter Tryz.func33,Tryz.ntmps33
  go_wp2_with (refine AC (.tmp 2) rfl rfl rfl (HS.out.has 0 _ rfl) ?_)
  refine (HC.out _ HS.out).mono ?_;rintro e' w1 ⟨rfl,hB⟩
  replace HS:=hid (HS.out.below hB);have k0:=HNS.out _ HS.out;clear hB
  go_wp2_with fail
  go_ret2
  exact Ca HX.out (by decide) HS.out.B
 have HLEN:=hid hlen;have HNN:=hid (show al.length=s.no.length by omega);have HN2:=hid (show n=s.no.length∧n=s.sno.n from ⟨hnn,by omega⟩)
 have g1:((n:Int) == (s.sno.n:Int))=true:=by rw [show n=s.sno.n by omega];simp
 have g2:((n:Int) != (s.sno.n:Int))=false:=by rw [bne,g1];rfl
 have hn64:n<=64:=by omega
 have HND:=hid (fun W (h:BoxS w 1 [s.cells] W) k (hk:k<n)=>Ce (hl.below h.B) hA (k:=k) (by omega));have HAL:=hid hal;have HWH:=hid (fun W (h:BoxS w 1 [s.cells] W)=>show Has W w.heap.size s.cells from h.has 0 _ rfl);have HM:=hid (fun W=>Ti s.ac W);have HMI:=hid (fun W (h:BoxS w 1 [s.cells] W)=>UG s.pf s.ac.mass W (hl.below h.B).pf hok.pf);have HMA:=hid (fun W (h:BoxS w 1 [s.cells] W) a=>UF s.pf a W (hl.below h.B).pf hok.pf);clear hl hok hE hal G N hA hno hn2 hlen hnn;generalize hMN:JW s.pf s.ac.mass=MN at *;have HMN:=hid hMN;clear hMN
 go_enter Tryz.func33,Tryz.ntmps33
 go_wp2_with (refine AC (.tmp 2) rfl rfl rfl (HS.out.has 0 _ rfl) ?_)
 refine (HC.out _ HS.out).mono ?_;rintro e' w1 ⟨rfl,hB⟩
 replace HS:=hid (HS.out.below hB);have k0:=HNS.out _ HS.out;clear hB HC
 go_wp2_with fail
 clear k0
 refine rS (fun W=>BoxS w 1 [s.cells] W) 11 HS.out.drew (fun hHeld=>?_)
 refine rQ ?_
 refine rKy rfl rfl (RF (.tmp 27) rfl rfl rfl (fun W hW=>HWH.out W hW)) ?_
 refine rQ ?_
 refine rKy rfl rfl (Yb (.tmp 29) rfl rfl rfl (fun W hW=>HWH.out W hW)) ?_
 refine rE rfl (fun K hK=>?_)
 go_simp
 refine (HM.out _).mono ?_;rintro e2 w4 ⟨rfl,hB⟩
 go_wp2_with fail
 refine hK.out _ _ (hHeld.below hB) ?_
 clear hK K hB hHeld
 intro hHeld
 simp only [Act.put,pa,pb,pc]
 refine rE rfl (fun K hK=>?_)
 go_simp
 refine (HMI.out _ hHeld).mono ?_;rintro e2 w5 ⟨rfl,hB⟩
 go_wp2_with fail
 refine hK.out _ _ (hHeld.below hB) ?_
 clear hK K hB hHeld
 intro hHeld
 simp only [Act.put,pa,pb,pc]
 iterate 5 refine rQ ?_
 refine rD ?_
 replace HS:=hid hHeld;have k0:=HNS.out _ HS.out;clear hHeld g1 g2 HM HMI
 go_wp2_with fail
 clear k0
 go_loopw [9,38] (fun v t wr=>Vd s al n w v t wr) (fun _ t _=>n - (intOf t).toNat)
 case atStart=>exact ⟨0,by omega,rfl,by simp,HS.out,Ow.start _ _ _ _ _⟩
 case round =>
 obtain ⟨k,hk,rfl,hall,hs,ho⟩:=hrel;replace HS:=hid hs;have HO:=hid ho;have HALL:=hid hall;clear hs ho hall
 by_cases hlt:k<n
 rotate_left
 ·have HE:=hid (Aa3 HEE.out HNN.out (by have h:=HALL.out;rw [CY (by rw [HLEN.out];omega)] at h;exact h))
  have HO2:=hid (show Ow win 2 65 (w.heap.size+1) (sdL s al) _ wr from by have h:=HO.out;rwa [CY (by rw [CV HNN.out];have:=HN2.out;omega)] at h);obtain ⟨A',c',hv,hP,hcap⟩:=HO2.out.res Dm (show (sdL s al).length=n from by rw [CV HNN.out];exact HN2.out.1.symm);have HP:=hid (And.intro hP hcap)
  have i2:¬ (k:Int)<(s.sno.n:Int):=by have:=HN2.out;omega
  subst hv;clear hP hcap HO HO2
  go_wp2_with fail
  go_ret2
  exact IY HE.out ⟨A',c',rfl,HP.out⟩ HS.out.B
 have HTK:=hid (PH (s:=s) HNN.out (k:=k) (by have:=HN2.out.1;omega));obtain ⟨x,hx⟩:=Am HLEN.out hlt;obtain ⟨bx,ox,hbx,hbl,cx⟩:=BZ HAL.out hx;have HXX:=hid hx;have HCX:=hid (fun W (h:BoxS w 1 [s.cells] W)=>(h.B.cell (p:=⟨bx,ox+k,none⟩) hbl).trans cx);have HLN2:=hid (show ((sdL s al).take k).length<=64 from by rw [List.length_take];omega)
 have HSF:=hid (show sdF s (Ac s k) x=(max (Ac s k).s0 MN,if x<s.la then min (min (Ac s k).s1 (min s.cas (FV s.pf x))) s.ls else min (Ac s k).s1 (min s.cas (FV s.pf x))) from by rw [← HMN.out,← Int.min_assoc];rfl)
 rw [Ah hx] at HTK
 rw [hbx]
 have i1:(0:Int)<=(k:Int):=by omega
 have i2:(k:Int)<(s.sno.n:Int):=by have:=HN2.out.2;omega
 have i3:(k:Int)<(n:Int):=by omega
 obtain ⟨n0,n1,n2,n3,n4,n5,n6⟩:=HND.out _ HS.out k hlt;have cy:∀ o,(wr.alloc o).cell? ⟨bx,ox+k,none⟩=some (vI x):=fun o=>HCX.out _ (HS.out.alloc o);clear hx hbx cx hbl;generalize Ac s k=N at *
 go_wp2_with fail
 all_goals try (go_ret2;exact Ca (Aa5 HEE.out HNN.out (Au HXX.out) (by rw [Dz];omega)) (by decide) (HS.out.alloc _).B)
 have HIN:=hid (show -200000<=x∧x<=6000000 by omega);have Q:Hid (Has (wr.alloc (.cells #[vI N.px,vI N.py,vI N.di,vI N.a0,vI N.a1,vI N.s0,vI N.s1] 67)) wr.heap.size N.cells):=hid (Has.new _ _ _);replace HS:=hid (HS.out.alloc (.cells #[vI N.px,vI N.py,vI N.di,vI N.a0,vI N.a1,vI N.s0,vI N.s1] 67));replace HO:=hid (HO.out.alloc (.cells #[vI N.px,vI N.py,vI N.di,vI N.a0,vI N.a1,vI N.s0,vI N.s1] 67));clear cy n0 n1 n2 n3 n4 n5 n6;generalize wr.alloc (.cells #[vI N.px,vI N.py,vI N.di,vI N.a0,vI N.a1,vI N.s0,vI N.s1] 67)=w6 at *;generalize wr.heap.size=H11 at *
 refine rS (fun W=>BoxS w 1 [s.cells] W) 12 HS.out.drew (fun hHeld=>?_)
 have FA:=fun W (h:BoxS w 1 [s.cells] W)=>HCX.out W h
 refine rQ ?_
 refine rKy rfl rfl (RF (.tmp 56) rfl rfl rfl (fun W hW=>HWH.out W hW)) ?_
 iterate 3 refine rQ ?_
 refine rF ?_
 refine rE rfl (fun K hK=>?_)
 go_simp
 refine (HMA.out _ hHeld x).mono ?_;rintro e2 w7 ⟨rfl,hB⟩
 replace Q:=hid (Q.out.drew.below hB);replace HO:=hid (HO.out.drew.below hB)
 go_wp2_with fail
 refine hK.out _ _ (hHeld.below hB) ?_
 clear hK K hB hHeld
 intro hHeld
 simp only [Act.put,pa,pb,pc]
 iterate 5 refine rQ ?_
 refine rD ?_
 replace HS:=hid hHeld;clear hHeld;generalize FV s.pf x=MX at *;have c5:=Q.out.cell 5 (vI N.s0) rfl;have c6:=Q.out.cell 6 (vI N.s1) rfl;have k30:=IA (HWH.out _ HS.out)
 go_upto_region 14 with fail
 go_cut [14] (fun p wx=>p=.pointer (some ⟨w7.heap.size,0,none⟩)∧w7.alloc (.cells #[vI (max N.s0 MN),vI (min N.s1 (min s.cas MX))] 65)=wx)
 case first =>
  go_wp2_with fail
  all_goals (go_meet;exact ⟨rfl,AbX (by omega)⟩)
 case rest =>
 obtain ⟨rfl,rfl⟩:=hcut;clear c5 c6 k30 Q FA
 go_upto_region 15 with fail
 have T:Hid (Has (w7.alloc (.cells #[vI (max N.s0 MN),vI (min N.s1 (min s.cas MX))] 65)) w7.heap.size (lz2 (max N.s0 MN) (min N.s1 (min s.cas MX)))):=hid (Has.new _ _ _);have HOB:=hid (show ∀ k,_→k≠w7.heap.size from fun k hk=>Nat.ne_of_lt (HO.out.lt hk).2);have hge:w.heap.size+1<=w7.heap.size:=HS.out.sz;replace HS:=hid (HS.out.alloc (.cells #[vI (max N.s0 MN),vI (min N.s1 (min s.cas MX))] 65));replace HO:=hid (HO.out.alloc (.cells #[vI (max N.s0 MN),vI (min N.s1 (min s.cas MX))] 65));generalize w7.alloc (.cells #[vI (max N.s0 MN),vI (min N.s1 (min s.cas MX))] 65)=w8 at *;generalize w7.heap.size=H9 at *;generalize min N.s1 (min s.cas MX)=HI at *
 refine rS (fun W=>BoxS w 1 [s.cells] W) 7 HS.out.drew (fun hHeld=>?_)
 have FA:=fun W (h:BoxS w 1 [s.cells] W)=>And.intro (HCX.out W h) (TC (HWH.out W h))
 iterate 3 refine rQ ?_
 refine rF ?_
 refine rQ ?_
 refine rF ?_
 refine rQ ?_
 refine rD ?_
 replace HS:=hid hHeld;replace T:=hid T.out.drew;replace HO:=hid HO.out.drew;clear hHeld FA;generalize w8.drew=w9 at *;have k35:=TD (HWH.out _ HS.out);have t0:=T.out.cell 0 _ rfl;have t1:=T.out.cell 1 _ rfl;have tf:=T.out.fr;have hlen2:=HLN2.out;generalize sdF s N x=SF at *;generalize (sdL s al).take k=LL at *
 by_cases hla:x<s.la
 ·rw [if_pos hla] at HSF
  have HHX:=hid (fun v=>T.out.set 1 v (by simp))
  go_wp2_with (at_builtin;refine wpList_append_own_at _ rfl _ _ 86 rfl (w.heap.size+1) 65 i0 (.agg #[vI 0,vI 0]) 2 16 Tryz.underlying86 hi hz0 hz1 hz2 rfl (by decide) _ _ _ rfl (((HO.out.setNe ⟨H9,1,none⟩ (vI (min HI s.ls)) HOB.out).alloc _).own) ⟨w9.heap.size,0,none⟩ 1 1 (lz2 (max N.s0 MN) (min HI s.ls)) rfl rfl (AY _ _ (by first | rfl | simp) _ _ _ rfl) (by intro u hu;simp at hu;rcases hu with rfl | rfl <;> rfl) (by unfold maxLen;omega) (by omega) (by have:=HS.out.sz;simp;omega) ?_;intro v1 wz hown hgrow hnil hblk)
  have HS7:=hid (((HS.out.set H9 1 hge (vI (min HI s.ls))).alloc _).grown hgrow (fun k hk=>(HO.out.lt hk).1));have HO7:=hid (Ow.next (l:=LL) (f:=win) (x:=(max N.s0 MN,min HI s.ls)) hown)
  go_roundw
  case rel=>exact ⟨k+1,by omega,by go_num,Et HALL.out HXX.out HIN.out,HS7.out,by rw [HTK.out,HSF.out];exact HO7.out⟩
  case measure=>exact zMs
 ·rw [if_neg hla] at HSF
  go_wp2_with (at_builtin;refine wpList_append_own_at _ rfl _ _ 86 rfl (w.heap.size+1) 65 i0 (.agg #[vI 0,vI 0]) 2 16 Tryz.underlying86 hi hz0 hz1 hz2 rfl (by decide) _ _ _ rfl ((HO.out.alloc _).own) ⟨w9.heap.size,0,none⟩ 1 1 (lz2 (max N.s0 MN) HI) rfl rfl (AY _ _ (by first | rfl | simp) _ _ _ rfl) (by intro u hu;simp at hu;rcases hu with rfl | rfl <;> rfl) (by unfold maxLen;omega) (by omega) (by have:=HS.out.sz;simp;omega) ?_;intro v1 wz hown hgrow hnil hblk)
  have HS7:=hid ((HS.out.alloc _).grown hgrow (fun k hk=>(HO.out.lt hk).1));have HO7:=hid (Ow.next (l:=LL) (f:=win) (x:=(max N.s0 MN,HI)) hown)
  go_roundw
  case rel=>exact ⟨k+1,by omega,by go_num,Et HALL.out HXX.out HIN.out,HS7.out,by rw [HTK.out,HSF.out];exact HO7.out⟩
  case measure=>exact zMs
def WkI (w:World) (e:Ending) (w':World):Prop:=∃ v:Int,e=.returned (vI v)∧Below w.heap.size w w'
theorem AcG (a b:Int) (w:World):Calls Tryz.prog 81 #[vI a,vI b] w (WkI w):=by
  go_enter Tryz.func81,Tryz.ntmps81
  go_wp2
  go_ret
  exact ⟨_,rfl,AJ _ _⟩
theorem AaZ (a b:Int) (ha:I64 a) (hb:I64 b) (w:World):Calls Tryz.prog 205 #[.agg #[vI a,vI b]] w (WkI w):=by
  have BP:=hid (Has.new w #[vI a,vI b] 50);have CA:=hid (fun W=>rAbs a ha W);have CB:=hid (fun W=>rAbs b hb W);have HB:=hid (Aa w (.cells #[vI a,vI b] 50));clear ha hb;generalize Oa (a.natAbs:Int)=u at *;generalize Oa (b.natAbs:Int)=v at *
  go_enter Tryz.func205,Tryz.ntmps205
  go_wp2_with fail
  have FA:=fun W (h:Has W w.heap.size (lz2 a b)∧Below w.heap.size w W)=>And.intro (h.1.cell 0 (vI a) rfl) (h.1.cell 1 (vI b) rfl)
  refine rS (fun W=>Has W w.heap.size (lz2 a b)∧Below w.heap.size w W) 8 ⟨BP.out.drew,HB.out.drew⟩ (fun hHeld=>?_)
  generalize hW0:World.drew _=w2 at *;clear hW0
  repeat' first
    | refine rQ ?_
    | refine rF ?_
    | refine rM ?_
    | exact evN rfl
    | refine evC rfl ?_ ?_
    | (intro K hK;go_simp
       first | (with_reducible refine (CA.out _).mono ?_) | (with_reducible refine (CB.out _).mono ?_)
       rintro e2 W2 ⟨rfl,rfl⟩
       go_wp2_with fail
       refine rEt hK hHeld ?_
       clear hK K
       intro hHeld2)
    | (refine rD ?_;go_wp2_with fail;go_ret;exact ⟨_,rfl,hHeld.2⟩)
theorem AcH (s:Stp) (k m:Nat) (hm:m=k+1) (w:World) (hl:s.lies w) (hok:s.ok) (G:StG s) (hk:m<s.no.length):Calls Tryz.prog 160 #[.agg s.cells.toArray,vI m] w (WkI w):=by
  have N:=StN.of hl;have hno:=N.no;have hmx:=hok.no
  unfold maxLen at hmx
  obtain ⟨b,off,hA⟩:=FC hl (by omega);have HS:=hid (DR w s.cells.toArray 35)
  have HKK:=hid (fun W (h:BoxS w 1 [s.cells] W)=>show ((W.cell? ⟨w.heap.size,0,none⟩=some (.slice (some ⟨b,off,none⟩) s.sno.n s.sno.c)∧W.cell? ⟨w.heap.size,30,none⟩=some (vI s.cas))∧W.cell? ⟨w.heap.size,29,none⟩=some (vI s.lv))∧(W.cell? ⟨b,off+k * 7+6,none⟩=some (vI (Ac s k).s1)∧W.cell? ⟨b,off+m * 7+2,none⟩=some (vI (Ac s m).di))∧W.cell? ⟨b,off+m * 7+6,none⟩=some (vI (Ac s m).s1) from
    have n1:=Ce (hl.below h.B) hA (k:=k) (by omega);have n2:=Ce (hl.below h.B) hA (k:=m) hk
    ⟨⟨⟨Dk (h.has 0 _ rfl) hA,IA (h.has 0 _ rfl)⟩,FP (h.has 0 _ rfl)⟩,⟨n1.2.2.2.2.2.2,n2.2.2.1⟩,n2.2.2.2.2.2.2⟩)
  have HPH:=hid (fun W (h:BoxS w 1 [s.cells] W)=>QT s k m hm W (hl.below h.B) hok G hk);have hq:=Og G k;have HTA:=hid (fun W a b c=>Aet a b c W);have CA:=hid (fun W=>AaZ (suH s k).e0 (suH s k).e1 ⟨by omega,by omega⟩ ⟨by omega,by omega⟩ W);have CB:=hid (fun W=>AaZ (suH s k).n0 (suH s k).n1 ⟨by omega,by omega⟩ ⟨by omega,by omega⟩ W);have CC:=hid (fun W a b=>AcG a b W)
  have w1:IntKind.i64.wrap ((m:Int) - 1)=(k:Int):=by rw [(iW _)];omega
  have i0:(0:Int)<=(k:Int):=by omega
  have i1:(k:Int)<(s.sno.n:Int):=by omega
  have i2:(0:Int)<=(m:Int):=by omega
  have i3:(m:Int)<(s.sno.n:Int):=by omega
  clear hl hok G N hno hA hm hk hmx hq;generalize suH s k=HV at *;generalize (Ac s k).s1=s0 at *;generalize (Ac s m).s1=s1 at *;generalize (Ac s m).di=di at *
  go_enter Tryz.func160,Tryz.ntmps160
  go_wp2_with (refine AC (.tmp 2) rfl rfl rfl (HS.out.has 0 _ rfl) ?_)
  refine (HPH.out _ HS.out).mono ?_;rintro e' w2 ⟨rfl,hB⟩
  replace HS:=hid (HS.out.below hB);clear hB HPH
  go_wp2_with fail
  have Q5:Hid (Has ((w2.alloc (.cells #[vI HV.e0,vI HV.e1,vI HV.n0,vI HV.n1] 73)).alloc (.cells #[vI HV.d0,vI HV.d1] 50)) w2.heap.size (lz4 HV.e0 HV.e1 HV.n0 HV.n1)):=hid ((Has.new _ _ _).alloc _);have Q6:Hid (Has ((w2.alloc (.cells #[vI HV.e0,vI HV.e1,vI HV.n0,vI HV.n1] 73)).alloc (.cells #[vI HV.d0,vI HV.d1] 50)) (w2.heap.size+1) (lz2 HV.d0 HV.d1)):=hid (Has.newAt _ _ _ _ (by simp));replace HS:=hid ((HS.out.alloc (.cells #[vI HV.e0,vI HV.e1,vI HV.n0,vI HV.n1] 73)).alloc (.cells #[vI HV.d0,vI HV.d1] 50));generalize (w2.alloc (.cells #[vI HV.e0,vI HV.e1,vI HV.n0,vI HV.n1] 73)).alloc (.cells #[vI HV.d0,vI HV.d1] 50)=w3 at *;generalize w2.heap.size+1=H6 at *;generalize w2.heap.size=H5 at *
  refine rS (fun W=>BoxS w 1 [s.cells] W∧Has W H5 (lz4 HV.e0 HV.e1 HV.n0 HV.n1)∧Has W H6 (lz2 HV.d0 HV.d1)) 23 ⟨HS.out.drew,Q5.out.drew,Q6.out.drew⟩ (fun hHeld=>?_)
  generalize hW0:World.drew _=w4 at *;clear hW0 HS Q5 Q6;have FA:=fun W (h:BoxS w 1 [s.cells] W∧Has W H5 (lz4 HV.e0 HV.e1 HV.n0 HV.n1)∧Has W H6 (lz2 HV.d0 HV.d1))=>And.intro (HKK.out W h.1) (And.intro (And.intro (And.intro (h.2.1.cell 0 (vI HV.e0) rfl) (h.2.1.cell 1 (vI HV.e1) rfl)) (And.intro (h.2.1.cell 2 (vI HV.n0) rfl) (h.2.1.cell 3 (vI HV.n1) rfl))) (And.intro (h.2.2.cell 0 (vI HV.d0) rfl) (h.2.2.cell 1 (vI HV.d1) rfl)))
  repeat (first | refine rQ ?_ | refine rF ?_)
  refine rEk ?_
  intro K hK
  refine (CC.out _ _ _).mono ?_;rintro e2 W2 ⟨v,rfl,hB⟩
  go_wp2_with fail
  refine rEt hK mB ?_
  clear hK K hHeld hB
  intro hHeld
  repeat (first | refine rQ ?_ | refine rF ?_)
  refine rD ?_
  have K:=FA _ hHeld
  go_wp2_with fail
  refine (HTA.out _ _ _ _).mono ?_;rintro e2 W3 ⟨rfl,hB⟩
  have hHeld2:BoxS w 1 [s.cells] W3∧Has W3 H5 (lz4 HV.e0 HV.e1 HV.n0 HV.n1)∧Has W3 H6 (lz2 HV.d0 HV.d1):=mB;clear hHeld K hB;generalize tsV _ _ _=TV at *;generalize tsE _ _ _=TE at *
  go_wp2_with fail
  refine rS (fun W=>BoxS w 1 [s.cells] W∧Has W H5 (lz4 HV.e0 HV.e1 HV.n0 HV.n1)∧Has W H6 (lz2 HV.d0 HV.d1)) 10 ⟨hHeld2.1.drew,hHeld2.2.1.drew,hHeld2.2.2.drew⟩ (fun hHeld=>?_)
  generalize hW0:World.drew _=w5 at *;clear hW0 hHeld2
  repeat' first
    | refine rQ ?_
    | refine rF ?_
    | refine rM ?_
    | exact evN rfl
    | refine evC rfl ?_ ?_
    | (intro K hK;go_simp
       first | (with_reducible refine (CA.out _).mono ?_) | (with_reducible refine (CB.out _).mono ?_)
       rintro e2 W2 ⟨v,rfl,hB⟩
       go_wp2_with fail
       refine rEt hK mB ?_
       clear hK K hHeld hB
       intro hHeld)
    | (refine rD ?_
       have K:=FA _ hHeld
       go_wp2
       all_goals first | (go_ret;exact ⟨_,rfl,hHeld.1.B⟩) | exact absurd (by assumption) (BA.1 ‹(_ == (0:Int))=false›))
def WkS (s:Stp) (w:World) (e:Ending) (w':World):Prop:=∃ l n E A c,e=.returned (.tuple #[.slice A n c,vI E])∧(E=0→suE s=0)∧Pairs w' A n l∧n<=c∧c<=maxLen∧Below w.heap.size w w'
theorem ZU {s:Stp} {E:Int} (h0:E≠0) {w w':World} (hb:Below w.heap.size w w'):WkS s w (.returned (.tuple #[.slice none 0 0,vI E])) w':=⟨[],0,E,none,0,rfl,fun h=>absurd h h0,Recs.nil _ _ _,Bn _,Nat.zero_le _,hb⟩
def AdD (s:Stp) (w:World) (v h t:Value) (wr:World):Prop:=∃ (k:Nat) (y:Int) (l:Cs.Wins),k+1<=s.no.length∧t=vI ((k+1:Nat):Int)∧h=vI y∧l.length=k∧BoxS w 1 [s.cells] wr∧Ow win 2 136 (w.heap.size+1) l v wr
theorem Zo (s:Stp) (w:World) (hl:s.lies w) (hok:s.ok):Calls Tryz.prog 93 #[.agg s.cells.toArray] w (WkS s w):=by
  obtain ⟨i0,hi,hz0,hz1,hz2⟩:=info_parts IU;have HS:=hid (DR w s.cells.toArray 35);have HC:=hid (fun W (h:BoxS w 1 [s.cells] W)=>I5 s W (hl.below h.B) hok)
  by_cases hE:suE s=0
  rotate_left
  · have HE:=hid hE
    generalize hEE:suE s=E at *;have e1:=Aw hE;have e2:=AL e1;clear hl hok hE hEE
    go_enter Tryz.func93,Tryz.ntmps93
    go_wp2_with (refine AC (.tmp 1) rfl rfl rfl (HS.out.has 0 _ rfl) ?_)
    refine (HC.out _ HS.out).mono ?_;rintro e' w1 ⟨rfl,hB⟩
    have HB:=hid (Ae HS.out.B hB);clear hB
    go_wp2_with fail
    go_ret2
    exact ZU HE.out HB.out
  have G:=Cm hE;have N:=StN.of hl;have hno:=N.no;have hn2:=Cq G N
  rw [hE] at HC
  have HEE:=hid hE;obtain ⟨b,off,hA⟩:=FC hl (by omega);have HKK:=hid (fun W (h:BoxS w 1 [s.cells] W)=>show W.cell? ⟨w.heap.size,0,none⟩=some (.slice (some ⟨b,off,none⟩) s.sno.n s.sno.c)∧W.cell? ⟨w.heap.size,29,none⟩=some (vI s.lv) from ⟨Dk (h.has 0 _ rfl) hA,FP (h.has 0 _ rfl)⟩);have HND:=hid (fun W (h:BoxS w 1 [s.cells] W) k (hk:k<s.no.length)=>show W.cell? ⟨b,off+k * 7+4,none⟩=some (vI (Ac s k).a1) from (Ce (hl.below h.B) hA hk).2.2.2.2.1);have HW:=hid (fun W (h:BoxS w 1 [s.cells] W)=>show Has W w.heap.size s.cells from h.has 0 _ rfl);have HM:=hid (fun W=>Ti s.ac W);have HD:=hid (fun W (h:BoxS w 1 [s.cells] W)=>Xa s.pf (-200000) W (hl.below h.B).pf hok.pf);have HT:=hid (fun W (h:BoxS w 1 [s.cells] W) k m (hm:m=k+1) (hk:m<s.no.length)=>AcH s k m hm W (hl.below h.B) hok G hk);have HR:=hid (fun W (h:BoxS w 1 [s.cells] W) a b t=>Zp s.pf a b t W (hl.below h.B).pf hok.pf);have HNO:=hid hno;have hn0:=HND.out
  have F0:=fun W (h:BoxS w 1 [s.cells] W)=>show W.cell? ⟨b,off+4,none⟩=some (vI (Ac s 0).a1) from by have q:=hn0 W h 0 (by omega);rwa [Nat.zero_mul,Nat.add_zero] at q
  have i1:0<s.sno.n:=by omega
  have hn64:s.no.length<=64:=hn2.2;clear hl hok hE G N hA hno hn0;generalize Im s.pf (-200000)=DS at *;generalize pcE s.pf (-200000) 1=DE at *
  go_enter Tryz.func93,Tryz.ntmps93
  go_wp2_with (refine AC (.tmp 1) rfl rfl rfl (HS.out.has 0 _ rfl) ?_)
  refine (HC.out _ HS.out).mono ?_;rintro e' w1 ⟨rfl,hB⟩
  replace HS:=hid (HS.out.below hB);clear hB HC
  go_wp2_with fail
  refine rS (fun W=>BoxS w 1 [s.cells] W) 10 HS.out.drew (fun hHeld=>?_)
  generalize hW0:World.drew _=w2 at *;clear hW0 HS;have FA:=fun W (h:BoxS w 1 [s.cells] W)=>And.intro (HKK.out W h) (F0 W h)
  repeat (first | refine rQ ?_ | refine rF ?_)
  refine rD ?_
  clear FA
  go_wp2_with (refine FZ (.tmp 28) rfl rfl rfl (hHeld.has 0 _ rfl) ?_)
  refine (HM.out _).mono ?_;rintro e' w3 ⟨rfl,hB⟩
  replace hHeld:=hHeld.below hB;clear hB HM
  go_wp2_with (refine Dx (.tmp 32) rfl rfl rfl (hHeld.has 0 _ rfl) ?_)
  refine (HD.out _ hHeld).mono ?_;rintro e' w4 ⟨rfl,hB⟩
  have HS:=hid (hHeld.below hB);clear hB HD hHeld F0
  go_wp2_with fail
  generalize s.ac.mass=MS at *
  go_loopw [5,6,10] (fun v h t wr=>AdD s w v h t wr) (fun _ _ t _=>s.no.length - (intOf t).toNat)
  case atStart=>exact ⟨0,_,[],by omega,rfl,rfl,rfl,HS.out,Ow.start _ _ _ _ _⟩
  case round =>
  obtain ⟨k,y,l,hk,rfl,rfl,hln,hs,ho⟩:=hrel;replace HS:=hid hs;have HO:=hid ho;clear hs ho;have k0:=HKK.out _ HS.out;obtain ⟨m,hm⟩:∃ m,k+1=m:=⟨_,rfl⟩
  rw [hm]
  by_cases hlt:m<s.no.length
  rotate_left
  · have i2:¬ (m:Int)<(s.sno.n:Int):=by have:=HNO.out;omega
    obtain ⟨A',c',hv,hP,hcap⟩:=HO.out.res Dm hln;have HP:=hid (And.intro hP (And.intro hcap.1 hcap.2));subst hv;clear hP hcap HO
    go_wp2_with fail
    go_ret2
    exact ⟨_,_,0,A',c',rfl,fun _=>HEE.out,HP.out.1,HP.out.2.1,HP.out.2.2,HS.out.B⟩
  have i2:(m:Int)<(s.sno.n:Int):=by have:=HNO.out;omega
  have i3:(0:Int)<=(m:Int):=by omega
  have HNX:=hid (fun W (h:BoxS w 1 [s.cells] W)=>HND.out W h m hlt)
  go_wp2_with (refine AC (.tmp 1) rfl rfl rfl (HS.out.has 0 _ rfl) ?_)
  refine (HT.out _ HS.out k m hm.symm hlt).mono ?_;rintro e' w5 ⟨tt,rfl,hB⟩
  replace HS:=hid (HS.out.below hB);replace HO:=hid (HO.out.below hB);clear hB k0
  go_wp2_with (refine Dx (.tmp 48) rfl rfl rfl (HS.out.has 0 _ rfl) ?_)
  refine (HR.out _ HS.out _ _ _).mono ?_;rintro e' w6 ⟨rfl,hB⟩
  replace HS:=hid (HS.out.below hB);replace HO:=hid (HO.out.below hB);clear hB;generalize rsV _ _ _ _=RV at *;generalize rsE _ _ _ _=RE at *
  have hlen:l.length<=64:=by omega
  go_wp2_with (at_builtin;refine wpList_append_own_at _ rfl _ _ 89 rfl (w.heap.size+1) 136 i0 (.agg #[vI 0,vI 0]) 2 16 Tryz.underlying89 hi hz0 hz1 hz2 rfl (by decide) _ _ _ rfl ((HO.out.alloc _).own) ⟨w6.heap.size,0,none⟩ 1 1 (lz2 (wrap64 (RV - y)) (wrap64 (DS * tt))) rfl rfl (AY _ _ (by first | rfl | simp) _ _ _ rfl) (by intro u hu;simp at hu;rcases hu with rfl | rfl <;> rfl) (by unfold maxLen;omega) (by omega) (by have:=HS.out.sz;simp;omega) ?_;intro v1 w7 hown hgrow hnil hblk)
  have HS7:=hid ((HS.out.alloc _).grown hgrow (fun k hk=>(HO.out.lt hk).1));have HO7:=hid (Ow.next (l:=l) (f:=win) (x:=(wrap64 (RV - y),wrap64 (DS * tt))) hown);clear hown hgrow hnil hblk HS HO
  refine rS (fun W=>BoxS w 1 [s.cells] W) 12 HS7.out.drew (fun hHeld=>?_)
  replace HO7:=hid HO7.out.drew;generalize hW0:World.drew _=w8 at *;clear hW0 HS7;have FA:=fun W (h:BoxS w 1 [s.cells] W)=>And.intro (HKK.out W h) (HNX.out W h)
  repeat (first | refine rQ ?_ | refine rF ?_)
  refine rD ?_
  clear FA
  go_wp2_with fail
  go_roundw
  case rel=>exact ⟨k+1,_,_,by omega,by rw [← hm];go_num,rfl,by rw [List.length_append,hln];rfl,hHeld,HO7.out⟩
  case measure=>exact zMs
def WkL (w:World) (e:Ending) (w':World):Prop:=∃ l n A c,e=.returned (.slice A n c)∧Ints w' A n l∧n<=maxLen∧Below w.heap.size w w'
def Adt (s:Stp) (w:World) (v t:Value) (wr:World):Prop:=∃ (k:Nat) (l:List Int),k+1<=s.no.length∧t=vI (k:Int)∧l.length=k∧BoxS w 1 [s.cells] wr∧Ow G9 1 2 (w.heap.size+1) l v wr
theorem Aeq (s:Stp) (w:World) (hl:s.lies w) (hok:s.ok) (G:StG s) (hc:s.sno.n<=s.sno.c):Calls Tryz.prog 35 #[.agg s.cells.toArray] w (WkL w):=by
  obtain ⟨i0,hi,hz0,hz1,hz2⟩:=info_parts CU;have HS:=hid (DR w s.cells.toArray 35);have N:=StN.of hl;have hno:=N.no;have hn2:=Cq G N;obtain ⟨b,off,hA⟩:=FC hl (by omega);have HNS:=hid (fun W (h:BoxS w 1 [s.cells] W)=>show W.cell? ⟨w.heap.size,0,none⟩=some (.slice (some ⟨b,off,none⟩) s.sno.n s.sno.c) from Dk (h.has 0 _ rfl) hA);have HND:=hid (fun W (h:BoxS w 1 [s.cells] W) k (hk:k<s.no.length)=>Ce (hl.below h.B) hA hk);have HNO:=hid hno
  have hn64:s.sno.n<=64:=by omega
  have i1:0<s.sno.n:=by omega
  have i3:¬ s.sno.c=1:=by omega
  have i2:1<=s.sno.n:=by omega
  clear hl hok G N hA hno hn2 hc
  go_enter Tryz.func35,Tryz.ntmps35
  have k0:=HNS.out _ HS.out
  go_wp2_with fail
  clear k0 i3;generalize w.alloc (.cells s.cells.toArray 35)=w1 at *
  go_loopw [3,10] (fun v t wr=>Adt s w v t wr) (fun _ t _=>s.no.length - (intOf t).toNat)
  case atStart=>exact ⟨0,[],by have:=HNO.out;omega,rfl,rfl,HS.out,Ow.start _ _ _ _ _⟩
  case round =>
  obtain ⟨k,l,hk,rfl,hln,hs,ho⟩:=hrel;replace HS:=hid hs;have HO:=hid ho;clear hs ho
  by_cases hlt:k+1<s.no.length
  rotate_left
  · have i4:¬ (k:Int)<((s.sno.n - 1:Nat):Int):=by have:=HNO.out;omega
    obtain ⟨A',c',hv,hP,hcap⟩:=HO.out.ints hln;have HP:=hid hP;subst hv;clear hP hcap HO
    go_wp2_with fail
    go_ret
    exact ⟨_,_,A',c',rfl,HP.out,by unfold maxLen;have:=HNO.out;omega,HS.out.B⟩
  have i4:(k:Int)<((s.sno.n - 1:Nat):Int):=by have:=HNO.out;omega
  have i5:(0:Int)<=(k:Int):=by omega
  obtain ⟨c0,c1,c2,c3,c4,c5,c6⟩:=HND.out _ HS.out (k+1) hlt
  rw [show off+(k+1) * 7=off+7+k * 7 by omega] at c0 c1 c2 c3 c4 c5 c6
  have hlen:l.length<=64:=by omega
  generalize Ac s (k+1)=M at *
  go_wp2_with (at_builtin;refine wpList_append_own_at _ rfl _ _ 23 rfl (w.heap.size+1) 2 i0 (vI 0) 1 8 Tryz.underlying23 hi hz0 hz1 hz2 rfl (by decide) _ _ _ rfl (((HO.out.alloc _).alloc _).own) ⟨wr.heap.size+1,0,none⟩ 1 1 [vI M.di] rfl rfl (AY _ _ (by first | rfl | simp) _ _ _ rfl) (by intro u hu;simp at hu;rcases hu with rfl;rfl) (by unfold maxLen;omega) (by omega) (by have:=HS.out.sz;simp;omega) ?_;intro v1 w7 hown hgrow hnil hblk)
  have HS7:=hid (((HS.out.alloc _).alloc _).grown hgrow (fun k hk=>(HO.out.lt hk).1));have HO7:=hid (Ow.next (l:=l) (f:=G9) (x:=M.di) hown)
  go_roundw
  case rel=>exact ⟨k+1,_,by omega,by go_num,by rw [List.length_append,hln];rfl,HS7.out,HO7.out⟩
  case measure=>exact zMs
def WkA (s:Stp) (w:World) (e:Ending) (w':World):Prop:=∃ l n A c x y E,e=.returned (.tuple #[.slice A n c,.agg #[vI x,vI y],vI E])∧(E=0→suE s=0)∧Ints w' A n l∧n<=maxLen∧Below w.heap.size w w'
theorem Vn (w:World):BoxS w 0 [] w:=⟨fun i cs hi=>by simp at hi,by simp,AJ _ _,by simp⟩
def AdB (s:Stp) (w:World) (v t:Value) (wr:World):Prop:=∃ (k:Nat) (l:Cs.Wins),k<=s.no.length∧t=vI (k:Int)∧l.length=k∧BoxS w 0 [] wr∧Ow win 2 65 (w.heap.size+0) l v wr
theorem AcI (s:Stp) (w:World) (hl:s.lies w) (hok:s.ok):Calls Tryz.prog 32 #[.agg s.cells.toArray] w (WkA s w):=by
  obtain ⟨i0,hi,hz0,hz1,hz2⟩:=info_parts Fh;have HS:=hid (Dt w s.cells.toArray #[vI 0,vI 0] 35 44);have HC:=hid (fun W (h:BoxS w 2 [s.cells,(lz2 0 0)] W)=>Zo s W (hl.below h.B) hok);have HN:=hid (fun (h:suE s=0)=>And.intro (StN.of hl).no (And.intro (Cq (Cm h) (StN.of hl)) (FC hl (by have:=Cq (Cm h) (StN.of hl);omega))));have HL:=hid hl;have CF:=hid (fun W A S n cn m cm ws st h1 h2 h3 h4 h5 h6=>Iy A S n cn m cm ws st W h1 h2 h3 h4 h5 h6);have GR:=hid (fun W A S n cn m cm ws st h1 h2 h3 h4 h5 h6=>Mr A S n cn m cm ws st W h1 h2 h3 h4 h5 h6);clear hl hok
  go_enter Tryz.func32,Tryz.ntmps32
  go_wp2_with (refine AC (.tmp 1) rfl rfl rfl (HS.out.has 0 _ rfl) ?_)
  refine (HC.out _ HS.out).mono ?_;rintro e' w1 ⟨st,m,E,A,c,rfl,hE,hst,hmc,hcm,hB⟩
  replace HS:=hid (HS.out.below hB);have HST:=hid (And.intro hst (And.intro hmc hcm));clear hB HC hst hmc hcm;have q3:=HS.out.has 1 _ rfl
  by_cases h0:E=0
  rotate_left
  · have HE:=hid h0
    have e1:=Aw h0;have e2:=AL e1;have f0:=q3.fr;have c0:=q3.cell 0 _ rfl;have c1:=q3.cell 1 _ rfl;have Q:=hid (show Has ((w1.setCell ⟨w.heap.size+1,0,none⟩ (vI 0)).setCell ⟨w.heap.size+1,1,none⟩ (vI 0)) _ _ from (q3.set 0 (vI 0) (by simp)).set 1 (vI 0) (by simp));have HB:=hid (show Below w.heap.size w ((w1.setCell ⟨w.heap.size+1,0,none⟩ (vI 0)).setCell ⟨w.heap.size+1,1,none⟩ (vI 0)) from Ab (Ab HS.out.B _ _ (by omega) _) _ _ (by omega) _);clear hE h0 q3
    go_wp2_with fail
    have p0:=Q.out.cell 0 (vI 0) rfl;have p1:=Q.out.cell 1 (vI 0) rfl
    exact bodyPost_ret (v:=.tuple #[.slice none 0 0,.agg #[vI 0,vI 0],vI E]) (by simp [results,Tryz.results32,go_sem,p0,p1]) rfl ⟨[],0,none,0,0,0,E,rfl,fun h=>absurd h HE.out,Ints.nil _,Nat.zero_le _,HB.out⟩
  subst h0;obtain ⟨hno,hn2,b,off,hA⟩:=HN.out (hE rfl);have HEE:=hid (hE rfl);have HNS:=hid (fun W (h:BoxS w 2 [s.cells,(lz2 0 0)] W)=>show W.cell? ⟨w.heap.size,0,none⟩=some (.slice (some ⟨b,off,none⟩) s.sno.n s.sno.c)∧W.cell? ⟨w.heap.size,29,none⟩=some (vI s.lv) from ⟨Dk (h.has 0 _ rfl) hA,FP (h.has 0 _ rfl)⟩);have HND:=hid (fun W (h:BoxS w 2 [s.cells,(lz2 0 0)] W) k (hk:k<s.no.length)=>Ce (HL.out.below h.B) hA hk);have HNO:=hid hno;have hn64:s.no.length<=64:=hn2.2;have k0:=HNS.out _ HS.out;clear hE hno hn2 hA HL HN q3
  go_wp2_with fail
  clear k0;have HY:=hid (fun W (h:BoxS w1 0 [] W)=>HS.out.below h.B)
  go_loopw [7,27] (fun v t wr=>AdB s w1 v t wr) (fun _ t _=>s.no.length - (intOf t).toNat)
  case atStart=>exact ⟨0,[],by omega,rfl,rfl,Vn _,Ow.start _ _ _ _ _⟩
  case round =>
  clear HS;obtain ⟨k,l,hk,rfl,hln,hs,ho⟩:=hrel;have HR:=hid hs;have HS:=hid (HY.out _ hs);have HO:=hid ho;clear hs ho
  by_cases hlt:k<s.no.length
  · have i1:(0:Int)<=(k:Int):=by omega
    have i2:(k:Int)<(s.sno.n:Int):=by have:=HNO.out;omega
    obtain ⟨c0,c1,c2,c3,c4,c5,c6⟩:=HND.out _ HS.out k hlt
    have hlen:l.length<=64:=by omega
    have HK:=hid (fun o=>(HNS.out _ (HS.out.alloc o)).2);generalize Ac s k=M at *;have k1:=HK.out (.cells #[vI M.px,vI M.py,vI M.di,vI M.a0,vI M.a1,vI M.s0,vI M.s1] 67);clear HK
    go_wp2_with (at_builtin;refine wpList_append_own_at _ rfl _ _ 86 rfl (w1.heap.size+0) 65 i0 (.agg #[vI 0,vI 0]) 2 16 Tryz.underlying86 hi hz0 hz1 hz2 rfl (by decide) _ _ _ rfl (((HO.out.alloc _).alloc _).own) ⟨wr.heap.size+1,0,none⟩ 1 1 (lz2 M.a0 (min M.a1 s.lv)) rfl rfl (AY _ _ (by first | rfl | simp) _ _ _ rfl) (by intro u hu;simp at hu;rcases hu with rfl | rfl <;> rfl) (by unfold maxLen;omega) (by omega) (by have:=HR.out.sz;simp;omega) ?_;intro v1 w7 hown hgrow hnil hblk)
    have HR7:=hid (((HR.out.alloc _).alloc _).grown hgrow (fun k hk=>(HO.out.lt hk).1));have HO7:=hid (Ow.next (l:=l) (f:=win) (x:=(M.a0,min M.a1 s.lv)) hown)
    go_roundw
    case rel=>exact ⟨k+1,_,by omega,by go_num,by rw [List.length_append,hln];rfl,HR7.out,HO7.out⟩
    case measure=>exact zMs
  have i2:¬ (k:Int)<(s.sno.n:Int):=by have:=HNO.out;omega
  obtain ⟨A',c',hv,hP,hcap⟩:=HO.out.res Dm hln;have HP:=hid hP;have HQ:=hid (HST.out.1.below HR.out.B);have CF2:=hid (CF.out wr A' A k c' m c l st HP.out HQ.out (by unfold maxLen;omega) (Nat.le_trans HST.out.2.1 HST.out.2.2) HST.out.2.1 HST.out.2.2);subst hv;clear hP hcap HO HY CF
  go_wp2_with fail
  refine CF2.out.mono ?_;rintro e' w3 ⟨rfl,hB⟩
  replace HS:=hid (HS.out.below hB);replace HP:=hid (HP.out.below hB);replace HQ:=hid (HQ.out.below hB);clear hB CF2;generalize (cfP l st).1=x at *;generalize (cfP l st).2=y at *;generalize cfB l st=B at *;generalize Cs.chkE l st=CE at *;have hne:=Nat.ne_of_lt (HS.out.has 1 _ rfl).lt;have Q:=hid (Has.new w3 #[vI x,vI y] 44);replace HS:=hid (HS.out.alloc (.cells #[vI x,vI y] 44));replace HP:=hid (HP.out.below (Aa _ (.cells #[vI x,vI y] 44)));replace HQ:=hid (HQ.out.below (Aa _ (.cells #[vI x,vI y] 44)));have GR2:=hid (GR.out (w3.alloc (.cells #[vI x,vI y] 44)) A' A k c' m c l st HP.out HQ.out (by unfold maxLen;omega) (Nat.le_trans HST.out.2.1 HST.out.2.2) HST.out.2.1 HST.out.2.2);clear GR HP HQ HST
  cases B
  · go_wp2_with fail
    refine GR2.out.mono ?_;rintro e' w5 ⟨h1,h2,hB⟩
    replace HS:=hid (HS.out.below hB);clear hB GR2
    obtain ⟨A3,n3,c3,E3,l3,rfl,hI,hn3⟩:∃ A3 n3 c3 E3 l3,e'=.returned (.tuple #[.slice A3 n3 c3,vI E3])∧Ints w5 A3 n3 l3∧n3<=maxLen:=by
      by_cases ht:Cs.tgE l st=0
      · obtain ⟨A3,c3,h,hI⟩:=h1 ht
        exact ⟨A3,k,c3,0,_,h,hI,by unfold maxLen;omega⟩
      · exact ⟨none,0,0,_,[],h2 ht,Ints.nil _,Nat.zero_le _⟩
    have q3:=HS.out.has 1 _ rfl;have f0:=q3.fr;have c0:=q3.cell 0 _ rfl;have c1:=q3.cell 1 _ rfl;have R:=hid (show Has ((w5.setCell ⟨w.heap.size+1,0,none⟩ (vI 0)).setCell ⟨w.heap.size+1,1,none⟩ (vI 0)) _ _ from (q3.set 0 (vI 0) (by simp)).set 1 (vI 0) (by simp));have HI:=hid (show Ints ((w5.setCell ⟨w.heap.size+1,0,none⟩ (vI 0)).setCell ⟨w.heap.size+1,1,none⟩ (vI 0)) A3 n3 l3 from (hI.same c0).same ((q3.set 0 (vI 0) (by simp)).cell 1 _ rfl));have HB:=hid (show Below w.heap.size w ((w5.setCell ⟨w.heap.size+1,0,none⟩ (vI 0)).setCell ⟨w.heap.size+1,1,none⟩ (vI 0)) from Ab (Ab HS.out.B _ _ (by omega) _) _ _ (by omega) _);clear hI q3 h1 h2
    go_wp2_with fail
    have p0:=R.out.cell 0 (vI 0) rfl;have p1:=R.out.cell 1 (vI 0) rfl
    exact bodyPost_ret (v:=.tuple #[.slice A3 n3 c3,.agg #[vI 0,vI 0],vI 0]) (by simp [results,Tryz.results32,go_sem,p0,p1]) rfl ⟨l3,n3,A3,c3,0,0,0,rfl,fun _=>HEE.out,HI.out,hn3,HB.out⟩
  · go_wp2_with fail
    have q3:=(HS.out.has 1 _ rfl).drew
    refine rS (fun W=>Below w.heap.size w W∧Has W w3.heap.size (lz2 x y)) 4 ⟨HS.out.B.drew,Q.out.drew⟩ (fun hHeld=>?_)
    generalize hW0:World.drew _=w4 at *;clear hW0 HS Q;have FA:=fun W (h:Below w.heap.size w W∧Has W w3.heap.size (lz2 x y))=>And.intro (h.2.cell 0 (vI x) rfl) (h.2.cell 1 (vI y) rfl)
    repeat (first | refine rQ ?_ | refine rF ?_)
    have f0:=q3.fr;have c0:=q3.cell 0 _ rfl;have c1:=q3.cell 1 _ rfl
    refine rEk ?_
    intro K hK
    refine rEt hK ⟨Ab (Ab hHeld.1 _ _ (by omega) (vI x)) _ _ (by omega) (vI y),(hHeld.2.other (w.heap.size+1) 0 (vI x) hne.symm).other (w.heap.size+1) 1 (vI y) hne.symm⟩ ?_
    clear hK K f0 c0 c1 FA hHeld
    intro hHeld
    have q4:Has _ (w.heap.size+1) (lz2 x y):=(q3.set 0 (vI x) (by simp)).set 1 (vI y) (by simp);generalize hW0:World.setCell _ _ _=w5 at *;clear hW0;have p0:=q4.cell 0 (vI x) rfl;have p1:=q4.cell 1 (vI y) rfl
    repeat refine rQ ?_
    refine rD ?_
    go_wp2_with fail
    exact bodyPost_ret (v:=.tuple #[.slice none 0 0,.agg #[vI x,vI y],vI 11]) (by simp [results,Tryz.results32,go_sem,p0,p1]) rfl ⟨[],0,none,0,x,y,11,rfl,fun h=>absurd h (by decide),Ints.nil _,Nat.zero_le _,hHeld.1⟩
def WkR (w:World) (e:Ending) (w':World):Prop:=∃ ps n A c x y b E,e=.returned (.tuple #[.agg #[.slice A n c,vI x,vI y,.bool b],vI E])∧Passes w' A n ps∧n<=maxLen∧Below w.heap.size w w'∧Ow Pass.cells 13 52 w.heap.size ps (.slice A n c) w'
theorem AeD (x y:Int) (b:Bool) (E:Int) {w w':World} (hb:Below w.heap.size w w'):WkR w (.returned (.tuple #[.agg #[.slice none 0 0,vI x,vI y,.bool b],vI E])) w':=⟨[],0,none,0,x,y,b,E,rfl,Recs.nil _ _ _,Nat.zero_le _,hb,Ow.start _ _ _ _ _⟩
theorem Aey {W w:World} {b:Nat} {l:List Value} (h:Has W b l) (hB:Below w.heap.size w W) (hb:w.heap.size<=b) (hl:l.length=4) (v0 v1 v2 v3:Value):Has ((((W.setCell ⟨b,0,none⟩ v0).setCell ⟨b,1,none⟩ v1).setCell ⟨b,2,none⟩ v2).setCell ⟨b,3,none⟩ v3) b [v0,v1,v2,v3]∧Below w.heap.size w ((((W.setCell ⟨b,0,none⟩ v0).setCell ⟨b,1,none⟩ v1).setCell ⟨b,2,none⟩ v2).setCell ⟨b,3,none⟩ v3) :=
 match l,hl with
 | [_,_,_,_],_=>⟨(((h.set 0 v0 (by simp)).set 1 v1 (by simp)).set 2 v2 (by simp)).set 3 v3 (by simp),Ab (Ab (Ab (Ab hB _ _ hb _) _ _ hb _) _ _ hb _) _ _ hb _⟩
theorem rnZ {G:Prop} (h:G:=by
 have q2:=HS.out.has 1 _ rfl;have f0:=q2.fr;have c0:=q2.cell 0 _ rfl;have c1:=q2.cell 1 _ rfl;have c2:=q2.cell 2 _ rfl;have c3:=q2.cell 3 _ rfl;have Q:=hid (fun v0 v1 v2 v3=>Aey q2 HS.out.B (by omega) rfl v0 v1 v2 v3);clear q2 HS
 go_wp2_with fail
 obtain ⟨r,hB⟩:=Q.out (.slice none 0 0) (vI X) (vI Y) (.bool BB);have p0:=r.cell 0 _ rfl;have p1:=r.cell 1 _ rfl;have p2:=r.cell 2 _ rfl;have p3:=r.cell 3 _ rfl;generalize hW0:World.setCell _ _ _=W5 at *;clear hW0
 exact bodyPost_ret (v:=.tuple #[.agg #[.slice none 0 0,vI X,vI Y,.bool BB],vI EE]) (by simp [X,Y,BB,EE,results,Tryz.results9,go_sem,p0,p1,p2,p3]) rfl (AeD _ _ _ _ hB)):G:=h
theorem AfD (s:Stp) (w:World) (hl:s.lies w) (hok:s.ok) (hc:s.sno.n<=s.sno.c):Calls Tryz.prog 9 #[.agg s.cells.toArray] w (WkR w):=by
 have HS:=hid (Dt w s.cells.toArray #[.slice none 0 0,vI 0,vI 0,.bool false] 35 46);have HA:=hid (fun W (h:BoxS w 2 [s.cells,[.slice none 0 0,vI 0,vI 0,.bool false]] W)=>AcI s W (hl.below h.B) hok);have HP:=hid (fun W (h:BoxS w 2 [s.cells,[.slice none 0 0,vI 0,vI 0,.bool false]] W) A n c al ha hn=>Xb s A n c al W (hl.below h.B) hok ha hn);have HL:=hid (fun W (h:BoxS w 2 [s.cells,[.slice none 0 0,vI 0,vI 0,.bool false]] W) (hE:suE s=0)=>Aeq s W (hl.below h.B) hok (Cm hE) hc);have HT:=hid (fun W A n c d a b hd hn=>Xe A n c d a b W hd hn);have CF:=hid (fun W A S n cn m cm ws st h1 h2 h3 h4 h5 h6=>Iy A S n cn m cm ws st W h1 h2 h3 h4 h5 h6);have GR:=hid (fun W A S n cn m cm ws st h1 h2 h3 h4 h5 h6=>Mr A S n cn m cm ws st W h1 h2 h3 h4 h5 h6);have HW:=hid (fun W (h:BoxS w 2 [s.cells,[.slice none 0 0,vI 0,vI 0,.bool false]] W) A A2 n c n' d al sp ha hb hn hn'=>AcJ s A A2 n c n' d al sp W (hl.below h.B) hok ha hb hn hn');have HX:=hid (fun W (h:BoxS w 2 [s.cells,[.slice none 0 0,vI 0,vI 0,.bool false]] W)=>show Has W w.heap.size s.cells from h.has 0 _ rfl);clear hl hok hc
 go_enter Tryz.func9,Tryz.ntmps9
 go_wp2_with (refine AC (.tmp 1) rfl rfl rfl (HS.out.has 0 _ rfl) ?_)
 refine (HA.out _ HS.out).mono ?_;rintro e' w1 ⟨al,n,A,c,x,y,E,rfl,hE,ha,hn,hB⟩
 replace HS:=hid (HS.out.below hB);clear hB HA
 by_cases h0:E=0
 rotate_left
 ·have e1:=Aw h0
  have e2:=AL e1;have q2:=HS.out.has 1 _ rfl;clear hE h0 ha hn HP HL HT CF GR HW;replace HS:=hid (HS.out.alloc (.cells #[vI x,vI y] 44))
  let X:=x
  let Y:=y
  let BB:=false
  let EE:=E
  exact rnZ
 subst h0;have HEE:=hid (hE rfl);have HI:=hid (ha.below (Aa w1 (.cells #[vI x,vI y] 44)));replace HS:=hid (HS.out.alloc (.cells #[vI x,vI y] 44));clear hE ha
 go_wp2_with (refine AC (.tmp 1) rfl rfl rfl (HS.out.has 0 _ rfl) ?_)
 refine (HP.out _ HS.out _ _ _ _ HI.out hn).mono ?_;rintro e' w2 ⟨A2,c2,rfl,hws,hcap,hB⟩
 replace HS:=hid (HS.out.below hB);replace HI:=hid (HI.out.below hB);have HWS:=hid hws
 have hn2:okN (sdE s al) n<=maxLen:=by unfold okN;split <;> omega
 clear hB HP hws hcap;generalize okL (sdE s al) (sdL s al)=ws at *;generalize okN (sdE s al) n=n2 at *;generalize sdE s al=E2 at *
 go_wp2_with fail
 refine rS (fun W=>BoxS w 2 [s.cells,[.slice none 0 0,vI 0,vI 0,.bool false]] W) 12 HS.out.drew (fun hHeld=>?_)
 replace HI:=hid (HI.out.below (AJ _ _).drew);replace HWS:=hid (HWS.out.below (AJ _ _).drew);generalize hW0:World.drew _=w3 at *;clear hW0 HS;have FA:=fun W (h:BoxS w 2 [s.cells,[.slice none 0 0,vI 0,vI 0,.bool false]] W)=>And.intro (Oh (HX.out W h)) (Oi (HX.out W h))
 refine rY (FM (.tmp 1) rfl rfl rfl (fun W hW=>HX.out W hW)) ?_
 repeat (first | refine rQ ?_ | refine rF ?_)
 refine rEk ?_
 intro K hK
 refine (HL.out _ hHeld HEE.out).mono ?_;rintro e2 w4 ⟨ds,nd,Ad,cd,rfl,hd,hnd,hB⟩
 go_wp2_with fail
 have HD:=hid hd;replace HI:=hid (HI.out.below hB);replace HWS:=hid (HWS.out.below hB)
 refine rEt hK (hHeld.below hB) ?_
 clear hK K hHeld hB hd
 intro hHeld
 repeat (first | refine rQ ?_ | refine rF ?_)
 refine rEk ?_
 intro K hK
 refine (HT.out _ _ _ _ _ _ _ HD.out hnd).mono ?_;rintro e2 w5 ⟨A3,c3,rfl,hst,hc3,hB⟩
 go_wp2_with fail
 have HST:=hid hst;replace HI:=hid (HI.out.below hB);replace HWS:=hid (HWS.out.below hB)
 refine rEt hK (hHeld.below hB) ?_
 clear hK K hHeld hB hst HD
 intro hHeld
 repeat (first | refine rQ ?_ | refine rF ?_)
 refine rD ?_
 have HS:=hid hHeld;have hm3:=Nat.le_trans hc3.le hc3.mx;have hc31:=hc3.le;have hc32:=hc3.mx;clear hHeld FA hc3;generalize okL _ _=st at *;generalize okN _ _=n3 at *;generalize Sp.stE _ _ _=E3 at *
 go_wp2_with fail
 refine (CF.out _ _ _ _ _ _ _ _ _ HWS.out HST.out hn2 hm3 hc31 hc32).mono ?_;rintro e2 w6 ⟨rfl,hB⟩
 generalize (cfP ws st).1=x2 at *;generalize (cfP ws st).2=y2 at *;generalize cfB ws st=B at *;generalize Cs.chkE ws st=CE at *;replace hB:=Bh hB (.cells #[vI x2,vI y2] 44);replace HS:=hid (HS.out.below hB);replace HI:=hid (HI.out.below hB);replace HWS:=hid (HWS.out.below hB);replace HST:=hid (HST.out.below hB);clear hB CF
 cases B
 rotate_left
 ·let X:=x2
  let Y:=y2
  let BB:=true
  let EE:=(11:Int)
  clear HI HWS HST HL HT GR HW
  exact rnZ
 have HG:=hid (fun W1 (h:Below _ _ W1)=>GR.out W1 A2 A3 n2 c2 n3 c3 ws st (HWS.out.below h) (HST.out.below h) hn2 hm3 hc31 hc32);clear GR HWS HST HL HT HEE
 go_wp2_with fail
 refine (HG.out _ (AJ _ _)).mono ?_;rintro e2 w7 ⟨h1,h2,hB⟩
 obtain ⟨A4,n4,c4,E4,l4,rfl,hI,hn4⟩:∃ A3 n3 c3 E3 l3,e2=.returned (.tuple #[.slice A3 n3 c3,vI E3])∧Ints w7 A3 n3 l3∧n3<=maxLen:=by
  by_cases ht:Cs.tgE ws st=0
  ·obtain ⟨A3,c3,h,hI⟩:=h1 ht
   exact ⟨A3,_,c3,0,_,h,hI,hn2⟩
  ·exact ⟨none,0,0,_,[],h2 ht,Ints.nil _,Nat.zero_le _⟩
 replace HS:=hid (HS.out.below hB);replace HI:=hid (HI.out.below hB);have HJ:=hid hI;clear hB HG h1 h2 hI
 go_wp2_with (refine AC (.tmp 1) rfl rfl rfl (HS.out.has 0 _ rfl) ?_)
 refine (HW.out _ HS.out _ _ _ _ _ _ _ _ HI.out HJ.out hn hn4).mono ?_;rintro e2 w8 ⟨A5,c5,rfl,hP,hcp,hB,hO⟩
 have hN:=HS.out.sz;replace HS:=hid (HS.out.below hB);have HPO:=hid (And.intro hP (And.intro (Nat.le_trans hcp.le hcp.mx) hO));clear hB hP hcp hO HW HI HJ;generalize okL _ _=ps at *;generalize okN _ _=n5 at *;generalize wtE _ _ _=E5 at *
 by_cases h5:E5=0
 rotate_left
 ·have e1:=Aw h5
  have e2:=AL e1
  let X:=(0:Int)
  let Y:=(0:Int)
  let BB:=false
  let EE:=E5
  clear h5 HPO
  exact rnZ
 subst h5;have q2:=HS.out.has 1 _ rfl;have f0:=q2.fr;have c0:=q2.cell 0 _ rfl;have c1:=q2.cell 1 _ rfl;have c2:=q2.cell 2 _ rfl;have c3:=q2.cell 3 _ rfl;have Q:=hid (Aey q2 HS.out.B (by omega) rfl (.slice A5 n5 c5) (vI 0) (vI 0) (.bool false));have O:=hid ((((HPO.out.2.2.set ⟨w.heap.size+1,0,none⟩ (.slice A5 n5 c5) hN).set ⟨w.heap.size+1,1,none⟩ (vI 0) hN).set ⟨w.heap.size+1,2,none⟩ (vI 0) hN).set ⟨w.heap.size+1,3,none⟩ (.bool false) hN);clear q2
 go_wp2_with fail
 obtain ⟨r,hB⟩:=Q.out;have p0:=r.cell 0 _ rfl;have p1:=r.cell 1 _ rfl;have p2:=r.cell 2 _ rfl;have p3:=r.cell 3 _ rfl;generalize hW0:World.setCell _ _ _=W5 at *;clear hW0;obtain ⟨A',c',hv,hP,-⟩:=O.out.res (show ∀ x:Pass,x.cells.length=13 from fun _=>rfl) HPO.out.1.len
 injection hv with hv _ _
 subst hv
 exact bodyPost_ret (v:=.tuple #[.agg #[.slice A5 n5 c5,vI 0,vI 0,.bool false],vI 0]) (by simp [results,Tryz.results9,go_sem,p0,p1,p2,p3]) rfl ⟨ps,n5,A5,c5,0,0,false,0,rfl,hP,HPO.out.2.1,hB,⟨NQ O.out.own (by omega)⟩⟩
