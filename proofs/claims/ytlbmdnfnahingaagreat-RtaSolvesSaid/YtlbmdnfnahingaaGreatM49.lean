/- M49: RfSp, RfSt, RfRn in one text. -/
import Derived.Test.YtlbmdnfnahingaaGreatM46
import Derived.Test.YtlbmdnfnahingaaGreatM29
set_option linter.unusedSimpArgs false
set_option linter.unusedVariables false
set_option maxRecDepth 100000
set_option maxHeartbeats 8000000
namespace Go.Proofs.YtlbmdnfnahingaaGreat
open Go.RowKit
open Go.Lib (hid)
theorem AbX {W:World} {v:Value} {a b:Int} {t:TypeId} (h:a=b):W.alloc (.cells #[v,vI a] t)=W.alloc (.cells #[v,vI b] t):=by rw [h]
theorem Xb (s:Stp) (A:Option Addr) (n c:Nat) (al:List Int) (w:World) (hl:s.lies w) (hok:s.ok) (hal:Ints w A n al) (hn:n<=maxLen):Calls Tryz.prog 22 #[.agg s.cells.toArray,.slice A n c] w (FY (okL (sdE s al) (sdL s al)) (okN (sdE s al) n) (sdE s al) w):=by
 obtain ⟨i0,hi,hz0,hz1,hz2⟩:=info_parts Fh;have HS:=hid (DR w s.cells.toArray 35);have HC:=hid (fun W (h:BoxS w 1 [s.cells] W)=>I5 s W (hl.below h.B) hok)
 by_cases hE:suE s=0
 rotate_left
 ·have HX:=hid (Xo (al:=al) hE)
  generalize suE s=E at *;have e1:=Aw hE;have e2:=AL e1;have HE:=hid hE;clear hl hok hE hal hn
  go_enter Tryz.func22,Tryz.ntmps22
  go_wp2_with (refine AC (.tmp 2) rfl rfl rfl (HS.out.has 0 _ rfl) ?_)
  refine (HC.out _ HS.out).mono ?_;rintro e' w1 ⟨rfl,hB⟩
  have HB:=hid (Ae HS.out.B hB);clear hB
  go_wp2_with fail
  go_ret2
  exact Ca HX.out HE.out HB.out
 have G:=Cm hE;have N:=StN.of hl;have hno:=N.no;have hn2:=Cq G N
 rw [hE] at HC
 have HEE:=hid hE;obtain ⟨b,off,hA⟩:=FC hl (by omega);have HNS:=hid (fun W (h:BoxS w 1 [s.cells] W)=>show W.cell? ⟨w.heap.size,0,none⟩=some (.slice (some ⟨b,off,none⟩) s.sno.n s.sno.c) from Dk (h.has 0 _ rfl) hA);have hlen:=hal.len
 unfold maxLen at hn
 by_cases hnn:n=s.no.length
 rotate_left
 ·have HX:=hid (Aa4 hE (show al.length≠s.no.length by omega))
  have g1:((n:Int) == (s.sno.n:Int))=false:=Aw (by omega);have g2:=AL g1;clear hl hok hE hal G N hA hno hn2 hlen hnn
  go_enter Tryz.func22,Tryz.ntmps22
  go_wp2_with (refine AC (.tmp 2) rfl rfl rfl (HS.out.has 0 _ rfl) ?_)
  refine (HC.out _ HS.out).mono ?_;rintro e' w1 ⟨rfl,hB⟩
  replace HS:=hid (HS.out.below hB);have k0:=HNS.out _ HS.out;clear hB
  go_wp2_with fail
  go_ret2
  exact Ca HX.out (by decide) HS.out.B
 have HLEN:=hid hlen;have HNN:=hid (show al.length=s.no.length by omega);have HN2:=hid (show n=s.no.length∧n=s.sno.n from ⟨hnn,by omega⟩)
 have g1:((n:Int) == (s.sno.n:Int))=true:=by rw [show n=s.sno.n by omega];simp
 have g2:((n:Int) != (s.sno.n:Int))=false:=by rw [bne,g1];rfl
 have hn64:n<=64:=by omega
 have HND:=hid (fun W (h:BoxS w 1 [s.cells] W) k (hk:k<n)=>Ce (hl.below h.B) hA (k:=k) (by omega));have HAL:=hid hal;have HWH:=hid (fun W (h:BoxS w 1 [s.cells] W)=>show Has W w.heap.size s.cells from h.has 0 _ rfl);have HM:=hid (fun W=>Ti s.ac W);have HMI:=hid (fun W (h:BoxS w 1 [s.cells] W)=>UG s.pf s.ac.mass W (hl.below h.B).pf hok.pf);have HMA:=hid (fun W (h:BoxS w 1 [s.cells] W) a=>UF s.pf a W (hl.below h.B).pf hok.pf);clear hl hok hE hal G N hA hno hn2 hlen hnn;generalize hMN:JW s.pf s.ac.mass=MN at *;have HMN:=hid hMN;clear hMN
 go_enter Tryz.func22,Tryz.ntmps22
 go_wp2_with (refine AC (.tmp 2) rfl rfl rfl (HS.out.has 0 _ rfl) ?_)
 refine (HC.out _ HS.out).mono ?_;rintro e' w1 ⟨rfl,hB⟩
 replace HS:=hid (HS.out.below hB);have k0:=HNS.out _ HS.out;clear hB HC
 go_wp2_with fail
 clear k0
 refine rS (fun W=>BoxS w 1 [s.cells] W) 11 HS.out.drew (fun hHeld=>?_)
 refine rQ ?_
 refine rKy rfl rfl (RF (.tmp 27) rfl rfl rfl (fun W hW=>HWH.out W hW)) ?_
 refine rQ ?_
 refine rKy rfl rfl (Yb (.tmp 29) rfl rfl rfl (fun W hW=>HWH.out W hW)) ?_
 refine rE rfl (fun K hK=>?_)
 go_simp
 refine (HM.out _).mono ?_;rintro e2 w4 ⟨rfl,hB⟩
 go_wp2_with fail
 refine hK.out _ _ (hHeld.below hB) ?_
 clear hK K hB hHeld
 intro hHeld
 simp only [Act.put,pa,pb,pc]
 refine rE rfl (fun K hK=>?_)
 go_simp
 refine (HMI.out _ hHeld).mono ?_;rintro e2 w5 ⟨rfl,hB⟩
 go_wp2_with fail
 refine hK.out _ _ (hHeld.below hB) ?_
 clear hK K hB hHeld
 intro hHeld
 simp only [Act.put,pa,pb,pc]
 iterate 5 refine rQ ?_
 refine rD ?_
 replace HS:=hid hHeld;have k0:=HNS.out _ HS.out;clear hHeld g1 g2 HM HMI
 go_wp2_with fail
 clear k0
 go_loopw [9,38] (fun v t wr=>Vd s al n w v t wr) (fun _ t _=>n - (intOf t).toNat)
 case atStart=>exact ⟨0,by omega,rfl,by simp,HS.out,Ow.start _ _ _ _ _⟩
 case round =>
 obtain ⟨k,hk,rfl,hall,hs,ho⟩:=hrel;replace HS:=hid hs;have HO:=hid ho;have HALL:=hid hall;clear hs ho hall
 by_cases hlt:k<n
 rotate_left
 ·have HE:=hid (Aa3 HEE.out HNN.out (by have h:=HALL.out;rw [CY (by rw [HLEN.out];omega)] at h;exact h))
  have HO2:=hid (show Ow win 2 53 (w.heap.size+1) (sdL s al) _ wr from by have h:=HO.out;rwa [CY (by rw [CV HNN.out];have:=HN2.out;omega)] at h);obtain ⟨A',c',hv,hP,hcap⟩:=HO2.out.res Dm (show (sdL s al).length=n from by rw [CV HNN.out];exact HN2.out.1.symm);have HP:=hid (And.intro hP hcap)
  have i2:¬ (k:Int)<(s.sno.n:Int):=by have:=HN2.out;omega
  subst hv;clear hP hcap HO HO2
  go_wp2_with fail
  go_ret2
  exact IY HE.out ⟨A',c',rfl,HP.out⟩ HS.out.B
 have HTK:=hid (PH (s:=s) HNN.out (k:=k) (by have:=HN2.out.1;omega));obtain ⟨x,hx⟩:=Am HLEN.out hlt;obtain ⟨bx,ox,hbx,hbl,cx⟩:=BZ HAL.out hx;have HXX:=hid hx;have HCX:=hid (fun W (h:BoxS w 1 [s.cells] W)=>(h.B.cell (p:=⟨bx,ox+k,none⟩) hbl).trans cx);have HLN2:=hid (show ((sdL s al).take k).length<=64 from by rw [List.length_take];omega)
 have HSF:=hid (show sdF s (Ac s k) x=(max (Ac s k).s0 MN,if x<s.la then min (min (Ac s k).s1 (min s.cas (FV s.pf x))) s.ls else min (Ac s k).s1 (min s.cas (FV s.pf x))) from by rw [← HMN.out,← Int.min_assoc];rfl)
 rw [Ah hx] at HTK
 rw [hbx]
 have i1:(0:Int)<=(k:Int):=by omega
 have i2:(k:Int)<(s.sno.n:Int):=by have:=HN2.out.2;omega
 have i3:(k:Int)<(n:Int):=by omega
 obtain ⟨n0,n1,n2,n3,n4,n5,n6⟩:=HND.out _ HS.out k hlt;have cy:∀ o,(wr.alloc o).cell? ⟨bx,ox+k,none⟩=some (vI x):=fun o=>HCX.out _ (HS.out.alloc o);clear hx hbx cx hbl;generalize Ac s k=N at *
 go_wp2_with fail
 all_goals try (go_ret2;exact Ca (Aa5 HEE.out HNN.out (Au HXX.out) (by rw [Dz];omega)) (by decide) (HS.out.alloc _).B)
 have HIN:=hid (show -200000<=x∧x<=6000000 by omega);have Q:Hid (Has (wr.alloc (.cells #[vI N.px,vI N.py,vI N.di,vI N.a0,vI N.a1,vI N.s0,vI N.s1] 96)) wr.heap.size N.cells):=hid (Has.new _ _ _);replace HS:=hid (HS.out.alloc (.cells #[vI N.px,vI N.py,vI N.di,vI N.a0,vI N.a1,vI N.s0,vI N.s1] 96));replace HO:=hid (HO.out.alloc (.cells #[vI N.px,vI N.py,vI N.di,vI N.a0,vI N.a1,vI N.s0,vI N.s1] 96));clear cy n0 n1 n2 n3 n4 n5 n6;generalize wr.alloc (.cells #[vI N.px,vI N.py,vI N.di,vI N.a0,vI N.a1,vI N.s0,vI N.s1] 96)=w6 at *;generalize wr.heap.size=H11 at *
 refine rS (fun W=>BoxS w 1 [s.cells] W) 12 HS.out.drew (fun hHeld=>?_)
 have FA:=fun W (h:BoxS w 1 [s.cells] W)=>HCX.out W h
 refine rQ ?_
 refine rKy rfl rfl (RF (.tmp 56) rfl rfl rfl (fun W hW=>HWH.out W hW)) ?_
 iterate 3 refine rQ ?_
 refine rF ?_
 refine rE rfl (fun K hK=>?_)
 go_simp
 refine (HMA.out _ hHeld x).mono ?_;rintro e2 w7 ⟨rfl,hB⟩
 replace Q:=hid (Q.out.drew.below hB);replace HO:=hid (HO.out.drew.below hB)
 go_wp2_with fail
 refine hK.out _ _ (hHeld.below hB) ?_
 clear hK K hB hHeld
 intro hHeld
 simp only [Act.put,pa,pb,pc]
 iterate 5 refine rQ ?_
 refine rD ?_
 replace HS:=hid hHeld;clear hHeld;generalize FV s.pf x=MX at *;have c5:=Q.out.cell 5 (vI N.s0) rfl;have c6:=Q.out.cell 6 (vI N.s1) rfl;have k30:=IA (HWH.out _ HS.out)
 go_upto_region 14 with fail
 go_cut [14] (fun p wx=>p=.pointer (some ⟨w7.heap.size,0,none⟩)∧w7.alloc (.cells #[vI (max N.s0 MN),vI (min N.s1 (min s.cas MX))] 53)=wx)
 case first =>
  go_wp2_with fail
  all_goals (go_meet;exact ⟨rfl,AbX (by omega)⟩)
 case rest =>
 obtain ⟨rfl,rfl⟩:=hcut;clear c5 c6 k30 Q FA
 go_upto_region 15 with fail
 have T:Hid (Has (w7.alloc (.cells #[vI (max N.s0 MN),vI (min N.s1 (min s.cas MX))] 53)) w7.heap.size (lz2 (max N.s0 MN) (min N.s1 (min s.cas MX)))):=hid (Has.new _ _ _);have HOB:=hid (show ∀ k,_→k≠w7.heap.size from fun k hk=>Nat.ne_of_lt (HO.out.lt hk).2);have hge:w.heap.size+1<=w7.heap.size:=HS.out.sz;replace HS:=hid (HS.out.alloc (.cells #[vI (max N.s0 MN),vI (min N.s1 (min s.cas MX))] 53));replace HO:=hid (HO.out.alloc (.cells #[vI (max N.s0 MN),vI (min N.s1 (min s.cas MX))] 53));generalize w7.alloc (.cells #[vI (max N.s0 MN),vI (min N.s1 (min s.cas MX))] 53)=w8 at *;generalize w7.heap.size=H9 at *;generalize min N.s1 (min s.cas MX)=HI at *
 refine rS (fun W=>BoxS w 1 [s.cells] W) 7 HS.out.drew (fun hHeld=>?_)
 have FA:=fun W (h:BoxS w 1 [s.cells] W)=>And.intro (HCX.out W h) (TC (HWH.out W h))
 iterate 3 refine rQ ?_
 refine rF ?_
 refine rQ ?_
 refine rF ?_
 refine rQ ?_
 refine rD ?_
 replace HS:=hid hHeld;replace T:=hid T.out.drew;replace HO:=hid HO.out.drew;clear hHeld FA;generalize w8.drew=w9 at *;have k35:=TD (HWH.out _ HS.out);have t0:=T.out.cell 0 _ rfl;have t1:=T.out.cell 1 _ rfl;have tf:=T.out.fr;have hlen2:=HLN2.out;generalize sdF s N x=SF at *;generalize (sdL s al).take k=LL at *
 by_cases hla:x<s.la
 ·rw [if_pos hla] at HSF
  have HHX:=hid (fun v=>T.out.set 1 v (by simp))
  go_wp2_with (at_builtin;refine wpList_append_own_at _ rfl _ _ 66 rfl (w.heap.size+1) 53 i0 (.agg #[vI 0,vI 0]) 2 16 Tryz.underlying66 hi hz0 hz1 hz2 rfl (by decide) _ _ _ rfl (((HO.out.setNe ⟨H9,1,none⟩ (vI (min HI s.ls)) HOB.out).alloc _).own) ⟨w9.heap.size,0,none⟩ 1 1 (lz2 (max N.s0 MN) (min HI s.ls)) rfl rfl (AY _ _ (by first | rfl | simp) _ _ _ rfl) (by intro u hu;simp at hu;rcases hu with rfl | rfl <;> rfl) (by unfold maxLen;omega) (by omega) (by have:=HS.out.sz;simp;omega) ?_;intro v1 wz hown hgrow hnil hblk)
  have HS7:=hid (((HS.out.set H9 1 hge (vI (min HI s.ls))).alloc _).grown hgrow (fun k hk=>(HO.out.lt hk).1));have HO7:=hid (Ow.next (l:=LL) (f:=win) (x:=(max N.s0 MN,min HI s.ls)) hown)
  go_roundw
  case rel=>exact ⟨k+1,by omega,by go_num,Et HALL.out HXX.out HIN.out,HS7.out,by rw [HTK.out,HSF.out];exact HO7.out⟩
  case measure=>exact zMs
 ·rw [if_neg hla] at HSF
  go_wp2_with (at_builtin;refine wpList_append_own_at _ rfl _ _ 66 rfl (w.heap.size+1) 53 i0 (.agg #[vI 0,vI 0]) 2 16 Tryz.underlying66 hi hz0 hz1 hz2 rfl (by decide) _ _ _ rfl ((HO.out.alloc _).own) ⟨w9.heap.size,0,none⟩ 1 1 (lz2 (max N.s0 MN) HI) rfl rfl (AY _ _ (by first | rfl | simp) _ _ _ rfl) (by intro u hu;simp at hu;rcases hu with rfl | rfl <;> rfl) (by unfold maxLen;omega) (by omega) (by have:=HS.out.sz;simp;omega) ?_;intro v1 wz hown hgrow hnil hblk)
  have HS7:=hid ((HS.out.alloc _).grown hgrow (fun k hk=>(HO.out.lt hk).1));have HO7:=hid (Ow.next (l:=LL) (f:=win) (x:=(max N.s0 MN,HI)) hown)
  go_roundw
  case rel=>exact ⟨k+1,by omega,by go_num,Et HALL.out HXX.out HIN.out,HS7.out,by rw [HTK.out,HSF.out];exact HO7.out⟩
  case measure=>exact zMs
