/- M61: RfSx, RfR8 in one text. -/
import Derived.Test.YtlbmdnfnahingaaGreatM44
import Derived.Test.YtlbmdnfnahingaaGreatM47
import Derived.Test.YtlbmdnfnahingaaGreatM21
import Derived.Test.YtlbmdnfnahingaaGreatM30
import Derived.Test.YtlbmdnfnahingaaGreatM49
import Derived.Test.YtlbmdnfnahingaaGreatM48
set_option linter.unusedSimpArgs false
set_option linter.unusedVariables false
set_option maxRecDepth 100000
set_option maxHeartbeats 8000000
namespace Go.Proofs.YtlbmdnfnahingaaGreat
open Go.RowKit
open Go.Lib (hid)
theorem Ahj (a b:Int) (ha : -1000<=a∧a<=1000) (hb : -1000<=b∧b<=1000) (w:World):Calls Tryz.prog 204 #[.agg #[vI a,vI b]] w fun e' w'=>e'=.returned (vI (grt a b))∧Below w.heap.size w w':=by
  have HV:=hid (show max (Oa (a.natAbs:Int)) (Oa (b.natAbs:Int))=grt a b from by rw [Gm (show I64 _ from ⟨by omega,by omega⟩),Gm (show I64 _ from ⟨by omega,by omega⟩)];rfl);have BP:=hid (Has.new w #[vI a,vI b] 46);have CA:=hid (fun W=>rAbs a ⟨by omega,by omega⟩ W);have CB:=hid (fun W=>rAbs b ⟨by omega,by omega⟩ W);have HB:=hid (Aa w (.cells #[vI a,vI b] 46));clear ha hb;generalize grt a b=GG at *;generalize Oa (a.natAbs:Int)=u at *;generalize Oa (b.natAbs:Int)=v at *
  go_enter Tryz.func204,Tryz.ntmps204
  go_wp2_with fail
  have FA:=fun W (h:Has W w.heap.size (lz2 a b)∧Below w.heap.size w W)=>And.intro (h.1.cell 0 (vI a) rfl) (h.1.cell 1 (vI b) rfl)
  refine rS (fun W=>Has W w.heap.size (lz2 a b)∧Below w.heap.size w W) 8 ⟨BP.out.drew,HB.out.drew⟩ (fun hHeld=>?_)
  generalize hW0:World.drew _=w2 at *;clear hW0
  repeat' first
    | refine rQ ?_
    | refine rF ?_
    | refine rM ?_
    | exact evN rfl
    | refine evC rfl ?_ ?_
    | (intro K hK;go_simp
       first | (with_reducible refine (CA.out _).mono ?_) | (with_reducible refine (CB.out _).mono ?_)
       rintro e2 W2 ⟨rfl,rfl⟩
       go_wp2_with fail
       refine rEt hK hHeld ?_
       clear hK K
       intro hHeld2)
    | (refine rD ?_;go_wp2_with fail;go_ret;exact ⟨Af HV.out,hHeld.2⟩)
theorem Aht (s:Stp) (k m:Nat) (hm:m=k+1) (w:World) (hl:s.lies w) (hok:s.ok) (G:StG s) (hk:m<s.no.length):Calls Tryz.prog 116 #[.agg s.cells.toArray,vI m] w fun e' w'=>e'=.returned (vI (ltV s k))∧Below w.heap.size w w':=by
  have N:=StN.of hl;have hno:=N.no;have hmx:=hok.no
  unfold maxLen at hmx
  obtain ⟨b,off,hA⟩:=FC hl (by omega);have HS:=hid (DR w s.cells.toArray 35)
  have HKK:=hid (fun W (h:BoxS w 1 [s.cells] W)=>show ((W.cell? ⟨w.heap.size,0,none⟩=some (.slice (some ⟨b,off,none⟩) s.sno.n s.sno.c)∧W.cell? ⟨w.heap.size,30,none⟩=some (vI s.cas))∧W.cell? ⟨w.heap.size,29,none⟩=some (vI s.lv))∧(W.cell? ⟨b,off+k * 7+6,none⟩=some (vI (Ac s k).s1)∧W.cell? ⟨b,off+m * 7+2,none⟩=some (vI (Ac s m).di))∧W.cell? ⟨b,off+m * 7+6,none⟩=some (vI (Ac s m).s1) from
    have n1:=Ce (hl.below h.B) hA (k:=k) (by omega);have n2:=Ce (hl.below h.B) hA (k:=m) hk
    ⟨⟨⟨Dk (h.has 0 _ rfl) hA,IA (h.has 0 _ rfl)⟩,FP (h.has 0 _ rfl)⟩,⟨n1.2.2.2.2.2.2,n2.2.2.1⟩,n2.2.2.2.2.2.2⟩)
  have HPH:=hid (fun W (h:BoxS w 1 [s.cells] W)=>QT s k m hm W (hl.below h.B) hok G hk);have hq:=Og G k;have g1:=AR G N (k:=k) (by omega);have g2:=AR G N (k:=m) hk;have g1s:=g1.s1;have g2s:=g2.s1;have g1z:=g1.s0;have g2z:=g2.s0;have g1y:=g1.ss;have g2y:=g2.ss;have g2d:=g2.di;have gc:=G.cas
  have HL:=hid (show ltV s k=if tsV ((min (Ac s k).s1 s.cas+min (Ac s m).s1 s.cas) / 2) s.lv (suH s k).d1+grt (suH s k).e0 (suH s k).e1+grt (suH s k).n0 (suH s k).n1=0 then 50000 else min ((Ac s m).di / (tsV ((min (Ac s k).s1 s.cas+min (Ac s m).s1 s.cas) / 2) s.lv (suH s k).d1+grt (suH s k).e0 (suH s k).e1+grt (suH s k).n0 (suH s k).n1)) 50000 from by subst hm;rfl)
  have HTA:=hid (fun W=>Aet ((min (Ac s k).s1 s.cas+min (Ac s m).s1 s.cas) / 2) s.lv (suH s k).d1 W);have ht:=Abc ((min (Ac s k).s1 s.cas+min (Ac s m).s1 s.cas) / 2) s.lv (suH s k).d1
  have b1:0<=grt (suH s k).e0 (suH s k).e1∧grt (suH s k).e0 (suH s k).e1<=400:=by unfold grt Bo;omega
  have b2:0<=grt (suH s k).n0 (suH s k).n1∧grt (suH s k).n0 (suH s k).n1<=400:=by unfold grt Bo;omega
  have CA:=hid (fun W=>Ahj (suH s k).e0 (suH s k).e1 ⟨by omega,by omega⟩ ⟨by omega,by omega⟩ W);have CB:=hid (fun W=>Ahj (suH s k).n0 (suH s k).n1 ⟨by omega,by omega⟩ ⟨by omega,by omega⟩ W);have CC:=hid (fun W=>Tm (min (Ac s k).s1 s.cas) (min (Ac s m).s1 s.cas) (by omega) (by omega) W)
  have w1:IntKind.i64.wrap ((m:Int) - 1)=(k:Int):=by rw [(iW _)];omega
  have i0:(0:Int)<=(k:Int):=by omega
  have i1:(k:Int)<(s.sno.n:Int):=by omega
  have i2:(0:Int)<=(m:Int):=by omega
  have i3:(m:Int)<(s.sno.n:Int):=by omega
  clear hl hok G N hno hA hm hk hmx hq g1 g2 g1s g2s g1z g2z g1y g2y gc;generalize ltV s k=LT at *;generalize suH s k=HV at *;generalize tsV ((min (Ac s k).s1 s.cas+min (Ac s m).s1 s.cas) / 2) s.lv HV.d1=TV at *;generalize tsE ((min (Ac s k).s1 s.cas+min (Ac s m).s1 s.cas) / 2) s.lv HV.d1=TE at *;generalize grt HV.e0 HV.e1=GE at *;generalize grt HV.n0 HV.n1=GN at *;generalize (Ac s k).s1=s0 at *;generalize (Ac s m).s1=s1 at *;generalize (Ac s m).di=di at *
  go_enter Tryz.func116,Tryz.ntmps116
  go_wp2_with (refine AC (.tmp 2) rfl rfl rfl (HS.out.has 0 _ rfl) ?_)
  refine (HPH.out _ HS.out).mono ?_;rintro e' w2 ⟨rfl,hB⟩
  replace HS:=hid (HS.out.below hB);clear hB HPH
  go_wp2_with fail
  have Q5:Hid (Has ((w2.alloc (.cells #[vI HV.e0,vI HV.e1,vI HV.n0,vI HV.n1] 84)).alloc (.cells #[vI HV.d0,vI HV.d1] 46)) w2.heap.size (lz4 HV.e0 HV.e1 HV.n0 HV.n1)):=hid ((Has.new _ _ _).alloc _);have Q6:Hid (Has ((w2.alloc (.cells #[vI HV.e0,vI HV.e1,vI HV.n0,vI HV.n1] 84)).alloc (.cells #[vI HV.d0,vI HV.d1] 46)) (w2.heap.size+1) (lz2 HV.d0 HV.d1)):=hid (Has.newAt _ _ _ _ (by simp));replace HS:=hid ((HS.out.alloc (.cells #[vI HV.e0,vI HV.e1,vI HV.n0,vI HV.n1] 84)).alloc (.cells #[vI HV.d0,vI HV.d1] 46));generalize (w2.alloc (.cells #[vI HV.e0,vI HV.e1,vI HV.n0,vI HV.n1] 84)).alloc (.cells #[vI HV.d0,vI HV.d1] 46)=w3 at *;generalize w2.heap.size+1=H6 at *;generalize w2.heap.size=H5 at *
  refine rS (fun W=>BoxS w 1 [s.cells] W∧Has W H5 (lz4 HV.e0 HV.e1 HV.n0 HV.n1)∧Has W H6 (lz2 HV.d0 HV.d1)) 23 ⟨HS.out.drew,Q5.out.drew,Q6.out.drew⟩ (fun hHeld=>?_)
  generalize hW0:World.drew _=w4 at *;clear hW0 HS Q5 Q6;have FA:=fun W (h:BoxS w 1 [s.cells] W∧Has W H5 (lz4 HV.e0 HV.e1 HV.n0 HV.n1)∧Has W H6 (lz2 HV.d0 HV.d1))=>And.intro (HKK.out W h.1) (And.intro (And.intro (And.intro (h.2.1.cell 0 (vI HV.e0) rfl) (h.2.1.cell 1 (vI HV.e1) rfl)) (And.intro (h.2.1.cell 2 (vI HV.n0) rfl) (h.2.1.cell 3 (vI HV.n1) rfl))) (And.intro (h.2.2.cell 0 (vI HV.d0) rfl) (h.2.2.cell 1 (vI HV.d1) rfl)))
  repeat (first | refine rQ ?_ | refine rF ?_)
  refine rEk ?_
  intro K hK
  refine (CC.out _).mono ?_;rintro e2 W2 ⟨rfl,rfl⟩
  go_wp2_with fail
  refine rEt hK hHeld ?_
  clear hK K hHeld
  intro hHeld
  repeat (first | refine rQ ?_ | refine rF ?_)
  refine rD ?_
  have K:=FA _ hHeld
  go_wp2_with fail
  refine (HTA.out _).mono ?_;rintro e2 W3 ⟨rfl,hB⟩
  have hHeld2:BoxS w 1 [s.cells] W3∧Has W3 H5 (lz4 HV.e0 HV.e1 HV.n0 HV.n1)∧Has W3 H6 (lz2 HV.d0 HV.d1):=mB;clear hHeld K hB
  go_wp2_with fail
  refine rS (fun W=>BoxS w 1 [s.cells] W∧Has W H5 (lz4 HV.e0 HV.e1 HV.n0 HV.n1)∧Has W H6 (lz2 HV.d0 HV.d1)) 10 ⟨hHeld2.1.drew,hHeld2.2.1.drew,hHeld2.2.2.drew⟩ (fun hHeld=>?_)
  generalize hW0:World.drew _=w5 at *;clear hW0 hHeld2;have u1:=iW (TV+GE);have u2:=iW (TV+GE+GN)
  repeat' first
    | refine rQ ?_
    | refine rF ?_
    | refine rM ?_
    | exact evN rfl
    | refine evC rfl ?_ ?_
    | (intro K hK;go_simp
       first | (with_reducible refine (CA.out _).mono ?_) | (with_reducible refine (CB.out _).mono ?_)
       rintro e2 W2 ⟨rfl,hB⟩
       go_wp2_with fail
       refine rEt hK mB ?_
       clear hK K hHeld hB
       intro hHeld)
    | (refine rD ?_
       have K:=FA _ hHeld;have HB:=hid hHeld.1.B;clear hHeld FA
       by_cases hz:TV+GE+GN=0
       · have HF:=hid (HL.out.trans (if_pos hz))
         have e1:(TV+GE+GN == 0)=true:=by rw [hz];rfl
         clear hz HL
         go_wp2_with fail
         go_ret
         exact ⟨Af HF.out.symm,HB.out⟩
       · have HF:=hid (HL.out.trans (if_neg hz))
         have e1:(TV+GE+GN == 0)=false:=Aw hz;have u3:di.tdiv (TV+GE+GN)=di / (TV+GE+GN):=Int.tdiv_eq_ediv_of_nonneg g2d.1
         have u4:IntKind.i64.wrap (di / (TV+GE+GN))=di / (TV+GE+GN):=IntWalk.i64_in _ (by
           have:=Int.ediv_nonneg g2d.1 (show 0<=TV+GE+GN by omega);have:=Int.ediv_le_self (TV+GE+GN) g2d.1
           omega)
         clear HL
         go_wp2_with fail
         go_ret
         exact ⟨Af HF.out.symm,HB.out⟩)
theorem Ahi (s:Stp) (w:World) (hl:s.lies w) (hok:s.ok):Calls Tryz.prog 58 #[.agg s.cells.toArray] w (FY (okL (suE s) (Cy s)) (okN (suE s) (s.no.length - 1)) (suE s) w):=by
  obtain ⟨i0,hi,hz0,hz1,hz2⟩:=info_parts IU;have HS:=hid (DR w s.cells.toArray 35);have HC:=hid (fun W (h:BoxS w 1 [s.cells] W)=>I5 s W (hl.below h.B) hok)
  by_cases hE:suE s=0
  rotate_left
  · have HE:=hid hE
    generalize hEE:suE s=E at *;have e1:=Aw hE;have e2:=AL e1;clear hl hok hE hEE
    go_enter Tryz.func58,Tryz.ntmps58
    go_wp2_with (refine AC (.tmp 1) rfl rfl rfl (HS.out.has 0 _ rfl) ?_)
    refine (HC.out _ HS.out).mono ?_;rintro e' w1 ⟨rfl,hB⟩
    have HB:=hid (Ae HS.out.B hB);clear hB
    go_wp2_with fail
    go_ret2
    exact Ca rfl HE.out HB.out
  have G:=Cm hE;have N:=StN.of hl;have hno:=N.no;have hn2:=Cq G N
  rw [hE] at HC
  have HEE:=hid hE;obtain ⟨b,off,hA⟩:=FC hl (by omega);have HKK:=hid (fun W (h:BoxS w 1 [s.cells] W)=>show W.cell? ⟨w.heap.size,0,none⟩=some (.slice (some ⟨b,off,none⟩) s.sno.n s.sno.c)∧W.cell? ⟨w.heap.size,29,none⟩=some (vI s.lv) from ⟨Dk (h.has 0 _ rfl) hA,FP (h.has 0 _ rfl)⟩);have HND:=hid (fun W (h:BoxS w 1 [s.cells] W) k (hk:k<s.no.length)=>show W.cell? ⟨b,off+k * 7+4,none⟩=some (vI (Ac s k).a1) from (Ce (hl.below h.B) hA hk).2.2.2.2.1);have HW:=hid (fun W (h:BoxS w 1 [s.cells] W)=>show Has W w.heap.size s.cells from h.has 0 _ rfl);have HM:=hid (fun W=>Ti s.ac W);have HD:=hid (fun W (h:BoxS w 1 [s.cells] W)=>Xa s.pf (-200000) W (hl.below h.B).pf hok.pf);have HT:=hid (fun W (h:BoxS w 1 [s.cells] W) k m (hm:m=k+1) (hk:m<s.no.length)=>Aht s k m hm W (hl.below h.B) hok G hk);have HR:=hid (fun W (h:BoxS w 1 [s.cells] W) a t=>Zp s.pf a s.ac.mass t W (hl.below h.B).pf hok.pf);have HNO:=hid hno;have hn0:=HND.out
  have F0:=fun W (h:BoxS w 1 [s.cells] W)=>show W.cell? ⟨b,off+4,none⟩=some (vI (Ac s 0).a1) from by have q:=hn0 W h 0 (by omega);rwa [Nat.zero_mul,Nat.add_zero] at q
  have i1:0<s.sno.n:=by omega
  have hn64:s.no.length<=64:=hn2.2;have HG:=hid G;have HN:=hid N;clear hl hok hE G N hA hno hn0;obtain ⟨DS,hDS⟩:∃ d,Im s.pf (-200000)=d:=⟨_,rfl⟩
  rw [hDS] at HD
  have HDS:=hid hDS;clear hDS;generalize pcE s.pf (-200000) 1=DE at *
  go_enter Tryz.func58,Tryz.ntmps58
  go_wp2_with (refine AC (.tmp 1) rfl rfl rfl (HS.out.has 0 _ rfl) ?_)
  refine (HC.out _ HS.out).mono ?_;rintro e' w1 ⟨rfl,hB⟩
  replace HS:=hid (HS.out.below hB);clear hB HC
  go_wp2_with fail
  refine rS (fun W=>BoxS w 1 [s.cells] W) 10 HS.out.drew (fun hHeld=>?_)
  generalize hW0:World.drew _=w2 at *;clear hW0 HS;have FA:=fun W (h:BoxS w 1 [s.cells] W)=>And.intro (HKK.out W h) (F0 W h)
  repeat (first | refine rQ ?_ | refine rF ?_)
  refine rD ?_
  clear FA
  go_wp2_with (refine FZ (.tmp 28) rfl rfl rfl (hHeld.has 0 _ rfl) ?_)
  refine (HM.out _).mono ?_;rintro e' w3 ⟨rfl,hB⟩
  replace hHeld:=hHeld.below hB;clear hB HM
  go_wp2_with (refine Dx (.tmp 32) rfl rfl rfl (hHeld.has 0 _ rfl) ?_)
  refine (HD.out _ hHeld).mono ?_;rintro e' w4 ⟨rfl,hB⟩
  have HS:=hid (hHeld.below hB);clear hB HD hHeld F0
  go_wp2_with fail
  rw [← Ad3 s]
  go_loopw [5,6,10] (fun v h t wr=>AbP s w h v t wr) (fun _ _ t _=>s.no.length - (intOf t).toNat)
  case atStart=>exact ⟨0,by omega,rfl,rfl,HS.out,Ow.start _ _ _ _ _⟩
  case round =>
  obtain ⟨k,hk,rfl,rfl,hs,ho⟩:=hrel;replace HS:=hid hs;have HO:=hid ho;clear hs ho;have k0:=HKK.out _ HS.out;obtain ⟨m,hm⟩:∃ m,k+1=m:=⟨_,rfl⟩
  rw [hm]
  by_cases hlt:m<s.no.length
  rotate_left
  · have i2:¬ (m:Int)<(s.sno.n:Int):=by have:=HNO.out;omega
    rw [CY (by rw [Ja];omega)] at HO
    obtain ⟨A',c',hv,hP,hcap⟩:=HO.out.res Dm (Ja s);have HP:=hid (And.intro hP hcap);subst hv;clear hP hcap HO
    go_wp2_with fail
    go_ret2
    exact IY HEE.out ⟨A',c',rfl,HP.out.1,HP.out.2⟩ HS.out.B
  have i2:(m:Int)<(s.sno.n:Int):=by have:=HNO.out;omega
  have i3:(0:Int)<=(m:Int):=by omega
  have b1:=QB HG.out HN.out (k:=k) (by omega);have b2:=Qw HG.out HN.out k (by omega);have b3:=HG.out.lv;have b4:=Xh HG.out HN.out (k:=k) (by omega) (h:=hgt s k) (by omega)
  have b6:0<=DS * ltV s k∧DS * ltV s k<=500000000:=by have h:=(TB HG.out HN.out (k:=k) (by omega)).2;rw [show (LQ s k).2=Im s.pf (-200000) * ltV s k from rfl,HDS.out] at h;exact h
  have z1:=iW (DS * ltV s k);have z2:=iW (riN s (hgt s k) k - hgt s k);have HTK:=hid (UV (s:=s) (k:=k) (by omega));have HSK:=hid (show LQ s k=(riN s (hgt s k) k - hgt s k,DS * ltV s k) from by rw [← HDS.out];rfl);have HHS:=hid (Ad4 s k);have HRI:=hid (show riN s (hgt s k) k=rsV s.pf (hgt s k) s.ac.mass (ltV s k) from rfl)
  have hlen:((Cy s).take k).length<=64:=by rw [List.length_take,Ja];omega
  rw [hm] at HHS
  clear b1 b2 b3 b4 b6;have HNX:=hid (fun W (h:BoxS w 1 [s.cells] W)=>HND.out W h m hlt)
  go_wp2_with (refine AC (.tmp 1) rfl rfl rfl (HS.out.has 0 _ rfl) ?_)
  refine (HT.out _ HS.out k m hm.symm hlt).mono ?_;rintro e' w5 ⟨rfl,hB⟩
  replace HS:=hid (HS.out.below hB);replace HO:=hid (HO.out.below hB);clear hB k0
  go_wp2_with (refine Dx (.tmp 48) rfl rfl rfl (HS.out.has 0 _ rfl) ?_)
  refine (HR.out _ HS.out _ _).mono ?_;rintro e' w6 ⟨rfl,hB⟩
  replace HS:=hid (HS.out.below hB);replace HO:=hid (HO.out.below hB);clear hB
  rw [← HRI.out]
  generalize rsE _ _ _ _=RE at *;generalize riN s (hgt s k) k=RI at *;generalize ltV s k=LT at *;generalize hgt s k=HH at *;generalize hLL:(Cy s).take k=LL at *;have HLL:=hid hLL;clear hLL
  go_wp2_with (at_builtin;refine wpList_append_own_at _ rfl _ _ 69 rfl (w.heap.size+1) 124 i0 (.agg #[vI 0,vI 0]) 2 16 Tryz.underlying69 hi hz0 hz1 hz2 rfl (by decide) _ _ _ rfl ((HO.out.alloc _).own) ⟨w6.heap.size,0,none⟩ 1 1 (lz2 (RI - HH) (DS * LT)) rfl rfl (AY _ _ (by first | rfl | simp) _ _ _ rfl) (by intro u hu;simp at hu;rcases hu with rfl | rfl <;> rfl) (by unfold maxLen;omega) (by omega) (by have:=HS.out.sz;simp;omega) ?_;intro v1 w7 hown hgrow hnil hblk)
  have HS7:=hid ((HS.out.alloc _).grown hgrow (fun k hk=>(HO.out.lt hk).1));have HO7:=hid (Ow.next (l:=LL) (f:=win) (x:=(RI - HH,DS * LT)) hown);clear hown hgrow hnil hblk HS HO z1 z2
  refine rS (fun W=>BoxS w 1 [s.cells] W) 12 HS7.out.drew (fun hHeld=>?_)
  replace HO7:=hid HO7.out.drew;generalize hW0:World.drew _=w8 at *;clear hW0 HS7;have FA:=fun W (h:BoxS w 1 [s.cells] W)=>And.intro (HKK.out W h) (HNX.out W h)
  repeat (first | refine rQ ?_ | refine rF ?_)
  refine rD ?_
  clear FA
  go_wp2_with fail
  go_roundw
  case rel=>exact ⟨m,by omega,by go_num,by rw [← hm] at HHS ⊢;rw [HHS.out];congr 1;omega,hHeld,by rw [← hm,HTK.out,HSK.out];exact HO7.out⟩
  case measure=>exact zMs
def Aiu (s:Stp) (w:World) (e:Ending) (w':World):Prop:=∃ A c,e=.returned (.slice A (s.no.length - 1) c)∧Ints w' A (s.no.length - 1) (EI s)∧Below w.heap.size w w'
def AhL (s:Stp) (w:World) (v t:Value) (wr:World):Prop:=∃ k:Nat,k+1<=s.no.length∧t=vI (k:Int)∧BoxS w 1 [s.cells] wr∧Ow G9 1 2 (w.heap.size+1) ((EI s).take k) v wr
theorem Ag4 {s:Stp} {k:Nat} (hk:k+1<s.no.length):(EI s).take (k+1)=(EI s).take k ++ [(Ac s (k+1)).di]:=Aq _ k _ (by
  have h2:=AQ hk
  unfold EI
  rw [List.getElem?_map,List.getElem?_drop,Nat.add_comm 1 k,h2,GJ h2];rfl)
theorem Ah1 (s:Stp) (w:World) (hl:s.lies w) (hok:s.ok) (G:StG s) (hc:s.sno.n<=s.sno.c):Calls Tryz.prog 24 #[.agg s.cells.toArray] w (Aiu s w):=by
  obtain ⟨i0,hi,hz0,hz1,hz2⟩:=info_parts CU;have HS:=hid (DR w s.cells.toArray 35);have N:=StN.of hl;have hno:=N.no;have hn2:=Cq G N;obtain ⟨b,off,hA⟩:=FC hl (by omega);have HNS:=hid (fun W (h:BoxS w 1 [s.cells] W)=>show W.cell? ⟨w.heap.size,0,none⟩=some (.slice (some ⟨b,off,none⟩) s.sno.n s.sno.c) from Dk (h.has 0 _ rfl) hA);have HND:=hid (fun W (h:BoxS w 1 [s.cells] W) k (hk:k<s.no.length)=>Ce (hl.below h.B) hA hk);have HNO:=hid hno
  have hn64:s.sno.n<=64:=by omega
  have i1:0<s.sno.n:=by omega
  have i3:¬ s.sno.c=1:=by omega
  have i2:1<=s.sno.n:=by omega
  have HDL:=hid (Qo G N).2;clear hl hok G N hA hno hn2 hc
  go_enter Tryz.func24,Tryz.ntmps24
  have k0:=HNS.out _ HS.out
  go_wp2_with fail
  clear k0 i3;generalize w.alloc (.cells s.cells.toArray 35)=w1 at *
  go_loopw [3,10] (fun v t wr=>AhL s w v t wr) (fun _ t _=>s.no.length - (intOf t).toNat)
  case atStart=>exact ⟨0,by have:=HNO.out;omega,rfl,HS.out,Ow.start _ _ _ _ _⟩
  case round =>
  obtain ⟨k,hk,rfl,hs,ho⟩:=hrel;replace HS:=hid hs;have HO:=hid ho;clear hs ho
  by_cases hlt:k+1<s.no.length
  rotate_left
  · have i4:¬ (k:Int)<((s.sno.n - 1:Nat):Int):=by have:=HNO.out;omega
    rw [CY (by rw [HDL.out];omega)] at HO
    obtain ⟨A',c',hv,hP,hcap⟩:=HO.out.ints HDL.out;have HP:=hid hP;subst hv;clear hP hcap HO
    go_wp2_with fail
    go_ret
    exact ⟨A',c',rfl,HP.out,HS.out.B⟩
  have i4:(k:Int)<((s.sno.n - 1:Nat):Int):=by have:=HNO.out;omega
  have i5:(0:Int)<=(k:Int):=by omega
  obtain ⟨c0,c1,c2,c3,c4,c5,c6⟩:=HND.out _ HS.out (k+1) hlt
  rw [show off+(k+1) * 7=off+7+k * 7 by omega] at c0 c1 c2 c3 c4 c5 c6
  have hlen:((EI s).take k).length<=64:=by rw [List.length_take,HDL.out];omega
  have HTK:=hid (Ag4 (s:=s) hlt);generalize (EI s).take k=l at *;generalize Ac s (k+1)=M at *
  go_wp2_with (at_builtin;refine wpList_append_own_at _ rfl _ _ 23 rfl (w.heap.size+1) 2 i0 (vI 0) 1 8 Tryz.underlying23 hi hz0 hz1 hz2 rfl (by decide) _ _ _ rfl (((HO.out.alloc _).alloc _).own) ⟨wr.heap.size+1,0,none⟩ 1 1 [vI M.di] rfl rfl (AY _ _ (by first | rfl | simp) _ _ _ rfl) (by intro u hu;simp at hu;rcases hu with rfl;rfl) (by unfold maxLen;omega) (by omega) (by have:=HS.out.sz;simp;omega) ?_;intro v1 w7 hown hgrow hnil hblk)
  have HS7:=hid (((HS.out.alloc _).alloc _).grown hgrow (fun k hk=>(HO.out.lt hk).1));have HO7:=hid (Ow.next (l:=l) (f:=G9) (x:=M.di) hown)
  go_roundw
  case rel=>exact ⟨k+1,by omega,by go_num,HS7.out,by rw [HTK.out];exact HO7.out⟩
  case measure=>exact zMs
def Ag8 (s:Stp) (w:World) (e:Ending) (w':World):Prop:=∃ A c x y,e=.returned (.tuple #[.slice A (okN (Dr s) s.no.length) c,.agg #[vI x,vI y],vI (Dr s)])∧Ints w' A (okN (Dr s) s.no.length) (okL (Dr s) (C8 s))∧Below w.heap.size w w'
theorem AgP {s:Stp} {w w':World} {x y E:Int} (hE:Dr s=E) (h0:E≠0) (hb:Below w.heap.size w w'):Ag8 s w (.returned (.tuple #[.slice none 0 0,.agg #[vI x,vI y],vI E])) w':=by
  subst hE
  exact ⟨none,0,x,y,by unfold okN;rw [if_neg h0],by unfold okN okL;rw [if_neg h0,if_neg h0];exact Ints.nil _,hb⟩
theorem Aho {s:Stp} {w w':World} {x y:Int} {A:Option Addr} {c:Nat} (hE:Dr s=0) (hI:Ints w' A s.no.length (C8 s)) (hb:Below w.heap.size w w'):Ag8 s w (.returned (.tuple #[.slice A s.no.length c,.agg #[vI x,vI y],vI 0])) w':=by
  unfold Ag8
  rw [hE]
  exact ⟨A,c,x,y,rfl,hI,hb⟩
theorem AhO (w:World):BoxS w 0 [] w:=⟨fun i cs hi=>by simp at hi,by simp,AJ _ _,by simp⟩
def AhN (s:Stp) (w:World) (v t:Value) (wr:World):Prop:=∃ k:Nat,k<=s.no.length∧t=vI (k:Int)∧BoxS w 0 [] wr∧Ow win 2 53 (w.heap.size+0) ((awC s).take k) v wr
theorem AgZ (s:Stp):(awC s).length=s.no.length:=by unfold awC;simp
theorem Ahp {s:Stp} {k:Nat} (hk:k<s.no.length):(awC s).take (k+1)=(awC s).take k ++ [((Ac s k).a0,min (Ac s k).a1 s.lv)]:=Aq _ k _ (by
  have h2:=AQ hk
  unfold awC
  rw [List.getElem?_map,h2,GJ h2];rfl)
theorem Aia {s:Stp} (G:StG s) (N:StN s) (hE:suE s=0):(cfB (awC s) (Cy s)=false∧Dr s=0∧Cs.tgE (awC s) (Cy s)=0)∨(cfB (awC s) (Cy s)=true∧Dr s=11):=by
  rw [YG hE,Afm G N]
  have hc:=(Qg G N).err
  cases hf:Cs.confL (awC s) (Cy s) with
  | nil=>have:=Cs.tgE_ok hc hf;exact .inl ⟨(R4 hc hf).2,this,this⟩
  | cons p t=>exact .inr ⟨(R5 hc hf).2,Cs.tgE_conf hc (by rw [hf];simp)⟩
theorem Ahu (s:Stp) (w:World) (hl:s.lies w) (hok:s.ok):Calls Tryz.prog 21 #[.agg s.cells.toArray] w (Ag8 s w):=by
  obtain ⟨i0,hi,hz0,hz1,hz2⟩:=info_parts Fh;have HS:=hid (Dt w s.cells.toArray #[vI 0,vI 0] 35 39);have HC:=hid (fun W (h:BoxS w 2 [s.cells,(lz2 0 0)] W)=>Ahi s W (hl.below h.B) hok)
  unfold FY at HC
  by_cases hE:suE s=0
  rotate_left
  · have HE:=hid (And.intro (show Dr s=suE s from if_pos hE) hE)
    have e1:=Aw hE;have e2:=AL e1;clear hl hok hE;generalize okN (suE s) (s.no.length - 1)=m at *;generalize suE s=E at *
    go_enter Tryz.func21,Tryz.ntmps21
    go_wp2_with (refine AC (.tmp 1) rfl rfl rfl (HS.out.has 0 _ rfl) ?_)
    refine (HC.out _ HS.out).mono ?_;rintro e' w1 ⟨A,c,rfl,-,-,hB⟩
    replace HS:=hid (HS.out.below hB);clear hB HC;have q3:=HS.out.has 1 _ rfl;have f0:=q3.fr;have c0:=q3.cell 0 _ rfl;have c1:=q3.cell 1 _ rfl;have Q:=hid (show Has ((w1.setCell ⟨w.heap.size+1,0,none⟩ (vI 0)).setCell ⟨w.heap.size+1,1,none⟩ (vI 0)) _ _ from (q3.set 0 (vI 0) (by simp)).set 1 (vI 0) (by simp));have HB:=hid (show Below w.heap.size w ((w1.setCell ⟨w.heap.size+1,0,none⟩ (vI 0)).setCell ⟨w.heap.size+1,1,none⟩ (vI 0)) from Ab (Ab HS.out.B _ _ (by omega) _) _ _ (by omega) _);clear q3
    go_wp2_with fail
    have p0:=Q.out.cell 0 (vI 0) rfl;have p1:=Q.out.cell 1 (vI 0) rfl
    exact bodyPost_ret (v:=.tuple #[.slice none 0 0,.agg #[vI 0,vI 0],vI E]) (by simp [results,Tryz.results21,go_sem,p0,p1]) rfl (AgP HE.out.1 HE.out.2 HB.out)
  have G:=Cm hE;have N:=StN.of hl;have hno:=N.no;have hn2:=Cq G N;obtain ⟨b,off,hA⟩:=FC hl (by omega);have HBB:=hid (Aia G N hE);have HAL:=hid (show C8 s=(Cs.tight (awC s) (Cy s)).map fun p=>p.2 from by unfold C8 crV;rw [← Qf])
  rw [hE] at HC
  simp only [Gf,IX] at HC
  have HNS:=hid (fun W (h:BoxS w 2 [s.cells,(lz2 0 0)] W)=>show W.cell? ⟨w.heap.size,0,none⟩=some (.slice (some ⟨b,off,none⟩) s.sno.n s.sno.c)∧W.cell? ⟨w.heap.size,29,none⟩=some (vI s.lv) from ⟨Dk (h.has 0 _ rfl) hA,FP (h.has 0 _ rfl)⟩);have HND:=hid (fun W (h:BoxS w 2 [s.cells,(lz2 0 0)] W) k (hk:k<s.no.length)=>Ce (hl.below h.B) hA hk);have HNO:=hid hno;have hn64:s.no.length<=64:=hn2.2;have CF:=hid (fun W A S n cn m cm ws st h1 h2 h3 h4 h5 h6=>Iy A S n cn m cm ws st W h1 h2 h3 h4 h5 h6);have GR:=hid (fun W A S n cn m cm ws st h1 h2 h3 h4 h5 h6=>Mr A S n cn m cm ws st W h1 h2 h3 h4 h5 h6);clear hl hok hE G N hno hn2 hA
  go_enter Tryz.func21,Tryz.ntmps21
  go_wp2_with (refine AC (.tmp 1) rfl rfl rfl (HS.out.has 0 _ rfl) ?_)
  refine (HC.out _ HS.out).mono ?_;rintro e' w1 ⟨A,c,rfl,hst,hcap0,hB⟩
  replace HS:=hid (HS.out.below hB);have HST:=hid (And.intro hst hcap0);clear hB HC hst hcap0;have k0:=HNS.out _ HS.out
  go_wp2_with fail
  clear k0;have HY:=hid (fun W (h:BoxS w1 0 [] W)=>HS.out.below h.B)
  go_loopw [7,27] (fun v t wr=>AhN s w1 v t wr) (fun _ t _=>s.no.length - (intOf t).toNat)
  case atStart=>exact ⟨0,by omega,rfl,AhO _,Ow.start _ _ _ _ _⟩
  case round =>
  clear HS;obtain ⟨k,hk,rfl,hs,ho⟩:=hrel;have HR:=hid hs;have HS:=hid (HY.out _ hs);have HO:=hid ho;clear hs ho
  by_cases hlt:k<s.no.length
  · have i1:(0:Int)<=(k:Int):=by omega
    have i2:(k:Int)<(s.sno.n:Int):=by have:=HNO.out;omega
    obtain ⟨c0,c1,c2,c3,c4,c5,c6⟩:=HND.out _ HS.out k hlt
    have hlen:((awC s).take k).length<=64:=by rw [List.length_take];omega
    have HTK:=hid (Ahp (s:=s) hlt);generalize (awC s).take k=l at *;have HK:=hid (fun o=>(HNS.out _ (HS.out.alloc o)).2);generalize Ac s k=M at *;have k1:=HK.out (.cells #[vI M.px,vI M.py,vI M.di,vI M.a0,vI M.a1,vI M.s0,vI M.s1] 96);clear HK
    go_wp2_with (at_builtin;refine wpList_append_own_at _ rfl _ _ 66 rfl (w1.heap.size+0) 53 i0 (.agg #[vI 0,vI 0]) 2 16 Tryz.underlying66 hi hz0 hz1 hz2 rfl (by decide) _ _ _ rfl (((HO.out.alloc _).alloc _).own) ⟨wr.heap.size+1,0,none⟩ 1 1 (lz2 M.a0 (min M.a1 s.lv)) rfl rfl (AY _ _ (by first | rfl | simp) _ _ _ rfl) (by intro u hu;simp at hu;rcases hu with rfl | rfl <;> rfl) (by unfold maxLen;omega) (by omega) (by have:=HR.out.sz;simp;omega) ?_;intro v1 w7 hown hgrow hnil hblk)
    have HR7:=hid (((HR.out.alloc _).alloc _).grown hgrow (fun k hk=>(HO.out.lt hk).1));have HO7:=hid (Ow.next (l:=l) (f:=win) (x:=(M.a0,min M.a1 s.lv)) hown)
    go_roundw
    case rel=>exact ⟨k+1,by omega,by go_num,HR7.out,by rw [HTK.out];exact HO7.out⟩
    case measure=>exact zMs
  have i2:¬ (k:Int)<(s.sno.n:Int):=by have:=HNO.out;omega
  have hkn:k=s.no.length:=by omega
  rw [CY (by rw [AgZ];omega)] at HO
  obtain ⟨A',c',hv,hP,hcap⟩:=HO.out.res Dm (AgZ s);have HP:=hid hP;have HQ:=hid (HST.out.1.below HR.out.B);have CF2:=hid (CF.out wr A' A s.no.length c' (s.no.length - 1) c (awC s) (Cy s) HP.out HQ.out (by unfold maxLen;omega) (by unfold maxLen;omega) HST.out.2.le HST.out.2.mx);subst hv;clear hP hcap HO HY CF
  go_wp2_with fail
  refine CF2.out.mono ?_;rintro e' w3 ⟨rfl,hB⟩
  replace HS:=hid (HS.out.below hB);replace HP:=hid (HP.out.below hB);replace HQ:=hid (HQ.out.below hB);clear hB CF2;generalize (cfP (awC s) (Cy s)).1=x at *;generalize (cfP (awC s) (Cy s)).2=y at *;generalize cfB (awC s) (Cy s)=B at *;generalize Cs.chkE (awC s) (Cy s)=CE at *;have hne:=Nat.ne_of_lt (HS.out.has 1 _ rfl).lt;have Q:=hid (Has.new w3 #[vI x,vI y] 39);replace HS:=hid (HS.out.alloc (.cells #[vI x,vI y] 39));replace HP:=hid (HP.out.below (Aa _ (.cells #[vI x,vI y] 39)));replace HQ:=hid (HQ.out.below (Aa _ (.cells #[vI x,vI y] 39)));have GR2:=hid (GR.out (w3.alloc (.cells #[vI x,vI y] 39)) A' A s.no.length c' (s.no.length - 1) c (awC s) (Cy s) HP.out HQ.out (by unfold maxLen;omega) (by unfold maxLen;omega) HST.out.2.le HST.out.2.mx);clear GR HP HQ HST hkn
  rcases HBB.out with ⟨rfl,h0,hT⟩ | ⟨rfl,h0⟩
  · have HTG:=hid (And.intro hT h0)
    clear hT h0
    go_wp2_with fail
    refine GR2.out.mono ?_;rintro e' w5 ⟨h1,-,hB⟩
    obtain ⟨A3,c3,rfl,hI⟩:=h1 HTG.out.1;replace HS:=hid (HS.out.below hB);clear hB GR2 h1
    rw [← HAL.out] at hI
    have q3:=HS.out.has 1 _ rfl;have f0:=q3.fr;have c0:=q3.cell 0 _ rfl;have c1:=q3.cell 1 _ rfl;have R:=hid (show Has ((w5.setCell ⟨w.heap.size+1,0,none⟩ (vI 0)).setCell ⟨w.heap.size+1,1,none⟩ (vI 0)) _ _ from (q3.set 0 (vI 0) (by simp)).set 1 (vI 0) (by simp));have HI:=hid (show Ints ((w5.setCell ⟨w.heap.size+1,0,none⟩ (vI 0)).setCell ⟨w.heap.size+1,1,none⟩ (vI 0)) A3 s.no.length (C8 s) from (hI.same c0).same ((q3.set 0 (vI 0) (by simp)).cell 1 _ rfl));have HB:=hid (show Below w.heap.size w ((w5.setCell ⟨w.heap.size+1,0,none⟩ (vI 0)).setCell ⟨w.heap.size+1,1,none⟩ (vI 0)) from Ab (Ab HS.out.B _ _ (by omega) _) _ _ (by omega) _);clear hI q3
    go_wp2_with fail
    have p0:=R.out.cell 0 (vI 0) rfl;have p1:=R.out.cell 1 (vI 0) rfl
    exact bodyPost_ret (v:=.tuple #[.slice A3 s.no.length c3,.agg #[vI 0,vI 0],vI 0]) (by simp [results,Tryz.results21,go_sem,p0,p1]) rfl (Aho HTG.out.2 HI.out HB.out)
  · have HE:=hid h0
    clear h0
    go_wp2_with fail
    have q3:=(HS.out.has 1 _ rfl).drew
    refine rS (fun W=>Below w.heap.size w W∧Has W w3.heap.size (lz2 x y)) 4 ⟨HS.out.B.drew,Q.out.drew⟩ (fun hHeld=>?_)
    generalize hW0:World.drew _=w4 at *;clear hW0 HS Q;have FA:=fun W (h:Below w.heap.size w W∧Has W w3.heap.size (lz2 x y))=>And.intro (h.2.cell 0 (vI x) rfl) (h.2.cell 1 (vI y) rfl)
    repeat (first | refine rQ ?_ | refine rF ?_)
    have f0:=q3.fr;have c0:=q3.cell 0 _ rfl;have c1:=q3.cell 1 _ rfl
    refine rEk ?_
    intro K hK
    refine rEt hK ⟨Ab (Ab hHeld.1 _ _ (by omega) (vI x)) _ _ (by omega) (vI y),(hHeld.2.other (w.heap.size+1) 0 (vI x) hne.symm).other (w.heap.size+1) 1 (vI y) hne.symm⟩ ?_
    clear hK K f0 c0 c1 FA hHeld
    intro hHeld
    have q4:Has _ (w.heap.size+1) (lz2 x y):=(q3.set 0 (vI x) (by simp)).set 1 (vI y) (by simp);generalize hW0:World.setCell _ _ _=w5 at *;clear hW0;have p0:=q4.cell 0 (vI x) rfl;have p1:=q4.cell 1 (vI y) rfl
    repeat refine rQ ?_
    refine rD ?_
    go_wp2_with fail
    exact bodyPost_ret (v:=.tuple #[.slice none 0 0,.agg #[vI x,vI y],vI 11]) (by simp [results,Tryz.results21,go_sem,p0,p1]) rfl (AgP HE.out (by decide) hHeld.1)
theorem ne3 {W:World} {A:Option Addr} {H:Nat} {A1 A2 A3:Option Addr} {n1 c1 n2 c2 n3 c3:Nat} (h:∀ b off,A=some ⟨b,off,none⟩→∃ (i:Nat) (v:Int),W.cell? ⟨b,i,none⟩=some (vI v)) (hx:Ex W H [.slice A1 n1 c1,.slice A2 n2 c2,.slice A3 n3 c3]):Ne A H:=by
 rintro b off rfl rfl
 obtain ⟨i,v,e⟩:=h b off rfl
 rw [hx.all i] at e
 match i,e with
 | 0,e=>simp at e
 | 1,e=>simp at e
 | 2,e=>simp at e
 | i+3,e=>simp at e
theorem PlB.ne {s:Stp} {A A2 A3:Option Addr} {c3:Nat} {W:World} (h:PlB s A A2 A3 c3 W) (hn:2<=s.no.length) {H:Nat} {B1 B2 B3:Option Addr} {n1 d1 n2 d2 n3 d3:Nat} (hx:Ex W H [.slice B1 n1 d1,.slice B2 n2 d2,.slice B3 n3 d3]):Ne A H∧Ne A2 H∧Ne A3 H :=
 ⟨ne3 (fun b off e=>by subst e;exact ⟨_,_,(Ahg h.al (k:=0) (by omega)).2⟩) hx,ne3 (fun b off e=>by subst e;exact ⟨_,_,(LD h.ws (k:=0) (by omega)).2⟩) hx,ne3 (fun b off e=>by subst e;exact ⟨_,_,(LD h.st (k:=0) (by omega)).2⟩) hx⟩
def RdP (s:Stp) (node:Int) (late:Bool) (w:World) (e:Ending) (w':World):Prop :=
 (opE s node late≠0→e=.returned (.tuple #[.agg #[.slice none 0 0,.slice none 0 0,.slice none 0 0],vI (opE s node late)])) ∧
 (opE s node late=0→∃ A c A2 c2 A3 c3,e=.returned (.tuple #[.agg #[.slice A s.no.length c,.slice A2 s.no.length c2,.slice A3 (s.no.length - 1) c3],vI 0])∧PlB s A A2 A3 c3 w')∧Below w.heap.size w w'
theorem Ahx {s:Stp} {node:Int} {late:Bool} {w w':World} {E:Int} (hE:opE s node late=E) (h0:E≠0) (hb:Below w.heap.size w w'):RdP s node late w (.returned (.tuple #[.agg #[.slice none 0 0,.slice none 0 0,.slice none 0 0],vI E])) w':=⟨fun _=>by rw [hE],fun h=>absurd (hE.symm.trans h) h0,hb⟩
theorem Ah2 {s:Stp} {node:Int} {late:Bool} {w w':World} {A A2 A3:Option Addr} {c c2 c3:Nat} (hE:opE s node late=0) (h:PlB s A A2 A3 c3 w') (hb:Below w.heap.size w w'):RdP s node late w (.returned (.tuple #[.agg #[.slice A s.no.length c,.slice A2 s.no.length c2,.slice A3 (s.no.length - 1) c3],vI 0])) w':=⟨fun k=>absurd hE k,fun _=>⟨A,c,A2,c2,A3,c3,rfl,h⟩,hb⟩
theorem set3 {W w:World} {b:Nat} {l:List Value} (h:Has W b l) (hB:Below w.heap.size w W) (hb:w.heap.size<=b) (hl:l.length=3) (v0 v1 v2:Value):Has (((W.setCell ⟨b,0,none⟩ v0).setCell ⟨b,1,none⟩ v1).setCell ⟨b,2,none⟩ v2) b [v0,v1,v2]∧Below w.heap.size w (((W.setCell ⟨b,0,none⟩ v0).setCell ⟨b,1,none⟩ v1).setCell ⟨b,2,none⟩ v2) :=
 match l,hl with
 | [_,_,_],_=>⟨((h.set 0 v0 (by simp)).set 1 v1 (by simp)).set 2 v2 (by simp),Ab (Ab (Ab hB _ _ hb _) _ _ hb _) _ _ hb _⟩
theorem r8Z {G:Prop} (h:G:=by
 have q2:=HS.out.has 2 _ rfl;have f0:=q2.fr;have c0:=q2.cell 0 _ rfl;have c1:=q2.cell 1 _ rfl;have c2:=q2.cell 2 _ rfl;have Q:=hid (set3 q2 HS.out.B (by omega) rfl (.slice none 0 0) (.slice none 0 0) (.slice none 0 0));clear q2 HS
 go_wp2_with fail
 obtain ⟨r,hB⟩:=Q.out;have p0:=r.cell 0 _ rfl;have p1:=r.cell 1 _ rfl;have p2:=r.cell 2 _ rfl;generalize hW0:World.setCell _ _ _=W5 at *;clear hW0
 exact bodyPost_ret (v:=.tuple #[.agg #[.slice none 0 0,.slice none 0 0,.slice none 0 0],vI EE]) (by simp [EE,results,Tryz.results50,go_sem,p0,p1,p2]) rfl (Ahx HE.out (by first | exact HNE.out | decide) hB)):G:=h
theorem AgO (s:Stp) (node lo hi:Int) (w:World) (hl:s.lies w) (hok:s.ok) (hcap:s.sno.n<=s.sno.c):Calls Tryz.prog 50 #[.agg s.cells.toArray,vI node,.agg #[vI lo,vI hi]] w (RdP s node (decide (hi<lo)) w):=by
 have HS:=hid (OH w s.cells.toArray #[vI lo,vI hi] #[.slice none 0 0,.slice none 0 0,.slice none 0 0] 35 53 112);have X4:Hid (Ex (((w.alloc (.cells s.cells.toArray 35)).alloc (.cells #[vI lo,vI hi] 53)).alloc (.cells #[.slice none 0 0,.slice none 0 0,.slice none 0 0] 112)) (w.heap.size+2) [.slice none 0 0,.slice none 0 0,.slice none 0 0]):=hid (Ex.new _ _ _ _ (by simp));have N:=StN.of hl;have HC:=hid (fun W (h:BoxS w 3 [s.cells,(lz2 lo hi),[.slice none 0 0,.slice none 0 0,.slice none 0 0]] W)=>I5 s W (hl.below h.B) hok);have HA:=hid (fun W (h:BoxS w 3 [s.cells,(lz2 lo hi),[.slice none 0 0,.slice none 0 0,.slice none 0 0]] W)=>Ahu s W (hl.below h.B) hok)
 unfold Ag8 at HA
 have HP:=hid (fun (h0:suE s=0) (ha:Dr s=0) W (h:BoxS w 3 [s.cells,(lz2 lo hi),[.slice none 0 0,.slice none 0 0,.slice none 0 0]] W) A c (hA:Ints W A s.no.length (C8 s))=>show Calls Tryz.prog 22 #[.agg s.cells.toArray,.slice A s.no.length c] W (FY (sdA s) s.no.length 0 W) from by
  have hh:=Xb s A s.no.length c (C8 s) W (hl.below h.B) hok hA (by have:=Cq (Cm h0) N;unfold maxLen;omega)
  rw [AfH (Cm h0) N h0 (OG N ha)] at hh
  simp only [Gf,IX] at hh
  exact hh)
 have HL:=hid (fun (hE:suE s=0) W (h:BoxS w 3 [s.cells,(lz2 lo hi),[.slice none 0 0,.slice none 0 0,.slice none 0 0]] W)=>Ah1 s W (hl.below h.B) hok (Cm hE) hcap)
 have HT:=hid (fun (h0:suE s=0) W A c (hd:Ints W A (s.no.length - 1) (EI s))=>show Calls Tryz.prog 23 #[.slice A (s.no.length - 1) c,vI s.acc,vI s.dec] W (FY (spS s) (s.no.length - 1) 0 W) from by
  have hh:=Xe A (s.no.length - 1) c (EI s) s.acc s.dec W hd (by have:=Cq (Cm h0) N;unfold maxLen;omega)
  rw [AcT (Cm h0) N] at hh
  simp only [Gf,IX] at hh
  exact hh)
 have CF:=hid (fun W A S n cn m cm ws st h1 h2 h3 h4 h5 h6=>Iy A S n cn m cm ws st W h1 h2 h3 h4 h5 h6);have HX:=hid (fun W (h:BoxS w 3 [s.cells,(lz2 lo hi),[.slice none 0 0,.slice none 0 0,.slice none 0 0]] W)=>show Has W w.heap.size s.cells from h.has 0 _ rfl);have HK:=hid (fun W (h:BoxS w 3 [s.cells,(lz2 lo hi),[.slice none 0 0,.slice none 0 0,.slice none 0 0]] W)=>show W.cell? ⟨w.heap.size,0,none⟩=some (.slice s.sno.A s.sno.n s.sno.c)∧W.cell? ⟨w.heap.size+1,0,none⟩=some (vI lo)∧W.cell? ⟨w.heap.size+1,1,none⟩=some (vI hi) from ⟨PQ (h.has 0 _ rfl),h.at 1 _ rfl 0 _ rfl,h.at 1 _ rfl 1 _ rfl⟩);have HOC:=hid (fun (h0:suE s=0) (ha:Dr s=0)=>Aim (Cm h0) N (OG N ha));have HLN:=hid (fun (h0:suE s=0)=>Cq (Cm h0) N);have HNO:=hid N.no;clear hl hok hcap N
 go_enter Tryz.func50,Tryz.ntmps50
 go_wp2_with (refine AC (.tmp 3) rfl rfl rfl (HS.out.has 0 _ rfl) ?_)
 refine (HC.out _ HS.out).mono ?_;rintro e' w1 ⟨rfl,hB⟩
 replace HS:=hid (HS.out.below hB);replace X4:=hid (X4.out.below hB);clear hB HC
 by_cases h0:suE s=0
 rotate_left
 ·have HE:=hid (AgE (node:=node) (late:=decide (hi<lo)) h0)
  have HNE:=hid h0;have e1:=Aw h0;have e2:=AL e1;clear HA HP HL HT CF HX X4 HOC HLN
  let EE:=suE s
  exact r8Z
 rw [h0]
 have HSU:=hid h0;have k0:=HK.out _ HS.out
 by_cases h1:node<1∨(s.no.length:Int)<=node∨decide (hi<lo)=true
 ·have HE:=hid (AgK (late:=decide (hi<lo)) h0 h1)
  clear HA HP HL HT CF HX X4 HOC HLN h0
  let EE:=(1:Int)
  have hn:=HNO.out
  by_cases c1:node<1
  ·exact r8Z
  by_cases c2:(s.sno.n:Int)<=node
  ·exact r8Z
  have c3:hi<lo:=h1.elim (fun h=>absurd h c1) fun h=>h.elim (fun h=>absurd (show (s.sno.n:Int)<=node by have:=HNO.out;omega) c2) of_decide_eq_true
  exact r8Z
 have c1:¬ node<1:=fun h=>h1 (.inl h);have c2:¬ (s.sno.n:Int)<=node:=fun h=>h1 (.inr (.inl (by have:=HNO.out;omega)));have c3:¬ hi<lo:=fun h=>h1 (.inr (.inr (Ct h)));have HH1:=hid h1;clear h1 h0
 go_wp2_with (refine AC (.tmp 3) rfl rfl rfl (HS.out.has 0 _ rfl) ?_)
 clear k0 c1 c2 c3
 refine (HA.out _ HS.out).mono ?_;rintro e' w2 ⟨A,c,x,y,rfl,ha,hB⟩
 replace hB:=Bh hB (.cells #[vI x,vI y] 39);have HI:=hid (ha.below (Aa w2 (.cells #[vI x,vI y] 39)));replace HS:=hid (HS.out.below hB);replace X4:=hid (X4.out.below hB);clear hB HA ha
 by_cases h0:Dr s=0
 rotate_left
 ·have HE:=hid (AgL (late:=decide (hi<lo)) HSU.out HH1.out h0)
  have HNE:=hid h0;have e1:=Aw h0;have e2:=AL e1;clear HP HL HT CF HX X4 HOC HLN HI
  let EE:=Dr s
  exact r8Z
 have HAE:=hid h0
 rw [h0] at HI ⊢
 simp only [Gf,IX] at HI ⊢
 clear h0;have HN2:=hid (HLN.out HSU.out)
 go_wp2_with (refine AC (.tmp 3) rfl rfl rfl (HS.out.has 0 _ rfl) ?_)
 refine (HP.out HSU.out HAE.out _ HS.out _ _ HI.out).mono ?_;rintro e' w4 ⟨A2,c2,rfl,hws,hc2,hB⟩
 replace HS:=hid (HS.out.below hB);replace HI:=hid (HI.out.below hB);replace X4:=hid (X4.out.below hB);have HWS:=hid hws;clear hB HP hws hc2
 go_wp2_with fail
 refine rS (fun W=>BoxS w 3 [s.cells,(lz2 lo hi),[.slice none 0 0,.slice none 0 0,.slice none 0 0]] W) 12 HS.out.drew (fun hHeld=>?_)
 replace HI:=hid (HI.out.below (AJ _ _).drew);replace HWS:=hid (HWS.out.below (AJ _ _).drew);replace X4:=hid (X4.out.below (AJ _ _).drew);generalize hW0:World.drew _=w5 at *;clear hW0 HS;have FA:=fun W (h:BoxS w 3 [s.cells,(lz2 lo hi),[.slice none 0 0,.slice none 0 0,.slice none 0 0]] W)=>And.intro (Oh (HX.out W h)) (Oi (HX.out W h))
 refine rY (FM (.tmp 3) rfl rfl rfl (fun W hW=>HX.out W hW)) ?_
 repeat (first | refine rQ ?_ | refine rF ?_)
 refine rEk ?_
 intro K hK
 refine (HL.out HSU.out _ hHeld).mono ?_;rintro e2 w6 ⟨Ad,cd,rfl,hd,hB⟩
 go_wp2_with fail
 have HD:=hid hd;replace HI:=hid (HI.out.below hB);replace HWS:=hid (HWS.out.below hB);replace X4:=hid (X4.out.below hB)
 refine rEt hK (hHeld.below hB) ?_
 clear hK K hHeld hB hd
 intro hHeld
 repeat (first | refine rQ ?_ | refine rF ?_)
 refine rEk ?_
 intro K hK
 refine (HT.out HSU.out _ _ _ HD.out).mono ?_;rintro e2 w7 ⟨A3,c3,rfl,hst,hc3,hB⟩
 go_wp2_with fail
 have HST:=hid hst;have HC3:=hid hc3;replace HI:=hid (HI.out.below hB);replace HWS:=hid (HWS.out.below hB);replace X4:=hid (X4.out.below hB)
 refine rEt hK (hHeld.below hB) ?_
 clear hK K hHeld hB hst HD hc3
 intro hHeld
 repeat (first | refine rQ ?_ | refine rF ?_)
 refine rD ?_
 have HS:=hid hHeld;clear hHeld FA
 go_wp2_with fail
 refine (CF.out _ _ _ _ _ _ _ _ _ HWS.out HST.out (by have:=HN2.out;unfold maxLen;omega) (by have:=HN2.out;unfold maxLen;omega) HC3.out.le HC3.out.mx).mono ?_;rintro e2 w8 ⟨rfl,hB⟩
 generalize (cfP (sdA s) (spS s)).1=x2 at *;generalize (cfP (sdA s) (spS s)).2=y2 at *;generalize Cs.chkE (sdA s) (spS s)=CE at *;replace hB:=Bh hB (.cells #[vI x2,vI y2] 39);replace HS:=hid (HS.out.below hB);have HPL:=hid (PlB.below ⟨HI.out,HWS.out,HST.out,HC3.out⟩ hB);replace X4:=hid (X4.out.below hB);have HSP:=hid (AgM (late:=decide (hi<lo)) HSU.out HH1.out HAE.out);clear hB CF HI HWS HST HC3 HL HT HX
 rcases HOC.out HSU.out HAE.out with ⟨hb,h3⟩ | ⟨hb,h3⟩
 rotate_left
 ·have HE:=hid (HSP.out.trans h3)
  rw [hb]
  let EE:=(11:Int)
  clear HPL X4 h3 HOC HLN
  exact r8Z
 have HE:=hid (HSP.out.trans h3)
 rw [hb]
 have hne:=HPL.out.ne HN2.out.1 X4.out;clear HSP h3 hb HOC HLN;have q2:=HS.out.has 2 _ rfl;have f0:=q2.fr;have c0:=q2.cell 0 _ rfl;have c1:=q2.cell 1 _ rfl;have c2':=q2.cell 2 _ rfl;have Q:=hid (set3 q2 HS.out.B (by omega) rfl (.slice A s.no.length c) (.slice A2 s.no.length c2) (.slice A3 (s.no.length - 1) c3));replace HPL:=hid (((HPL.out.set hne 0 (.slice A s.no.length c)).set hne 1 (.slice A2 s.no.length c2)).set hne 2 (.slice A3 (s.no.length - 1) c3));clear q2 hne X4
 go_wp2_with fail
 obtain ⟨r,hB⟩:=Q.out;have p0:=r.cell 0 _ rfl;have p1:=r.cell 1 _ rfl;have p2:=r.cell 2 _ rfl;generalize hW0:World.setCell _ _ _=W5 at *;clear hW0
 exact bodyPost_ret (v:=.tuple #[.agg #[.slice A s.no.length c,.slice A2 s.no.length c2,.slice A3 (s.no.length - 1) c3],vI 0]) (by simp [results,Tryz.results50,go_sem,p0,p1,p2]) rfl (Ah2 HE.out HPL.out hB)
theorem AgU (s:Stp) (A A2 A3:Option Addr) (n c c2 m c3:Nat) (k:Int) (w:World) (hl:s.lies w) (hok:s.ok) (hn:n=s.no.length) (hm:m=s.no.length - 1) (P:PlB s A A2 A3 c3 w) (hx:s.no.length<=64) (hf:Sp.faE (sdA s) (spS s) k=0):Calls Tryz.prog 52 #[.agg s.cells.toArray,.agg #[.slice A n c,.slice A2 n c2,.slice A3 m c3],vI k] w (Vf (okL (fkE s k) (fkL s k)) (okN (fkE s k) s.no.length) (fkE s k) w):=by
 subst hn hm;have HS:=hid (Dt w s.cells.toArray #[.slice A s.no.length c,.slice A2 s.no.length c2,.slice A3 (s.no.length - 1) c3] 35 112);have HFA:=hid (fun W (h:Below w.heap.size w W)=>RV A2 A3 s.no.length c2 (s.no.length - 1) c3 (sdA s) (spS s) k W (P.ws.below h) (P.st.below h) (by unfold maxLen;omega) (by unfold maxLen;omega) P.cap.le P.cap.mx)
 rw [hf] at HFA
 simp only [Gf,IX] at HFA
 have HW:=hid (fun W (h:Below w.heap.size w W) A' c' (hb:Ints W A' s.no.length (fam s k))=>(AcJ s A A' s.no.length c s.no.length c' (C8 s) (fam s k) W (hl.below h) hok (P.al.below h) hb (by unfold maxLen;omega) (by unfold maxLen;omega)).mono (R':=Vf (okL (fkE s k) (fkL s k)) (okN (fkE s k) s.no.length) (fkE s k) W) fun e w' ⟨A,c,h1,h2,h3,h4,_⟩=>⟨A,c,h1,h2,h3,h4⟩)
 rw [show Sp.faL (sdA s) (spS s) k=fam s k from rfl] at HFA
 generalize fam s k=fmL at *;generalize okL (fkE s k) (fkL s k)=RL at *;generalize okN (fkE s k) s.no.length=RN at *;generalize fkE s k=E at *;have d0:=HS.out.at 1 _ rfl 0 _ rfl;have d1:=HS.out.at 1 _ rfl 1 _ rfl;have d2:=HS.out.at 1 _ rfl 2 _ rfl;clear hl hok P hx hf d0
 go_enter Tryz.func52,Tryz.ntmps52
 go_wp2_with fail
 clear d1 d2
 refine (HFA.out _ HS.out.B).mono ?_;rintro e' w1 ⟨A4,c4,rfl,hI,hB⟩
 replace HS:=hid (HS.out.below hB);have HI:=hid hI;clear hB hI HFA;have d0:=HS.out.at 1 _ rfl 0 _ rfl
 go_wp2_with (refine AC (.tmp 3) rfl rfl rfl (HS.out.has 0 _ rfl) ?_)
 clear d0
 refine (HW.out _ HS.out.B _ _ HI.out).mono ?_;rintro e' w2 ⟨A5,c5,rfl,hP,hK,hB⟩
 have HP:=hid (And.intro hP (And.intro hK (Ae HS.out.B hB)));clear hP hK hB
 go_wp2_with fail
 go_ret2
 exact ⟨A5,c5,rfl,HP.out.1,HP.out.2.1,HP.out.2.2⟩
theorem PS {s:Stp} {node:Int} (O:OpG s node) {A A2 A3:Option Addr} {c2 c3:Nat} {w:World} (P:PlB s A A2 A3 c3 w) (hx:s.no.length<=64):Calls Tryz.prog 51 #[.slice A2 s.no.length c2,.slice A3 (s.no.length - 1) c3] w (AhM (spn s) 0 w):=by
 have h:=Ahw A2 A3 s.no.length c2 (s.no.length - 1) c3 (sdA s) (spS s) w P.ws P.st (by unfold maxLen;omega) (by unfold maxLen;omega) P.cap.le P.cap.mx
 rw [Aiq O] at h
 exact h
