/- M29: Pr7, Pr8, Pr9 in one text. -/
import Derived.Test.YtheepmnhpclimaaGreatM28
import Derived.Test.YtheepmnhpclimaaGreatM7
import Derived.Test.YtheepmnhpclimaaGreatM42
import Derived.RegionTactic
import Derived.Test.YtheepmnhpclimaaGreatM4
import Derived.Test.YtheepmnhpclimaaGreatGd4
set_option linter.unusedSimpArgs false
set_option linter.unusedVariables false
set_option maxRecDepth 100000
set_option maxHeartbeats 8000000
namespace Go.Proofs
theorem zM29_0 {G : Prop} (h : G := by
  have HB:=hid (bel_trans HS.out.B hB);clear hB
  go_wp2_with fail
  go_ret
  exact ⟨ret_int HF.out.symm,HB.out⟩) : G := h
theorem zM29_1 {G : Prop} (h : G := by
  go_enter Tryz.func39,Tryz.ntmps39
  go_wp2_with fail
  go_ret
  exact ⟨ret_int HF.out.symm,HS.out.B⟩) : G := h
end Go.Proofs
namespace Go.Proofs.YtheepmnhpclimaaGreat
open Go.RowKit
open Go.Lib (hid)
theorem Ow.setNe {α:Type} {f:α→List Value} {sz:Nat} {e:TypeId} {N:Nat} {l:List α} {v:Value} {wr:World} (h:Ow f sz e N l v wr) (p:Addr) (x:Value) (hp:∀ k,v.ownBlock=some k→k≠p.block):Ow f sz e N l v (wr.setCell p x):=h.grown (grown_set wr p x) (by
 cases hv:v.ownBlock with
 | none=>exact .inl rfl
 | some k=>refine .inr fun e=>?_;exact hp k hv (by injection e))
def SdrRel (s:Stp) (al:List Int) (n:Nat) (w:World) (v t:Value) (wr:World):Prop:=∃ k:Nat,k<=n∧t=vI (k:Int)∧(∀ x ∈ al.take k,-200000<=x∧x<=6000000)∧BoxS w 1 [s.cells] wr∧Ow win 2 43 (w.heap.size+1) ((sdL s al).take k) v wr
theorem sdL_take {s:Stp} {al:List Int} (h:al.length=s.no.length) {k:Nat} (hk:k<s.no.length):(sdL s al).take (k+1)=(sdL s al).take k ++ [sdF s (nodA s k) (al.getD k 0)]:=take_succ_get _ k _ (sdL_get h hk)
theorem take_all_succ {l:List Int} {k:Nat} {x:Int} {P:Int→Prop} (h:∀ y ∈ l.take k,P y) (hx:l[k]? = some x) (hp:P x):∀ y ∈ l.take (k+1),P y:=by
 intro y hy
 rw [take_succ_get _ k _ hx] at hy
 rcases List.mem_append.1 hy with h1 | h1
 ·exact h y h1
 ·rw [List.mem_singleton.1 h1];exact hp
theorem sdE_su {s:Stp} {al:List Int} (h:suE s≠0):sdE s al=suE s:=if_pos h
theorem sdE_1 {s:Stp} {al:List Int} (h:suE s=0) (h2:al.length≠s.no.length):sdE s al=1:=by unfold sdE;rw [if_neg (by rw [h];decide),if_pos h2]
theorem sdE_2 {s:Stp} {al:List Int} {x:Int} (h:suE s=0) (h2:al.length=s.no.length) (hx:x ∈ al) (h3:inB x (-200000) 6000000=false):sdE s al=2:=by
 unfold sdE
 rw [if_neg (by rw [h];decide),if_neg (by omega),if_neg (fun h4=>by
  unfold rngL at h4
  rw [List.all_eq_true] at h4
  have:=h4 x hx
  rw [h3] at this
  exact absurd this (by decide))]
theorem sdE_0 {s:Stp} {al:List Int} (h:suE s=0) (h2:al.length=s.no.length) (h3:∀ x ∈ al,-200000<=x∧x<=6000000):sdE s al=0:=by
 unfold sdE
 rw [if_neg (by rw [h];decide),if_neg (by omega),if_pos (by unfold rngL;rw [List.all_eq_true];exact fun x hx=>inB_iff.2 (h3 x hx))]
theorem xPSpeeds (s:Stp) (A:Option Addr) (n c:Nat) (al:List Int) (w:World) (hl:s.lies w) (hok:s.ok) (hal:Ints w A n al) (hn:n<=maxLen):Calls Tryz.prog 11 #[.agg s.cells.toArray,.slice A n c] w (PrRes (okL (sdE s al) (sdL s al)) (okN (sdE s al) n) (sdE s al) w):=by
 obtain ⟨i0,hi,hz0,hz1,hz2⟩:=info_parts infoWin;have HS:=hid (boxS1 w s.cells.toArray 35);have HC:=hid (fun W (h:BoxS w 1 [s.cells] W)=>xPrCheck s W (hl.below h.B) hok)
 by_cases hE:suE s=0
 rotate_left
 ·have HX:=hid (sdE_su (al:=al) hE)
  generalize suE s=E at *;have e1:=beq_of hE;have e2:=bne_of e1;have HE:=hid hE;clear hl hok hE hal hn
  go_enter Tryz.func11,Tryz.ntmps11
  go_wp2_with (refine at_stp (.tmp 2) rfl rfl rfl (HS.out.has 0 _ rfl) ?_)
  refine (HC.out _ HS.out).mono ?_;rintro e' w1 ⟨rfl,hB⟩
  have HB:=hid (bel_trans HS.out.B hB);clear hB
  go_wp2_with fail
  go_ret2
  exact prRes_err HX.out HE.out HB.out
 have G:=su_good hE;have N:=StN.of hl;have hno:=N.no;have hn2:=no_len G N
 rw [hE] at HC
 have HEE:=hid hE;obtain ⟨b,off,hA⟩:=su_A hl (by omega);have HNS:=hid (fun W (h:BoxS w 1 [s.cells] W)=>show W.cell? ⟨w.heap.size,0,none⟩=some (.slice (some ⟨b,off,none⟩) s.sno.n s.sno.c) from su_sl (h.has 0 _ rfl) hA);have hlen:=hal.len
 unfold maxLen at hn
 by_cases hnn:n=s.no.length
 rotate_left
 ·have HX:=hid (sdE_1 hE (show al.length≠s.no.length by omega))
  have g1:((n:Int) == (s.sno.n:Int))=false:=beq_of (by omega);have g2:=bne_of g1;clear hl hok hE hal G N hA hno hn2 hlen hnn
  go_enter Tryz.func11,Tryz.ntmps11
  go_wp2_with (refine at_stp (.tmp 2) rfl rfl rfl (HS.out.has 0 _ rfl) ?_)
  refine (HC.out _ HS.out).mono ?_;rintro e' w1 ⟨rfl,hB⟩
  replace HS:=hid (HS.out.below hB);have k0:=HNS.out _ HS.out;clear hB
  go_wp2_with fail
  go_ret2
  exact prRes_err HX.out (by decide) HS.out.B
 have HLEN:=hid hlen;have HNN:=hid (show al.length=s.no.length by omega);have HN2:=hid (show n=s.no.length∧n=s.sno.n from ⟨hnn,by omega⟩)
 have g1:((n:Int) == (s.sno.n:Int))=true:=by rw [show n=s.sno.n by omega];simp
 have g2:((n:Int) != (s.sno.n:Int))=false:=by rw [bne,g1];rfl
 have hn64:n<=64:=by omega
 have HND:=hid (fun W (h:BoxS w 1 [s.cells] W) k (hk:k<n)=>show W.cell? ⟨b,off+k * 7+5,none⟩=some (vI (nodA s k).s0)∧W.cell? ⟨b,off+k * 7+6,none⟩=some (vI (nodA s k).s1)∧W.cell? ⟨w.heap.size,30,none⟩=some (vI s.cas)∧W.cell? ⟨w.heap.size,34,none⟩=some (vI s.la)∧W.cell? ⟨w.heap.size,35,none⟩=some (vI s.ls) from
  have q:=su_nd (hl.below h.B) hA (k:=k) (by omega)
  ⟨q.2.2.2.2.2.1,q.2.2.2.2.2.2,su_cas (h.has 0 _ rfl),su_la (h.has 0 _ rfl),su_ls (h.has 0 _ rfl)⟩)
 have HAL:=hid hal;have HWH:=hid (fun W (h:BoxS w 1 [s.cells] W)=>show Has W w.heap.size s.cells from h.has 0 _ rfl);have HM:=hid (fun W=>xFuMass s.ac W);have HMI:=hid (fun W (h:BoxS w 1 [s.cells] W)=>xMinSpeed s.pf s.ac.mass W (hl.below h.B).pf hok.pf);have HMA:=hid (fun W (h:BoxS w 1 [s.cells] W) a=>xMaxSpeed s.pf a W (hl.below h.B).pf hok.pf);clear hl hok hE hal G N hA hno hn2 hlen hnn;generalize hMN:mnsV s.pf s.ac.mass=MN at *;have HMN:=hid hMN;clear hMN
 go_enter Tryz.func11,Tryz.ntmps11
 go_wp2_with (refine at_stp (.tmp 2) rfl rfl rfl (HS.out.has 0 _ rfl) ?_)
 refine (HC.out _ HS.out).mono ?_;rintro e' w1 ⟨rfl,hB⟩
 replace HS:=hid (HS.out.below hB);have k0:=HNS.out _ HS.out;clear hB HC
 go_wp2_with fail
 clear k0
 refine rS (fun W=>BoxS w 1 [s.cells] W) 11 (HS.out.drew) (fun hHeld=>?_)
 refine rQ ?_
 refine rY (yi_spf (.tmp 27) rfl rfl rfl (fun W hW=>HWH.out W hW)) ?_
 refine rQ ?_
 refine rY (yi_sac (.tmp 29) rfl rfl rfl (fun W hW=>HWH.out W hW)) ?_
 refine rEk ?_
 intro K hK
 refine (HM.out _).mono ?_;rintro e2 w4 ⟨rfl,hB⟩
 go_wp2_with fail
 have hNew:=hHeld.below hB;clear hB
 refine rEt hK hNew ?_
 clear hK K hNew hHeld
 intro hHeld
 refine rEk ?_
 intro K hK
 refine (HMI.out _ hHeld).mono ?_;rintro e2 w4 ⟨rfl,hB⟩
 go_wp2_with fail
 have hNew:=hHeld.below hB;clear hB
 refine rEt hK hNew ?_
 clear hK K hNew hHeld
 intro hHeld
 iterate 5 refine rQ ?_
 refine rD ?_
 replace HS:=hid hHeld;clear hHeld g1 g2 HM HMI
 go_wp2_with fail
 go_loopw [9,37] (fun v t wr=>SdrRel s al n w v t wr) (fun _ t _=>n - (intOf t).toNat)
 case atStart=>exact ⟨0,by omega,rfl,by simp,HS.out,Ow.start _ _ _ _ _⟩
 case round =>
  obtain ⟨k,hk,rfl,hall,hs,ho⟩:=hrel;replace HS:=hid hs;have HO:=hid ho;have HALL:=hid hall;clear hs ho hall
  by_cases hlt:k<n
  ·have HTK:=hid (sdL_take (s:=s) HNN.out (k:=k) (by have:=HN2.out.1;omega))
   obtain ⟨x,hx⟩:=get_ex HLEN.out hlt;obtain ⟨bx,ox,hbx,hbl,cx⟩:=ints_cell HAL.out hx;have HXX:=hid hx;have HGD:=hid (show al.getD k 0=x from getD_of_get hx);replace cx:=(HS.out.B.cell (p:=⟨bx,ox+k,none⟩) hbl).trans cx;have HBX:=hid hbx
   have i1:(0:Int)<=(k:Int):=by omega
   have i2:(k:Int)<(s.sno.n:Int):=by have:=HN2.out.2;omega
   have i3:(k:Int)<(n:Int):=by omega
   rw [hbx]
   clear hx hbx
   cases hin:inB x (-200000) 6000000
   ·have HE:=hid (sdE_2 HEE.out HNN.out (List.mem_of_getElem? HXX.out) hin)
    have G0:=hid hin;clear hin
    go_wp2_with fail
    refine (xAlt37 _ _).mono ?_;rintro e wx ⟨rfl,rfl⟩
    rw [G0.out]
    go_wp2_with fail
    go_ret2
    exact prRes_err HE.out (by decide) HS.out.B
   have G0:=hid hin;clear hin
   have hlen2:((sdL s al).take k).length<=64:=by rw [List.length_take];omega
   have HKK:=hid (fun W (h:BoxS w 1 [s.cells] W)=>And.intro (HNS.out W h) (HND.out W h k hlt))
   have HSF:=hid (show sdF s (nodA s k) x=(max (nodA s k).s0 MN,if x<s.la then min (min (nodA s k).s1 (min s.cas (mxsV s.pf x))) s.ls else min (nodA s k).s1 (min s.cas (mxsV s.pf x))) from by rw [← HMN.out,← Int.min_assoc];rfl)
   rw [HGD.out] at HTK
   go_wp2_with fail
   refine (xAlt37 _ _).mono ?_;rintro e wx ⟨rfl,rfl⟩
   rw [G0.out]
   go_wp2_with (refine at_spf (.tmp 46) rfl rfl rfl (HS.out.has 0 _ rfl) ?_)
   refine (HMA.out _ HS.out x).mono ?_;rintro e wy ⟨rfl,hB⟩
   replace HS:=hid (HS.out.below hB);replace HO:=hid (HO.out.below hB);clear hB cx;generalize mxsV s.pf x=MX at *;generalize sdF s (nodA s k) x=SF at *;generalize hLL:(sdL s al).take k=LL at *;have HLL:=hid hLL;clear hLL
   go_wp2_with fail
   refine rS (fun W=>BoxS w 1 [s.cells] W) 23 (HS.out.drew) (fun hHeld=>?_)
   refine rQ ?_
   refine rT (fun W hW=>HKK.out W hW) ?_
   iterate 4 refine rQ ?_
   refine rT (fun W hW=>HKK.out W hW) ?_
   iterate 3 refine rQ ?_
   refine rT (fun W hW=>HKK.out W hW) ?_
   iterate 4 refine rQ ?_
   refine rT (fun W hW=>HKK.out W hW) ?_
   refine rQ ?_
   refine rT (fun W hW=>HKK.out W hW) ?_
   refine rQ ?_
   refine rVm ((vI (min (nodA s k).s1 (min s.cas MX)))) ?_
   refine rQ ?_
   refine rEk ?_
   intro K hK
   have hBase:=hHeld;have hNew:=hHeld.alloc (.cells #[vI 0,vI 0] 43)
   refine rEt hK hNew ?_
   clear hK K hNew hHeld
   intro hHeld
   refine rEk ?_
   intro K hK
   have hNew:=(HS.out.alloc (.cells #[vI (max (nodA s k).s0 MN),vI (min (nodA s k).s1 (min s.cas MX))] 43)).drew
   refine rEt hK hNew ?_
   clear hK K hNew hHeld
   intro hHeld
   refine rD ?_
   have HT:Hid (Has ((wy.alloc (.cells #[vI (max (nodA s k).s0 MN),vI (min (nodA s k).s1 (min s.cas MX))] 43)).drew) wy.heap.size (lz2 (max (nodA s k).s0 MN) (min (nodA s k).s1 (min s.cas MX)))):=hid (Has.new _ _ _).drew;have HOB:=hid (show ∀ k,_→k≠wy.heap.size from fun k hk=>Nat.ne_of_lt (HO.out.lt hk).2);replace HO:=hid ((HO.out.alloc (.cells #[vI (max (nodA s k).s0 MN),vI (min (nodA s k).s1 (min s.cas MX))] 43)).drew);have hge:w.heap.size+1<=wy.heap.size:=HS.out.sz;replace HS:=hid hHeld;clear hHeld hBase;generalize (wy.alloc (.cells #[vI (max (nodA s k).s0 MN),vI (min (nodA s k).s1 (min s.cas MX))] 43)).drew=w9 at *;generalize wy.heap.size=H9 at *;generalize min (nodA s k).s1 (min s.cas MX)=HI at *;obtain ⟨k0,-,-,-,k34,k35⟩:=HKK.out _ HS.out;have t0:=HT.out.cell 0 _ rfl;have t1:=HT.out.cell 1 _ rfl;have tf:=HT.out.fr
   by_cases hla:x<s.la
   ·rw [if_pos hla] at HSF
    have hne:some H9≠none:=by simp
    have HHX:=hid (fun v=>HT.out.set 1 v (by simp))
    go_wp2_with (at_builtin;refine wpList_append_own_at _ rfl _ _ 47 rfl (w.heap.size+1) 43 i0 (.agg #[vI 0,vI 0]) 2 16 Tryz.underlying47 hi hz0 hz1 hz2 rfl (by decide) _ _ _ rfl (((HO.out.setNe ⟨H9,1,none⟩ (vI (min HI s.ls)) HOB.out).alloc _).own) ⟨w9.heap.size,0,none⟩ 1 1 (lz2 (max (nodA s k).s0 MN) (min HI s.ls)) rfl rfl (news_new _ _ (by first | rfl | simp) _ _ _ rfl) (by intro u hu;simp at hu;rcases hu with rfl | rfl <;> rfl) (by unfold maxLen;omega) (by omega) (by have:=HS.out.sz;simp;omega) ?_;intro v1 w7 hown hgrow hnil hblk)
    have HS7:=hid (((HS.out.set H9 1 hge (vI (min HI s.ls))).alloc _).grown hgrow (fun k hk=>(HO.out.lt hk).1));have HO7:=hid (Ow.next (l:=LL) (f:=win) (x:=(max (nodA s k).s0 MN,min HI s.ls)) hown);clear hown hgrow hnil hblk HS HO k34 k35 t0 t1 tf HHX
    go_roundw
    case rel=>exact ⟨k+1,by omega,by go_num,take_all_succ HALL.out HXX.out (inB_iff.1 G0.out),HS7.out,by rw [HTK.out,HSF.out];exact HO7.out⟩
    case measure=>simp only [intOf];omega
   ·rw [if_neg hla] at HSF
    go_wp2_with (at_builtin;refine wpList_append_own_at _ rfl _ _ 47 rfl (w.heap.size+1) 43 i0 (.agg #[vI 0,vI 0]) 2 16 Tryz.underlying47 hi hz0 hz1 hz2 rfl (by decide) _ _ _ rfl ((HO.out.alloc _).own) ⟨w9.heap.size,0,none⟩ 1 1 (lz2 (max (nodA s k).s0 MN) HI) rfl rfl (news_new _ _ (by first | rfl | simp) _ _ _ rfl) (by intro u hu;simp at hu;rcases hu with rfl | rfl <;> rfl) (by unfold maxLen;omega) (by omega) (by have:=HS.out.sz;simp;omega) ?_;intro v1 w7 hown hgrow hnil hblk)
    have HS7:=hid ((HS.out.alloc _).grown hgrow (fun k hk=>(HO.out.lt hk).1));have HO7:=hid (Ow.next (l:=LL) (f:=win) (x:=(max (nodA s k).s0 MN,HI)) hown);clear hown hgrow hnil hblk HS HO k34 k35 t0 t1 tf
    go_roundw
    case rel=>exact ⟨k+1,by omega,by go_num,take_all_succ HALL.out HXX.out (inB_iff.1 G0.out),HS7.out,by rw [HTK.out,HSF.out];exact HO7.out⟩
    case measure=>simp only [intOf];omega
  ·have hkn:=hid (show k=n by omega)
   have HE:=hid (sdE_0 HEE.out HNN.out (by have h:=HALL.out;rw [List.take_of_length_le (by rw [HLEN.out];omega)] at h;exact h));have HO2:=hid (show Ow win 2 43 (w.heap.size+1) (sdL s al) _ wr from by have h:=HO.out;rwa [List.take_of_length_le (by rw [sdL_len HNN.out];have:=HN2.out;omega)] at h);obtain ⟨A',c',hv,hP,hcap⟩:=HO2.out.res win_len (show (sdL s al).length=n from by rw [sdL_len HNN.out];exact HN2.out.1.symm);have HP:=hid hP;have HCAP:=hid hcap
   have i2:¬ (k:Int)<(n:Int):=by omega
   subst hv;clear hP hcap HO HO2
   go_wp2_with fail
   go_ret2
   exact prRes_ok HE.out ⟨A',c',rfl,HP.out,HCAP.out⟩ HS.out.B
def Lg.cells (l:Lg):List Value:=(lzl l.al l.co l.ph l.sp l.ta l.we l.wn)
theorem ceil_neg {X Y:Int} (hY:1<=Y) : -((-X) / Y)=(X+Y - 1) / Y:=by
 have h1:=le_ceil (d:=X) hY;have h2:(X+Y - 1) / Y * Y<=X+Y - 1:=Int.ediv_mul_le _ (by omega);generalize (X+Y - 1) / Y=q at *;have a:(-X) / Y < -q+1:=(Int.ediv_lt_iff_lt_mul (by omega)).2 (by rw [Int.add_mul,Int.neg_mul];omega);have b : -q<=(-X) / Y:=(Int.le_ediv_iff_mul_le (by omega)).2 (by rw [Int.neg_mul];omega)
 omega
theorem ceil_v (X Y:Int) (h0:0<=X) (h1:X<=100000000) (hY:1<=Y):Fx.scV 1 X 1 Y=(X+Y - 1) / Y∧Fx.scE 1 X 1 Y=0:=by
 have e2:Fx.rqz 1 (X * 1) Y=(X+Y - 1) / Y:=by
  unfold Fx.rqz Fx.rq
  rw [if_neg (by omega),if_neg (by decide),if_pos rfl,Int.mul_one]
  exact ceil_neg hY
 have hb:=ceil_nn h0 hY
 rw [Fx.scV_eq 1 X 1 Y (by omega),Fx.scE_eq 1 X 1 Y (by omega),e2]
 constructor <;> (rw [if_pos];unfold Fx.inR;omega)
theorem gsV_bd (co t e n:Int):0<=gsV co t e n∧gsV co t e n<=4915200:=by
 by_cases h:gsE co t e n=0
 ·have g:=gs_good h
  have hv:=g.hv;have hlo:=g.hlo;have ha:=(al_bd' (co:=co) (e:=e) (n:=n) (by unfold wiB;rw [Bool.and_eq_true,inB_iff,inB_iff];exact ⟨g.he,g.hn⟩)).1
  have hr:gsR co t e n<=4096000:=by
   have h1:gsR co t e n<=sqV (4096000 * 4096000):=sqV_mono (by
    have h2:=sqr_mono (a:=t * 1024) (b:=4096000) (by have:=g.ht;omega) (by have:=g.ht;omega);have h3:=Int.mul_nonneg (abs_nn (acV co e n)) (abs_nn (acV co e n))
    rw [← sqr_abs] at h3
    omega)
   rw [sqV_sqr (by decide)] at h1
   exact h1
  omega
 ·have:gsV co t e n=0:=if_neg h
  omega
theorem xPTicks (d g:Int) (h0:0<=d) (h1:d<=100000000) (hg:1<=g) (hg2:g<=100000000) (w:World):Calls Tryz.prog 63 #[vI d,vI g] w fun e' w'=>e'=.returned (vI (tck d g))∧Below w.heap.size w w':=by
 have h:=xCeil d g ⟨by omega,by omega⟩ ⟨by omega,by omega⟩
 rw [(ceil_v d g h0 h1 hg).1,(ceil_v d g h0 h1 hg).2] at h
 have H:=hid h;have HV:=hid (show tck d g=(d+g - 1) / g from rfl);clear h;generalize (d+g - 1) / g=q at *
 go_enter Tryz.func63,Tryz.ntmps63
 go_wp2_with fail
 refine (H.out _).mono ?_;rintro e' w1 ⟨rfl,n,rfl⟩
 go_wp2_with fail
 go_ret
 exact ⟨ret_int HV.out.symm,below_drewN (Below.refl _ _) n⟩
theorem xLgSchedule (s:Stp) (l:Lg) (dev:Int) (w:World):Calls Tryz.prog 107 #[.agg l.cells.toArray,.agg s.cells.toArray,vI dev] w fun e' w'=>e'=.returned (vI (scdV l.sp s.mch l.al dev))∧Below w.heap.size w w':=by
 have HS:=hid (boxS2 w l.cells.toArray s.cells.toArray 115 35);have HX:=hid (fun W=>xSched l.sp s.mch l.al dev W);have k0:((w.alloc (.cells l.cells.toArray 115)).alloc (.cells s.cells.toArray 35)).cell? ⟨w.heap.size,3,none⟩=some (vI l.sp):=HS.out.at 0 _ rfl 3 _ rfl;have k1:((w.alloc (.cells l.cells.toArray 115)).alloc (.cells s.cells.toArray 35)).cell? ⟨w.heap.size,0,none⟩=some (vI l.al):=HS.out.at 0 _ rfl 0 _ rfl;have k2:((w.alloc (.cells l.cells.toArray 115)).alloc (.cells s.cells.toArray 35)).cell? ⟨w.heap.size+1,31,none⟩=some (vI s.mch):=su_mch (HS.out.has 1 _ rfl)
 go_enter Tryz.func107,Tryz.ntmps107
 go_wp2_with fail
 refine (HX.out _).mono ?_;rintro e' w2 ⟨rfl,hB⟩
 have HB:=hid (bel_trans HS.out.B hB);clear hB
 go_wp2_with fail
 go_ret
 exact ⟨rfl,HB.out⟩
theorem xLgGround (l:Lg) (e n:Int) (hco:I64 l.co) (w:World):Calls Tryz.prog 62 #[.agg l.cells.toArray,.agg #[vI e,vI n]] w fun e' w'=>e'=.returned (.tuple #[vI (gsV l.co l.ta e n / 1024),vI (gsE l.co l.ta e n)])∧Below w.heap.size w w':=by
 have HS:=hid (boxS2 w l.cells.toArray #[vI e,vI n] 115 89);have HX:=hid (fun W=>xGround l.co l.ta e n hco W);have hb:=gsV_bd l.co l.ta e n;have q1:(gsV l.co l.ta e n).tdiv 1024=gsV l.co l.ta e n / 1024:=Int.tdiv_eq_ediv_of_nonneg hb.1;have q2:IntKind.i64.wrap (gsV l.co l.ta e n / 1024)=gsV l.co l.ta e n / 1024:=IntWalk.i64_in _ (by omega);have k0:((w.alloc (.cells l.cells.toArray 115)).alloc (.cells #[vI e,vI n] 89)).cell? ⟨w.heap.size,1,none⟩=some (vI l.co):=HS.out.at 0 _ rfl 1 _ rfl;have k1:((w.alloc (.cells l.cells.toArray 115)).alloc (.cells #[vI e,vI n] 89)).cell? ⟨w.heap.size,4,none⟩=some (vI l.ta):=HS.out.at 0 _ rfl 4 _ rfl;have k2:((w.alloc (.cells l.cells.toArray 115)).alloc (.cells #[vI e,vI n] 89)).cell? ⟨w.heap.size+1,0,none⟩=some (vI e):=HS.out.at 1 _ rfl 0 _ rfl;have k3:((w.alloc (.cells l.cells.toArray 115)).alloc (.cells #[vI e,vI n] 89)).cell? ⟨w.heap.size+1,1,none⟩=some (vI n):=HS.out.at 1 _ rfl 1 _ rfl;clear hb
 go_enter Tryz.func62,Tryz.ntmps62
 go_wp2_with fail
 refine (HX.out _).mono ?_;rintro e' w2 ⟨d,rfl,hB⟩
 have HB:=hid (bel_trans HS.out.B hB);clear hB
 go_wp2_with fail
 go_ret2
 exact ⟨rfl,HB.out⟩
theorem xLgFlow (s:Stp) (l:Lg) (left tas:Int) (w:World) (hl:s.lies w) (hok:s.ok) (hp:l.ph=1∨l.ph=2∨l.ph=3) (hb : -4000000000000000<=s.ac.em+left∧s.ac.em+left<=4000000000000000):Calls Tryz.prog 64 #[.agg l.cells.toArray,.agg s.cells.toArray,vI left,vI tas] w fun e' w'=>e'=.returned (vI (flw s l left tas))∧Below w.heap.size w w':=by
 have HS:=hid (boxS2 w l.cells.toArray s.cells.toArray 115 35)
 have HV:=hid (show flw s l left tas=if l.ph=1 then clfV s.pf l.al (s.ac.em+left) else if l.ph=2 then crfV s.pf l.al (s.ac.em+left) tas else idlV s.pf l.al from rfl)
 have H1:=hid (fun W (h:Below w.heap.size w W)=>xClimbFlow s.pf l.al (s.ac.em+left) W (hl.below h).pf hok.pf);have H2:=hid (fun W (h:Below w.heap.size w W)=>xCruiseFlow s.pf l.al (s.ac.em+left) tas W (hl.below h).pf hok.pf);have H3:=hid (fun W (h:Below w.heap.size w W)=>xIdleFlow s.pf l.al W (hl.below h).pf hok.pf);have k0:((w.alloc (.cells l.cells.toArray 115)).alloc (.cells s.cells.toArray 35)).cell? ⟨w.heap.size,2,none⟩=some (.int .u8 l.ph):=HS.out.at 0 _ rfl 2 _ rfl;have k1:((w.alloc (.cells l.cells.toArray 115)).alloc (.cells s.cells.toArray 35)).cell? ⟨w.heap.size,0,none⟩=some (vI l.al):=HS.out.at 0 _ rfl 0 _ rfl;have k2:((w.alloc (.cells l.cells.toArray 115)).alloc (.cells s.cells.toArray 35)).cell? ⟨w.heap.size+1,25,none⟩=some (vI s.ac.em):=su_em (HS.out.has 1 _ rfl);have q1:IntKind.i64.wrap (s.ac.em+left)=s.ac.em+left:=IntWalk.i64_in _ (by omega);clear hl hok hb
 rcases hp with hp | hp | hp
 ·have HF:=hid (HV.out.trans (if_pos hp))
  rw [hp] at k0
  clear hp HV
  go_enter Tryz.func64,Tryz.ntmps64
  go_wp2_with (refine at_spf (.tmp 29) rfl rfl rfl (HS.out.has 1 _ rfl) ?_)
  refine (H1.out _ HS.out.B).mono ?_;rintro e' w2 ⟨rfl,hB⟩
  exact zM29_0
 ·have HF:=hid (HV.out.trans (by rw [if_neg (by omega),if_pos hp]))
  rw [hp] at k0
  clear hp HV
  go_enter Tryz.func64,Tryz.ntmps64
  go_wp2_with (refine at_spf (.tmp 40) rfl rfl rfl (HS.out.has 1 _ rfl) ?_)
  refine (H2.out _ HS.out.B).mono ?_;rintro e' w2 ⟨rfl,hB⟩
  exact zM29_0
 ·have HF:=hid (HV.out.trans (by rw [if_neg (by omega),if_neg (by omega)]))
  rw [hp] at k0
  clear hp HV
  go_enter Tryz.func64,Tryz.ntmps64
  go_wp2_with (refine at_spf (.tmp 19) rfl rfl rfl (HS.out.has 1 _ rfl) ?_)
  refine (H3.out _ HS.out.B).mono ?_;rintro e' w2 ⟨rfl,hB⟩
  exact zM29_0
theorem fcE_1 {s:Stp} {al sp:List Int} (h:al.length≠s.no.length∨sp.length≠s.no.length):fcE s al sp=1:=if_pos h
theorem fcE_2 {s:Stp} {al sp:List Int} (h:¬ (al.length≠s.no.length∨sp.length≠s.no.length)) (h2:¬ (rngL al (-200000) s.lv=true∧rngL sp 0 1000=true)):fcE s al sp=2:=by unfold fcE;rw [if_neg h,if_neg h2]
theorem fcE_0 {s:Stp} {al sp:List Int} (h:¬ (al.length≠s.no.length∨sp.length≠s.no.length)) (h2:rngL al (-200000) s.lv=true∧rngL sp 0 1000=true):fcE s al sp=0:=by unfold fcE;rw [if_neg h,if_pos h2]
theorem rngL_no {l:List Int} {lo hi x:Int} (hx:x ∈ l) (h:inB x lo hi=false):¬ rngL l lo hi=true:=fun h4=>by
 unfold rngL at h4
 rw [List.all_eq_true] at h4
 have:=h4 x hx
 rw [h] at this
 exact absurd this (by decide)
theorem rngL_yes {l:List Int} {lo hi:Int} (h:∀ x ∈ l,inB x lo hi=true):rngL l lo hi=true:=by unfold rngL;rw [List.all_eq_true];exact h
def FcRel (s:Stp) (al sp:List Int) (n:Nat) (w:World) (t:Value) (wr:World):Prop:=∃ k:Nat,k<=n∧t=vI (k:Int)∧(∀ x ∈ al.take k,inB x (-200000) s.lv=true)∧(∀ x ∈ sp.take k,inB x 0 1000=true)∧BoxS w 1 [s.cells] wr
theorem xPCheckFlight (s:Stp) (A B:Option Addr) (n c m d:Nat) (al sp:List Int) (w:World) (hno:s.no.length=s.sno.n) (ha:Ints w A n al) (hb:Ints w B m sp) (hn:n<=maxLen) (hm:m<=maxLen):Calls Tryz.prog 39 #[.agg s.cells.toArray,.slice A n c,.slice B m d] w fun e' w'=>e'=.returned (vI (fcE s al sp))∧Below w.heap.size w w':=by
 have HS:=hid (boxS1 w s.cells.toArray 35);have HKK:=hid (fun W (h:BoxS w 1 [s.cells] W)=>show W.cell? ⟨w.heap.size,0,none⟩=some (.slice s.sno.A s.sno.n s.sno.c)∧W.cell? ⟨w.heap.size,29,none⟩=some (vI s.lv) from ⟨su_no (h.has 0 _ rfl),su_lv (h.has 0 _ rfl)⟩);have la:=ha.len;have lb:=hb.len
 unfold maxLen at hn hm
 obtain ⟨k0,k29⟩:=HKK.out _ HS.out
 by_cases h1:n=s.no.length
 rotate_left
 ·have HF:=hid (fcE_1 (s:=s) (al:=al) (sp:=sp) (.inl (by omega)))
  have g1:((n:Int) == (s.sno.n:Int))=false:=beq_of (by omega);have g2:=bne_of g1;clear ha hb la lb h1 hno
  exact zM29_1
 have g1:((n:Int) == (s.sno.n:Int))=true:=by rw [show n=s.sno.n by omega];simp
 have g2:((n:Int) != (s.sno.n:Int))=false:=by rw [bne,g1];rfl
 by_cases h2:m=s.no.length
 rotate_left
 ·have HF:=hid (fcE_1 (s:=s) (al:=al) (sp:=sp) (.inr (by omega)))
  have g3:((m:Int) == (s.sno.n:Int))=false:=beq_of (by omega);have g4:=bne_of g3;clear ha hb la lb h1 h2 hno
  exact zM29_1
 have g3:((m:Int) == (s.sno.n:Int))=true:=by rw [show m=s.sno.n by omega];simp
 have g4:((m:Int) != (s.sno.n:Int))=false:=by rw [bne,g3];rfl
 have HL:=hid (show ¬ (al.length≠s.no.length∨sp.length≠s.no.length) by omega);have HLA:=hid (show al.length=n∧sp.length=n∧m=n from ⟨la,by omega,by omega⟩);have HA:=hid ha;have HB:=hid hb;clear ha hb la lb h1 h2 hno
 go_enter Tryz.func39,Tryz.ntmps39
 go_wp2_with fail
 clear k0 k29 g1 g2 g3 g4;generalize w.alloc (.cells s.cells.toArray 35)=w1 at *
 go_loopw [25] (fun t wr=>FcRel s al sp n w t wr) (fun t _=>n - (intOf t).toNat)
 case atStart=>exact ⟨0,by omega,rfl,by simp,by simp,HS.out⟩
 case round =>
  obtain ⟨k,hk,rfl,hall,hall2,hs⟩:=hrel;replace HS:=hid hs;have HALL:=hid hall;have HALL2:=hid hall2;clear hs hall hall2
  by_cases hlt:k<n
  ·obtain ⟨x,hx⟩:=get_ex HLA.out.1 hlt
   obtain ⟨y,hy⟩:=get_ex HLA.out.2.1 hlt;obtain ⟨bx,ox,hbx,hbl,cx⟩:=ints_cell HA.out hx;obtain ⟨by_,oy,hby,hbl2,cy⟩:=ints_cell HB.out hy;have HXX:=hid hx;have HYY:=hid hy;replace cx:=(HS.out.B.cell (p:=⟨bx,ox+k,none⟩) hbl).trans cx;replace cy:=(HS.out.B.cell (p:=⟨by_,oy+k,none⟩) hbl2).trans cy;have HBX:=hid hbx;have HBY:=hid hby
   have i1:(0:Int)<=(k:Int):=by omega
   have i2:(k:Int)<(m:Int):=by have:=HLA.out.2.2;omega
   have i3:(k:Int)<(n:Int):=by omega
   obtain ⟨k0,k29⟩:=HKK.out _ HS.out
   rw [hbx,hby]
   clear hx hbx hy hby
   cases hin:inB x (-200000) s.lv
   ·have HF:=hid (fcE_2 HL.out (fun h=>rngL_no (List.mem_of_getElem? HXX.out) hin h.1))
    have G0:=hid hin;clear hin
    go_wp2_with fail
    refine (xWi37 _ _ _ _).mono ?_;rintro e' wx ⟨rfl,rfl⟩
    rw [G0.out]
    go_wp2_with fail
    go_ret
    exact ⟨ret_int HF.out.symm,HS.out.B⟩
   have G0:=hid hin;clear hin
   cases hin:inB y 0 1000
   ·have HF:=hid (fcE_2 HL.out (fun h=>rngL_no (List.mem_of_getElem? HYY.out) hin h.2))
    have G1:=hid hin;clear hin
    go_wp2_with fail
    refine (xWi37 _ _ _ _).mono ?_;rintro e' wx ⟨rfl,rfl⟩
    rw [G0.out]
    go_wp2_with fail
    refine (xWi37 _ _ _ _).mono ?_;rintro e' wx ⟨rfl,rfl⟩
    rw [G1.out]
    go_wp2_with fail
    go_ret
    exact ⟨ret_int HF.out.symm,HS.out.B⟩
   have G1:=hid hin;clear hin
   go_wp2_with fail
   refine (xWi37 _ _ _ _).mono ?_;rintro e' wx ⟨rfl,rfl⟩
   rw [G0.out]
   go_wp2_with fail
   refine (xWi37 _ _ _ _).mono ?_;rintro e' wx ⟨rfl,rfl⟩
   rw [G1.out]
   go_wp2_with fail
   go_roundw
   case rel=>exact ⟨k+1,by omega,by go_num,take_all_succ HALL.out HXX.out G0.out,take_all_succ HALL2.out HYY.out G1.out,HS.out⟩
   case measure=>simp only [intOf];omega
  ·have hkn:=hid (show k=n by omega)
   have HF:=hid (fcE_0 HL.out ⟨rngL_yes (by have h:=HALL.out;rwa [List.take_of_length_le (by have:=HLA.out;omega)] at h),rngL_yes (by have h:=HALL2.out;rwa [List.take_of_length_le (by have:=HLA.out;omega)] at h)⟩)
   have i2:¬ (k:Int)<(n:Int):=by omega
   go_wp2_with fail
   go_ret
   exact ⟨ret_int HF.out.symm,HS.out.B⟩
theorem below_set {B:Nat} {w W:World} (h:Below B w W) (b i:Nat) (hb:B<=b) (v:Value):Below B w (W.setCell ⟨b,i,none⟩ v):=h.setCell (p:=⟨b,i,none⟩) hb v
theorem coV_I64 (a b c d:Int):I64 (coV a b c d):=by
 unfold coV
 split
 ·unfold I64;omega
 ·have:=atV_bd (c - a) (d - b)
  unfold I64;omega
theorem Int_getD {w:World} {b off n:Nat} {l:List Int} (h:Ints w (some ⟨b,off,none⟩) n l) {k:Nat} (hk:k<n):b<w.heap.size∧w.cell? ⟨b,off+k,none⟩=some (vI (l.getD k 0)):=by
 obtain ⟨x,hx⟩:=get_ex h.len hk;obtain ⟨b',o',h1,h2,h3⟩:=ints_cell h hx
 injection h1 with h1;injection h1 with h1 h4;subst h1;subst h4
 exact ⟨h2,by rw [h3,getD_of_get hx]⟩
theorem ints_A {w:World} {A:Option Addr} {n:Nat} {l:List Int} (h:Ints w A n l) (hn:0<n):∃ b off,A=some ⟨b,off,none⟩:=by
 obtain ⟨b,off,h1,_,_⟩:=h.cells hn
 exact ⟨b,off,h1⟩
theorem xPLegOf (s:Stp) (k m:Nat) (hm:m=k+1) (A B:Option Addr) (n c n' d:Nat) (al sp:List Int) (w:World) (hl:s.lies w) (hok:s.ok) (G:StG s) (hk:m<s.no.length) (hF:FcG s al sp) (ha:Ints w A n al) (hb:Ints w B n' sp) :
  Calls Tryz.prog 61 #[.agg s.cells.toArray,.slice A n c,.slice B n' d,vI m] w fun e' w'=>e'=.returned (.agg (lgV s al sp k).cells.toArray)∧Below w.heap.size w w':=by
 have N:=StN.of hl;have hno:=N.no;have hmx:=hok.no
 unfold maxLen at hmx
 have la:=ha.len;have lb:=hb.len
 have hn1:n=s.no.length:=by have:=hF.la;omega
 have hn2:n'=s.no.length:=by have:=hF.ls;omega
 obtain ⟨b,off,hA⟩:=su_A hl (by omega);obtain ⟨ba,oa,rfl⟩:=ints_A ha (by omega);obtain ⟨bb,ob,rfl⟩:=ints_A hb (by omega);have HS:=hid (boxS2 w s.cells.toArray #[vI 0,vI 0,.int .u8 0,vI 0,vI 0,vI 0,vI 0] 35 115);have hak:=hF.a k (by omega);have ham:=hF.a m hk;have hsk:=hF.s k (by omega);have hsm:=hF.s m hk;have g1:=nod_good G N (k:=k) (by omega);have g2:=nod_good G N (k:=m) hk;have x1:=g1.px;have x2:=g2.px;have y1:=g1.py;have y2:=g2.py;have hlv:=G.lv
 have HKK:=hid (fun W (h:BoxS w 2 [s.cells,(lzl 0 0 0 0 0 0 0)] W)=>show W.cell? ⟨w.heap.size,0,none⟩=some (.slice (some ⟨b,off,none⟩) s.sno.n s.sno.c)∧(W.cell? ⟨b,off+k * 7,none⟩=some (vI (nodA s k).px)∧W.cell? ⟨b,off+k * 7+1,none⟩=some (vI (nodA s k).py))∧(W.cell? ⟨b,off+m * 7,none⟩=some (vI (nodA s m).px)∧W.cell? ⟨b,off+m * 7+1,none⟩=some (vI (nodA s m).py)) from
  have n1:=su_nd (hl.below h.B) hA (k:=k) (by omega);have n2:=su_nd (hl.below h.B) hA (k:=m) hk
  ⟨su_sl (h.has 0 _ rfl) hA,⟨n1.1,n1.2.1⟩,n2.1,n2.2.1⟩)
 have HAA:=hid (fun W (h:BoxS w 2 [s.cells,(lzl 0 0 0 0 0 0 0)] W)=>show (W.cell? ⟨ba,oa+k,none⟩=some (vI (al.getD k 0))∧W.cell? ⟨ba,oa+m,none⟩=some (vI (al.getD m 0)))∧W.cell? ⟨bb,ob+k,none⟩=some (vI (sp.getD k 0))∧W.cell? ⟨bb,ob+m,none⟩=some (vI (sp.getD m 0)) from
  have q1:=Int_getD ha (k:=k) (by omega);have q2:=Int_getD ha (k:=m) (by omega);have q3:=Int_getD hb (k:=k) (by omega);have q4:=Int_getD hb (k:=m) (by omega)
  ⟨⟨(h.B.cell (p:=⟨ba,oa+k,none⟩) q1.1).trans q1.2,(h.B.cell (p:=⟨ba,oa+m,none⟩) q2.1).trans q2.2⟩,(h.B.cell (p:=⟨bb,ob+k,none⟩) q3.1).trans q3.2,(h.B.cell (p:=⟨bb,ob+m,none⟩) q4.1).trans q4.2⟩)
 have HCO:=hid (fun W=>xCourse (nodA s k).px (nodA s k).py (nodA s m).px (nodA s m).py W);have HAT:=hid (fun W (h:Below w.heap.size w W)=>show Calls Tryz.prog 41 #[.agg s.gr.cells.toArray,.agg #[vI (((nodA s k).px+(nodA s m).px) / 2),vI (((nodA s k).py+(nodA s m).py) / 2)],vI ((al.getD k 0+al.getD m 0) / 2)] W _ from xGAt s.gr (((nodA s k).px+(nodA s m).px) / 2) (((nodA s k).py+(nodA s m).py) / 2) ((al.getD k 0+al.getD m 0) / 2) W (hl.below h).gr hok.gr G.gr (ptB_of (by omega) (by omega)) (inB_iff.2 (by omega)));have HSC:=hid (fun W l v=>xLgSchedule s l v W)
 have HV:=hid (show lgV s al sp k=⟨(al.getD k 0+al.getD m 0) / 2,coV (nodA s k).px (nodA s k).py (nodA s m).px (nodA s m).py,if al.getD k 0<al.getD m 0 then 1 else if al.getD m 0<al.getD k 0 then 3 else 2,(sp.getD k 0+sp.getD m 0) / 2,scdV ((sp.getD k 0+sp.getD m 0) / 2) s.mch ((al.getD k 0+al.getD m 0) / 2) (gAt s.gr (elD s.gr) (((nodA s k).px+(nodA s m).px) / 2) (((nodA s k).py+(nodA s m).py) / 2) ((al.getD k 0+al.getD m 0) / 2)),gAt s.gr (elE s.gr) (((nodA s k).px+(nodA s m).px) / 2) (((nodA s k).py+(nodA s m).py) / 2) ((al.getD k 0+al.getD m 0) / 2),gAt s.gr (elN s.gr) (((nodA s k).px+(nodA s m).px) / 2) (((nodA s k).py+(nodA s m).py) / 2) ((al.getD k 0+al.getD m 0) / 2)⟩ from by subst hm;rfl)
 have w1:IntKind.i64.wrap ((m:Int) - 1)=(k:Int):=by rw [IntWalk.i64_in _ (by omega)];omega
 have i0:(0:Int)<=(k:Int):=by omega
 have i1:(k:Int)<(s.sno.n:Int):=by omega
 have i2:(0:Int)<=(m:Int):=by omega
 have i3:(m:Int)<(s.sno.n:Int):=by omega
 have j1:(k:Int)<(n:Int):=by omega
 have j2:(m:Int)<(n:Int):=by omega
 have j3:(k:Int)<(n':Int):=by omega
 have j4:(m:Int)<(n':Int):=by omega
 have u1:IntKind.i64.wrap (al.getD k 0+al.getD m 0)=al.getD k 0+al.getD m 0:=IntWalk.i64_in _ (by omega);have u2:IntKind.i64.wrap (sp.getD k 0+sp.getD m 0)=sp.getD k 0+sp.getD m 0:=IntWalk.i64_in _ (by omega);have u3:IntKind.i64.wrap ((nodA s k).px+(nodA s m).px)=(nodA s k).px+(nodA s m).px:=IntWalk.i64_in _ (by omega);have u4:IntKind.i64.wrap ((nodA s k).py+(nodA s m).py)=(nodA s k).py+(nodA s m).py:=IntWalk.i64_in _ (by omega);clear hl hok G N hno hmx la lb hn1 hn2 hA hk hF ha hb g1 g2 x1 x2 y1 y2 hlv hak ham hsk hsm hm;generalize lgV s al sp k=LV at *;generalize al.getD k 0=ak at *;generalize al.getD m 0=am at *;generalize sp.getD k 0=sk at *;generalize sp.getD m 0=sm at *;generalize coV (nodA s k).px (nodA s k).py (nodA s m).px (nodA s m).py=CO at *;generalize coE (nodA s k).px (nodA s k).py (nodA s m).px (nodA s m).py=CE at *;generalize gAt s.gr (elE s.gr) (((nodA s k).px+(nodA s m).px) / 2) (((nodA s k).py+(nodA s m).py) / 2) ((ak+am) / 2)=WE at *;generalize gAt s.gr (elN s.gr) (((nodA s k).px+(nodA s m).px) / 2) (((nodA s k).py+(nodA s m).py) / 2) ((ak+am) / 2)=WN at *;generalize gAt s.gr (elD s.gr) (((nodA s k).px+(nodA s m).px) / 2) (((nodA s k).py+(nodA s m).py) / 2) ((ak+am) / 2)=WD at *
 go_enter Tryz.func61,Tryz.ntmps61
 go_wp2_with fail
 refine rS (fun W=>BoxS w 2 [s.cells,(lzl 0 0 0 0 0 0 0)] W) 17 (HS.out.drew) (fun hHeld=>?_)
 refine rQ ?_
 refine rT (fun W hW=>HKK.out W hW) ?_
 iterate 4 refine rQ ?_
 refine rT (fun W hW=>HKK.out W hW) ?_
 refine rQ ?_
 refine rT (fun W hW=>HKK.out W hW) ?_
 iterate 3 refine rQ ?_
 refine rT (fun W hW=>HKK.out W hW) ?_
 refine held_nameS ?_
 intro OPS QQ A0 SS hO hQ hA hSS
 have st_13_14:Hid (∀ (H9 H10:Nat) (W:World) (qH9:Has W H9 (lz2 0 0)) (rH9:w.heap.size+2<=H9) (qH10:Has W H10 (lz2 0 0)) (rH10:w.heap.size+2<=H10) (nH9H10:H9≠H10),SS W→wpAnyH Tryz.prog .any OPS QQ SS 2 #[b1,b1,b1,b1,b1,b1,b1,b1,b1,b1,b1,b1,b1,b1,b1,b0,b0] ((A0.put (some 9) (.pointer (some ⟨H9,0,none⟩))).put (some 10) (.pointer (some ⟨H10,0,none⟩))) W):=by
  subst hO hQ hA hSS
  refine hid ?_
  intro H9 H10 W qH9 rH9 qH10 rH10 nH9H10 hHeld
  (try simp only [Act.put,pa,pb,pc])
  have fz:=qH9.fr;have cz0:=qH9.cell 0 _ rfl;have cz1:=qH9.cell 1 _ rfl
  refine rEk ?_
  intro K hK
  have hNew:=((hHeld.set H9 0 rH9 (vI (nodA s k).px)).set H9 1 rH9 (vI (nodA s k).py));have pH9:Has ((W.setCell ⟨H9,0,none⟩ (vI (nodA s k).px)).setCell ⟨H9,1,none⟩ (vI (nodA s k).py)) H9 (lz2 ((nodA s k).px) ((nodA s k).py)):=((qH9.set 0 (vI (nodA s k).px) (by simp)).set 1 (vI (nodA s k).py) (by simp));have pH10:=((qH10.other H9 0 (vI (nodA s k).px) (by omega)).other H9 1 (vI (nodA s k).py) (by omega))
  refine rEt hK hNew ?_
  clear hK K hNew fz cz0 cz1 qH9 qH10 hHeld
  intro hHeld
  have qH9:=pH9;have qH10:=pH10;clear pH9 pH10;generalize ((W.setCell ⟨H9,0,none⟩ (vI (nodA s k).px)).setCell ⟨H9,1,none⟩ (vI (nodA s k).py))=W1 at *;have fz:=qH10.fr;have cz0:=qH10.cell 0 _ rfl;have cz1:=qH10.cell 1 _ rfl
  refine rEk ?_
  intro K hK
  have hNew:=((hHeld.set H10 0 rH10 (vI (nodA s m).px)).set H10 1 rH10 (vI (nodA s m).py));have pH9:=((qH9.other H10 0 (vI (nodA s m).px) (by omega)).other H10 1 (vI (nodA s m).py) (by omega));have pH10:Has ((W1.setCell ⟨H10,0,none⟩ (vI (nodA s m).px)).setCell ⟨H10,1,none⟩ (vI (nodA s m).py)) H10 (lz2 ((nodA s m).px) ((nodA s m).py)):=((qH10.set 0 (vI (nodA s m).px) (by simp)).set 1 (vI (nodA s m).py) (by simp))
  refine rEt hK hNew ?_
  clear hK K hNew fz cz0 cz1 qH9 qH10 hHeld
  intro hHeld
  have qH9:=pH9;have qH10:=pH10;clear pH9 pH10;generalize ((W1.setCell ⟨H10,0,none⟩ (vI (nodA s m).px)).setCell ⟨H10,1,none⟩ (vI (nodA s m).py))=W2 at *
  refine rD ?_
  replace HS:=hid hHeld;have Q9:=hid qH9;have Q10:=hid qH10;clear qH9 qH10 hHeld
  go_wp2_with fail
  refine rS (fun W=>BoxS w 2 [s.cells,(lzl 0 0 0 0 0 0 0)] W) 25 (HS.out.drew) (fun hHeld=>?_)
  iterate 4 refine rQ ?_
  refine rT (fun W hW=>HAA.out W hW) ?_
  iterate 3 refine rQ ?_
  refine rT (fun W hW=>HAA.out W hW) ?_
  iterate 6 refine rQ ?_
  refine rT (fun W hW=>HAA.out W hW) ?_
  iterate 3 refine rQ ?_
  refine rT (fun W hW=>HAA.out W hW) ?_
  iterate 3 refine rQ ?_
  refine rEk ?_
  intro K hK
  have hNew:=hHeld.alloc (.cells #[vI 0,vI 0,.int .u8 0,vI 0,vI 0,vI 0,vI 0] 115)
  refine rEt hK hNew ?_
  clear hK K hNew hHeld
  intro hHeld
  refine rEk ?_
  intro K hK
  have hNew:=(HS.out.alloc (.cells #[vI ((ak+am) / 2),vI 0,.int .u8 2,vI ((sk+sm) / 2),vI 0,vI 0,vI 0] 115)).drew
  refine rEt hK hNew ?_
  clear hK K hNew hHeld
  intro hHeld
  refine rD ?_
  have Q11:Hid (Has ((W2.alloc (.cells #[vI ((ak+am) / 2),vI 0,.int .u8 2,vI ((sk+sm) / 2),vI 0,vI 0,vI 0] 115)).drew) W2.heap.size (lzl ((ak+am) / 2) 0 2 ((sk+sm) / 2) 0 0 0)):=hid (Has.new _ _ _).drew;have rH11:w.heap.size+2<=W2.heap.size:=HS.out.sz
  have n9:H9≠W2.heap.size:=by have:=Q9.out.lt;omega
  have n10:H10≠W2.heap.size:=by have:=Q10.out.lt;omega
  replace Q9:=hid (Q9.out.alloc (.cells #[vI ((ak+am) / 2),vI 0,.int .u8 2,vI ((sk+sm) / 2),vI 0,vI 0,vI 0] 115)).drew;replace Q10:=hid (Q10.out.alloc (.cells #[vI ((ak+am) / 2),vI 0,.int .u8 2,vI ((sk+sm) / 2),vI 0,vI 0,vI 0] 115)).drew;replace HS:=hid hHeld;clear hHeld u1 u2;generalize (W2.alloc (.cells #[vI ((ak+am) / 2),vI 0,.int .u8 2,vI ((sk+sm) / 2),vI 0,vI 0,vI 0] 115)).drew=W3 at *;generalize W2.heap.size=H11 at *;have a0:=Q9.out.cell 0 _ rfl;have a1:=Q9.out.cell 1 _ rfl;have b0:=Q10.out.cell 0 _ rfl;have b1:=Q10.out.cell 1 _ rfl
  go_wp2_with fail
  refine (HCO.out _).mono ?_;rintro e' W4 ⟨rfl,hB⟩
  replace HS:=hid (HS.out.below hB);replace Q9:=hid (Q9.out.below hB);replace Q10:=hid (Q10.out.below hB);replace Q11:=hid (Q11.out.below hB);clear hB a0 a1 b0 b1 HCO;have c1:=Q11.out.cell 1 _ rfl;have cf:=Q11.out.fr 1
  go_wp2_with fail
  replace HS:=hid (HS.out.set H11 1 rH11 (vI CO));replace Q9:=hid (Q9.out.other H11 1 (vI CO) n9);replace Q10:=hid (Q10.out.other H11 1 (vI CO) n10);replace Q11:=hid (show Has _ H11 (lzl ((ak+am) / 2) CO 2 ((sk+sm) / 2) 0 0 0) from Q11.out.set 1 (vI CO) (by simp));clear c1 cf;generalize W4.setCell ⟨H11,1,none⟩ (vI CO)=W5 at *
  by_cases hp:ak<am
  ·have HF:=hid (show LV=⟨((ak+am) / 2),CO,1,((sk+sm) / 2),scdV ((sk+sm) / 2) s.mch ((ak+am) / 2) WD,WE,WN⟩ from by rw [HV.out,if_pos hp])
   refine rS (fun W=>BoxS w 2 [s.cells,(lzl 0 0 0 0 0 0 0)] W) 11 (HS.out.drew) (fun hHeld=>?_)
   iterate 3 refine rQ ?_
   refine rT (fun W hW=>HAA.out W hW) ?_
   iterate 4 refine rQ ?_
   refine rT (fun W hW=>HAA.out W hW) ?_
   iterate 2 refine rQ ?_
   refine rD ?_
   replace HS:=hid hHeld;replace Q9:=hid Q9.out.drew;replace Q10:=hid Q10.out.drew;replace Q11:=hid Q11.out.drew;clear hHeld;generalize W5.drew=W6 at *;have p9:=hid (Q9.out.other H11 2 (.int .u8 1) n9);have p10:=hid (Q10.out.other H11 2 (.int .u8 1) n10);have p11:=hid (show Has _ H11 (lzl ((ak+am) / 2) CO 1 ((sk+sm) / 2) 0 0 0) from Q11.out.set 2 (.int .u8 1) (by simp));have pS:=hid (HS.out.set H11 2 rH11 (.int .u8 1));have c2:=Q11.out.cell 2 _ rfl;have cf:=Q11.out.fr 2;have a0:=p9.out.cell 0 _ rfl;have a1:=p9.out.cell 1 _ rfl;have b0:=p10.out.cell 0 _ rfl;have b1:=p10.out.cell 1 _ rfl;have d0:=p11.out.cell 0 _ rfl
   go_wp2_with (refine at_sgr (.tmp 83) rfl rfl rfl (pS.out.has 0 _ rfl) ?_)
   refine (HAT.out _ pS.out.B).mono ?_;rintro e' W7 ⟨rfl,hB⟩
   replace HS:=hid (pS.out.below hB);replace Q11:=hid (p11.out.below hB);clear hB a0 a1 b0 b1 d0 p9 p10 p11 pS Q9 Q10 HAT c2 cf;have PA:=hid (Q11.out.alloc (.cells #[vI WE,vI WN] 89));have d0:=PA.out.cell 0 (vI ((ak+am) / 2)) rfl;have d1:=PA.out.cell 1 (vI CO) rfl;have d2:=PA.out.cell 2 (.int .u8 1) rfl;have d3:=PA.out.cell 3 (vI ((sk+sm) / 2)) rfl;have d4:=PA.out.cell 4 (vI 0) rfl;have d5:=PA.out.cell 5 (vI 0) rfl;have d6:=PA.out.cell 6 (vI 0) rfl;have df:=PA.out.fr;have QS:=hid (((HS.out.alloc (.cells #[vI WE,vI WN] 89)).set H11 5 rH11 (vI WE)).set H11 6 rH11 (vI WN));have QL:=hid (show Has (((W7.alloc (.cells #[vI WE,vI WN] 89)).setCell ⟨H11,5,none⟩ (vI WE)).setCell ⟨H11,6,none⟩ (vI WN)) H11 (lzl ((ak+am) / 2) CO 1 ((sk+sm) / 2) 0 WE WN) from (PA.out.set 5 (vI WE) (by simp)).set 6 (vI WN) (by simp))
   go_wp2_with (refine at_stp (.tmp 4) rfl rfl rfl (QS.out.has 0 _ rfl) ?_)
   refine (HSC.out _ ⟨((ak+am) / 2),CO,1,((sk+sm) / 2),0,WE,WN⟩ WD).mono ?_;rintro e' W8 ⟨rfl,hB⟩
   replace HS:=hid (QS.out.below hB);replace Q11:=hid (QL.out.below hB);clear hB QS QL PA df d0 d1 d2 d3 d4 d5 d6;have d0:=Q11.out.cell 0 (vI ((ak+am) / 2)) rfl;have d1:=Q11.out.cell 1 (vI CO) rfl;have d2:=Q11.out.cell 2 (.int .u8 1) rfl;have d3:=Q11.out.cell 3 (vI ((sk+sm) / 2)) rfl;have d4:=Q11.out.cell 4 (vI 0) rfl;have d5:=Q11.out.cell 5 (vI WE) rfl;have d6:=Q11.out.cell 6 (vI WN) rfl;have df:=Q11.out.fr 4;have QS:=hid (HS.out.set H11 4 rH11 (vI (scdV ((sk+sm) / 2) s.mch ((ak+am) / 2) WD)));have r0:(W8.setCell ⟨H11,4,none⟩ (vI (scdV ((sk+sm) / 2) s.mch ((ak+am) / 2) WD))).cell? ⟨w.heap.size+1,0,none⟩=some (vI 0):=QS.out.at 1 _ rfl 0 _ rfl;have r1:(W8.setCell ⟨H11,4,none⟩ (vI (scdV ((sk+sm) / 2) s.mch ((ak+am) / 2) WD))).cell? ⟨w.heap.size+1,1,none⟩=some (vI 0):=QS.out.at 1 _ rfl 1 _ rfl;have r2:(W8.setCell ⟨H11,4,none⟩ (vI (scdV ((sk+sm) / 2) s.mch ((ak+am) / 2) WD))).cell? ⟨w.heap.size+1,2,none⟩=some (.int .u8 0):=QS.out.at 1 _ rfl 2 _ rfl;have r3:(W8.setCell ⟨H11,4,none⟩ (vI (scdV ((sk+sm) / 2) s.mch ((ak+am) / 2) WD))).cell? ⟨w.heap.size+1,3,none⟩=some (vI 0):=QS.out.at 1 _ rfl 3 _ rfl;have r4:(W8.setCell ⟨H11,4,none⟩ (vI (scdV ((sk+sm) / 2) s.mch ((ak+am) / 2) WD))).cell? ⟨w.heap.size+1,4,none⟩=some (vI 0):=QS.out.at 1 _ rfl 4 _ rfl;have r5:(W8.setCell ⟨H11,4,none⟩ (vI (scdV ((sk+sm) / 2) s.mch ((ak+am) / 2) WD))).cell? ⟨w.heap.size+1,5,none⟩=some (vI 0):=QS.out.at 1 _ rfl 5 _ rfl;have r6:(W8.setCell ⟨H11,4,none⟩ (vI (scdV ((sk+sm) / 2) s.mch ((ak+am) / 2) WD))).cell? ⟨w.heap.size+1,6,none⟩=some (vI 0):=QS.out.at 1 _ rfl 6 _ rfl;have rf:=fun o=>show (W8.setCell ⟨H11,4,none⟩ (vI (scdV ((sk+sm) / 2) s.mch ((ak+am) / 2) WD))).frozen? ⟨w.heap.size+1,o,none⟩=false from QS.out.fr 1 _ rfl o
   go_wp2_with fail
   exact bodyPost_ret (v:=.agg #[vI ((ak+am) / 2),vI CO,.int .u8 1,vI ((sk+sm) / 2),vI (scdV ((sk+sm) / 2) s.mch ((ak+am) / 2) WD),vI WE,vI WN]) (by simp [results,Tryz.results61,go_sem,r0,r1,r2,r3,r4,r5,r6]) rfl ⟨by rw [HF.out];rfl,below_set (below_set (below_set (below_set (below_set (below_set (below_set (QS.out.B) _ _ (Nat.le_add_right _ _) _) _ _ (Nat.le_add_right _ _) _) _ _ (Nat.le_add_right _ _) _) _ _ (Nat.le_add_right _ _) _) _ _ (Nat.le_add_right _ _) _) _ _ (Nat.le_add_right _ _) _) _ _ (Nat.le_add_right _ _) _⟩
  by_cases hq:am<ak
  ·have HF:=hid (show LV=⟨((ak+am) / 2),CO,3,((sk+sm) / 2),scdV ((sk+sm) / 2) s.mch ((ak+am) / 2) WD,WE,WN⟩ from by rw [HV.out,if_neg hp,if_pos hq])
   refine rS (fun W=>BoxS w 2 [s.cells,(lzl 0 0 0 0 0 0 0)] W) 11 (HS.out.drew) (fun hHeld=>?_)
   iterate 3 refine rQ ?_
   refine rT (fun W hW=>HAA.out W hW) ?_
   iterate 4 refine rQ ?_
   refine rT (fun W hW=>HAA.out W hW) ?_
   iterate 2 refine rQ ?_
   refine rD ?_
   replace HS:=hid hHeld;replace Q9:=hid Q9.out.drew;replace Q10:=hid Q10.out.drew;replace Q11:=hid Q11.out.drew;clear hHeld;generalize W5.drew=W6 at *
   go_wp2_with fail
   refine rS (fun W=>BoxS w 2 [s.cells,(lzl 0 0 0 0 0 0 0)] W) 11 (HS.out.drew) (fun hHeld=>?_)
   iterate 3 refine rQ ?_
   refine rT (fun W hW=>HAA.out W hW) ?_
   iterate 4 refine rQ ?_
   refine rT (fun W hW=>HAA.out W hW) ?_
   iterate 2 refine rQ ?_
   refine rD ?_
   replace HS:=hid hHeld;replace Q9:=hid Q9.out.drew;replace Q10:=hid Q10.out.drew;replace Q11:=hid Q11.out.drew;clear hHeld;generalize W6.drew=W9 at *;have p9:=hid (Q9.out.other H11 2 (.int .u8 3) n9);have p10:=hid (Q10.out.other H11 2 (.int .u8 3) n10);have p11:=hid (show Has _ H11 (lzl ((ak+am) / 2) CO 3 ((sk+sm) / 2) 0 0 0) from Q11.out.set 2 (.int .u8 3) (by simp));have pS:=hid (HS.out.set H11 2 rH11 (.int .u8 3));have c2:=Q11.out.cell 2 _ rfl;have cf:=Q11.out.fr 2;have a0:=p9.out.cell 0 _ rfl;have a1:=p9.out.cell 1 _ rfl;have b0:=p10.out.cell 0 _ rfl;have b1:=p10.out.cell 1 _ rfl;have d0:=p11.out.cell 0 _ rfl
   go_wp2_with (refine at_sgr (.tmp 83) rfl rfl rfl (pS.out.has 0 _ rfl) ?_)
   refine (HAT.out _ pS.out.B).mono ?_;rintro e' W7 ⟨rfl,hB⟩
   replace HS:=hid (pS.out.below hB);replace Q11:=hid (p11.out.below hB);clear hB a0 a1 b0 b1 d0 p9 p10 p11 pS Q9 Q10 HAT c2 cf;have PA:=hid (Q11.out.alloc (.cells #[vI WE,vI WN] 89));have d0:=PA.out.cell 0 (vI ((ak+am) / 2)) rfl;have d1:=PA.out.cell 1 (vI CO) rfl;have d2:=PA.out.cell 2 (.int .u8 3) rfl;have d3:=PA.out.cell 3 (vI ((sk+sm) / 2)) rfl;have d4:=PA.out.cell 4 (vI 0) rfl;have d5:=PA.out.cell 5 (vI 0) rfl;have d6:=PA.out.cell 6 (vI 0) rfl;have df:=PA.out.fr;have QS:=hid (((HS.out.alloc (.cells #[vI WE,vI WN] 89)).set H11 5 rH11 (vI WE)).set H11 6 rH11 (vI WN));have QL:=hid (show Has (((W7.alloc (.cells #[vI WE,vI WN] 89)).setCell ⟨H11,5,none⟩ (vI WE)).setCell ⟨H11,6,none⟩ (vI WN)) H11 (lzl ((ak+am) / 2) CO 3 ((sk+sm) / 2) 0 WE WN) from (PA.out.set 5 (vI WE) (by simp)).set 6 (vI WN) (by simp))
   go_wp2_with (refine at_stp (.tmp 4) rfl rfl rfl (QS.out.has 0 _ rfl) ?_)
   refine (HSC.out _ ⟨((ak+am) / 2),CO,3,((sk+sm) / 2),0,WE,WN⟩ WD).mono ?_;rintro e' W8 ⟨rfl,hB⟩
   replace HS:=hid (QS.out.below hB);replace Q11:=hid (QL.out.below hB);clear hB QS QL PA df d0 d1 d2 d3 d4 d5 d6;have d0:=Q11.out.cell 0 (vI ((ak+am) / 2)) rfl;have d1:=Q11.out.cell 1 (vI CO) rfl;have d2:=Q11.out.cell 2 (.int .u8 3) rfl;have d3:=Q11.out.cell 3 (vI ((sk+sm) / 2)) rfl;have d4:=Q11.out.cell 4 (vI 0) rfl;have d5:=Q11.out.cell 5 (vI WE) rfl;have d6:=Q11.out.cell 6 (vI WN) rfl;have df:=Q11.out.fr 4;have QS:=hid (HS.out.set H11 4 rH11 (vI (scdV ((sk+sm) / 2) s.mch ((ak+am) / 2) WD)));have r0:(W8.setCell ⟨H11,4,none⟩ (vI (scdV ((sk+sm) / 2) s.mch ((ak+am) / 2) WD))).cell? ⟨w.heap.size+1,0,none⟩=some (vI 0):=QS.out.at 1 _ rfl 0 _ rfl;have r1:(W8.setCell ⟨H11,4,none⟩ (vI (scdV ((sk+sm) / 2) s.mch ((ak+am) / 2) WD))).cell? ⟨w.heap.size+1,1,none⟩=some (vI 0):=QS.out.at 1 _ rfl 1 _ rfl;have r2:(W8.setCell ⟨H11,4,none⟩ (vI (scdV ((sk+sm) / 2) s.mch ((ak+am) / 2) WD))).cell? ⟨w.heap.size+1,2,none⟩=some (.int .u8 0):=QS.out.at 1 _ rfl 2 _ rfl;have r3:(W8.setCell ⟨H11,4,none⟩ (vI (scdV ((sk+sm) / 2) s.mch ((ak+am) / 2) WD))).cell? ⟨w.heap.size+1,3,none⟩=some (vI 0):=QS.out.at 1 _ rfl 3 _ rfl;have r4:(W8.setCell ⟨H11,4,none⟩ (vI (scdV ((sk+sm) / 2) s.mch ((ak+am) / 2) WD))).cell? ⟨w.heap.size+1,4,none⟩=some (vI 0):=QS.out.at 1 _ rfl 4 _ rfl;have r5:(W8.setCell ⟨H11,4,none⟩ (vI (scdV ((sk+sm) / 2) s.mch ((ak+am) / 2) WD))).cell? ⟨w.heap.size+1,5,none⟩=some (vI 0):=QS.out.at 1 _ rfl 5 _ rfl;have r6:(W8.setCell ⟨H11,4,none⟩ (vI (scdV ((sk+sm) / 2) s.mch ((ak+am) / 2) WD))).cell? ⟨w.heap.size+1,6,none⟩=some (vI 0):=QS.out.at 1 _ rfl 6 _ rfl;have rf:=fun o=>show (W8.setCell ⟨H11,4,none⟩ (vI (scdV ((sk+sm) / 2) s.mch ((ak+am) / 2) WD))).frozen? ⟨w.heap.size+1,o,none⟩=false from QS.out.fr 1 _ rfl o
   go_wp2_with fail
   exact bodyPost_ret (v:=.agg #[vI ((ak+am) / 2),vI CO,.int .u8 3,vI ((sk+sm) / 2),vI (scdV ((sk+sm) / 2) s.mch ((ak+am) / 2) WD),vI WE,vI WN]) (by simp [results,Tryz.results61,go_sem,r0,r1,r2,r3,r4,r5,r6]) rfl ⟨by rw [HF.out];rfl,below_set (below_set (below_set (below_set (below_set (below_set (below_set (QS.out.B) _ _ (Nat.le_add_right _ _) _) _ _ (Nat.le_add_right _ _) _) _ _ (Nat.le_add_right _ _) _) _ _ (Nat.le_add_right _ _) _) _ _ (Nat.le_add_right _ _) _) _ _ (Nat.le_add_right _ _) _) _ _ (Nat.le_add_right _ _) _⟩
  have HF:=hid (show LV=⟨((ak+am) / 2),CO,2,((sk+sm) / 2),scdV ((sk+sm) / 2) s.mch ((ak+am) / 2) WD,WE,WN⟩ from by rw [HV.out,if_neg hp,if_neg hq])
  refine rS (fun W=>BoxS w 2 [s.cells,(lzl 0 0 0 0 0 0 0)] W) 11 (HS.out.drew) (fun hHeld=>?_)
  iterate 3 refine rQ ?_
  refine rT (fun W hW=>HAA.out W hW) ?_
  iterate 4 refine rQ ?_
  refine rT (fun W hW=>HAA.out W hW) ?_
  iterate 2 refine rQ ?_
  refine rD ?_
  replace HS:=hid hHeld;replace Q9:=hid Q9.out.drew;replace Q10:=hid Q10.out.drew;replace Q11:=hid Q11.out.drew;clear hHeld;generalize W5.drew=W6 at *
  go_wp2_with fail
  refine rS (fun W=>BoxS w 2 [s.cells,(lzl 0 0 0 0 0 0 0)] W) 11 (HS.out.drew) (fun hHeld=>?_)
  iterate 3 refine rQ ?_
  refine rT (fun W hW=>HAA.out W hW) ?_
  iterate 4 refine rQ ?_
  refine rT (fun W hW=>HAA.out W hW) ?_
  iterate 2 refine rQ ?_
  refine rD ?_
  replace HS:=hid hHeld;replace Q9:=hid Q9.out.drew;replace Q10:=hid Q10.out.drew;replace Q11:=hid Q11.out.drew;clear hHeld;generalize W6.drew=W9 at *;have p9:=Q9;have p10:=Q10;have p11:=Q11;have pS:=HS;have a0:=p9.out.cell 0 _ rfl;have a1:=p9.out.cell 1 _ rfl;have b0:=p10.out.cell 0 _ rfl;have b1:=p10.out.cell 1 _ rfl;have d0:=p11.out.cell 0 _ rfl
  go_wp2_with (refine at_sgr (.tmp 83) rfl rfl rfl (pS.out.has 0 _ rfl) ?_)
  refine (HAT.out _ pS.out.B).mono ?_;rintro e' W7 ⟨rfl,hB⟩
  replace HS:=hid (pS.out.below hB);replace Q11:=hid (p11.out.below hB);clear hB a0 a1 b0 b1 d0 p9 p10 p11 pS Q9 Q10 HAT;have PA:=hid (Q11.out.alloc (.cells #[vI WE,vI WN] 89));have d0:=PA.out.cell 0 (vI ((ak+am) / 2)) rfl;have d1:=PA.out.cell 1 (vI CO) rfl;have d2:=PA.out.cell 2 (.int .u8 2) rfl;have d3:=PA.out.cell 3 (vI ((sk+sm) / 2)) rfl;have d4:=PA.out.cell 4 (vI 0) rfl;have d5:=PA.out.cell 5 (vI 0) rfl;have d6:=PA.out.cell 6 (vI 0) rfl;have df:=PA.out.fr;have QS:=hid (((HS.out.alloc (.cells #[vI WE,vI WN] 89)).set H11 5 rH11 (vI WE)).set H11 6 rH11 (vI WN));have QL:=hid (show Has (((W7.alloc (.cells #[vI WE,vI WN] 89)).setCell ⟨H11,5,none⟩ (vI WE)).setCell ⟨H11,6,none⟩ (vI WN)) H11 (lzl ((ak+am) / 2) CO 2 ((sk+sm) / 2) 0 WE WN) from (PA.out.set 5 (vI WE) (by simp)).set 6 (vI WN) (by simp))
  go_wp2_with (refine at_stp (.tmp 4) rfl rfl rfl (QS.out.has 0 _ rfl) ?_)
  refine (HSC.out _ ⟨((ak+am) / 2),CO,2,((sk+sm) / 2),0,WE,WN⟩ WD).mono ?_;rintro e' W8 ⟨rfl,hB⟩
  replace HS:=hid (QS.out.below hB);replace Q11:=hid (QL.out.below hB);clear hB QS QL PA df d0 d1 d2 d3 d4 d5 d6;have d0:=Q11.out.cell 0 (vI ((ak+am) / 2)) rfl;have d1:=Q11.out.cell 1 (vI CO) rfl;have d2:=Q11.out.cell 2 (.int .u8 2) rfl;have d3:=Q11.out.cell 3 (vI ((sk+sm) / 2)) rfl;have d4:=Q11.out.cell 4 (vI 0) rfl;have d5:=Q11.out.cell 5 (vI WE) rfl;have d6:=Q11.out.cell 6 (vI WN) rfl;have df:=Q11.out.fr 4;have QS:=hid (HS.out.set H11 4 rH11 (vI (scdV ((sk+sm) / 2) s.mch ((ak+am) / 2) WD)));have r0:(W8.setCell ⟨H11,4,none⟩ (vI (scdV ((sk+sm) / 2) s.mch ((ak+am) / 2) WD))).cell? ⟨w.heap.size+1,0,none⟩=some (vI 0):=QS.out.at 1 _ rfl 0 _ rfl;have r1:(W8.setCell ⟨H11,4,none⟩ (vI (scdV ((sk+sm) / 2) s.mch ((ak+am) / 2) WD))).cell? ⟨w.heap.size+1,1,none⟩=some (vI 0):=QS.out.at 1 _ rfl 1 _ rfl;have r2:(W8.setCell ⟨H11,4,none⟩ (vI (scdV ((sk+sm) / 2) s.mch ((ak+am) / 2) WD))).cell? ⟨w.heap.size+1,2,none⟩=some (.int .u8 0):=QS.out.at 1 _ rfl 2 _ rfl;have r3:(W8.setCell ⟨H11,4,none⟩ (vI (scdV ((sk+sm) / 2) s.mch ((ak+am) / 2) WD))).cell? ⟨w.heap.size+1,3,none⟩=some (vI 0):=QS.out.at 1 _ rfl 3 _ rfl;have r4:(W8.setCell ⟨H11,4,none⟩ (vI (scdV ((sk+sm) / 2) s.mch ((ak+am) / 2) WD))).cell? ⟨w.heap.size+1,4,none⟩=some (vI 0):=QS.out.at 1 _ rfl 4 _ rfl;have r5:(W8.setCell ⟨H11,4,none⟩ (vI (scdV ((sk+sm) / 2) s.mch ((ak+am) / 2) WD))).cell? ⟨w.heap.size+1,5,none⟩=some (vI 0):=QS.out.at 1 _ rfl 5 _ rfl;have r6:(W8.setCell ⟨H11,4,none⟩ (vI (scdV ((sk+sm) / 2) s.mch ((ak+am) / 2) WD))).cell? ⟨w.heap.size+1,6,none⟩=some (vI 0):=QS.out.at 1 _ rfl 6 _ rfl;have rf:=fun o=>show (W8.setCell ⟨H11,4,none⟩ (vI (scdV ((sk+sm) / 2) s.mch ((ak+am) / 2) WD))).frozen? ⟨w.heap.size+1,o,none⟩=false from QS.out.fr 1 _ rfl o
  go_wp2_with fail
  exact bodyPost_ret (v:=.agg #[vI ((ak+am) / 2),vI CO,.int .u8 2,vI ((sk+sm) / 2),vI (scdV ((sk+sm) / 2) s.mch ((ak+am) / 2) WD),vI WE,vI WN]) (by simp [results,Tryz.results61,go_sem,r0,r1,r2,r3,r4,r5,r6]) rfl ⟨by rw [HF.out];rfl,below_set (below_set (below_set (below_set (below_set (below_set (below_set (QS.out.B) _ _ (Nat.le_add_right _ _) _) _ _ (Nat.le_add_right _ _) _) _ _ (Nat.le_add_right _ _) _) _ _ (Nat.le_add_right _ _) _) _ _ (Nat.le_add_right _ _) _) _ _ (Nat.le_add_right _ _) _) _ _ (Nat.le_add_right _ _) _⟩
 have st_14:Hid (∀ (H10:Nat) (W:World) (qH10:Has W H10 (lz2 0 0)) (rH10:w.heap.size+2<=H10),SS W→wpAnyH Tryz.prog .any OPS QQ SS 3 #[b1,b1,b1,b1,b1,b1,b1,b1,b1,b1,b1,b1,b1,b0,b1,b0,b0] (A0.put (some 10) (.pointer (some ⟨H10,0,none⟩))) W):=by
  subst hO hQ hA hSS
  refine hid ?_
  intro H10 W qH10 rH10 hHeld
  (try simp only [Act.put,pa,pb,pc])
  refine wpAnyH_ready (rs:=[13]) (by kernel_rfl) (by simp) ?_
  refine aD rfl (fun K hK=>mA st_13_14.out) ?_
  exact AllReadyH.nil
 have st_13:Hid (∀ (H9:Nat) (W:World) (qH9:Has W H9 (lz2 0 0)) (rH9:w.heap.size+2<=H9),SS W→wpAnyH Tryz.prog .any OPS QQ SS 3 #[b1,b1,b1,b1,b1,b1,b1,b1,b1,b1,b1,b1,b1,b1,b0,b0,b0] (A0.put (some 9) (.pointer (some ⟨H9,0,none⟩))) W):=by
  subst hO hQ hA hSS
  refine hid ?_
  intro H9 W qH9 rH9 hHeld
  (try simp only [Act.put,pa,pb,pc])
  refine wpAnyH_ready (rs:=[14]) (by kernel_rfl) (by simp) ?_
  refine aD rfl (fun K hK=>mA st_13_14.out) ?_
  exact AllReadyH.nil
 have st:Hid (∀ (W:World),SS W→wpAnyH Tryz.prog .any OPS QQ SS 4 #[b1,b1,b1,b1,b1,b1,b1,b1,b1,b1,b1,b1,b1,b0,b0,b0,b0] A0 W):=by
  subst hO hQ hA hSS
  refine hid ?_
  intro W hHeld
  (try simp only [Act.put,pa,pb,pc])
  refine wpAnyH_ready (rs:=[13,14]) (by kernel_rfl) (by simp) ?_
  refine aD rfl (fun K hK=>mA st_13.out) ?_
  refine aD rfl (fun K hK=>mA st_14.out) ?_
  exact AllReadyH.nil
 subst hO hQ hA hSS
 exact st.out _  hHeld
end Go.Proofs.YtheepmnhpclimaaGreat
