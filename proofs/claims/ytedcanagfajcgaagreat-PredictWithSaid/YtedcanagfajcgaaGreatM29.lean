/- M29: Pr7, Pr8, Pr9 in one text. -/
import Derived.Test.YtedcanagfajcgaaGreatM28
import Derived.Test.YtedcanagfajcgaaGreatGd4
set_option linter.unusedSimpArgs false
set_option linter.unusedVariables false
set_option maxRecDepth 100000
set_option maxHeartbeats 16000000
namespace Go.Proofs
theorem RH{G:Prop}(h:G:=by
  have HB:=hid (Ae HS.out.B hB);clear hB
  go_wp2_with fail
  go_ret
  exact ⟨Af HF.out.symm,HB.out⟩):G:=h
theorem Yx{G:Prop}(h:G:=by
  go_enter Tryz.func16,Tryz.ntmps16
  go_wp2_with fail
  go_ret
  exact ⟨Af HF.out.symm,HS.out.B⟩):G:=h
end Go.Proofs
namespace Go.Proofs.YtedcanagfajcgaaGreat
open Go.RowKit
open Go.Lib (hid)
theorem Ow.setNe {α:Type} {f:α→List Value} {sz:Nat} {e:TypeId} {N:Nat} {l:List α} {v:Value} {wr:World} (h:Ow f sz e N l v wr) (p:Addr) (x:Value) (hp:∀ k,v.ownBlock=some k→k≠p.block):Ow f sz e N l v (wr.setCell p x):=h.grown (Ej wr p x) (by
 cases hv:v.ownBlock with
 | none=>exact .inl rfl
 | some k=>refine .inr fun e=>?_;exact hp k hv (by injection e))
def Vd (s:Stp) (al:List Int) (n:Nat) (w:World) (v t:Value) (wr:World):Prop:=∃ k:Nat,k<=n∧t=vI (k:Int)∧(∀ x ∈ al.take k,-200000<=x∧x<=6000000)∧BoxS w 1 [s.cells] wr∧Ow win 2 65 (w.heap.size+1) ((sdL s al).take k) v wr
theorem PH {s:Stp} {al:List Int} (h:al.length=s.no.length) {k:Nat} (hk:k<s.no.length):(sdL s al).take (k+1)=(sdL s al).take k ++ [sdF s (Ac s k) (al.getD k 0)]:=Aq _ k _ (Ki h hk)
theorem Co {l:List Int} {k:Nat} {x:Int} {P:Int→Prop} (h:∀ y ∈ l.take k,P y) (hx:l[k]? = some x) (hp:P x):∀ y ∈ l.take (k+1),P y:=by
 intro y hy
 rw [Aq _ k _ hx] at hy
 rcases List.mem_append.1 hy with h1 | h1
 ·exact h y h1
 ·rw [List.mem_singleton.1 h1];exact hp
theorem Xo {s:Stp} {al:List Int} (h:suE s≠0):sdE s al=suE s:=if_pos h
theorem Aa4 {s:Stp} {al:List Int} (h:suE s=0) (h2:al.length≠s.no.length):sdE s al=1:=by unfold sdE;rw [if_neg (by rw [h];decide),if_pos h2]
theorem Aa5 {s:Stp} {al:List Int} {x:Int} (h:suE s=0) (h2:al.length=s.no.length) (hx:x ∈ al) (h3:inB x (-200000) 6000000=false):sdE s al=2:=by
 unfold sdE
 rw [if_neg (by rw [h];decide),if_neg (by omega),if_neg (fun h4=>by
  unfold BK at h4
  rw [List.all_eq_true] at h4
  have:=h4 x hx
  rw [h3] at this
  exact absurd this (by decide))]
theorem Aa3 {s:Stp} {al:List Int} (h:suE s=0) (h2:al.length=s.no.length) (h3:∀ x ∈ al,-200000<=x∧x<=6000000):sdE s al=0:=by
 unfold sdE
 rw [if_neg (by rw [h];decide),if_neg (by omega),if_pos (by unfold BK;rw [List.all_eq_true];exact fun x hx=>Al.2 (h3 x hx))]
theorem XY (s:Stp) (A:Option Addr) (n c:Nat) (al:List Int) (w:World) (hl:s.lies w) (hok:s.ok) (hal:Ints w A n al) (hn:n<=maxLen):Calls Tryz.prog 112 #[.agg s.cells.toArray,.slice A n c] w (FY (okL (sdE s al) (sdL s al)) (okN (sdE s al) n) (sdE s al) w):=by
 obtain ⟨i0,hi,hz0,hz1,hz2⟩:=info_parts Fh;have HS:=hid (DR w s.cells.toArray 35);have HC:=hid (fun W (h:BoxS w 1 [s.cells] W)=>Jj s W (hl.below h.B) hok)
 by_cases hE:suE s=0
 rotate_left
 ·have HX:=hid (Xo (al:=al) hE)
  generalize suE s=E at *;have e1:=Aw hE;have e2:=AL e1;have HE:=hid hE;clear hl hok hE hal hn
  go_enter Tryz.func112,Tryz.ntmps112
  go_wp2_with (refine AC (.tmp 2) rfl rfl rfl (HS.out.has 0 _ rfl) ?_)
  refine (HC.out _ HS.out).mono ?_;rintro e' w1 ⟨rfl,hB⟩
  have HB:=hid (Ae HS.out.B hB);clear hB
  go_wp2_with fail
  go_ret2
  exact Ca HX.out HE.out HB.out
 have G:=Cm hE;have N:=StN.of hl;have hno:=N.no;have hn2:=Cq G N
 rw [hE] at HC
 have HEE:=hid hE;obtain ⟨b,off,hA⟩:=FC hl (by omega);have HNS:=hid (fun W (h:BoxS w 1 [s.cells] W)=>show W.cell? ⟨w.heap.size,0,none⟩=some (.slice (some ⟨b,off,none⟩) s.sno.n s.sno.c) from Dk (h.has 0 _ rfl) hA);have hlen:=hal.len
 unfold maxLen at hn
 by_cases hnn:n=s.no.length
 rotate_left
 ·have HX:=hid (Aa4 hE (show al.length≠s.no.length by omega))
  have g1:((n:Int) == (s.sno.n:Int))=false:=Aw (by omega);have g2:=AL g1;clear hl hok hE hal G N hA hno hn2 hlen hnn
  go_enter Tryz.func112,Tryz.ntmps112
  go_wp2_with (refine AC (.tmp 2) rfl rfl rfl (HS.out.has 0 _ rfl) ?_)
  refine (HC.out _ HS.out).mono ?_;rintro e' w1 ⟨rfl,hB⟩
  replace HS:=hid (HS.out.below hB);have k0:=HNS.out _ HS.out;clear hB
  go_wp2_with fail
  go_ret2
  exact Ca HX.out (by decide) HS.out.B
 have HLEN:=hid hlen;have HNN:=hid (show al.length=s.no.length by omega);have HN2:=hid (show n=s.no.length∧n=s.sno.n from ⟨hnn,by omega⟩)
 have g1:((n:Int) == (s.sno.n:Int))=true:=by rw [show n=s.sno.n by omega];simp
 have g2:((n:Int) != (s.sno.n:Int))=false:=by rw [bne,g1];rfl
 have hn64:n<=64:=by omega
 have HND:=hid (fun W (h:BoxS w 1 [s.cells] W) k (hk:k<n)=>show W.cell? ⟨b,off+k * 7+5,none⟩=some (vI (Ac s k).s0)∧W.cell? ⟨b,off+k * 7+6,none⟩=some (vI (Ac s k).s1)∧W.cell? ⟨w.heap.size,30,none⟩=some (vI s.cas)∧W.cell? ⟨w.heap.size,34,none⟩=some (vI s.la)∧W.cell? ⟨w.heap.size,35,none⟩=some (vI s.ls) from
  have q:=Ce (hl.below h.B) hA (k:=k) (by omega)
  ⟨q.2.2.2.2.2.1,q.2.2.2.2.2.2,IA (h.has 0 _ rfl),TC (h.has 0 _ rfl),TD (h.has 0 _ rfl)⟩)
 have HAL:=hid hal;have HWH:=hid (fun W (h:BoxS w 1 [s.cells] W)=>show Has W w.heap.size s.cells from h.has 0 _ rfl);have HM:=hid (fun W=>TT s.ac W);have HMI:=hid (fun W (h:BoxS w 1 [s.cells] W)=>UZ s.pf s.ac.mass W (hl.below h.B).pf hok.pf);have HMA:=hid (fun W (h:BoxS w 1 [s.cells] W) a=>UY s.pf a W (hl.below h.B).pf hok.pf);clear hl hok hE hal G N hA hno hn2 hlen hnn;generalize hMN:JW s.pf s.ac.mass=MN at *;have HMN:=hid hMN;clear hMN
 go_enter Tryz.func112,Tryz.ntmps112
 go_wp2_with (refine AC (.tmp 2) rfl rfl rfl (HS.out.has 0 _ rfl) ?_)
 refine (HC.out _ HS.out).mono ?_;rintro e' w1 ⟨rfl,hB⟩
 replace HS:=hid (HS.out.below hB);have k0:=HNS.out _ HS.out;clear hB HC
 go_wp2_with fail
 clear k0
 refine rS (fun W=>BoxS w 1 [s.cells] W) 11 (HS.out.drew) (fun hHeld=>?_)
 refine rQ ?_
 refine rY (RF (.tmp 27) rfl rfl rfl (fun W hW=>HWH.out W hW)) ?_
 refine rQ ?_
 refine rY (Yb (.tmp 29) rfl rfl rfl (fun W hW=>HWH.out W hW)) ?_
 refine rEk ?_
 intro K hK
 refine (HM.out _).mono ?_;rintro e2 w4 ⟨rfl,hB⟩
 go_wp2_with fail
 have hNew:=hHeld.below hB;clear hB
 refine rEt hK hNew ?_
 clear hK K hNew hHeld
 intro hHeld
 refine rEk ?_
 intro K hK
 refine (HMI.out _ hHeld).mono ?_;rintro e2 w4 ⟨rfl,hB⟩
 go_wp2_with fail
 have hNew:=hHeld.below hB;clear hB
 refine rEt hK hNew ?_
 clear hK K hNew hHeld
 intro hHeld
 iterate 5 refine rQ ?_
 refine rD ?_
 replace HS:=hid hHeld;clear hHeld g1 g2 HM HMI
 go_wp2_with fail
 go_loopw [9,37] (fun v t wr=>Vd s al n w v t wr) (fun _ t _=>n - (intOf t).toNat)
 case atStart=>exact ⟨0,by omega,rfl,by simp,HS.out,Ow.start _ _ _ _ _⟩
 case round =>
  obtain ⟨k,hk,rfl,hall,hs,ho⟩:=hrel;replace HS:=hid hs;have HO:=hid ho;have HALL:=hid hall;clear hs ho hall
  by_cases hlt:k<n
  ·have HTK:=hid (PH (s:=s) HNN.out (k:=k) (by have:=HN2.out.1;omega))
   obtain ⟨x,hx⟩:=Am HLEN.out hlt;obtain ⟨bx,ox,hbx,hbl,cx⟩:=BZ HAL.out hx;have HXX:=hid hx;have HGD:=hid (show al.getD k 0=x from Ah hx);replace cx:=(HS.out.B.cell (p:=⟨bx,ox+k,none⟩) hbl).trans cx;have HBX:=hid hbx
   have i1:(0:Int)<=(k:Int):=by omega
   have i2:(k:Int)<(s.sno.n:Int):=by have:=HN2.out.2;omega
   have i3:(k:Int)<(n:Int):=by omega
   rw [hbx]
   clear hx hbx
   cases hin:inB x (-200000) 6000000
   ·have HE:=hid (Aa5 HEE.out HNN.out (Au HXX.out) hin)
    have G0:=hid hin;clear hin
    go_wp2_with fail
    refine (Gs _ _).mono ?_;rintro e wx ⟨rfl,rfl⟩
    rw [G0.out]
    go_wp2_with fail
    go_ret2
    exact Ca HE.out (by decide) HS.out.B
   have G0:=hid hin;clear hin
   have hlen2:((sdL s al).take k).length<=64:=by rw [List.length_take];omega
   have HKK:=hid (fun W (h:BoxS w 1 [s.cells] W)=>And.intro (HNS.out W h) (HND.out W h k hlt))
   have HSF:=hid (show sdF s (Ac s k) x=(max (Ac s k).s0 MN,if x<s.la then min (min (Ac s k).s1 (min s.cas (FV s.pf x))) s.ls else min (Ac s k).s1 (min s.cas (FV s.pf x))) from by rw [← HMN.out,← Int.min_assoc];rfl)
   rw [HGD.out] at HTK
   go_wp2_with fail
   refine (Gs _ _).mono ?_;rintro e wx ⟨rfl,rfl⟩
   rw [G0.out]
   go_wp2_with (refine Dx (.tmp 46) rfl rfl rfl (HS.out.has 0 _ rfl) ?_)
   refine (HMA.out _ HS.out x).mono ?_;rintro e wy ⟨rfl,hB⟩
   replace HS:=hid (HS.out.below hB);replace HO:=hid (HO.out.below hB);clear hB cx;generalize FV s.pf x=MX at *;generalize sdF s (Ac s k) x=SF at *;generalize hLL:(sdL s al).take k=LL at *;have HLL:=hid hLL;clear hLL
   go_wp2_with fail
   refine rS (fun W=>BoxS w 1 [s.cells] W) 23 (HS.out.drew) (fun hHeld=>?_)
   refine rQ ?_
   refine rT (fun W hW=>HKK.out W hW) ?_
   iterate 4 refine rQ ?_
   refine rT (fun W hW=>HKK.out W hW) ?_
   iterate 3 refine rQ ?_
   refine rT (fun W hW=>HKK.out W hW) ?_
   iterate 4 refine rQ ?_
   refine rT (fun W hW=>HKK.out W hW) ?_
   refine rQ ?_
   refine rT (fun W hW=>HKK.out W hW) ?_
   refine rQ ?_
   refine rVm ((vI (min (Ac s k).s1 (min s.cas MX)))) ?_
   refine rQ ?_
   refine rEk ?_
   intro K hK
   have hBase:=hHeld;have hNew:=hHeld.alloc (.cells #[vI 0,vI 0] 65)
   refine rEt hK hNew ?_
   clear hK K hNew hHeld
   intro hHeld
   refine rEk ?_
   intro K hK
   have hNew:=(HS.out.alloc (.cells #[vI (max (Ac s k).s0 MN),vI (min (Ac s k).s1 (min s.cas MX))] 65)).drew
   refine rEt hK hNew ?_
   clear hK K hNew hHeld
   intro hHeld
   refine rD ?_
   have HT:Hid (Has ((wy.alloc (.cells #[vI (max (Ac s k).s0 MN),vI (min (Ac s k).s1 (min s.cas MX))] 65)).drew) wy.heap.size (lz2 (max (Ac s k).s0 MN) (min (Ac s k).s1 (min s.cas MX)))):=hid (Has.new _ _ _).drew;have HOB:=hid (show ∀ k,_→k≠wy.heap.size from fun k hk=>Nat.ne_of_lt (HO.out.lt hk).2);replace HO:=hid ((HO.out.alloc (.cells #[vI (max (Ac s k).s0 MN),vI (min (Ac s k).s1 (min s.cas MX))] 65)).drew);have hge:w.heap.size+1<=wy.heap.size:=HS.out.sz;replace HS:=hid hHeld;clear hHeld hBase;generalize (wy.alloc (.cells #[vI (max (Ac s k).s0 MN),vI (min (Ac s k).s1 (min s.cas MX))] 65)).drew=w9 at *;generalize wy.heap.size=H9 at *;generalize min (Ac s k).s1 (min s.cas MX)=HI at *;obtain ⟨k0,-,-,-,k34,k35⟩:=HKK.out _ HS.out;have t0:=HT.out.cell 0 _ rfl;have t1:=HT.out.cell 1 _ rfl;have tf:=HT.out.fr
   by_cases hla:x<s.la
   ·rw [if_pos hla] at HSF
    have hne:some H9≠none:=by simp
    have HHX:=hid (fun v=>HT.out.set 1 v (by simp))
    go_wp2_with (at_builtin;refine wpList_append_own_at _ rfl _ _ 86 rfl (w.heap.size+1) 65 i0 (.agg #[vI 0,vI 0]) 2 16 Tryz.underlying86 hi hz0 hz1 hz2 rfl (by decide) _ _ _ rfl (((HO.out.setNe ⟨H9,1,none⟩ (vI (min HI s.ls)) HOB.out).alloc _).own) ⟨w9.heap.size,0,none⟩ 1 1 (lz2 (max (Ac s k).s0 MN) (min HI s.ls)) rfl rfl (AY _ _ (by first | rfl | simp) _ _ _ rfl) (by intro u hu;simp at hu;rcases hu with rfl | rfl <;> rfl) (by unfold maxLen;omega) (by omega) (by have:=HS.out.sz;simp;omega) ?_;intro v1 w7 hown hgrow hnil hblk)
    have HS7:=hid (((HS.out.set H9 1 hge (vI (min HI s.ls))).alloc _).grown hgrow (fun k hk=>(HO.out.lt hk).1));have HO7:=hid (Ow.next (l:=LL) (f:=win) (x:=(max (Ac s k).s0 MN,min HI s.ls)) hown);clear hown hgrow hnil hblk HS HO k34 k35 t0 t1 tf HHX
    go_roundw
    case rel=>exact ⟨k+1,by omega,by go_num,Co HALL.out HXX.out (Al.1 G0.out),HS7.out,by rw [HTK.out,HSF.out];exact HO7.out⟩
    case measure=>exact zMs
   ·rw [if_neg hla] at HSF
    go_wp2_with (at_builtin;refine wpList_append_own_at _ rfl _ _ 86 rfl (w.heap.size+1) 65 i0 (.agg #[vI 0,vI 0]) 2 16 Tryz.underlying86 hi hz0 hz1 hz2 rfl (by decide) _ _ _ rfl ((HO.out.alloc _).own) ⟨w9.heap.size,0,none⟩ 1 1 (lz2 (max (Ac s k).s0 MN) HI) rfl rfl (AY _ _ (by first | rfl | simp) _ _ _ rfl) (by intro u hu;simp at hu;rcases hu with rfl | rfl <;> rfl) (by unfold maxLen;omega) (by omega) (by have:=HS.out.sz;simp;omega) ?_;intro v1 w7 hown hgrow hnil hblk)
    have HS7:=hid ((HS.out.alloc _).grown hgrow (fun k hk=>(HO.out.lt hk).1));have HO7:=hid (Ow.next (l:=LL) (f:=win) (x:=(max (Ac s k).s0 MN,HI)) hown);clear hown hgrow hnil hblk HS HO k34 k35 t0 t1 tf
    go_roundw
    case rel=>exact ⟨k+1,by omega,by go_num,Co HALL.out HXX.out (Al.1 G0.out),HS7.out,by rw [HTK.out,HSF.out];exact HO7.out⟩
    case measure=>exact zMs
  ·have hkn:=hid (show k=n by omega)
   have HE:=hid (Aa3 HEE.out HNN.out (by have h:=HALL.out;rw [CY (by rw [HLEN.out];omega)] at h;exact h));have HO2:=hid (show Ow win 2 65 (w.heap.size+1) (sdL s al) _ wr from by have h:=HO.out;rwa [CY (by rw [CV HNN.out];have:=HN2.out;omega)] at h);obtain ⟨A',c',hv,hP,hcap⟩:=HO2.out.res Dm (show (sdL s al).length=n from by rw [CV HNN.out];exact HN2.out.1.symm);have HP:=hid hP;have HCAP:=hid hcap
   have i2:¬ (k:Int)<(n:Int):=by omega
   subst hv;clear hP hcap HO HO2
   go_wp2_with fail
   go_ret2
   exact IY HE.out ⟨A',c',rfl,HP.out,HCAP.out⟩ HS.out.B
def Lg.cells (l:Lg):List Value:=(lzl l.al l.co l.ph l.sp l.ta l.we l.wn)
theorem Vp {X Y:Int} (hY:1<=Y) : -((-X) / Y)=(X+Y - 1) / Y:=by
 have h1:=SL (d:=X) hY;have h2:(X+Y - 1) / Y * Y<=X+Y - 1:=Int.ediv_mul_le _ (by omega);generalize (X+Y - 1) / Y=q at *;have a:(-X) / Y < -q+1:=(Int.ediv_lt_iff_lt_mul (by omega)).2 (by rw [Int.add_mul,Int.neg_mul];omega);have b : -q<=(-X) / Y:=(Int.le_ediv_iff_mul_le (by omega)).2 (by rw [Int.neg_mul];omega)
 omega
theorem Vq (X Y:Int) (h0:0<=X) (h1:X<=100000000) (hY:1<=Y):Fx.scV 1 X 1 Y=(X+Y - 1) / Y∧Fx.scE 1 X 1 Y=0:=by
 have e2:Fx.rqz 1 (X * 1) Y=(X+Y - 1) / Y:=by
  unfold Fx.rqz Fx.rq
  rw [if_neg (by omega),if_neg (by decide),if_pos rfl,Int.mul_one]
  exact Vp hY
 have hb:=E8 h0 hY
 rw [Fx.scV_eq 1 X 1 Y (by omega),Fx.scE_eq 1 X 1 Y (by omega),e2]
 constructor <;> (rw [if_pos];unfold Fx.inR;omega)
theorem KQ (co t e n:Int):0<=gsV co t e n∧gsV co t e n<=4915200:=by
 by_cases h:gsE co t e n=0
 ·have g:=GH h
  have hv:=g.hv;have hlo:=g.hlo;have ha:=(Il (co:=co) (e:=e) (n:=n) (by unfold wiB;rw [Bool.and_eq_true,Al,Al];exact ⟨g.he,g.hn⟩)).1
  have hr:gsR co t e n<=4096000:=by
   have h1:gsR co t e n<=sqV (4096000 * 4096000):=Cb (by
    have h2:=Bv (a:=t * 1024) (b:=4096000) (by have:=g.ht;omega) (by have:=g.ht;omega);have h3:=BM (Ky (acV co e n)) (Ky (acV co e n))
    rw [← Kk] at h3
    omega)
   rw [Oe (by decide)] at h1
   exact h1
  omega
 ·have:gsV co t e n=0:=if_neg h
  omega
theorem Kq (d g:Int) (h0:0<=d) (h1:d<=100000000) (hg:1<=g) (hg2:g<=100000000) (w:World):Calls Tryz.prog 42 #[vI d,vI g] w fun e' w'=>e'=.returned (vI (tck d g))∧Below w.heap.size w w':=by
 have h:=xCeil d g ⟨by omega,by omega⟩ ⟨by omega,by omega⟩
 rw [(Vq d g h0 h1 hg).1,(Vq d g h0 h1 hg).2] at h
 have H:=hid h;have HV:=hid (show tck d g=(d+g - 1) / g from rfl);clear h;generalize (d+g - 1) / g=q at *
 go_enter Tryz.func42,Tryz.ntmps42
 go_wp2_with fail
 refine (H.out _).mono ?_;rintro e' w1 ⟨rfl,n,rfl⟩
 go_wp2_with fail
 go_ret
 exact ⟨Af HV.out.symm,Ag (AJ _ _) n⟩
theorem JQ (s:Stp) (l:Lg) (dev:Int) (w:World):Calls Tryz.prog 70 #[.agg l.cells.toArray,.agg s.cells.toArray,vI dev] w fun e' w'=>e'=.returned (vI (Ck l.sp s.mch l.al dev))∧Below w.heap.size w w':=by
 have HS:=hid (Dt w l.cells.toArray s.cells.toArray 101 35);have HX:=hid (fun W=>XZ l.sp s.mch l.al dev W);have k0:((w.alloc (.cells l.cells.toArray 101)).alloc (.cells s.cells.toArray 35)).cell? ⟨w.heap.size,3,none⟩=some (vI l.sp):=HS.out.at 0 _ rfl 3 _ rfl;have k1:((w.alloc (.cells l.cells.toArray 101)).alloc (.cells s.cells.toArray 35)).cell? ⟨w.heap.size,0,none⟩=some (vI l.al):=HS.out.at 0 _ rfl 0 _ rfl;have k2:((w.alloc (.cells l.cells.toArray 101)).alloc (.cells s.cells.toArray 35)).cell? ⟨w.heap.size+1,31,none⟩=some (vI s.mch):=JE (HS.out.has 1 _ rfl)
 go_enter Tryz.func70,Tryz.ntmps70
 go_wp2_with fail
 refine (HX.out _).mono ?_;rintro e' w2 ⟨rfl,hB⟩
 have HB:=hid (Ae HS.out.B hB);clear hB
 go_wp2_with fail
 go_ret
 exact ⟨rfl,HB.out⟩
theorem MI (l:Lg) (e n:Int) (hco:I64 l.co) (w:World):Calls Tryz.prog 41 #[.agg l.cells.toArray,.agg #[vI e,vI n]] w fun e' w'=>e'=.returned (.tuple #[vI (gsV l.co l.ta e n / 1024),vI (gsE l.co l.ta e n)])∧Below w.heap.size w w':=by
 have HS:=hid (Dt w l.cells.toArray #[vI e,vI n] 101 62);have HX:=hid (fun W=>Z6 l.co l.ta e n hco W);have hb:=KQ l.co l.ta e n;have q1:(gsV l.co l.ta e n).tdiv 1024=gsV l.co l.ta e n / 1024:=Int.tdiv_eq_ediv_of_nonneg hb.1;have q2:=iW (gsV l.co l.ta e n / 1024);have k0:((w.alloc (.cells l.cells.toArray 101)).alloc (.cells #[vI e,vI n] 62)).cell? ⟨w.heap.size,1,none⟩=some (vI l.co):=HS.out.at 0 _ rfl 1 _ rfl;have k1:((w.alloc (.cells l.cells.toArray 101)).alloc (.cells #[vI e,vI n] 62)).cell? ⟨w.heap.size,4,none⟩=some (vI l.ta):=HS.out.at 0 _ rfl 4 _ rfl;have k2:((w.alloc (.cells l.cells.toArray 101)).alloc (.cells #[vI e,vI n] 62)).cell? ⟨w.heap.size+1,0,none⟩=some (vI e):=HS.out.at 1 _ rfl 0 _ rfl;have k3:((w.alloc (.cells l.cells.toArray 101)).alloc (.cells #[vI e,vI n] 62)).cell? ⟨w.heap.size+1,1,none⟩=some (vI n):=HS.out.at 1 _ rfl 1 _ rfl;clear hb
 go_enter Tryz.func41,Tryz.ntmps41
 go_wp2_with fail
 refine (HX.out _).mono ?_;rintro e' w2 ⟨d,rfl,hB⟩
 have HB:=hid (Ae HS.out.B hB);clear hB
 go_wp2_with fail
 go_ret2
 exact ⟨rfl,HB.out⟩
theorem TU (s:Stp) (l:Lg) (left tas:Int) (w:World) (hl:s.lies w) (hok:s.ok) (hp:l.ph=1∨l.ph=2∨l.ph=3) (hb : -4000000000000000<=s.ac.em+left∧s.ac.em+left<=4000000000000000):Calls Tryz.prog 43 #[.agg l.cells.toArray,.agg s.cells.toArray,vI left,vI tas] w fun e' w'=>e'=.returned (vI (flw s l left tas))∧Below w.heap.size w w':=by
 have HS:=hid (Dt w l.cells.toArray s.cells.toArray 101 35)
 have HV:=hid (show flw s l left tas=if l.ph=1 then KH s.pf l.al (s.ac.em+left) else if l.ph=2 then KL s.pf l.al (s.ac.em+left) tas else JV s.pf l.al from rfl)
 have H1:=hid (fun W (h:Below w.heap.size w W)=>Rx s.pf l.al (s.ac.em+left) W (hl.below h).pf hok.pf);have H2:=hid (fun W (h:Below w.heap.size w W)=>PZ s.pf l.al (s.ac.em+left) tas W (hl.below h).pf hok.pf);have H3:=hid (fun W (h:Below w.heap.size w W)=>UX s.pf l.al W (hl.below h).pf hok.pf);have k0:((w.alloc (.cells l.cells.toArray 101)).alloc (.cells s.cells.toArray 35)).cell? ⟨w.heap.size,2,none⟩=some (.int .u8 l.ph):=HS.out.at 0 _ rfl 2 _ rfl;have k1:((w.alloc (.cells l.cells.toArray 101)).alloc (.cells s.cells.toArray 35)).cell? ⟨w.heap.size,0,none⟩=some (vI l.al):=HS.out.at 0 _ rfl 0 _ rfl;have k2:((w.alloc (.cells l.cells.toArray 101)).alloc (.cells s.cells.toArray 35)).cell? ⟨w.heap.size+1,25,none⟩=some (vI s.ac.em):=Xx (HS.out.has 1 _ rfl);have q1:=iW (s.ac.em+left);clear hl hok hb
 rcases hp with hp | hp | hp
 ·have HF:=hid (HV.out.trans (if_pos hp))
  rw [hp] at k0
  clear hp HV
  go_enter Tryz.func43,Tryz.ntmps43
  go_wp2_with (refine Dx (.tmp 29) rfl rfl rfl (HS.out.has 1 _ rfl) ?_)
  refine (H1.out _ HS.out.B).mono ?_;rintro e' w2 ⟨rfl,hB⟩
  exact RH
 ·have HF:=hid (HV.out.trans (by rw [if_neg (by omega),if_pos hp]))
  rw [hp] at k0
  clear hp HV
  go_enter Tryz.func43,Tryz.ntmps43
  go_wp2_with (refine Dx (.tmp 40) rfl rfl rfl (HS.out.has 1 _ rfl) ?_)
  refine (H2.out _ HS.out.B).mono ?_;rintro e' w2 ⟨rfl,hB⟩
  exact RH
 ·have HF:=hid (HV.out.trans (by rw [if_neg (by omega),if_neg (by omega)]))
  rw [hp] at k0
  clear hp HV
  go_enter Tryz.func43,Tryz.ntmps43
  go_wp2_with (refine Dx (.tmp 19) rfl rfl rfl (HS.out.has 1 _ rfl) ?_)
  refine (H3.out _ HS.out.B).mono ?_;rintro e' w2 ⟨rfl,hB⟩
  exact RH
theorem Sa {s:Stp} {al sp:List Int} (h:al.length≠s.no.length∨sp.length≠s.no.length):fcE s al sp=1:=if_pos h
theorem Mg {s:Stp} {al sp:List Int} (h:¬ (al.length≠s.no.length∨sp.length≠s.no.length)) (h2:¬ (BK al (-200000) s.lv=true∧BK sp 0 1000=true)):fcE s al sp=2:=by unfold fcE;rw [if_neg h,if_neg h2]
theorem AaD {s:Stp} {al sp:List Int} (h:¬ (al.length≠s.no.length∨sp.length≠s.no.length)) (h2:BK al (-200000) s.lv=true∧BK sp 0 1000=true):fcE s al sp=0:=by unfold fcE;rw [if_neg h,if_pos h2]
theorem GL {l:List Int} {lo hi x:Int} (hx:x ∈ l) (h:inB x lo hi=false):¬ BK l lo hi=true:=fun h4=>by
 unfold BK at h4
 rw [List.all_eq_true] at h4
 have:=h4 x hx
 rw [h] at this
 exact absurd this (by decide)
theorem I7 {l:List Int} {lo hi:Int} (h:∀ x ∈ l,inB x lo hi=true):BK l lo hi=true:=by unfold BK;rw [List.all_eq_true];exact h
def Aah (s:Stp) (al sp:List Int) (n:Nat) (w:World) (t:Value) (wr:World):Prop:=∃ k:Nat,k<=n∧t=vI (k:Int)∧(∀ x ∈ al.take k,inB x (-200000) s.lv=true)∧(∀ x ∈ sp.take k,inB x 0 1000=true)∧BoxS w 1 [s.cells] wr
theorem Ia (s:Stp) (A B:Option Addr) (n c m d:Nat) (al sp:List Int) (w:World) (hno:s.no.length=s.sno.n) (ha:Ints w A n al) (hb:Ints w B m sp) (hn:n<=maxLen) (hm:m<=maxLen):Calls Tryz.prog 16 #[.agg s.cells.toArray,.slice A n c,.slice B m d] w fun e' w'=>e'=.returned (vI (fcE s al sp))∧Below w.heap.size w w':=by
 have HS:=hid (DR w s.cells.toArray 35);have HKK:=hid (fun W (h:BoxS w 1 [s.cells] W)=>show W.cell? ⟨w.heap.size,0,none⟩=some (.slice s.sno.A s.sno.n s.sno.c)∧W.cell? ⟨w.heap.size,29,none⟩=some (vI s.lv) from ⟨PQ (h.has 0 _ rfl),FP (h.has 0 _ rfl)⟩);have la:=ha.len;have lb:=hb.len
 unfold maxLen at hn hm
 obtain ⟨k0,k29⟩:=HKK.out _ HS.out
 by_cases h1:n=s.no.length
 rotate_left
 ·have HF:=hid (Sa (s:=s) (al:=al) (sp:=sp) (.inl (by omega)))
  have g1:((n:Int) == (s.sno.n:Int))=false:=Aw (by omega);have g2:=AL g1;clear ha hb la lb h1 hno
  exact Yx
 have g1:((n:Int) == (s.sno.n:Int))=true:=by rw [show n=s.sno.n by omega];simp
 have g2:((n:Int) != (s.sno.n:Int))=false:=by rw [bne,g1];rfl
 by_cases h2:m=s.no.length
 rotate_left
 ·have HF:=hid (Sa (s:=s) (al:=al) (sp:=sp) (.inr (by omega)))
  have g3:((m:Int) == (s.sno.n:Int))=false:=Aw (by omega);have g4:=AL g3;clear ha hb la lb h1 h2 hno
  exact Yx
 have g3:((m:Int) == (s.sno.n:Int))=true:=by rw [show m=s.sno.n by omega];simp
 have g4:((m:Int) != (s.sno.n:Int))=false:=by rw [bne,g3];rfl
 have HL:=hid (show ¬ (al.length≠s.no.length∨sp.length≠s.no.length) by omega);have HLA:=hid (show al.length=n∧sp.length=n∧m=n from ⟨la,by omega,by omega⟩);have HA:=hid ha;have HB:=hid hb;clear ha hb la lb h1 h2 hno
 go_enter Tryz.func16,Tryz.ntmps16
 go_wp2_with fail
 clear k0 k29 g1 g2 g3 g4;generalize w.alloc (.cells s.cells.toArray 35)=w1 at *
 go_loopw [25] (fun t wr=>Aah s al sp n w t wr) (fun t _=>n - (intOf t).toNat)
 case atStart=>exact ⟨0,by omega,rfl,by simp,by simp,HS.out⟩
 case round =>
  obtain ⟨k,hk,rfl,hall,hall2,hs⟩:=hrel;replace HS:=hid hs;have HALL:=hid hall;have HALL2:=hid hall2;clear hs hall hall2
  by_cases hlt:k<n
  ·obtain ⟨x,hx⟩:=Am HLA.out.1 hlt
   obtain ⟨y,hy⟩:=Am HLA.out.2.1 hlt;obtain ⟨bx,ox,hbx,hbl,cx⟩:=BZ HA.out hx;obtain ⟨by_,oy,hby,hbl2,cy⟩:=BZ HB.out hy;have HXX:=hid hx;have HYY:=hid hy;replace cx:=(HS.out.B.cell (p:=⟨bx,ox+k,none⟩) hbl).trans cx;replace cy:=(HS.out.B.cell (p:=⟨by_,oy+k,none⟩) hbl2).trans cy;have HBX:=hid hbx;have HBY:=hid hby
   have i1:(0:Int)<=(k:Int):=by omega
   have i2:(k:Int)<(m:Int):=by have:=HLA.out.2.2;omega
   have i3:(k:Int)<(n:Int):=by omega
   obtain ⟨k0,k29⟩:=HKK.out _ HS.out
   rw [hbx,hby]
   clear hx hbx hy hby
   cases hin:inB x (-200000) s.lv
   ·have HF:=hid (Mg HL.out (fun h=>GL (Au HXX.out) hin h.1))
    have G0:=hid hin;clear hin
    go_wp2_with fail
    refine (BU _ _ _ _).mono ?_;rintro e' wx ⟨rfl,rfl⟩
    rw [G0.out]
    go_wp2_with fail
    go_ret
    exact ⟨Af HF.out.symm,HS.out.B⟩
   have G0:=hid hin;clear hin
   cases hin:inB y 0 1000
   ·have HF:=hid (Mg HL.out (fun h=>GL (Au HYY.out) hin h.2))
    have G1:=hid hin;clear hin
    go_wp2_with fail
    refine (BU _ _ _ _).mono ?_;rintro e' wx ⟨rfl,rfl⟩
    rw [G0.out]
    go_wp2_with fail
    refine (BU _ _ _ _).mono ?_;rintro e' wx ⟨rfl,rfl⟩
    rw [G1.out]
    go_wp2_with fail
    go_ret
    exact ⟨Af HF.out.symm,HS.out.B⟩
   have G1:=hid hin;clear hin
   go_wp2_with fail
   refine (BU _ _ _ _).mono ?_;rintro e' wx ⟨rfl,rfl⟩
   rw [G0.out]
   go_wp2_with fail
   refine (BU _ _ _ _).mono ?_;rintro e' wx ⟨rfl,rfl⟩
   rw [G1.out]
   go_wp2_with fail
   go_roundw
   case rel=>exact ⟨k+1,by omega,by go_num,Co HALL.out HXX.out G0.out,Co HALL2.out HYY.out G1.out,HS.out⟩
   case measure=>exact zMs
  ·have hkn:=hid (show k=n by omega)
   have HF:=hid (AaD HL.out ⟨I7 (by have h:=HALL.out;rwa [CY (by have:=HLA.out;omega)] at h),I7 (by have h:=HALL2.out;rwa [CY (by have:=HLA.out;omega)] at h)⟩)
   have i2:¬ (k:Int)<(n:Int):=by omega
   go_wp2_with fail
   go_ret
   exact ⟨Af HF.out.symm,HS.out.B⟩
theorem Ab {B:Nat} {w W:World} (h:Below B w W) (b i:Nat) (hb:B<=b) (v:Value):Below B w (W.setCell ⟨b,i,none⟩ v):=h.setCell (p:=⟨b,i,none⟩) hb v
theorem Gz (a b c d:Int):I64 (coV a b c d):=by
 unfold coV
 split
 ·unfold I64;omega
 ·have:=Qd (c - a) (d - b)
  unfold I64;omega
theorem Bu {w:World} {b off n:Nat} {l:List Int} (h:Ints w (some ⟨b,off,none⟩) n l) {k:Nat} (hk:k<n):b<w.heap.size∧w.cell? ⟨b,off+k,none⟩=some (vI (l.getD k 0)):=by
 obtain ⟨x,hx⟩:=Am h.len hk;obtain ⟨b',o',h1,h2,h3⟩:=BZ h hx
 injection h1 with h1;injection h1 with h1 h4;subst h1;subst h4
 exact ⟨h2,by rw [h3,Ah hx]⟩
theorem Eb {w:World} {A:Option Addr} {n:Nat} {l:List Int} (h:Ints w A n l) (hn:0<n):∃ b off,A=some ⟨b,off,none⟩:=by
 obtain ⟨b,off,h1,_,_⟩:=h.cells hn
 exact ⟨b,off,h1⟩
structure Bw (w0 W:World):Prop where
 B:Below w0.heap.size w0 W
section
variable {w0 W W1:World}
theorem Bw.sz (h:Bw w0 W):w0.heap.size<=W.heap.size:=h.B.size
theorem Bw.below (h:Bw w0 W) (hB:Below W.heap.size W W1):Bw w0 W1:=⟨Ae h.B hB⟩
theorem Bw.alloc (h:Bw w0 W) (o:Obj):Bw w0 (W.alloc o):=h.below (Aa _ _)
theorem Bw.drew (h:Bw w0 W):Bw w0 W.drew:=h.below (AJ _ _).drew
theorem Bw.set (h:Bw w0 W) {b:Nat} (hb:w0.heap.size<=b) (i:Nat) (v:Value):Bw w0 (W.setCell ⟨b,i,none⟩ v):=⟨Ab h.B _ _ hb _⟩
end
def Wz (s:Stp):List (List Value):=[s.cells,(lzl 0 0 0 0 0 0 0)]
theorem Acl {G:Prop} (h:G:=by
  have K:=HK.out _ hR;have c0:=q11.cell 0 _ rfl
  go_wp2_with (refine Qe (.tmp 83) rfl rfl rfl (HY.out _ hR) ?_)
  refine (HAT.out _ (HS.out.below hR.B).B).mono ?_;rintro e' V1 ⟨rfl,hB⟩
  replace q11:=q11.below hB;replace hR:=hR.below hB;have f0:=(q11.alloc (.cells #[vI WE,vI WN] 62)).fr;clear K c0 hB;have c5:=(q11.alloc (.cells #[vI WE,vI WN] 62)).cell 5 _ rfl;have c6:=(q11.alloc (.cells #[vI WE,vI WN] 62)).cell 6 _ rfl
  go_upto_region 10 with fail
  replace q11:=(show Has _ H11 (lzl ((ak+am) / 2) CO PV ((sk+sm) / 2) 0 WE WN) from (((q11.alloc (.cells #[vI WE,vI WN] 62)).set 5 (vI WE) (by simp)).set 6 (vI WN) (by simp)));replace hR:=(((hR.alloc (.cells #[vI WE,vI WN] 62)).set r11 5 (vI WE)).set r11 6 (vI WN));generalize hW0:World.setCell _ _ _=V2 at *;clear f0 c5 c6 hW0;have c0:=q11.cell 0 _ rfl;have c1:=q11.cell 1 _ rfl;have c2:=q11.cell 2 _ rfl;have c3:=q11.cell 3 _ rfl;have c4:=q11.cell 4 _ rfl;have c5:=q11.cell 5 _ rfl;have c6:=q11.cell 6 _ rfl
  go_wp2_with (refine AC (.tmp 4) rfl rfl rfl (HY.out _ hR) ?_)
  refine (HSC.out _ CO PV WE WN).mono ?_;rintro e' V3 ⟨rfl,hB⟩
  clear c0 c1 c2 c3 c4 c5 c6;replace q11:=q11.below hB;replace hR:=hR.below hB;have f0:=q11.fr;have c4:=q11.cell 4 _ rfl
  go_upto_region 11 with fail
  replace q11:=(show Has _ H11 (lzl ((ak+am) / 2) CO PV ((sk+sm) / 2) (Ck ((sk+sm) / 2) s.mch ((ak+am) / 2) WD) WE WN) from (q11.set 4 (vI (Ck ((sk+sm) / 2) s.mch ((ak+am) / 2) WD)) (by simp)));replace hR:=(hR.set r11 4 (vI (Ck ((sk+sm) / 2) s.mch ((ak+am) / 2) WD)));generalize hW0:World.setCell _ _ _=V4 at *;clear f0 c4 hW0 hB;replace HS:=hid (HS.out.below hR.B);have c0:=q11.cell 0 _ rfl;have r0:=HS.out.at 1 _ rfl 0 _ rfl;have c1:=q11.cell 1 _ rfl;have r1:=HS.out.at 1 _ rfl 1 _ rfl;have c2:=q11.cell 2 _ rfl;have r2:=HS.out.at 1 _ rfl 2 _ rfl;have c3:=q11.cell 3 _ rfl;have r3:=HS.out.at 1 _ rfl 3 _ rfl;have c4:=q11.cell 4 _ rfl;have r4:=HS.out.at 1 _ rfl 4 _ rfl;have c5:=q11.cell 5 _ rfl;have r5:=HS.out.at 1 _ rfl 5 _ rfl;have c6:=q11.cell 6 _ rfl;have r6:=HS.out.at 1 _ rfl 6 _ rfl;have rf:=(show Has V4 (w.heap.size+1) (lzl 0 0 0 0 0 0 0) from HS.out.has 1 _ rfl).fr;clear hR HK HY
  go_wp2_with fail
  exact bodyPost_ret (v:=.agg #[vI ((ak+am) / 2),vI CO,.int .u8 PV,vI ((sk+sm) / 2),vI (Ck ((sk+sm) / 2) s.mch ((ak+am) / 2) WD),vI WE,vI WN]) (by simp [results,Tryz.results40,go_sem,r0,r1,r2,r3,r4,r5,r6]) rfl ⟨by rw [HV.out];rfl,(Ab (Ab (Ab (Ab (Ab (Ab (Ab HS.out.B _ _ (Cn _ _) _) _ _ (Cn _ _) _) _ _ (Cn _ _) _) _ _ (Cn _ _) _) _ _ (Cn _ _) _) _ _ (Cn _ _) _) _ _ (Cn _ _) _)⟩):G:=h
theorem TY (s:Stp) (k m:Nat) (hm:m=k+1) (A B:Option Addr) (n c n' d:Nat) (al sp:List Int) (w:World) (hl:s.lies w) (hok:s.ok) (G:StG s) (hk:m<s.no.length) (hF:FcG s al sp) (ha:Ints w A n al) (hb:Ints w B n' sp) :
  Calls Tryz.prog 40 #[.agg s.cells.toArray,.slice A n c,.slice B n' d,vI m] w fun e' w'=>e'=.returned (.agg (lgV s al sp k).cells.toArray)∧Below w.heap.size w w':=by
 have N:=StN.of hl;have hno:=N.no;have hmx:=hok.no
 unfold maxLen at hmx
 have la:=ha.len;have lb:=hb.len
 have hn1:n=s.no.length:=by have:=hF.la;omega
 have hn2:n'=s.no.length:=by have:=hF.ls;omega
 obtain ⟨b,off,hA⟩:=FC hl (by omega);obtain ⟨ba,oa,rfl⟩:=Eb ha (by omega);obtain ⟨bb,ob,rfl⟩:=Eb hb (by omega);have HS:=hid (show BoxS w 2 (Wz s) _ from Dt w s.cells.toArray #[vI 0,vI 0,.int .u8 0,vI 0,vI 0,vI 0,vI 0] 35 101);have hak:=hF.a k (by omega);have ham:=hF.a m hk;have hsk:=hF.s k (by omega);have hsm:=hF.s m hk;have g1:=AR G N (k:=k) (by omega);have g2:=AR G N (k:=m) hk;have x1:=g1.px;have x2:=g2.px;have y1:=g1.py;have y2:=g2.py;have hlv:=G.lv
 have FA:=hid (fun W (h:BoxS w 2 (Wz s) W) =>
  have n1:=Ce (hl.below h.B) hA (k:=k) (by omega);have n2:=Ce (hl.below h.B) hA (k:=m) hk;have q1:=Bu ha (k:=k) (by omega);have q2:=Bu ha (k:=m) (by omega);have q3:=Bu hb (k:=k) (by omega);have q4:=Bu hb (k:=m) (by omega)
  And.intro (And.intro (Dk (show Has W w.heap.size s.cells from h.has 0 _ rfl) hA) (And.intro (And.intro n1.1 n1.2.1) (And.intro n2.1 n2.2.1))) (And.intro (And.intro ((h.B.cell (p:=⟨ba,oa+k,none⟩) q1.1).trans q1.2) ((h.B.cell (p:=⟨ba,oa+m,none⟩) q2.1).trans q2.2)) (And.intro ((h.B.cell (p:=⟨bb,ob+k,none⟩) q3.1).trans q3.2) ((h.B.cell (p:=⟨bb,ob+m,none⟩) q4.1).trans q4.2))))
 have HCO:=hid (fun W=>ZY (Ac s k).px (Ac s k).py (Ac s m).px (Ac s m).py W);have HAT:=hid (fun W (h:Below w.heap.size w W)=>show Calls Tryz.prog 18 #[.agg s.gr.cells.toArray,.agg #[vI (((Ac s k).px+(Ac s m).px) / 2),vI (((Ac s k).py+(Ac s m).py) / 2)],vI ((al.getD k 0+al.getD m 0) / 2)] W _ from AeI s.gr (((Ac s k).px+(Ac s m).px) / 2) (((Ac s k).py+(Ac s m).py) / 2) ((al.getD k 0+al.getD m 0) / 2) W (hl.below h).gr hok.gr G.gr (Gj (by omega) (by omega)) (Al.2 (by omega)));have HSC:=hid (fun W co (ph:Int) we wn=>show Calls Tryz.prog 70 #[.agg #[vI ((al.getD k 0+al.getD m 0) / 2),vI co,.int .u8 ph,vI ((sp.getD k 0+sp.getD m 0) / 2),vI 0,vI we,vI wn],.agg s.cells.toArray,vI (gAt s.gr (elD s.gr) (((Ac s k).px+(Ac s m).px) / 2) (((Ac s k).py+(Ac s m).py) / 2) ((al.getD k 0+al.getD m 0) / 2))] W _ from JQ s ⟨(al.getD k 0+al.getD m 0) / 2,co,ph,(sp.getD k 0+sp.getD m 0) / 2,0,we,wn⟩ (gAt s.gr (elD s.gr) (((Ac s k).px+(Ac s m).px) / 2) (((Ac s k).py+(Ac s m).py) / 2) ((al.getD k 0+al.getD m 0) / 2)) W)
 have HV:=hid (show lgV s al sp k=⟨(al.getD k 0+al.getD m 0) / 2,coV (Ac s k).px (Ac s k).py (Ac s m).px (Ac s m).py,if al.getD k 0<al.getD m 0 then 1 else if al.getD m 0<al.getD k 0 then 3 else 2,(sp.getD k 0+sp.getD m 0) / 2,Ck ((sp.getD k 0+sp.getD m 0) / 2) s.mch ((al.getD k 0+al.getD m 0) / 2) (gAt s.gr (elD s.gr) (((Ac s k).px+(Ac s m).px) / 2) (((Ac s k).py+(Ac s m).py) / 2) ((al.getD k 0+al.getD m 0) / 2)),gAt s.gr (elE s.gr) (((Ac s k).px+(Ac s m).px) / 2) (((Ac s k).py+(Ac s m).py) / 2) ((al.getD k 0+al.getD m 0) / 2),gAt s.gr (elN s.gr) (((Ac s k).px+(Ac s m).px) / 2) (((Ac s k).py+(Ac s m).py) / 2) ((al.getD k 0+al.getD m 0) / 2)⟩ from by subst hm;rfl)
 have w1:IntKind.i64.wrap ((m:Int) - 1)=(k:Int):=by rw [(iW _)];omega
 have i0:(0:Int)<=(k:Int):=by omega
 have i1:(k:Int)<(s.sno.n:Int):=by omega
 have i2:(0:Int)<=(m:Int):=by omega
 have i3:(m:Int)<(s.sno.n:Int):=by omega
 have j1:(k:Int)<(n:Int):=by omega
 have j2:(m:Int)<(n:Int):=by omega
 have j3:(k:Int)<(n':Int):=by omega
 have j4:(m:Int)<(n':Int):=by omega
 have u1:=iW (al.getD k 0+al.getD m 0);have u2:=iW (sp.getD k 0+sp.getD m 0);have u3:=iW ((Ac s k).px+(Ac s m).px);have u4:=iW ((Ac s k).py+(Ac s m).py);clear hl hok G N hno hmx la lb hn1 hn2 hA hk hF ha hb g1 g2 x1 x2 y1 y2 hlv hak ham hsk hsm hm;generalize lgV s al sp k=LV at *;generalize al.getD k 0=ak at *;generalize al.getD m 0=am at *;generalize sp.getD k 0=sk at *;generalize sp.getD m 0=sm at *;generalize coV (Ac s k).px (Ac s k).py (Ac s m).px (Ac s m).py=CO at *;generalize coE (Ac s k).px (Ac s k).py (Ac s m).px (Ac s m).py=CE at *;generalize gAt s.gr (elE s.gr) (((Ac s k).px+(Ac s m).px) / 2) (((Ac s k).py+(Ac s m).py) / 2) ((ak+am) / 2)=WE at *;generalize gAt s.gr (elN s.gr) (((Ac s k).px+(Ac s m).px) / 2) (((Ac s k).py+(Ac s m).py) / 2) ((ak+am) / 2)=WN at *;generalize gAt s.gr (elD s.gr) (((Ac s k).px+(Ac s m).px) / 2) (((Ac s k).py+(Ac s m).py) / 2) ((ak+am) / 2)=WD at *;generalize (Ac s k).px=pk at *;generalize (Ac s m).px=pm at *;generalize (Ac s k).py=yk at *;generalize (Ac s m).py=ym at *
 generalize hPV:(if ak<am then (1:Int) else if am<ak then 3 else 2)=PV at *
 have HPV:=hid hPV;clear hPV;have HFA:=FA;replace FA:=FA.out
 go_enter Tryz.func40,Tryz.ntmps40
 go_wp2_with fail
 refine rS (fun W=>BoxS w 2 (Wz s) W) 17 HS.out.drew (fun hHeld=>?_)
 generalize hW0:World.drew _=W2 at *;clear hW0 HS
 repeat (first | refine rQ ?_ | refine rF ?_)
 refine Be ?_
 intro OPS QQ A0 SS hO hQ hA hSS
 have TAIL:Hid (∀ (H9 H10:Nat) (W:World),Has W H9 (lz2 0 0)→Has W H10 (lz2 0 0)→w.heap.size+2<=H9→w.heap.size+2<=H10→H9≠H10→BoxS w 2 (Wz s) W→wpAnyH Tryz.prog .any OPS QQ (fun W=>BoxS w 2 (Wz s) W) 2 #[b1,b1,b1,b1,b1,b1,b1,b1,b1,b1,b1,b1,b1,b1,b1,b0,b0] ((A0.put (some 9) (.pointer (some ⟨H9,0,none⟩))).put (some 10) (.pointer (some ⟨H10,0,none⟩))) W):=by
  subst hO hQ hA hSS
  refine hid ?_
  intro H9 H10 W q9 q10 r9 r10 n910 hHeld
  (try simp only [Act.put,pa,pb,pc])
  have f0:=q9.fr;have c0:=q9.cell 0 _ rfl;have c1:=q9.cell 1 _ rfl
  refine rEk ?_
  intro K hK
  refine rEt hK ((hHeld.set H9 0 r9 (vI pk)).set H9 1 r9 (vI yk)) ?_
  clear hK K hHeld f0 c0 c1
  intro hHeld
  replace q9:=((q9.set 0 (vI pk) (by simp)).set 1 (vI yk) (by simp));replace q10:=((q10.other H9 0 (vI pk) n910.symm).other H9 1 (vI yk) n910.symm);generalize hW0:World.setCell _ _ _=W3 at *;clear hW0;have f0:=q10.fr;have c0:=q10.cell 0 _ rfl;have c1:=q10.cell 1 _ rfl
  refine rEk ?_
  intro K hK
  refine rEt hK ((hHeld.set H10 0 r10 (vI pm)).set H10 1 r10 (vI ym)) ?_
  clear hK K hHeld f0 c0 c1
  intro hHeld
  replace q10:=((q10.set 0 (vI pm) (by simp)).set 1 (vI ym) (by simp));replace q9:=((q9.other H10 0 (vI pm) n910).other H10 1 (vI ym) n910);generalize hW0:World.setCell _ _ _=W4 at *;clear hW0
  refine rD ?_
  go_wp2_with fail
  have HS:=hid hHeld;replace q9:=(show Has W4 H9 (lz2 pk yk) from q9);replace q10:=(show Has W4 H10 (lz2 pm ym) from q10);have HY:=hid (fun W (h:Bw W4 W)=>show Has W w.heap.size s.cells from (HS.out.below h.B).has 0 _ rfl);have HK:=hid (fun W (h:Bw W4 W)=>And.intro (HFA.out W (HS.out.below h.B)) (And.intro (And.intro ((q9.below h.B).cell 0 (vI pk) rfl) ((q9.below h.B).cell 1 (vI yk) rfl)) (And.intro ((q10.below h.B).cell 0 (vI pm) rfl) ((q10.below h.B).cell 1 (vI ym) rfl))))
  refine rS (fun W=>Bw W4 W) 25 ⟨(AJ _ _).drew⟩ (fun hHeld=>?_)
  replace FA:=HK.out;generalize hW0:World.drew _=W5 at *;clear hW0 q9 q10
  repeat (first | refine rQ ?_ | refine rF ?_)
  refine rEk ?_
  intro K hK
  have r11:=hHeld.sz
  refine rEa hK (hHeld.alloc _) (fun W6 hHeld2 q11 old=>?_)
  clear hK K hHeld old;have hHeld:=hHeld2;clear hHeld2;generalize W5.heap.size=H11 at *;have f0:=q11.fr;have c0:=q11.cell 0 _ rfl;have c1:=q11.cell 1 _ rfl;have c2:=q11.cell 2 _ rfl;have c3:=q11.cell 3 _ rfl;have c4:=q11.cell 4 _ rfl;have c5:=q11.cell 5 _ rfl;have c6:=q11.cell 6 _ rfl
  refine rEk ?_
  intro K hK
  refine rEt hK (((((((hHeld.set r11 0 (vI ((ak+am) / 2))).set r11 1 (vI 0)).set r11 2 (.int .u8 2)).set r11 3 (vI ((sk+sm) / 2))).set r11 4 (vI 0)).set r11 5 (vI 0)).set r11 6 (vI 0)) ?_
  clear hK K hHeld f0 c0 c1 c2 c3 c4 c5 c6
  intro hR
  replace q11:=(show Has _ H11 (lzl ((ak+am) / 2) 0 2 ((sk+sm) / 2) 0 0 0) from (((((((q11.set 0 (vI ((ak+am) / 2)) (by simp)).set 1 (vI 0) (by simp)).set 2 (.int .u8 2) (by simp)).set 3 (vI ((sk+sm) / 2)) (by simp)).set 4 (vI 0) (by simp)).set 5 (vI 0) (by simp)).set 6 (vI 0) (by simp)));generalize hW0:World.setCell _ _ _=W7 at *;clear hW0
  repeat (first | refine rQ ?_ | refine rF ?_)
  refine rD ?_
  have K:=HK.out _ hR
  go_wp2_with fail
  refine (HCO.out _).mono ?_;rintro e2 W8 ⟨rfl,hB⟩
  replace q11:=q11.below hB;replace hR:=hR.below hB;clear hB K;have f0:=q11.fr;have c1:=q11.cell 1 _ rfl;have K:=HK.out _ hR
  go_upto_region 4 with fail
  clear f0 K c1;replace q11:=(show Has _ H11 (lzl ((ak+am) / 2) CO 2 ((sk+sm) / 2) 0 0 0) from (q11.set 1 (vI CO) (by simp)));replace hR:=(hR.set r11 1 (vI CO));generalize hW0:World.setCell _ _ _=W9 at *;clear hW0
  refine rS (fun W=>Bw W4 W) 11 hR.drew (fun hHeld=>?_)
  replace q11:=q11.drew;generalize hW0:World.drew _=W10 at *;clear hW0 hR
  repeat (first | refine rQ ?_ | refine rF ?_)
  refine rD ?_
  have hR:=hHeld;clear hHeld
  by_cases h1:ak<am
  ·have f0:=q11.fr
   have c2:=q11.cell 2 _ rfl
   go_upto_region 8 with fail
   replace q11:=(show Has _ H11 (lzl ((ak+am) / 2) CO PV ((sk+sm) / 2) 0 0 0) from by rw [← HPV.out,if_pos h1];exact q11.set 2 (.int .u8 1) (by simp));replace hR:=hR.set r11 2 (.int .u8 1);clear f0 c2
   exact Acl
  go_upto_region 6 with fail
  refine rS (fun W=>Bw W4 W) 11 hR.drew (fun hHeld=>?_)
  replace q11:=q11.drew;generalize hW0:World.drew _=W11 at *;clear hW0 hR
  repeat (first | refine rQ ?_ | refine rF ?_)
  refine rD ?_
  have hR:=hHeld;clear hHeld
  by_cases h2:am<ak
  ·have f0:=q11.fr
   have c2:=q11.cell 2 _ rfl
   go_upto_region 8 with fail
   replace q11:=(show Has _ H11 (lzl ((ak+am) / 2) CO PV ((sk+sm) / 2) 0 0 0) from by rw [← HPV.out,if_neg h1,if_pos h2];exact q11.set 2 (.int .u8 3) (by simp));replace hR:=hR.set r11 2 (.int .u8 3);clear f0 c2
   exact Acl
  go_upto_region 8 with fail
  replace q11:=(show Has _ H11 (lzl ((ak+am) / 2) CO PV ((sk+sm) / 2) 0 0 0) from by rw [← HPV.out,if_neg h1,if_neg h2];exact q11)
  exact Acl
 subst hO hQ hA hSS
 (try simp only [Act.put,pa,pb,pc] at TAIL)
 exact mR
