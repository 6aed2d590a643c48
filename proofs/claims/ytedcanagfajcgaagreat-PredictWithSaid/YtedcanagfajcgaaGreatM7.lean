/- M7: Bl, Cr, Mt in one text. -/
import Derived.Test.YtedcanagfajcgaaGreatM1
import Derived.Test.YtedcanagfajcgaaGreatM26
set_option linter.unusedSimpArgs false
set_option linter.unusedVariables false
set_option maxRecDepth 100000
set_option maxHeartbeats 4000000
namespace Go.Proofs
theorem U4{G:Prop}(h:G:=by
  have HBP:=hid hG;clear hG
  go_wp2_with fail
  go_ret2
  exact HBP.out):G:=h
theorem Ae5{G:Prop}(h:G:=by
  have hl:=h.len;have:=(List.getElem?_eq_some_iff.1 hk).1;obtain ⟨b,off,e,hb,hc⟩:=h.cells (by omega)
  exact ⟨b,off,e,hb,hc k x hk⟩):G:=h
end Go.Proofs
namespace Go.Proofs.YtedcanagfajcgaaGreat
open Go.RowKit
open Go.Lib (hid)
theorem BZ {w:World} {A:Option Addr} {n k:Nat} {l:List Int} {x:Int} (h:Ints w A n l) (hk:l[k]? = some x):∃ b off,A=some ⟨b,off,none⟩∧b<w.heap.size∧w.cell? ⟨b,off+k,none⟩=some (vI x):=by
 exact Ae5
def DI (ws st:Cs.Wins) (wish:List Int) (n:Nat) (w:World) (e:Ending) (w':World):Prop :=
 (Cs.belE ws st wish=0→∃ A c,e=.returned (.tuple #[.slice A n c,vI 0])∧Ints w' A n ((Cs.tight (Cs.lowL ws wish) st).map fun p=>p.2))∧(Cs.belE ws st wish≠0→e=.returned (.tuple #[.slice none 0 0,vI (Cs.belE ws st wish)]))∧Below w.heap.size w w'
theorem F5 {ws st:Cs.Wins} {wish:List Int} {n:Nat} {E:Int} {w w':World} (hE:Cs.belE ws st wish=E) (h0:E≠0) (hb:Below w.heap.size w w'):DI ws st wish n w (.returned (.tuple #[.slice none 0 0,vI E])) w' :=
 ⟨fun h=>absurd (hE.symm.trans h) h0,fun _=>by rw [hE],hb⟩
theorem Dy {ws st:Cs.Wins} {wish:List Int} {n:Nat} {w w1 w':World} {e:Ending} (hE:Cs.belE ws st wish=Cs.tgE (Cs.lowL ws wish) st) (hb:Below w.heap.size w w1) (h:Kv (fun p=>p.2) (Cs.lowL ws wish) st n w1 e w'):DI ws st wish n w e w' :=
 ⟨fun k=>h.1 (hE.symm.trans k),fun k=>by rw [hE];exact h.2.1 (fun j=>k (hE.trans j)),Ae hb h.2.2⟩
def Adj (ws:Cs.Wins) (wish:List Int) (n g:Nat) (w:World) (t:Value) (wr:World):Prop:=∃ k:Nat,k<=n∧t=vI k∧(∀ x ∈ wish.take k,Pf.inB x)∧RowF w g n (Cs.lowF ws wish k) wr
theorem O9 {ws:Cs.Wins} {wish:List Int} {k:Nat} {x:Int} (hx:wish[k]? = some x) (j:Nat):Hf (Cs.lowF ws wish k) k (min (Cs.hi ws k) x) j=Cs.lowF ws wish (k+1) j:=by
 have e:wish.getD k 0=x:=by rw [Dp,hx];rfl
 unfold Hf Cs.lowF
 by_cases h:j=k
 ·subst h
  rw [if_pos rfl,if_neg (Nat.lt_irrefl j),if_pos (Nat.lt_succ_self j),e]
 ·rw [if_neg h]
  by_cases h2:j<k
  ·rw [if_pos h2,if_pos (show j<k+1 by omega)]
  ·rw [if_neg h2,if_neg (show ¬ j<k+1 by omega)]
theorem XU (A S V:Option Addr) (n cn m cm nv cv:Nat) (ws st:Cs.Wins) (wish:List Int) (w:World) (hw:Pairs w A n ws) (hs:Pairs w S m st) (hv:Ints w V nv wish) (hn:n<=maxLen) (hm:m<=maxLen) (hnv:nv<=maxLen) (hmc:m<=cm) (hcm:cm<=maxLen) :
  Calls Tryz.prog 182 #[.slice A n cn,.slice S m cm,.slice V nv cv] w (DI ws st wish n w):=by
 have HC:=hid (Ru A S n cn m cm ws st w hw hs hn hm)
 unfold Gx at HC
 obtain ⟨i0,hi,hz0,hz1,hz2⟩:=info_parts Fh
 by_cases he:Cs.chkE ws st=0
 ·by_cases hnn:nv=n
  ·subst hnn
   have hok:=Cs.csOk_of he
   have hn64:nv<=64:=by have:=hok.len;have:=hw.len;omega
   rw [he] at HC
   have HN:=hid hw.len;have HV0:=hid hv.len;have HW:=hid hw;have HS:=hid hs;have HV:=hid hv;have HE:=hid he;have HOK:=hid hok;have HM:=hid hm;clear hw hs hv he hok hn hm hnv
   by_cases hn0:nv=0
   ·subst hn0
    have HBE:=hid (Cs.belE_ok (wish:=wish) HE.out (by rw [HV0.out,HN.out]) (by intro x hx;have h0:=List.eq_nil_of_length_eq_zero HV0.out;rw [h0] at hx;simp at hx))
    cases A with
    | none =>
     go_enter Tryz.func182,Tryz.ntmps182
     go_wp2_with fail
     refine HC.out.mono ?_;rintro e w1 ⟨rfl,hB1⟩
     have HBW:=hid hB1;clear hB1
     go_wp2_with (at_builtin;refine Ew rfl _ _ 86 rfl 65 i0 Tryz.underlying86 hi cn rfl rfl ?_)
     refine wp_loop_rounds 1 ?_
     rw [rounds_succ]
     have HG:=JH none S 0 0 m cm (Cs.lowL ws wish) st w1 ⟨by rw [Cs.lowL_len];exact HN.out,fun h=>absurd h (by omega)⟩ (HS.out.below HBW.out) (by unfold maxLen;omega) HM.out hmc hcm
     by_cases ht:Cs.tgE (Cs.lowL ws wish) st=0
     ·have HG2:=hid (HG.mono (R':=fun e w'=>∃ A' c',e=.returned (.tuple #[.slice A' 0 c',vI 0])∧DI ws st wish 0 w e w') fun e w' h=>by
       obtain ⟨A',c',h1,_⟩:=h.1 ht
       exact ⟨A',c',h1,Dy HBE.out HBW.out h⟩)
      clear HG ht
      go_wp2_with fail
      refine HG2.out.mono ?_;rintro e w3 ⟨A',c',rfl,hG⟩
      exact U4
     ·have HG2:=hid (HG.mono (R':=fun e w'=>e=.returned (.tuple #[.slice none 0 0,vI (Cs.tgE (Cs.lowL ws wish) st)])∧DI ws st wish 0 w e w') fun e w' h=>⟨h.2.1 ht,Dy HBE.out HBW.out h⟩)
      clear HG ht;generalize Cs.tgE (Cs.lowL ws wish) st=E at *
      go_wp2_with fail
      refine HG2.out.mono ?_;rintro e w3 ⟨rfl,hG⟩
      exact U4
    | some ad =>
     go_enter Tryz.func182,Tryz.ntmps182
     go_wp2_with fail
     refine HC.out.mono ?_;rintro e w1 ⟨rfl,hB1⟩
     have HB1:=hid hB1;clear hB1
     go_wp2_with (at_builtin;refine wpList_append_own _ rfl _ _ 86 rfl w.heap.size 65 i0 (.agg #[vI 0,vI 0]) 2 16 Tryz.underlying86 hi hz0 hz1 hz2 rfl (by decide) _ _ _ rfl (World.ownsRow_nil _ _ _ _) ad 0 cn [] rfl rfl (by intro j u hu;simp at hu) (by intro u hu;simp at hu) (by unfold maxLen;omega) (by omega) HB1.out.size ?_;intro v1 w2 hown1 hgrow1 hnil1)
     obtain rfl:=hnil1.2 ⟨rfl,trivial⟩;have HBW:=hid (HB1.out.grown hgrow1 HB1.out.size (Bq (World.ownsRow_nil w1 w.heap.size 65 2)));clear hown1 hgrow1 hnil1
     refine wp_loop_rounds 1 ?_
     rw [rounds_succ]
     have HG:=JH none S 0 0 m cm (Cs.lowL ws wish) st w2 ⟨by rw [Cs.lowL_len];exact HN.out,fun h=>absurd h (by omega)⟩ (HS.out.below HBW.out) (by unfold maxLen;omega) HM.out hmc hcm
     by_cases ht:Cs.tgE (Cs.lowL ws wish) st=0
     ·have HG2:=hid (HG.mono (R':=fun e w'=>∃ A' c',e=.returned (.tuple #[.slice A' 0 c',vI 0])∧DI ws st wish 0 w e w') fun e w' h=>by
       obtain ⟨A',c',h1,_⟩:=h.1 ht
       exact ⟨A',c',h1,Dy HBE.out HBW.out h⟩)
      clear HG ht
      go_wp2_with fail
      refine HG2.out.mono ?_;rintro e w3 ⟨A',c',rfl,hG⟩
      exact U4
     ·have HG2:=hid (HG.mono (R':=fun e w'=>e=.returned (.tuple #[.slice none 0 0,vI (Cs.tgE (Cs.lowL ws wish) st)])∧DI ws st wish 0 w e w') fun e w' h=>⟨h.2.1 ht,Dy HBE.out HBW.out h⟩)
      clear HG ht;generalize Cs.tgE (Cs.lowL ws wish) st=E at *
      go_wp2_with fail
      refine HG2.out.mono ?_;rintro e w3 ⟨rfl,hG⟩
      exact U4
   ·obtain ⟨b,off,rfl,hb,_⟩:=HW.out.cells (by omega)
    have hfl:=hid (show (ws.flatMap win).length=nv * 2 by rw [OU,HN.out])
    go_enter Tryz.func182,Tryz.ntmps182
    go_wp2_with fail
    refine HC.out.mono ?_;rintro e w1 ⟨rfl,hB1⟩
    have HB1:=hid hB1;have HPF:=hid (K6 (HW.out.below hB1));clear hB1
    go_wp2_with (at_builtin;refine wpList_append_own _ rfl _ _ 86 rfl w.heap.size 65 i0 (.agg #[vI 0,vI 0]) 2 16 Tryz.underlying86 hi hz0 hz1 hz2 rfl (by decide) _ _ _ rfl (World.ownsRow_nil _ _ _ _) ⟨b,off,none⟩ nv cn (ws.flatMap win) rfl hfl.out HPF.out (OV ws) (by unfold maxLen;omega) (by omega) HB1.out.size ?_;intro v1 w2 hown1 hgrow1 hnil1)
    rw [Nat.zero_add,List.nil_append] at hown1
    obtain ⟨g,cap,hv1,hg0,hglt⟩:=hown1.form (by omega);subst hv1;have HB2:=hid (HB1.out.grown hgrow1 HB1.out.size (Bq (World.ownsRow_nil w1 w.heap.size 65 2)));have HR:=hid (RowF.of_own (w0:=w) HN.out hown1 HB2.out);clear hown1 hgrow1 hnil1
    go_wp2_with fail
    go_loopw [27] (fun t wr=>Adj ws wish nv g w t wr) (fun t _=>nv - (intOf t).toNat)
    case atStart=>exact ⟨0,by omega,rfl,by simp,HR.out.congr fun j hj=>Cs.lowF_zero j⟩
    case round =>
     obtain ⟨k,hk,rfl,hall,hR⟩:=hrel;have HR:=hid hR;have HALL:=hid hall;clear hR hall
     by_cases hlt:k<nv
     ·obtain ⟨x,hx⟩:=Am HV0.out hlt
      obtain ⟨bv,ov,rfl,hbv,cx⟩:=BZ HV.out hx;replace cx:=(HR.out.bel.cell (p:=⟨bv,ov+k,none⟩) hbv).trans cx;have HX:=hid hx;have e1:=HR.out.hi k hlt;have fr:=HR.out.fr (k * 2+1)
      rw [Cs.lowF_cells] at e1
      replace e1:wr.cell? ⟨g,k * 2+1,none⟩=some (vI (Cs.hi ws k)):=e1;have hgl:=HR.out.lt;clear hx
      by_cases hin:Pf.inB x
      ·have HIN:=hid hin
       have hstep:=hid (O9 (ws:=ws) HX.out);generalize Cs.hi ws k=HH at *;clear hin
       go_wp2_with fail
       refine (O5 x HIN.out _).mono ?_;rintro e w' ⟨rfl,rfl⟩
       go_wp2_with fail
       go_roundw
       case rel=>exact ⟨k+1,by omega,by go_num,Gq HALL.out HX.out HIN.out,(HR.out.setH hlt (min HH x)).congr fun j _=>hstep.out j⟩
       case measure=>exact zMs
      ·have HX2:=hid (Cs.belE_rng HE.out (by rw [HV0.out,HN.out]) (Au HX.out) hin)
       have HIN:=hid hin;clear hin
       go_wp2_with fail
       refine (Qy x HIN.out _).mono ?_;rintro e w' ⟨rfl,rfl⟩
       go_wp2_with fail
       go_ret2
       exact F5 HX2.out (by decide) HR.out.bel
     ·have hkn:=hid (show k=nv by omega)
      have HIN:=hid (IC HV0.out (by have:=HALL.out;rwa [hkn.out] at this));have hp:=HR.out.pairs
      rw [hkn.out] at hp
      have HBE:=hid (Cs.belE_ok HE.out (by rw [HV0.out,HN.out]) HIN.out);have HG:=JH (some ⟨g,0,none⟩) S nv cap m cm (Cs.lowL ws wish) st wr (by unfold Cs.lowL;rw [HN.out];exact hp) (HS.out.below HR.out.bel) (by unfold maxLen;omega) HM.out hmc hcm
      by_cases ht:Cs.tgE (Cs.lowL ws wish) st=0
      ·have HG2:=hid (HG.mono (R':=fun e w'=>∃ A' c',e=.returned (.tuple #[.slice A' nv c',vI 0])∧DI ws st wish nv w e w') fun e w' h=>by
        obtain ⟨A',c',h1,_⟩:=h.1 ht
        exact ⟨A',c',h1,Dy HBE.out HR.out.bel h⟩)
       clear hp HG ht
       go_wp2_with fail
       refine HG2.out.mono ?_;rintro e w3 ⟨A',c',rfl,hG⟩
       exact U4
      ·have HG2:=hid (HG.mono (R':=fun e w'=>e=.returned (.tuple #[.slice none 0 0,vI (Cs.tgE (Cs.lowL ws wish) st)])∧DI ws st wish nv w e w') fun e w' h=>⟨h.2.1 ht,Dy HBE.out HR.out.bel h⟩)
       clear hp HG ht;generalize Cs.tgE (Cs.lowL ws wish) st=E at *
       go_wp2_with fail
       refine HG2.out.mono ?_;rintro e w3 ⟨rfl,hG⟩
       exact U4
  ·have hne:((nv:Int) != (n:Int))=true:=by rw [bne_iff_ne];omega
   have HX:=hid (Cs.belE_len (wish:=wish) he (fun h=>hnn (by have:=hw.len;have:=hv.len;omega)))
   rw [he] at HC
   clear hw hs hv he
   go_enter Tryz.func182,Tryz.ntmps182
   go_wp2_with fail
   refine HC.out.mono ?_;rintro e w1 ⟨rfl,hB1⟩
   have HB1:=hid hB1;clear hB1
   go_wp2_with fail
   go_ret2
   exact F5 HX.out (by decide) HB1.out
 ·have hne:(Cs.chkE ws st != 0)=true:=by rw [bne_iff_ne];exact he
  have HX:=hid (Cs.belE_chk (wish:=wish) he);have HNE:=hid he;clear hw hs hv he;generalize Cs.chkE ws st=E at *
  go_enter Tryz.func182,Tryz.ntmps182
  go_wp2_with fail
  refine HC.out.mono ?_;rintro e w1 ⟨rfl,hB1⟩
  have HB1:=hid hB1;clear hB1
  go_wp2_with fail
  go_ret2
  exact F5 HX.out HNE.out HB1.out
def scn (l:List Int) (v:Int):Nat→Int × Int
 | 0=>(-1,-1)
 | k+1=>if l.getD k 0=v then (if (scn l v k).1<0 then (k:Int) else (scn l v k).1,(k:Int)) else scn l v k
def crV (ws st:Cs.Wins) (level:Int):List Int:=(Cs.tight (Cs.lowL ws (List.replicate ws.length level)) st).map fun p=>p.2
def crE (ws st:Cs.Wins) (level:Int):Int:=Cs.belE ws st (List.replicate ws.length level)
def Qa (ws st:Cs.Wins) (level:Int) (n:Nat) (w:World) (e:Ending) (w':World):Prop :=
 (crE ws st level=0→∃ A c,e=.returned (.tuple #[.slice A n c,vI (scn (crV ws st level) level n).1,vI (scn (crV ws st level) level n).2,vI 0])∧Ints w' A n (crV ws st level)) ∧
 (crE ws st level≠0→e=.returned (.tuple #[.slice none 0 0,vI 0,vI 0,vI (crE ws st level)]))∧Below w.heap.size w w'
def Adm (w:World) (g n:Nat) (level:Int) (t:Value) (wr:World):Prop:=∃ k:Nat,k<=n∧t=vI k∧RowI w g n (Ec (List.replicate n level) k) wr
def Adn (l:List Int) (level:Int) (n:Nat) (f z t:Value):Prop:=∃ k:Nat,k<=n∧t=vI k∧f=vI (scn l level k).1∧z=vI (scn l level k).2
theorem ZC {l:List Int} {v:Int} {k:Nat} (h:l[k]? = some v):scn l v (k+1)=(if (scn l v k).1<0 then (k:Int) else (scn l v k).1,(k:Int)):=by
 show (if l.getD k 0=v then _ else _)=_
 rw [if_pos (by rw [Dp,h];rfl)]
theorem AcO {l:List Int} {v x:Int} {k:Nat} (h:l[k]? = some x) (hx:x≠v):scn l v (k+1)=scn l v k:=by
 show (if l.getD k 0=v then _ else _)=_
 rw [if_neg (by rw [Dp,h];exact hx)]
theorem ZZ (A S:Option Addr) (n cn m cm:Nat) (ws st:Cs.Wins) (level:Int) (w:World) (hw:Pairs w A n ws) (hs:Pairs w S m st) (hn:n<=8796093022208) (hm:m<=maxLen) (hmc:m<=cm) (hcm:cm<=maxLen) (hA:A=none→cn=0) :
  Calls Tryz.prog 110 #[.slice A n cn,.slice S m cm,vI level] w (Qa ws st level n w):=by
 have HN:=hid hw.len;have HB:=hid (fun V nv cv W (hV:Ints W V nv (List.replicate ws.length level)) (hnv:nv<=maxLen) (h:Below w.heap.size w W)=>XU A S V n cn m cm nv cv ws st (List.replicate ws.length level) W (hw.below h) (hs.below h) hV (by unfold maxLen;omega) hm hnv hmc hcm);have hmk:=run_make_row' (P:=Tryz.prog) 23 2 (vI 0) 8 Tryz.underlying23 CU rfl .i64 .i64 n (by omega) (by omega);clear hw hs hm hmc hcm hA
 go_enter Tryz.func110,Tryz.ntmps110
 go_wp2_with fail
 have HR0:=hid (RowI.made n (AJ w.heap.size w) 2);generalize hw2:w.alloc (.cells (madeCells #[vI 0] n) 2)=w2 at *;generalize hg:w.heap.size=g at *
 go_loopw [19] (fun t wr=>Adm w g n level t wr) (fun t _=>n - (intOf t).toNat)
 case atStart=>exact ⟨0,by omega,rfl,HR0.out.congr fun j _=>Fe _ j⟩
 case round =>
  obtain ⟨k,hk,rfl,hR⟩:=hrel;have HR:=hid hR;clear hR
  by_cases hlt:k<n
  ·have hpm:=hid (show (List.replicate n level)[k]? = some level by rw [List.getElem?_replicate,if_pos hlt])
   have d0:=HR.out.cell k hlt;have d1:=HR.out.fr k;have hgl:=HR.out.lt
   go_wp2_with fail
   go_roundw
   case rel=>exact ⟨k+1,by omega,by go_num,(HR.out.set hlt _).congr fun j _=>E9 hpm.out j⟩
   case measure=>exact zMs
  ·have hkn:=hid (show k=n by omega)
   have hfin:=HR.out
   rw [hkn.out] at hfin
   have HBR:=hid hfin.bel;have HBC:=HB.out (some ⟨g,0,none⟩) n n wr (by rw [HN.out];exact hfin.ints (by simp)) (by unfold maxLen;omega) (by rw [← hg];exact hfin.bel);have HLEN:=hid (show (crV ws st level).length=n by unfold crV;rw [List.length_map,Cs.tight_len,Cs.lowL_len];exact HN.out)
   by_cases he:crE ws st level=0
   ·have HC2:=hid (HBC.mono (R':=fun e w'=>∃ A' c',e=.returned (.tuple #[.slice A' n c',vI 0])∧Ints w' A' n (crV ws st level)∧Below wr.heap.size wr w') fun e w' h=>by
     obtain ⟨A',c',h1,h2⟩:=h.1 he
     exact ⟨A',c',h1,h2,h.2.2⟩)
    have HE:=hid he;clear he hfin HBC
    go_wp2_with fail
    refine HC2.out.mono ?_;rintro e w3 ⟨A',c',rfl,hI,hB⟩
    have HI:=hid hI;have HBW:=hid hB;clear hI hB
    go_wp2_with fail
    go_loop [7,8,39] (fun f z t=>Adn (crV ws st level) level n f z t) (fun _ _ t=>n - (intOf t).toNat)
    case atStart=>exact ⟨0,by omega,rfl,rfl,rfl⟩
    case round =>
     obtain ⟨q,hq,rfl,rfl,rfl⟩:=hrel
     by_cases hlt2:q<n
     ·obtain ⟨x,hx⟩:=Am HLEN.out hlt2
      obtain ⟨bv,ov,rfl,hbv,cx⟩:=BZ HI.out hx;have HX:=hid hx;clear hx
      by_cases hxl:x=level
      ·subst hxl
       have HY:=hid (ZC HX.out)
       by_cases hf:(scn (crV ws st x) x q).1<0
       ·have HF:=hid hf
        have HS3:=hid (show scn (crV ws st x) x (q+1)=((q:Int),(q:Int)) by rw [HY.out,if_pos HF.out]);generalize (scn (crV ws st x) x q).1=F0 at *;generalize (scn (crV ws st x) x q).2=Z0 at *
        go_wp2_with fail
        go_round
        case rel=>exact ⟨q+1,by omega,by go_num,by rw [HS3.out],by rw [HS3.out]⟩
        case measure=>exact zMs
       ·have HF:=hid hf
        have HS3:=hid (show scn (crV ws st x) x (q+1)=((scn (crV ws st x) x q).1,(q:Int)) by rw [HY.out,if_neg HF.out]);clear HY;generalize (scn (crV ws st x) x q).1=F0 at *;generalize (scn (crV ws st x) x q).2=Z0 at *
        go_wp2_with fail
        go_round
        case rel=>exact ⟨q+1,by omega,by go_num,by rw [HS3.out],by rw [HS3.out]⟩
        case measure=>exact zMs
      ·have HS3:=hid (AcO HX.out hxl)
       have hxn:(x != level)=true:=by rw [bne_iff_ne];exact hxl
       generalize hF0:(scn (crV ws st level) level q).1=F0 at *;generalize hZ0:(scn (crV ws st level) level q).2=Z0 at *;have HFZ:=hid (And.intro hF0 hZ0);clear hF0 hZ0
       go_wp2_with fail
       go_round
       case rel=>exact ⟨q+1,by omega,by go_num,by rw [HS3.out,HFZ.out.1],by rw [HS3.out,HFZ.out.2]⟩
       case measure=>exact zMs
     ·have hqn:=hid (show q=n by omega)
      have hfin2:Qa ws st level n w (.returned (.tuple #[.slice A' n c',vI (scn (crV ws st level) level q).1,vI (scn (crV ws st level) level q).2,vI 0])) w3:=by
       rw [hqn.out]
       exact ⟨fun _=>⟨_,_,rfl,HI.out⟩,fun h=>absurd HE.out h,Ae HBR.out HBW.out⟩
      have HFIN:=hid hfin2;clear hfin2;generalize (scn (crV ws st level) level q).1=F0 at *;generalize (scn (crV ws st level) level q).2=Z0 at *
      go_wp2_with fail
      refine bodyPost_ret (I6 rfl _ _ _) rfl ?_
      exact HFIN.out
   ·have hne:(crE ws st level != 0)=true:=by rw [bne_iff_ne];exact he
    have HC2:=hid (HBC.mono (R':=fun e w'=>e=.returned (.tuple #[.slice none 0 0,vI (crE ws st level)])∧Below wr.heap.size wr w') fun e w' h=>⟨h.2.1 he,h.2.2⟩);have FIN:=hid (show ∀ w',Below w.heap.size w w'→Qa ws st level n w (.returned (.tuple #[.slice none 0 0,vI 0,vI 0,vI (crE ws st level)])) w' from fun w' hb=>⟨fun h=>absurd h he,fun _=>rfl,hb⟩);clear he hfin HBC;generalize crE ws st level=E at *
    go_wp2_with fail
    refine HC2.out.mono ?_;rintro e w3 ⟨rfl,hB⟩
    have HBW:=hid hB;clear hB
    go_wp2_with fail
    refine bodyPost_ret (I6 rfl _ _ _) rfl ?_
    exact FIN.out _ (Ae HBR.out HBW.out)
attribute [local go_sem ↓] Go.wp_at_zero Go.wp_at_succ
def Adw (ws st:Cs.Wins) (vs:List Int):Prop:=Cs.chkE ws st=0∧vs.length=ws.length∧Cs.Sol ws st (fun i=>vs.getD i 0)
structure MtUp (ws st:Cs.Wins) (vs:List Int) (k:Nat):Prop where
 win:∀ i,i<k→Cs.lo ws i<=vs.getD i 0∧vs.getD i 0<=Cs.hi ws i
 stp:∀ i,i+1<k→vs.getD (i+1) 0 - vs.getD i 0<=Cs.up st i∧vs.getD i 0 - vs.getD (i+1) 0<=Cs.dn st i
theorem MtUp.zero {ws st:Cs.Wins} {vs:List Int}:MtUp ws st vs 0:=⟨fun i h=>absurd h (by omega),fun i h=>absurd h (by omega)⟩
theorem J8 {vs:List Int} {i:Nat} {x:Int} (h:vs[i]? = some x):vs.getD i 0=x:=by rw [Dp,h];rfl
theorem MtUp.next {ws st:Cs.Wins} {vs:List Int} {k:Nat} {p q:Int × Int} {x y:Int} (h:MtUp ws st vs (k+1)) (hp:ws[k+1]? = some p) (hx:vs[k+1]? = some x) (hq:st[k]? = some q) (hy:vs[k]? = some y)
  (h1:p.1<=x∧x<=p.2) (h2 : -q.2<=x - y∧x - y<=q.1):MtUp ws st vs (k+1+1):=by
 have e1:=Cs.lo_of hp;have e2:=Cs.up_of hq;have e3:=J8 hx;have e4:=J8 hy
 refine ⟨fun i hi=>?_,fun i hi=>?_⟩
 ·by_cases e:i=k+1
  ·subst e;rw [e3,e1.1,e1.2];exact h1
  ·exact h.win i (by omega)
 ·by_cases e:i=k
  ·subst e;rw [e3,e4,e2.1,e2.2];omega
  ·exact h.stp i (by omega)
theorem MtUp.first {ws st:Cs.Wins} {vs:List Int} {p:Int × Int} {x:Int} (hp:ws[0]? = some p) (hx:vs[0]? = some x) (h1:p.1<=x∧x<=p.2):MtUp ws st vs 1:=by
 have e1:=Cs.lo_of hp;have e3:=J8 hx
 refine ⟨fun i hi=>?_,fun i hi=>absurd hi (by omega)⟩
 obtain rfl:i=0:=by omega
 rw [e3,e1.1,e1.2];exact h1
theorem Ints.cell {w:World} {A:Option Addr} {n k:Nat} {l:List Int} {x:Int} (h:Ints w A n l) (hk:l[k]? = some x):∃ b off,A=some ⟨b,off,none⟩∧b<w.heap.size∧w.cell? ⟨b,off+k,none⟩=some (vI x):=by
 exact Ae5
