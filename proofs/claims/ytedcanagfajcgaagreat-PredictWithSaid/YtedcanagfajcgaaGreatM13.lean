/- M13: CsTight, CsTightR in one text. -/
import Derived.Test.YtedcanagfajcgaaGreatM11
import Derived.Test.YtedcanagfajcgaaGreatM1
import Derived.Deep.DrawnRows
set_option linter.unusedSimpArgs false
set_option linter.unusedVariables false
set_option maxRecDepth 100000
set_option maxHeartbeats 4000000
namespace Go.Proofs.YtedcanagfajcgaaGreat
open Go.RowKit
open Go.Lib (hid)
theorem Fh:(Tryz.prog.info? 65).map (fun i=>(i.zero,i.size,i.bytes))=some (some (.agg #[vI 0,vI 0]),2,16):=by kernel_rfl
def Nq (ws st:Cs.Wins) (n:Nat) (w:World) (e:Ending) (w':World):Prop :=
 (Cs.tgE ws st=0→∃ A c,e=.returned (.tuple #[.slice A n c,vI 0])∧Pairs w' A n (Cs.tight ws st))∧(Cs.tgE ws st≠0→e=.returned (.tuple #[.slice none 0 0,vI (Cs.tgE ws st)]))∧Below w.heap.size w w'
theorem FI {ws st:Cs.Wins} {n:Nat} {E:Int} {w w':World} {e:Ending} (hE:Cs.tgE ws st=E) (h0:E≠0) (he:e=.returned (.tuple #[.slice none 0 0,vI E])) (hb:Below w.heap.size w w'):Nq ws st n w e w' :=
 ⟨fun h=>absurd (hE.symm.trans h) h0,fun _=>by rw [hE];exact he,hb⟩
def Ado (ws st:Cs.Wins) (n g:Nat) (w:World) (t:Value) (wr:World):Prop:=∃ k:Nat,k+1<=n∧t=vI ((k:Int)+1)∧RowF w g n (Cs.fwd ws st (k+1)) wr
def Adl (ws st:Cs.Wins) (n g:Nat) (w:World) (t:Value) (wr:World):Prop:=∃ (k:Nat) (z:Int),k+1<=n∧z+1=k∧t=vI z∧RowF w g n (Cs.bwd ws st k) wr
theorem Nk {ws st:Cs.Wins} (k:Nat):∀ v:Int,(Hf (Cs.fwd ws st (k+1)) (k+1) v (k+1)).1=Cs.lo ws (k+1)∧(Hf (Cs.fwd ws st (k+1)) (k+1) v k).1=Cs.fL ws st k:=by
 intro v
 unfold Hf Cs.fwd
 rw [if_pos rfl,if_neg (show ¬ k+1<k+1 by omega),if_neg (show ¬ k=k+1 by omega),if_pos (show k<k+1 by omega)]
 exact ⟨rfl,rfl⟩
theorem Oz {ws st:Cs.Wins} (k j:Nat):PW (Hf (Cs.fwd ws st (k+1)) (k+1) (min (Cs.hi ws (k+1)) (Cs.fH ws st k+Cs.up st k))) (k+1) (max (Cs.lo ws (k+1)) (Cs.fL ws st k - Cs.dn st k)) j=Cs.fwd ws st (k+1+1) j:=by
 unfold PW Hf Cs.fwd
 by_cases h:j=k+1
 ·subst h
  rw [if_pos rfl,if_pos rfl,if_pos (show k+1<k+1+1 by omega)]
  rfl
 ·rw [if_neg h,if_neg h]
  by_cases h2:j<k+1
  ·rw [if_pos h2,if_pos (show j<k+1+1 by omega)]
  ·rw [if_neg h2,if_neg (show ¬ j<k+1+1 by omega)]
theorem Nj {ws st:Cs.Wins} (i:Nat):(Cs.bwd ws st (i+1) i).2=Cs.fH ws st i∧(Cs.bwd ws st (i+1) (i+1)).2=Cs.bH ws st ws.length (ws.length - 1 - (i+1))∧(∀ v:Int,(Hf (Cs.bwd ws st (i+1)) i v i).1=Cs.fL ws st i)∧∀ v:Int,(Hf (Cs.bwd ws st (i+1)) i v (i+1)).1=Cs.bL ws st ws.length (ws.length - 1 - (i+1)):=by
 unfold Hf Cs.bwd
 rw [if_neg (show ¬ i+1<=i by omega),if_pos (Bn _)]
 refine ⟨rfl,rfl,fun v=>?_,fun v=>?_⟩
 ·rw [if_pos rfl]
 ·rw [if_neg (show ¬ i+1=i by omega)]
theorem Oy {ws st:Cs.Wins} (i:Nat) (hi:i+1<ws.length) (j:Nat) (hj:j<ws.length):PW (Hf (Cs.bwd ws st (i+1)) i (min (Cs.fH ws st i) (Cs.bH ws st ws.length (ws.length - 1 - (i+1))+Cs.dn st i))) i (max (Cs.fL ws st i) (Cs.bL ws st ws.length (ws.length - 1 - (i+1)) - Cs.up st i)) j=Cs.bwd ws st i j:=by
 have e:ws.length - 1 - i=ws.length - 1 - (i+1)+1:=by omega
 have e2:ws.length - 1 - (ws.length - 1 - (i+1)+1)=i:=by omega
 unfold PW Hf Cs.bwd
 by_cases h:j=i
 ·subst h
  rw [if_pos rfl,if_pos rfl,if_pos (Bn _),e]
  show _=(max (Cs.fL ws st (ws.length - 1 - (ws.length - 1 - (j+1)+1))) (Cs.bL ws st ws.length (ws.length - 1 - (j+1)) - Cs.up st (ws.length - 1 - (ws.length - 1 - (j+1)+1))),min (Cs.fH ws st (ws.length - 1 - (ws.length - 1 - (j+1)+1))) (Cs.bH ws st ws.length (ws.length - 1 - (j+1))+Cs.dn st (ws.length - 1 - (ws.length - 1 - (j+1)+1))))
  rw [e2]
 ·rw [if_neg h,if_neg h]
  by_cases h2:i+1<=j
  ·rw [if_pos h2,if_pos (show i<=j by omega)]
  ·rw [if_neg h2,if_neg (show ¬ i<=j by omega)]
theorem X7 (A S:Option Addr) (n cn m cm:Nat) (ws st:Cs.Wins) (w:World) (hw:Pairs w A n ws) (hs:Pairs w S m st) (hn:n<=maxLen) (hm:m<=maxLen) (hmc:m<=cm) (hcm:cm<=maxLen) :
  Calls Tryz.prog 233 #[.slice A n cn,.slice S m cm] w (Nq ws st n w):=by
 have HC:=hid (AeE A S n cn m cm ws st w hw hs hn hm hmc hcm);have HN:=hid hw.len;have HW:=hid hw;have HS:=hid hs;obtain ⟨i0,hi,hz0,hz1,hz2⟩:=info_parts Fh
 by_cases he:Cs.chkE ws st=0
 ·by_cases hcf:Cs.confL ws st=[]
  ·have hok:=Cs.csOk_of he
   have hn64:n<=64:=by have:=hok.len;have:=hw.len;omega
   have hmn:=hid (show m=n - 1 by have:=hok.slen;have:=hw.len;have:=hs.len;omega);have HE:=hid (Cs.tgE_ok he hcf)
   have HC2:=hid (HC.out.mono (R':=fun e w'=>∃ A' c',e=.returned (.tuple #[.slice A' 0 c',vI 0])∧Below w.heap.size w w') fun e w' h=>by
    obtain ⟨A',c',h1,_⟩:=h.1 he
    rw [hcf] at h1
    exact ⟨A',c',h1,h.2.2⟩)
   have HOK:=hid hok;clear hw hs he hcf hok HC hn hm
   by_cases hn0:n=0
   ·subst hn0
    have hnil:=hid (List.eq_nil_of_length_eq_zero HN.out)
    have fin:∀ (A':Option Addr) (c':Nat) (e:Ending) (w':World),e=.returned (.tuple #[.slice A' 0 c',vI 0])→Below w.heap.size w w'→Nq ws st 0 w e w':=fun A' c' e w' h1 h2 =>
     ⟨fun _=>⟨A',c',h1,by rw [hnil.out];exact ⟨rfl,fun h=>absurd h (by omega)⟩⟩,fun h=>absurd HE.out h,h2⟩
    have FIN:=hid fin;clear fin
    cases A with
    | none =>
     go_enter Tryz.func233,Tryz.ntmps233
     go_wp2_with fail
     refine HC2.out.mono ?_;rintro e w1 ⟨A',c',rfl,hB1⟩
     have HB1:=hid hB1;clear hB1
     go_wp2_with (at_builtin;refine Ew rfl _ _ 86 rfl 65 i0 Tryz.underlying86 hi cn rfl rfl ?_)
     refine wp_loop_rounds 1 ?_
     rw [rounds_succ]
     go_wp2_with fail
     refine wp_loop_rounds 1 ?_
     rw [rounds_succ]
     go_wp2_with fail
     go_ret2
     exact FIN.out none 0 _ _ rfl HB1.out
    | some ad =>
     go_enter Tryz.func233,Tryz.ntmps233
     go_wp2_with fail
     refine HC2.out.mono ?_;rintro e w1 ⟨A',c',rfl,hB1⟩
     have HB1:=hid hB1;clear hB1
     go_wp2_with (at_builtin;refine wpList_append_own _ rfl _ _ 86 rfl w.heap.size 65 i0 (.agg #[vI 0,vI 0]) 2 16 Tryz.underlying86 hi hz0 hz1 hz2 rfl (by decide) _ _ _ rfl (World.ownsRow_nil _ _ _ _) ad 0 cn [] rfl rfl (by intro j u hu;simp at hu) (by intro u hu;simp at hu) (by unfold maxLen;omega) (by omega) HB1.out.size ?_;intro v1 w2 hown1 hgrow1 hnil1)
     obtain rfl:=hnil1.2 ⟨rfl,trivial⟩;have HB2:=hid (HB1.out.grown hgrow1 HB1.out.size (Bq (World.ownsRow_nil w1 w.heap.size 65 2)));clear hown1 hgrow1 hnil1
     refine wp_loop_rounds 1 ?_
     rw [rounds_succ]
     go_wp2_with fail
     refine wp_loop_rounds 1 ?_
     rw [rounds_succ]
     go_wp2_with fail
     go_ret2
     exact FIN.out none 0 _ _ rfl HB2.out
   ·obtain ⟨b,off,rfl,hb,_⟩:=HW.out.cells (by omega)
    have hfl:=hid (show (ws.flatMap win).length=n * 2 by rw [OU,HN.out])
    go_enter Tryz.func233,Tryz.ntmps233
    go_wp2_with fail
    refine HC2.out.mono ?_;rintro e w1 ⟨A',c',rfl,hB1⟩
    have HB1:=hid hB1;have HPF:=hid (K6 (HW.out.below hB1));clear hB1
    go_wp2_with (at_builtin;refine wpList_append_own _ rfl _ _ 86 rfl w.heap.size 65 i0 (.agg #[vI 0,vI 0]) 2 16 Tryz.underlying86 hi hz0 hz1 hz2 rfl (by decide) _ _ _ rfl (World.ownsRow_nil _ _ _ _) ⟨b,off,none⟩ n cn (ws.flatMap win) rfl hfl.out HPF.out (OV ws) (by unfold maxLen;omega) (by omega) HB1.out.size ?_;intro v1 w2 hown1 hgrow1 hnil1)
    rw [Nat.zero_add,List.nil_append] at hown1
    obtain ⟨g,cap,hv1,hg0,hglt⟩:=hown1.form (by omega);subst hv1;have HB2:=hid (HB1.out.grown hgrow1 HB1.out.size (Bq (World.ownsRow_nil w1 w.heap.size 65 2)));have HR:=hid (RowF.of_own (w0:=w) HN.out hown1 HB2.out);clear hown1 hgrow1 hnil1;have HL0:=hid HN.out
    go_loopw [9] (fun t wr=>Ado ws st n g w t wr) (fun t _=>n+1 - (intOf t).toNat)
    case atStart=>exact ⟨0,by omega,rfl,HR.out.congr fun j hj=>Cs.fwd_start j⟩
    case round =>
     obtain ⟨k,hk,rfl,hR⟩:=hrel;have HR:=hid hR;clear hR
     by_cases hlt:k+1<n
     ·have hkm:k<m:=by have:=hmn.out;omega
      have e1:=HR.out.hi (k+1) hlt;have e0:=HR.out.hi k (by omega);have fr:=HR.out.fr ((k+1) * 2+1);obtain ⟨p,hp⟩:=Am (k:=k) HS.out.len hkm;obtain ⟨bS,oS,rfl,hbS,s0,s1⟩:=HS.out.cell hp;replace s0:=(HR.out.bel.cell (p:=⟨bS,oS+k * 2,none⟩) hbS).trans s0;have S1:=hid s1;clear s1
      simp only [Cs.fwd,if_neg (show ¬ k+1<k+1 by omega),if_pos (show k<k+1 by omega)] at e1 e0
      have f0:=Cs.fH_bd HOK.out (i:=k) (by have:=HN.out;omega);have hpo:=HOK.out.tok p (Au hp);obtain ⟨⟨p0,p1⟩,p2,p3⟩:=hpo;obtain ⟨f0,f1⟩:=f0;obtain ⟨fl0,fl1⟩:=Cs.fL_bd HOK.out (i:=k) (by have:=HN.out;omega);obtain ⟨wl,wh⟩:=HOK.out.win (i:=k+1) (by have:=HN.out;omega);obtain ⟨wl0,wl1⟩:=wl;obtain ⟨wh0,wh1⟩:=wh;have hup:=hid (Cs.up_of hp);have hstep:=hid (Oz (ws:=ws) (st:=st) k);have hcell:=hid (Nk (ws:=ws) (st:=st) k);obtain ⟨FH,hFH⟩:∃ x,x=Cs.fH ws st k:=⟨_,rfl⟩;obtain ⟨FL,hFL⟩:∃ x,x=Cs.fL ws st k:=⟨_,rfl⟩;obtain ⟨HI,hHI⟩:∃ x,x=Cs.hi ws (k+1):=⟨_,rfl⟩;obtain ⟨LO,hLO⟩:∃ x,x=Cs.lo ws (k+1):=⟨_,rfl⟩;have HEQ:=hid (And.intro hFH (And.intro hFL (And.intro hHI hLO)))
      rw [← hFH] at e0 f0 f1
      rw [← hFL] at fl0 fl1
      rw [← hHI] at e1 wh0 wh1
      rw [← hLO] at wl0 wl1
      clear hFH hFL hHI hLO hp
      have x1:IntKind.i64.wrap ((k:Int)+1 - 1)=(k:Int):=by rw [show (k:Int)+1 - 1=k from by omega];exact (iW _)
      have x2:=iW (FH+p.1)
      have x3:((k:Int)+1).toNat=k+1:=by omega
      have x4:0<=(k:Int)+1:=by omega
      have x5:(k:Int)+1<n:=by omega
      have x6:(k:Int)<n:=by omega
      have x7:(k:Int)<m:=by omega
      go_wp2_with fail
      go_region
      have HR2:=hid ((HR.out.setH hlt (min HI (FH+p.1))).drew);clear e1 e0 fr s0 x2;generalize (wr.setCell ⟨g,(k+1) * 2+1,none⟩ (vI (min HI (FH+p.1)))).drew=wr2 at *
      have e1:wr2.cell? ⟨g,(k+1) * 2,none⟩=some (vI LO):=by rw [HR2.out.lo (k+1) hlt,HEQ.out.2.2.2];rw [(hcell.out _).1]
      have e0:wr2.cell? ⟨g,k * 2,none⟩=some (vI FL):=by rw [HR2.out.lo k (by omega),HEQ.out.2.1];rw [(hcell.out _).2]
      have fr:=HR2.out.fr ((k+1) * 2);have s1:=(HR2.out.bel.cell (p:=⟨bS,oS+k * 2+1,none⟩) hbS).trans S1.out;have x2:=iW (FL - p.2)
      go_wp2_with fail
      go_region
      have HR3:=hid ((HR2.out.setL hlt (max LO (FL - p.2))).drew);clear e1 e0 fr s1 x2;generalize (wr2.setCell ⟨g,(k+1) * 2,none⟩ (vI (max LO (FL - p.2)))).drew=wr3 at *
      go_wp2_with fail
      go_roundw
      case rel=>exact ⟨k+1,by omega,by go_num,HR3.out.congr fun j _=>by rw [HEQ.out.1,HEQ.out.2.1,HEQ.out.2.2.1,HEQ.out.2.2.2,← hup.out.1,← hup.out.2];exact hstep.out j⟩
      case measure=>exact zMs
     ·have hkn:=hid (show k+1=n by omega)
      have hw9:=iW ((n:Int) - 2)
      go_wp2_with fail
      go_loopw [10] (fun t wr=>Adl ws st n g w t wr) (fun t _=>(intOf t+1).toNat)
      case atStart=>exact ⟨n - 1,(n:Int) - 2,by omega,by omega,rfl,(by have:=HR.out;rw [hkn.out] at this;exact this.congr fun j hj=>by have h1:=HN.out;rw [← h1];rw [← h1] at hj;exact Cs.bwd_last (by omega) j hj)⟩
      case round =>
       obtain ⟨k2,z,hk2,hz,rfl,hRb⟩:=hrel;have HRb:=hid hRb;clear hRb HR
       by_cases hz0:0<=z
       ·obtain ⟨i,rfl⟩:∃ i:Nat,z=i:=⟨z.toNat,by omega⟩
        obtain rfl:k2=i+1:=by omega
        clear hz hz0
        have him:i<m:=by have:=hmn.out;omega
        have hin:i<n:=by omega
        have hin1:i+1<n:=by omega
        obtain ⟨p,hp⟩:=Am (k:=i) HS.out.len him;obtain ⟨bS,oS,rfl,hbS,s0,s1⟩:=HS.out.cell hp;have S0:=hid s0;replace s1:=(HRb.out.bel.cell (p:=⟨bS,oS+i * 2+1,none⟩) hbS).trans s1;clear s0;have hpo:=HOK.out.tok p (Au hp);obtain ⟨⟨p0,p1⟩,p2,p3⟩:=hpo
        have hln:i<ws.length:=by have:=HN.out;omega
        obtain ⟨f0,f1⟩:=Cs.fH_bd HOK.out hln;obtain ⟨fl0,fl1⟩:=Cs.fL_bd HOK.out hln;obtain ⟨b0,b1⟩:=Cs.bH_bd HOK.out (k:=ws.length - 1 - (i+1)) (by omega);obtain ⟨bl0,bl1⟩:=Cs.bL_bd HOK.out (k:=ws.length - 1 - (i+1)) (by omega);have hup:=hid (Cs.up_of hp);have hstep:=hid (fun j (hj:j<ws.length)=>Oy (ws:=ws) (st:=st) i (by have:=HN.out;omega) j hj);have hcell:=hid (Nj (ws:=ws) (st:=st) i);obtain ⟨FH,hFH⟩:∃ x,x=Cs.fH ws st i:=⟨_,rfl⟩;obtain ⟨FL,hFL⟩:∃ x,x=Cs.fL ws st i:=⟨_,rfl⟩;obtain ⟨BH,hBH⟩:∃ x,x=Cs.bH ws st ws.length (ws.length - 1 - (i+1)):=⟨_,rfl⟩;obtain ⟨BL,hBL⟩:∃ x,x=Cs.bL ws st ws.length (ws.length - 1 - (i+1)):=⟨_,rfl⟩;have HEQ:=hid (And.intro hFH (And.intro hFL (And.intro hBH hBL)))
        rw [← hFH] at f0 f1
        rw [← hFL] at fl0 fl1
        rw [← hBH] at b0 b1
        rw [← hBL] at bl0 bl1
        clear hFH hFL hBH hBL hp hln
        have e1:wr.cell? ⟨g,i * 2+1,none⟩=some (vI FH):=by rw [HRb.out.hi i hin,HEQ.out.1];rw [hcell.out.1]
        have e0:wr.cell? ⟨g,(i+1) * 2+1,none⟩=some (vI BH):=by rw [HRb.out.hi (i+1) hin1,HEQ.out.2.2.1];rw [hcell.out.2.1]
        have fr:=HRb.out.fr (i * 2+1);have x1:=iW ((i:Int)+1);have x2:=iW (BH+p.2)
        have x3:((i:Int)+1).toNat=i+1:=by omega
        have x4:0<=(i:Int)+1:=by omega
        have x5:(i:Int)+1<n:=by omega
        have x6:(i:Int)<n:=by omega
        have x7:(i:Int)<m:=by omega
        go_wp2_with fail
        go_region
        have HR2:=hid ((HRb.out.setH hin (min FH (BH+p.2))).drew);clear e1 e0 fr s1 x2;generalize (wr.setCell ⟨g,i * 2+1,none⟩ (vI (min FH (BH+p.2)))).drew=wr2 at *
        have e1:wr2.cell? ⟨g,i * 2,none⟩=some (vI FL):=by rw [HR2.out.lo i hin,HEQ.out.2.1];rw [hcell.out.2.2.1]
        have e0:wr2.cell? ⟨g,(i+1) * 2,none⟩=some (vI BL):=by rw [HR2.out.lo (i+1) hin1,HEQ.out.2.2.2];rw [hcell.out.2.2.2]
        have fr:=HR2.out.fr (i * 2);have s0:=(HR2.out.bel.cell (p:=⟨bS,oS+i * 2,none⟩) hbS).trans S0.out;have x2:=iW (BL - p.1)
        go_wp2_with fail
        go_region
        have HR3:=hid ((HR2.out.setL hin (max FL (BL - p.1))).drew);clear e1 e0 fr s0 x2;generalize (wr2.setCell ⟨g,i * 2,none⟩ (vI (max FL (BL - p.1)))).drew=wr3 at *
        go_wp2_with fail
        go_roundw
        case rel=>exact ⟨i,(i:Int) - 1,by omega,by omega,rfl,HR3.out.congr fun j hj=>by rw [HEQ.out.1,HEQ.out.2.1,HEQ.out.2.2.1,HEQ.out.2.2.2,← hup.out.1,← hup.out.2];exact hstep.out j (by have:=HN.out;omega)⟩
        case measure=>exact zMs
       ·obtain rfl:k2=0:=by omega
        have hP:=hid (show Pairs wr (some ⟨g,0,none⟩) n (Cs.tight ws st) by
         have h1:=HRb.out.pairs;have h2:=Cs.bwd_done HOK.out
         rw [HN.out] at h2
         rw [h2] at h1
         exact h1)
        go_wp2_with fail
        go_ret2
        exact ⟨fun _=>⟨_,cap,rfl,hP.out⟩,fun h=>absurd HE.out h,HRb.out.bel⟩
  ·have he2:=he
   have HE:=hid (Cs.tgE_conf he hcf);have hpos:0<(Cs.confL ws st).length:=List.length_pos_iff.2 hcf
   have HC2:=hid (HC.out.mono (R':=fun e w'=>∃ A' c',e=.returned (.tuple #[.slice A' (Cs.confL ws st).length c',vI 0])∧Below w.heap.size w w') fun e w' h=>by
    obtain ⟨A',c',h1,_⟩:=h.1 he
    exact ⟨A',c',h1,h.2.2⟩)
   clear hw hs he hcf he2 HC hn hm;generalize (Cs.confL ws st).length=L at *
   go_enter Tryz.func233,Tryz.ntmps233
   go_wp2_with fail
   refine HC2.out.mono ?_;rintro e w1 ⟨A',c',rfl,hB1⟩
   go_wp2_with fail
   go_ret2
   exact FI HE.out (by decide) rfl hB1
 ·have HE:=hid (Cs.tgE_chk he)
  have hne:(Cs.chkE ws st != 0)=true:=by rw [bne_iff_ne];exact he
  have HNE:=hid he;have HC2:=hid (HC.out.mono (R':=fun e w'=>e=.returned (.tuple #[.slice none 0 0,vI (Cs.chkE ws st)])∧Below w.heap.size w w') fun e w' h=>⟨h.2.1 he,h.2.2⟩);clear hw hs he HC;generalize Cs.chkE ws st=E at *
  go_enter Tryz.func233,Tryz.ntmps233
  go_wp2_with fail
  refine HC2.out.mono ?_;rintro e w1 ⟨rfl,hB1⟩
  go_wp2_with fail
  go_ret2
  exact FI HE.out HNE.out rfl hB1
attribute [local go_sem ↓] Go.wp_at_zero Go.wp_at_succ
structure TRel (w:World) (L:Cs.Wins) (v:Value) (g:Nat) (X Y:Int) (wr:World):Prop where
 own:wr.ownsRow w.heap.size 65 2 v L.length (L.flatMap win)
 b0:wr.cell? ⟨g,0,none⟩=some (vI X)
 b1:wr.cell? ⟨g,1,none⟩=some (vI Y)
 f0:wr.frozen? ⟨g,0,none⟩=false
 f1:wr.frozen? ⟨g,1,none⟩=false
 lt:g<wr.heap.size
 ge:w.heap.size<=g
 ne:v.ownBlock≠some g
 bel:Below w.heap.size w wr
theorem TRel.below {w wr w2:World} {L:Cs.Wins} {v:Value} {g:Nat} {X Y:Int} (h:TRel w L v g X Y wr) (hb:Below wr.heap.size wr w2):TRel w L v g X Y w2 :=
 ⟨GK h.own hb,(hb.cell (p:=⟨g,0,none⟩) h.lt).trans h.b0,(hb.cell (p:=⟨g,1,none⟩) h.lt).trans h.b1,(hb.frozen (p:=⟨g,0,none⟩) h.lt).trans h.f0,(hb.frozen (p:=⟨g,1,none⟩) h.lt).trans h.f1,Nat.lt_of_lt_of_le h.lt hb.size,h.ge,h.ne,Ae h.bel hb⟩
theorem TRel.drew {w wr:World} {L:Cs.Wins} {v:Value} {g:Nat} {X Y:Int} (h:TRel w L v g X Y wr):TRel w L v g X Y wr.drew:=h.below ((AJ _ wr).drew)
theorem AfY {w:World} {base:Nat} {e:TypeId} {size:Nat} {v:Value} {n g o:Nat} {xs:List Value} (h:w.ownsRow base e size v n xs) (hne:v.ownBlock≠some g) (u:Value):(w.setCell ⟨g,o,none⟩ u).ownsRow base e size v n xs :=
 h.kept (row:=some g) ⟨rfl,rfl,rfl,by simp [World.setCell],fun k hk hn=>Below.heap_setCell w ⟨g,o,none⟩ u k (fun e=>hn (by rw [e]))⟩ (.inr hne)
theorem TRel.set1 {w wr:World} {L:Cs.Wins} {v:Value} {g:Nat} {X Y:Int} (h:TRel w L v g X Y wr) (u:Int):TRel w L v g X u (wr.setCell ⟨g,1,none⟩ (vI u)) :=
 ⟨AfY h.own h.ne _,by rw [World.cell?_setCell_other wr ⟨g,1,none⟩ ⟨g,0,none⟩ _ (by intro e;injection e with _ e;omega)];exact h.b0,World.cell?_setCell_same wr ⟨g,1,none⟩ _ h.b1,by rw [World.frozen?_setCell];exact h.f0,by rw [World.frozen?_setCell];exact h.f1,by simpa [World.setCell] using h.lt,h.ge,h.ne,h.bel.setCell (p:=⟨g,1,none⟩) h.ge _⟩
theorem TRel.set0 {w wr:World} {L:Cs.Wins} {v:Value} {g:Nat} {X Y:Int} (h:TRel w L v g X Y wr) (u:Int):TRel w L v g u Y (wr.setCell ⟨g,0,none⟩ (vI u)) :=
 ⟨AfY h.own h.ne _,World.cell?_setCell_same wr ⟨g,0,none⟩ _ h.b0,by rw [World.cell?_setCell_other wr ⟨g,0,none⟩ ⟨g,1,none⟩ _ (by intro e;injection e with _ e;omega)];exact h.b1,by rw [World.frozen?_setCell];exact h.f0,by rw [World.frozen?_setCell];exact h.f1,by simpa [World.setCell] using h.lt,h.ge,h.ne,h.bel.setCell (p:=⟨g,0,none⟩) h.ge _⟩
def Afc (ws st:Cs.Wins) (n:Nat) (w:World) (v t:Value) (wr:World):Prop:=∃ i:Nat,i<=n∧t=vI i∧wr.ownsRow w.heap.size 65 2 v i (((Cs.tight ws st).take i).flatMap win)∧Below w.heap.size w wr
def TIn (ws st:Cs.Wins) (n i g:Nat) (v:Value) (w:World) (t:Value) (wr:World):Prop:=∃ k:Nat,k<=n∧t=vI k∧TRel w ((Cs.tight ws st).take i) v g (Cs.mx (Cs.gL ws st i) (Cs.lo ws i) k) (Cs.mn (Cs.gH ws st i) (Cs.hi ws i) k) wr
theorem TRel.start {ws st:Cs.Wins} {w wr:World} {v:Value} {i:Nat} (h:wr.ownsRow w.heap.size 65 2 v i (((Cs.tight ws st).take i).flatMap win)) (hb:Below w.heap.size w wr) (hi:i<=ws.length) (t:TypeId) (X Y:Int) :
  TRel w ((Cs.tight ws st).take i) v wr.heap.size X Y (wr.alloc (.cells #[vI X,vI Y] t)):=by
 have hl:((Cs.tight ws st).take i).length=i:=by rw [List.length_take,Cs.tight_len];omega
 refine ⟨by rw [hl];exact h.alloc _,by rw [World.cell?_alloc_new];rfl,by rw [World.cell?_alloc_new];rfl,Ox wr _ _ 0,Ox wr _ _ 1,by simp,hb.size,fun hk=>?_,hb.alloc hb.size _⟩
 have:=(h.lt _ hk).2
 omega
theorem Aec (f:Nat→Int) (a:Int) (k:Nat):Cs.mn f a k<=a:=(Cs.le_mn.1 (Bt _)).1
theorem Ad7 (f:Nat→Int) (a:Int) (k:Nat):a<=Cs.mx f a k:=(Cs.mx_le.1 (Bt _)).1
theorem Aeb {f:Nat→Int} {a:Int} {k:Nat} {b:Int} (ha:b<=a) (h:∀ j,j<k→b<=f j):b<=Cs.mn f a k:=Cs.le_mn.2 ⟨ha,h⟩
theorem Aed {f:Nat→Int} {a:Int} {k:Nat} {b:Int} (ha:a<=b) (h:∀ j,j<k→f j<=b):Cs.mx f a k<=b:=Cs.mx_le.2 ⟨ha,h⟩
theorem AdX {ws st:Cs.Wins} (hok:Cs.CsOk ws st) {i k:Nat} (hi:i<ws.length) (hk:k<ws.length) : -1099511627776<=Cs.gH ws st i k∧Cs.gL ws st i k<=1099511627776:=by
 have hwi:=hok.win hi;have hwk:=hok.win hk
 unfold Pf.inB at hwi hwk
 unfold Cs.gH Cs.gL
 rcases Nat.lt_trichotomy k i with h | h | h
 ·rw [if_pos h,if_pos h]
  have:=hok.rise_nn (show k<=i by omega);have:=hok.fall_nn (show k<=i by omega)
  omega
 ·rw [if_neg (show ¬ k<i by omega),if_neg (show ¬ i<k by omega),if_neg (show ¬ k<i by omega),if_neg (show ¬ i<k by omega)];omega
 ·rw [if_neg (show ¬ k<i by omega),if_pos h,if_neg (show ¬ k<i by omega),if_pos h]
  have:=hok.rise_nn (show i<=k by omega);have:=hok.fall_nn (show i<=k by omega)
  omega
theorem Xf (A S:Option Addr) (n cn m cm:Nat) (ws st:Cs.Wins) (w:World) (hw:Pairs w A n ws) (hs:Pairs w S m st) (hn:n<=maxLen) (hm:m<=maxLen) (hmc:m<=cm) (hcm:cm<=maxLen) :
  Calls Tryz.prog 98 #[.slice A n cn,.slice S m cm] w (Nq ws st n w):=by
 have HC:=hid (Iy A S n cn m cm ws st w hw hs hn hm hmc hcm);have HN:=hid hw.len;have HW:=hid hw;have HS:=hid hs;obtain ⟨i0,hi,hz0,hz1,hz2⟩:=info_parts Fh
 by_cases he:Cs.chkE ws st=0
 ·by_cases hcf:Cs.confL ws st=[]
  ·have hok:=Cs.csOk_of he
   have hn64:n<=64:=by have:=hok.len;have:=hw.len;omega
   have hmn:=hid (show m=n - 1 by have:=hok.slen;have:=hw.len;have:=hs.len;omega);have HE:=hid (Cs.tgE_ok he hcf);obtain ⟨q1,q2⟩:=R4 he hcf
   unfold Ni at HC
   rw [q1,q2,he] at HC
   have HOK:=hid hok;have HRi:=hid (fun i j (hij:i<j) (hj:j<=m) W (h:Below w.heap.size w W)=>AaY S m cm i j ws st W (hs.below h) hmc hcm (by have:=hmn.out;omega) hok hij hj);have HFa:=hid (fun i j (hij:i<j) (hj:j<=m) W (h:Below w.heap.size w W)=>AaX S m cm i j ws st W (hs.below h) hmc hcm (by have:=hmn.out;omega) hok hij hj);clear hw hs he hcf hok hn hm q1 q2
   go_enter Tryz.func98,Tryz.ntmps98
   go_wp2_with fail
   refine HC.out.mono ?_;rintro e w1 ⟨rfl,hB1⟩
   have HB1:=hid hB1;clear hB1
   go_wp2_with fail
   go_loopw [9,26] (fun v t wr=>Afc ws st n w v t wr) (fun _ t _=>n - (intOf t).toNat)
   case atStart=>exact ⟨0,by omega,rfl,World.ownsRow_nil _ _ _ _,HB1.out.alloc HB1.out.size _⟩
   case round =>
    obtain ⟨i,hi',rfl,hown,hB⟩:=hrel;have HO:=hid hown;have HB:=hid hB;clear hown hB
    by_cases hlt:i<n
    ·obtain ⟨p,hp⟩:=Am HN.out hlt
     obtain ⟨b,off,rfl,hb,c0,c1⟩:=HW.out.cell hp;replace c0:=(HB.out.cell (p:=⟨b,off+i * 2,none⟩) hb).trans c0;replace c1:=(HB.out.cell (p:=⟨b,off+i * 2+1,none⟩) hb).trans c1;have hpl:=hid (Cs.lo_of hp);have hwl:=HOK.out.wok p (Au hp);obtain ⟨⟨wl0,wl1⟩,wh0,wh1⟩:=hwl
     go_wp2_with fail
     have HT0:=hid (TRel.start (i:=i) (ws:=ws) (st:=st) HO.out HB.out (by have:=HN.out;omega) 65 p.1 p.2);generalize wr.alloc (.cells #[vI p.1,vI p.2] 65)=wo at *;generalize wr.heap.size=g at *
     go_loopw [35] (fun t wr=>TIn ws st n i g u9 w t wr) (fun t _=>n - (intOf t).toNat)
     case atStart=>exact ⟨0,by omega,rfl,by have:=HT0.out;rw [← hpl.out.1,← hpl.out.2] at this;exact this⟩
     case round =>
      obtain ⟨k,hk,rfl,hT⟩:=hrel;have hXX:=Aed (f:=Cs.gL ws st i) (a:=Cs.lo ws i) (k:=k) (b:=1099511627776) (by rw [hpl.out.1];exact wl1) (fun j hj=>(AdX HOK.out (by have:=HN.out;omega) (by have:=HN.out;omega)).2)
      have hXX2:p.1<=Cs.mx (Cs.gL ws st i) (Cs.lo ws i) k:=by
       have h1:=Ad7 (Cs.gL ws st i) (Cs.lo ws i) k;have h2:=hpl.out.1
       omega
      have hYY:=Aeb (f:=Cs.gH ws st i) (a:=Cs.hi ws i) (k:=k) (b := -1099511627776) (by rw [hpl.out.2];exact wh0) (fun j hj=>(AdX HOK.out (by have:=HN.out;omega) (by have:=HN.out;omega)).1)
      have hYY2:Cs.mn (Cs.gH ws st i) (Cs.hi ws i) k<=p.2:=by
       have h1:=Aec (Cs.gH ws st i) (Cs.hi ws i) k;have h2:=hpl.out.2
       omega
      by_cases hlt2:k<n
      ·obtain ⟨q,hq⟩:=Am HN.out hlt2
       obtain ⟨b',off',hbe,_,d0,d1⟩:=HW.out.cell hq
       injection hbe with hbe
       injection hbe with hb1 hb2
       subst hb1 hb2;have C0:=hid d0;have C1:=hid d1;have hql:=hid (Cs.lo_of hq);have hqw:=HOK.out.wok q (Au hq);obtain ⟨⟨ql0,ql1⟩,qh0,qh1⟩:=hqw;have NX:=hid (show Cs.mn (Cs.gH ws st i) (Cs.hi ws i) (k+1)=min (Cs.mn (Cs.gH ws st i) (Cs.hi ws i) k) (Cs.gH ws st i k)∧Cs.mx (Cs.gL ws st i) (Cs.lo ws i) (k+1)=max (Cs.mx (Cs.gL ws st i) (Cs.lo ws i) k) (Cs.gL ws st i k) from ⟨rfl,rfl⟩);clear hq d0 d1 hp c0 c1;generalize Cs.mx (Cs.gL ws st i) (Cs.lo ws i) k=XX at *;generalize Cs.mn (Cs.gH ws st i) (Cs.hi ws i) k=YY at *;have HT:=hid hT;clear hT
       rcases Nat.lt_trichotomy k i with hki | hki | hki
       ·have hgk:=hid (show Cs.gH ws st i k=q.2+Cs.rise st k i∧Cs.gL ws st i k=q.1 - Cs.fall st k i by unfold Cs.gH Cs.gL;rw [if_pos hki,if_pos hki,hql.out.1,hql.out.2];exact ⟨rfl,rfl⟩)
        obtain ⟨⟨r0,r1⟩,s0,s1⟩:=KE HOK.out k i (by omega) (by omega);have HR:=hid (HRi.out k i hki (by have:=hmn.out;omega));have HF:=hid (HFa.out k i hki (by have:=hmn.out;omega));generalize Cs.rise st k i=RR at *;generalize Cs.fall st k i=FF at *
        have nki:¬ i<k:=by omega
        go_wp2_with fail
        go_upto_region 15 with fail
        go_cut [] (fun wx=>TRel w ((Cs.tight ws st).take i) u9 g XX (min YY (q.2+RR)) wx)
        case first =>
         have e0:=HT.out.b1;have e1:=(HT.out.bel.cell (p:=⟨b,off+k * 2+1,none⟩) hb).trans C1.out;have fz:=HT.out.f1;have z1:=iW (q.2+RR)
         go_region_with (first | (go_at_call 164;refine (HR.out _ ?_).mono ?_;(first | exact HT.out.bel | exact HT.out.bel.drew | exact HT.out.drew.bel);rintro e wc ⟨rfl,hBc⟩;have HTc:Hid (TRel w ((Cs.tight ws st).take i) u9 g XX YY wc):=hid (by first | exact HT.out.below hBc | exact HT.out.drew.below hBc);have q0:wc.cell? ⟨g,1,none⟩=some (vI YY):=HTc.out.b1;have q1:wc.cell? ⟨b,off+k * 2+1,none⟩=some (vI q.2):=(HTc.out.bel.cell (p:=⟨b,off+k * 2+1,none⟩) hb).trans C1.out;have qf:=HTc.out.f1;clear hBc))
         all_goals (go_wp2_with fail;go_meet;first | exact HTc.out.set1 _ | exact (HTc.out.set1 _).drew)
        case rest =>
         have HT:=hid hcut;clear hcut
         go_upto_region 16 with fail
         go_cut [] (fun wx=>TRel w ((Cs.tight ws st).take i) u9 g (max XX (q.1 - FF)) (min YY (q.2+RR)) wx)
         case first =>
          have e0:=HT.out.b0;have e1:=(HT.out.bel.cell (p:=⟨b,off+k * 2,none⟩) hb).trans C0.out;have fz:=HT.out.f0;have z1:=iW (q.1 - FF)
          go_region_with (first | (go_at_call 165;refine (HF.out _ ?_).mono ?_;(first | exact HT.out.bel | exact HT.out.bel.drew | exact HT.out.drew.bel);rintro e wc ⟨rfl,hBc⟩;have HTc:Hid (TRel w ((Cs.tight ws st).take i) u9 g XX (min YY (q.2+RR)) wc):=hid (by first | exact HT.out.below hBc | exact HT.out.drew.below hBc);have q0:wc.cell? ⟨g,0,none⟩=some (vI XX):=HTc.out.b0;have q1:wc.cell? ⟨b,off+k * 2,none⟩=some (vI q.1):=(HTc.out.bel.cell (p:=⟨b,off+k * 2,none⟩) hb).trans C0.out;have qf:=HTc.out.f0;clear hBc))
          all_goals (go_wp2_with fail;go_meet;first | exact HTc.out.set0 _ | exact (HTc.out.set0 _).drew)
         case rest =>
          have HT:=hid hcut;clear hcut
          go_wp2_with fail
          go_roundw
          case rel=>exact ⟨k+1,by omega,by go_num,by rw [NX.out.1,NX.out.2,hgk.out.1,hgk.out.2];exact HT.out⟩
          case measure=>exact zMs
       ·subst hki
        have hgk:=hid (show Cs.gH ws st k k=q.2∧Cs.gL ws st k k=q.1 by unfold Cs.gH Cs.gL;rw [if_neg (by omega),if_neg (by omega),if_neg (by omega),if_neg (by omega),hql.out.1,hql.out.2];exact ⟨rfl,rfl⟩);have hpq:=hid (show p.1=q.1∧p.2=q.2 by rw [← hpl.out.1,← hpl.out.2,hql.out.1,hql.out.2];exact ⟨rfl,rfl⟩);have hmin:=hid (show min YY q.2=YY∧max XX q.1=XX by have:=hpq.out;omega)
        go_wp2_with fail
        go_roundw
        case rel=>exact ⟨k+1,by omega,by go_num,by rw [NX.out.1,NX.out.2,hgk.out.1,hgk.out.2,hmin.out.1,hmin.out.2];exact HT.out⟩
        case measure=>exact zMs
       ·have nki:¬ k<i:=by omega
        have hgk:=hid (show Cs.gH ws st i k=q.2+Cs.fall st i k∧Cs.gL ws st i k=q.1 - Cs.rise st i k by unfold Cs.gH Cs.gL;rw [if_neg nki,if_pos hki,if_neg nki,if_pos hki,hql.out.1,hql.out.2];exact ⟨rfl,rfl⟩);obtain ⟨⟨r0,r1⟩,s0,s1⟩:=KE HOK.out i k (by omega) (by omega);have HR:=hid (HRi.out i k hki (by have:=hmn.out;omega));have HF:=hid (HFa.out i k hki (by have:=hmn.out;omega));generalize Cs.rise st i k=RR at *;generalize Cs.fall st i k=FF at *
        go_upto_region 18 with fail
        go_cut [] (fun wx=>TRel w ((Cs.tight ws st).take i) u9 g XX (min YY (q.2+FF)) wx)
        case first =>
         have e0:=HT.out.b1;have e1:=(HT.out.bel.cell (p:=⟨b,off+k * 2+1,none⟩) hb).trans C1.out;have fz:=HT.out.f1;have z1:=iW (q.2+FF)
         go_region_with (first | (go_at_call 165;refine (HF.out _ ?_).mono ?_;(first | exact HT.out.bel | exact HT.out.bel.drew | exact HT.out.drew.bel);rintro e wc ⟨rfl,hBc⟩;have HTc:Hid (TRel w ((Cs.tight ws st).take i) u9 g XX YY wc):=hid (by first | exact HT.out.below hBc | exact HT.out.drew.below hBc);have q0:wc.cell? ⟨g,1,none⟩=some (vI YY):=HTc.out.b1;have q1:wc.cell? ⟨b,off+k * 2+1,none⟩=some (vI q.2):=(HTc.out.bel.cell (p:=⟨b,off+k * 2+1,none⟩) hb).trans C1.out;have qf:=HTc.out.f1;clear hBc))
         all_goals (go_wp2_with fail;go_meet;first | exact HTc.out.set1 _ | exact (HTc.out.set1 _).drew)
        case rest =>
         have HT:=hid hcut;clear hcut
         go_upto_region 19 with fail
         have e0:=HT.out.b0;have e1:=(HT.out.bel.cell (p:=⟨b,off+k * 2,none⟩) hb).trans C0.out;have fz:=HT.out.f0;have z1:=iW (q.1 - RR)
         go_region_with (first | (go_at_call 164;refine (HR.out _ ?_).mono ?_;(first | exact HT.out.bel | exact HT.out.bel.drew | exact HT.out.drew.bel);rintro e wc ⟨rfl,hBc⟩;have HTc:Hid (TRel w ((Cs.tight ws st).take i) u9 g XX (min YY (q.2+FF)) wc):=hid (by first | exact HT.out.below hBc | exact HT.out.drew.below hBc);have q0:wc.cell? ⟨g,0,none⟩=some (vI XX):=HTc.out.b0;have q1:wc.cell? ⟨b,off+k * 2,none⟩=some (vI q.1):=(HTc.out.bel.cell (p:=⟨b,off+k * 2,none⟩) hb).trans C0.out;have qf:=HTc.out.f0;clear hBc))
         all_goals
          clear q0 q1 qf;have HTn:=hid (HTc.out.set0 (max XX (q.1 - RR)))
          go_wp2_with fail
          go_roundw
          case rel=>exact ⟨k+1,by omega,by go_num,by rw [NX.out.1,NX.out.2,hgk.out.1,hgk.out.2];first | exact HTn.out | exact HTn.out.drew⟩
          case measure=>exact zMs
      ·have hkn:=hid (show k=n by omega)
       have htl:=hid (show Cs.mx (Cs.gL ws st i) (Cs.lo ws i) k=Cs.tL ws st i∧Cs.mn (Cs.gH ws st i) (Cs.hi ws i) k=Cs.tH ws st i by unfold Cs.tL Cs.tH;rw [hkn.out,HN.out];exact ⟨rfl,rfl⟩)
       rw [htl.out.1,htl.out.2] at hT
       have hsn:=hid (show ((Cs.tight ws st).take (i+1)).flatMap win=((Cs.tight ws st).take i).flatMap win ++ win (Cs.tL ws st i,Cs.tH ws st i) by rw [Aq _ i _ (Cs.tight_get (by have:=HN.out;omega)),GD])
       have hll:((Cs.tight ws st).take i).length=i:=by rw [List.length_take,Cs.tight_len];have:=HN.out;omega
       have howo:=hT.own
       rw [hll] at howo
       have HT:=hid hT;have e0:=hT.b0;have e1:=hT.b1;have HOW:=hid howo;clear hT hll howo hXX hXX2 hYY hYY2;generalize Cs.tL ws st i=TL at *;generalize Cs.tH ws st i=TH at *;have hww:w.heap.size<=wr.heap.size:=HT.out.bel.size
       go_wp2_with (at_builtin;refine wpList_append_own _ rfl _ _ 86 rfl w.heap.size 65 i0 (.agg #[vI 0,vI 0]) 2 16 Tryz.underlying86 hi hz0 hz1 hz2 rfl (by decide) _ _ _ rfl (HOW.out.alloc _) ⟨wr.heap.size,0,none⟩ 1 1 (win (TL,TH)) rfl rfl (AY _ _ rfl _ _ _ rfl) (by intro u hu;simp [win] at hu;rcases hu with rfl | rfl <;> rfl) (by unfold maxLen;omega) (by omega) (by simp;omega) ?_;intro v1 w3 hown1 hgrow1 hnil1)
       go_roundw
       case rel=>exact ⟨i+1,by omega,by go_num,by rw [hsn.out];exact hown1,(HT.out.bel.alloc hww _).grown hgrow1 (by simp;omega) (Bq HOW.out)⟩
       case measure=>exact zMs
    ·have hin:=hid (show i=n by omega)
     obtain ⟨A',c',hv'⟩:=Gh HO.out;subst hv'
     have hP:=hid (show Pairs wr A' n (Cs.tight ws st) by
      have h1:=HO.out
      rw [CY (by rw [Cs.tight_len];have:=HN.out;have:=hin.out;omega)] at h1
      rw [hin.out] at h1
      exact Recs.of_own Dm (by rw [Cs.tight_len];exact HN.out) h1)
     go_wp2_with fail
     go_ret2
     exact ⟨fun _=>⟨A',c',by rw [hin.out];rfl,hP.out⟩,fun h=>absurd HE.out h,HB.out⟩
  ·have HE:=hid (Cs.tgE_conf he hcf)
   obtain ⟨p,t,hpt⟩:∃ p t,Cs.confL ws st=p :: t:=by
    cases h:Cs.confL ws st with
    | nil=>exact absurd h hcf
    | cons p t=>exact ⟨p,t,rfl⟩
   obtain ⟨q1,q2⟩:=R5 he hpt
   unfold Ni at HC
   rw [q1,q2,he] at HC
   clear hw hs he hcf hn hm q1 q2 hpt
   go_enter Tryz.func98,Tryz.ntmps98
   go_wp2_with fail
   refine HC.out.mono ?_;rintro e w1 ⟨rfl,hB1⟩
   have HB1:=hid hB1;clear hB1
   go_wp2_with fail
   go_ret2
   exact FI HE.out (by decide) rfl (HB1.out.alloc HB1.out.size _)
 ·have HE:=hid (Cs.tgE_chk he)
  have hne:(Cs.chkE ws st != 0)=true:=by rw [bne_iff_ne];exact he
  have HNE:=hid he;obtain ⟨q1,q2⟩:=Vr he
  unfold Ni at HC
  rw [q1,q2] at HC
  clear hw hs he q1 q2;generalize Cs.chkE ws st=E at *
  go_enter Tryz.func98,Tryz.ntmps98
  go_wp2_with fail
  refine HC.out.mono ?_;rintro e w1 ⟨rfl,hB1⟩
  have HB1:=hid hB1;clear hB1
  go_wp2_with fail
  go_ret2
  exact FI HE.out HNE.out rfl (HB1.out.alloc HB1.out.size _)
