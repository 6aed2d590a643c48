/- M13: CsTight, CsTightR in one text. -/
import Derived.Test.YtheepmnhpclimaaGreatM11
import Derived.Test.YtheepmnhpclimaaGreatM1
import Derived.Deep.RegionWith
import Derived.Deep.DeepCutAuto
import Derived.Deep.DrawnRows
set_option linter.unusedSimpArgs false
set_option linter.unusedVariables false
set_option maxRecDepth 100000
set_option maxHeartbeats 4000000
namespace Go.Proofs.YtheepmnhpclimaaGreat
open Go.RowKit
open Go.Lib (hid)
theorem infoWin:(Tryz.prog.info? 43).map (fun i=>(i.zero,i.size,i.bytes))=some (some (.agg #[vI 0,vI 0]),2,16):=by kernel_rfl
def TgPost (ws st:Cs.Wins) (n:Nat) (w:World) (e:Ending) (w':World):Prop :=
 (Cs.tgE ws st=0→∃ A c,e=.returned (.tuple #[.slice A n c,vI 0])∧Pairs w' A n (Cs.tight ws st))∧(Cs.tgE ws st≠0→e=.returned (.tuple #[.slice none 0 0,vI (Cs.tgE ws st)]))∧Below w.heap.size w w'
theorem tgPost_err {ws st:Cs.Wins} {n:Nat} {E:Int} {w w':World} {e:Ending} (hE:Cs.tgE ws st=E) (h0:E≠0) (he:e=.returned (.tuple #[.slice none 0 0,vI E])) (hb:Below w.heap.size w w'):TgPost ws st n w e w' :=
 ⟨fun h=>absurd (hE.symm.trans h) h0,fun _=>by rw [hE];exact he,hb⟩
def FwRel (ws st:Cs.Wins) (n g:Nat) (w:World) (t:Value) (wr:World):Prop:=∃ k:Nat,k+1<=n∧t=vI ((k:Int)+1)∧RowF w g n (Cs.fwd ws st (k+1)) wr
def BwRel (ws st:Cs.Wins) (n g:Nat) (w:World) (t:Value) (wr:World):Prop:=∃ (k:Nat) (z:Int),k+1<=n∧z+1=k∧t=vI z∧RowF w g n (Cs.bwd ws st k) wr
theorem Cs_fwd_cells {ws st:Cs.Wins} (k:Nat):∀ v:Int,(updH (Cs.fwd ws st (k+1)) (k+1) v (k+1)).1=Cs.lo ws (k+1)∧(updH (Cs.fwd ws st (k+1)) (k+1) v k).1=Cs.fL ws st k:=by
 intro v
 unfold updH Cs.fwd
 rw [if_pos rfl,if_neg (show ¬ k+1<k+1 by omega),if_neg (show ¬ k=k+1 by omega),if_pos (show k<k+1 by omega)]
 exact ⟨rfl,rfl⟩
theorem Cs_fwd_step {ws st:Cs.Wins} (k j:Nat):updL (updH (Cs.fwd ws st (k+1)) (k+1) (min (Cs.hi ws (k+1)) (Cs.fH ws st k+Cs.up st k))) (k+1) (max (Cs.lo ws (k+1)) (Cs.fL ws st k - Cs.dn st k)) j=Cs.fwd ws st (k+1+1) j:=by
 unfold updL updH Cs.fwd
 by_cases h:j=k+1
 ·subst h
  rw [if_pos rfl,if_pos rfl,if_pos (show k+1<k+1+1 by omega)]
  rfl
 ·rw [if_neg h,if_neg h]
  by_cases h2:j<k+1
  ·rw [if_pos h2,if_pos (show j<k+1+1 by omega)]
  ·rw [if_neg h2,if_neg (show ¬ j<k+1+1 by omega)]
theorem Cs_bwd_cells {ws st:Cs.Wins} (i:Nat):(Cs.bwd ws st (i+1) i).2=Cs.fH ws st i∧(Cs.bwd ws st (i+1) (i+1)).2=Cs.bH ws st ws.length (ws.length - 1 - (i+1))∧(∀ v:Int,(updH (Cs.bwd ws st (i+1)) i v i).1=Cs.fL ws st i)∧∀ v:Int,(updH (Cs.bwd ws st (i+1)) i v (i+1)).1=Cs.bL ws st ws.length (ws.length - 1 - (i+1)):=by
 unfold updH Cs.bwd
 rw [if_neg (show ¬ i+1<=i by omega),if_pos (Nat.le_refl _)]
 refine ⟨rfl,rfl,fun v=>?_,fun v=>?_⟩
 ·rw [if_pos rfl]
 ·rw [if_neg (show ¬ i+1=i by omega)]
theorem Cs_bwd_step {ws st:Cs.Wins} (i:Nat) (hi:i+1<ws.length) (j:Nat) (hj:j<ws.length):updL (updH (Cs.bwd ws st (i+1)) i (min (Cs.fH ws st i) (Cs.bH ws st ws.length (ws.length - 1 - (i+1))+Cs.dn st i))) i (max (Cs.fL ws st i) (Cs.bL ws st ws.length (ws.length - 1 - (i+1)) - Cs.up st i)) j=Cs.bwd ws st i j:=by
 have e:ws.length - 1 - i=ws.length - 1 - (i+1)+1:=by omega
 have e2:ws.length - 1 - (ws.length - 1 - (i+1)+1)=i:=by omega
 unfold updL updH Cs.bwd
 by_cases h:j=i
 ·subst h
  rw [if_pos rfl,if_pos rfl,if_pos (Nat.le_refl _),e]
  show _=(max (Cs.fL ws st (ws.length - 1 - (ws.length - 1 - (j+1)+1))) (Cs.bL ws st ws.length (ws.length - 1 - (j+1)) - Cs.up st (ws.length - 1 - (ws.length - 1 - (j+1)+1))),min (Cs.fH ws st (ws.length - 1 - (ws.length - 1 - (j+1)+1))) (Cs.bH ws st ws.length (ws.length - 1 - (j+1))+Cs.dn st (ws.length - 1 - (ws.length - 1 - (j+1)+1))))
  rw [e2]
 ·rw [if_neg h,if_neg h]
  by_cases h2:i+1<=j
  ·rw [if_pos h2,if_pos (show i<=j by omega)]
  ·rw [if_neg h2,if_neg (show ¬ i<=j by omega)]
theorem xTighten (A S:Option Addr) (n cn m cm:Nat) (ws st:Cs.Wins) (w:World) (hw:Pairs w A n ws) (hs:Pairs w S m st) (hn:n<=maxLen) (hm:m<=maxLen) (hmc:m<=cm) (hcm:cm<=maxLen) :
  Calls Tryz.prog 215 #[.slice A n cn,.slice S m cm] w (TgPost ws st n w):=by
 have HC:=hid (xAll A S n cn m cm ws st w hw hs hn hm hmc hcm);have HN:=hid hw.len;have HW:=hid hw;have HS:=hid hs;obtain ⟨i0,hi,hz0,hz1,hz2⟩:=info_parts infoWin
 by_cases he:Cs.chkE ws st=0
 ·by_cases hcf:Cs.confL ws st=[]
  ·have hok:=Cs.csOk_of he
   have hn64:n<=64:=by have:=hok.len;have:=hw.len;omega
   have hmn:=hid (show m=n - 1 by have:=hok.slen;have:=hw.len;have:=hs.len;omega);have HE:=hid (Cs.tgE_ok he hcf)
   have HC2:=hid (HC.out.mono (R':=fun e w'=>∃ A' c',e=.returned (.tuple #[.slice A' 0 c',vI 0])∧Below w.heap.size w w') fun e w' h=>by
    obtain ⟨A',c',h1,_⟩:=h.1 he
    rw [hcf] at h1
    exact ⟨A',c',h1,h.2.2⟩)
   have HOK:=hid hok;clear hw hs he hcf hok HC hn hm
   by_cases hn0:n=0
   ·subst hn0
    have hnil:=hid (List.eq_nil_of_length_eq_zero HN.out)
    have fin:∀ (A':Option Addr) (c':Nat) (e:Ending) (w':World),e=.returned (.tuple #[.slice A' 0 c',vI 0])→Below w.heap.size w w'→TgPost ws st 0 w e w':=fun A' c' e w' h1 h2 =>
     ⟨fun _=>⟨A',c',h1,by rw [hnil.out];exact ⟨rfl,fun h=>absurd h (by omega)⟩⟩,fun h=>absurd HE.out h,h2⟩
    have FIN:=hid fin;clear fin
    cases A with
    | none =>
     go_enter Tryz.func215,Tryz.ntmps215
     go_wp2_with fail
     refine HC2.out.mono ?_;rintro e w1 ⟨A',c',rfl,hB1⟩
     have HB1:=hid hB1;clear hB1
     go_wp2_with (at_builtin;refine wpList_append_nil0 rfl _ _ 47 rfl 43 i0 Tryz.underlying47 hi cn rfl rfl ?_)
     refine wp_loop_rounds 1 ?_
     rw [rounds_succ]
     go_wp2_with fail
     refine wp_loop_rounds 1 ?_
     rw [rounds_succ]
     go_wp2_with fail
     go_ret2
     exact FIN.out none 0 _ _ rfl HB1.out
    | some ad =>
     go_enter Tryz.func215,Tryz.ntmps215
     go_wp2_with fail
     refine HC2.out.mono ?_;rintro e w1 ⟨A',c',rfl,hB1⟩
     have HB1:=hid hB1;clear hB1
     go_wp2_with (at_builtin;refine wpList_append_own _ rfl _ _ 47 rfl w.heap.size 43 i0 (.agg #[vI 0,vI 0]) 2 16 Tryz.underlying47 hi hz0 hz1 hz2 rfl (by decide) _ _ _ rfl (World.ownsRow_nil _ _ _ _) ad 0 cn [] rfl rfl (by intro j u hu;simp at hu) (by intro u hu;simp at hu) (by unfold maxLen;omega) (by omega) HB1.out.size ?_;intro v1 w2 hown1 hgrow1 hnil1)
     obtain rfl:=hnil1.2 ⟨rfl,trivial⟩;have HB2:=hid (HB1.out.grown hgrow1 HB1.out.size (own_block_ge (World.ownsRow_nil w1 w.heap.size 43 2)));clear hown1 hgrow1 hnil1
     refine wp_loop_rounds 1 ?_
     rw [rounds_succ]
     go_wp2_with fail
     refine wp_loop_rounds 1 ?_
     rw [rounds_succ]
     go_wp2_with fail
     go_ret2
     exact FIN.out none 0 _ _ rfl HB2.out
   ·obtain ⟨b,off,rfl,hb,_⟩:=HW.out.cells (by omega)
    have hfl:=hid (show (ws.flatMap win).length=n * 2 by rw [flat_len,HN.out])
    go_enter Tryz.func215,Tryz.ntmps215
    go_wp2_with fail
    refine HC2.out.mono ?_;rintro e w1 ⟨A',c',rfl,hB1⟩
    have HB1:=hid hB1;have HPF:=hid (pairs_flat (HW.out.below hB1));clear hB1
    go_wp2_with (at_builtin;refine wpList_append_own _ rfl _ _ 47 rfl w.heap.size 43 i0 (.agg #[vI 0,vI 0]) 2 16 Tryz.underlying47 hi hz0 hz1 hz2 rfl (by decide) _ _ _ rfl (World.ownsRow_nil _ _ _ _) ⟨b,off,none⟩ n cn (ws.flatMap win) rfl hfl.out HPF.out (flat_one ws) (by unfold maxLen;omega) (by omega) HB1.out.size ?_;intro v1 w2 hown1 hgrow1 hnil1)
    rw [Nat.zero_add,List.nil_append] at hown1
    obtain ⟨g,cap,hv1,hg0,hglt⟩:=hown1.form (by omega);subst hv1;have HB2:=hid (HB1.out.grown hgrow1 HB1.out.size (own_block_ge (World.ownsRow_nil w1 w.heap.size 43 2)));have HR:=hid (RowF.of_own (w0:=w) HN.out hown1 HB2.out);clear hown1 hgrow1 hnil1;have HL0:=hid HN.out
    go_loopw [9] (fun t wr=>FwRel ws st n g w t wr) (fun t _=>n+1 - (intOf t).toNat)
    case atStart=>exact ⟨0,by omega,rfl,HR.out.congr fun j hj=>Cs.fwd_start j⟩
    case round =>
     obtain ⟨k,hk,rfl,hR⟩:=hrel;have HR:=hid hR;clear hR
     by_cases hlt:k+1<n
     ·have hkm:k<m:=by have:=hmn.out;omega
      have e1:=HR.out.hi (k+1) hlt;have e0:=HR.out.hi k (by omega);have fr:=HR.out.fr ((k+1) * 2+1);obtain ⟨p,hp⟩:=get_ex (k:=k) HS.out.len hkm;obtain ⟨bS,oS,rfl,hbS,s0,s1⟩:=HS.out.cell hp;replace s0:=(HR.out.bel.cell (p:=⟨bS,oS+k * 2,none⟩) hbS).trans s0;have S1:=hid s1;clear s1
      simp only [Cs.fwd,if_neg (show ¬ k+1<k+1 by omega),if_pos (show k<k+1 by omega)] at e1 e0
      have f0:=Cs.fH_bd HOK.out (i:=k) (by have:=HN.out;omega);have hpo:=HOK.out.tok p (List.mem_of_getElem? hp);obtain ⟨⟨p0,p1⟩,p2,p3⟩:=hpo;obtain ⟨f0,f1⟩:=f0;obtain ⟨fl0,fl1⟩:=Cs.fL_bd HOK.out (i:=k) (by have:=HN.out;omega);obtain ⟨wl,wh⟩:=HOK.out.win (i:=k+1) (by have:=HN.out;omega);obtain ⟨wl0,wl1⟩:=wl;obtain ⟨wh0,wh1⟩:=wh;have hup:=hid (Cs.up_of hp);have hstep:=hid (Cs_fwd_step (ws:=ws) (st:=st) k);have hcell:=hid (Cs_fwd_cells (ws:=ws) (st:=st) k);obtain ⟨FH,hFH⟩:∃ x,x=Cs.fH ws st k:=⟨_,rfl⟩;obtain ⟨FL,hFL⟩:∃ x,x=Cs.fL ws st k:=⟨_,rfl⟩;obtain ⟨HI,hHI⟩:∃ x,x=Cs.hi ws (k+1):=⟨_,rfl⟩;obtain ⟨LO,hLO⟩:∃ x,x=Cs.lo ws (k+1):=⟨_,rfl⟩;have HEQ:=hid (And.intro hFH (And.intro hFL (And.intro hHI hLO)))
      rw [← hFH] at e0 f0 f1
      rw [← hFL] at fl0 fl1
      rw [← hHI] at e1 wh0 wh1
      rw [← hLO] at wl0 wl1
      clear hFH hFL hHI hLO hp
      have x1:IntKind.i64.wrap ((k:Int)+1 - 1)=(k:Int):=by rw [show (k:Int)+1 - 1=k from by omega];exact IntWalk.i64_in _ (by omega)
      have x2:IntKind.i64.wrap (FH+p.1)=FH+p.1:=IntWalk.i64_in _ (by omega)
      have x3:((k:Int)+1).toNat=k+1:=by omega
      have x4:0<=(k:Int)+1:=by omega
      have x5:(k:Int)+1<n:=by omega
      have x6:(k:Int)<n:=by omega
      have x7:(k:Int)<m:=by omega
      go_wp2_with fail
      go_region
      have HR2:=hid ((HR.out.setH hlt (min HI (FH+p.1))).drew);clear e1 e0 fr s0 x2;generalize (wr.setCell ⟨g,(k+1) * 2+1,none⟩ (vI (min HI (FH+p.1)))).drew=wr2 at *
      have e1:wr2.cell? ⟨g,(k+1) * 2,none⟩=some (vI LO):=by rw [HR2.out.lo (k+1) hlt,HEQ.out.2.2.2];rw [(hcell.out _).1]
      have e0:wr2.cell? ⟨g,k * 2,none⟩=some (vI FL):=by rw [HR2.out.lo k (by omega),HEQ.out.2.1];rw [(hcell.out _).2]
      have fr:=HR2.out.fr ((k+1) * 2);have s1:=(HR2.out.bel.cell (p:=⟨bS,oS+k * 2+1,none⟩) hbS).trans S1.out;have x2:IntKind.i64.wrap (FL - p.2)=FL - p.2:=IntWalk.i64_in _ (by omega)
      go_wp2_with fail
      go_region
      have HR3:=hid ((HR2.out.setL hlt (max LO (FL - p.2))).drew);clear e1 e0 fr s1 x2;generalize (wr2.setCell ⟨g,(k+1) * 2,none⟩ (vI (max LO (FL - p.2)))).drew=wr3 at *
      go_wp2_with fail
      go_roundw
      case rel=>exact ⟨k+1,by omega,by go_num,HR3.out.congr fun j _=>by rw [HEQ.out.1,HEQ.out.2.1,HEQ.out.2.2.1,HEQ.out.2.2.2,← hup.out.1,← hup.out.2];exact hstep.out j⟩
      case measure=>simp only [intOf];omega
     ·have hkn:=hid (show k+1=n by omega)
      have hw9:IntKind.i64.wrap ((n:Int) - 2)=(n:Int) - 2:=IntWalk.i64_in _ (by omega)
      go_wp2_with fail
      go_loopw [10] (fun t wr=>BwRel ws st n g w t wr) (fun t _=>(intOf t+1).toNat)
      case atStart=>exact ⟨n - 1,(n:Int) - 2,by omega,by omega,rfl,(by have:=HR.out;rw [hkn.out] at this;exact this.congr fun j hj=>by have h1:=HN.out;rw [← h1];rw [← h1] at hj;exact Cs.bwd_last (by omega) j hj)⟩
      case round =>
       obtain ⟨k2,z,hk2,hz,rfl,hRb⟩:=hrel;have HRb:=hid hRb;clear hRb HR
       by_cases hz0:0<=z
       ·obtain ⟨i,rfl⟩:∃ i:Nat,z=i:=⟨z.toNat,by omega⟩
        obtain rfl:k2=i+1:=by omega
        clear hz hz0
        have him:i<m:=by have:=hmn.out;omega
        have hin:i<n:=by omega
        have hin1:i+1<n:=by omega
        obtain ⟨p,hp⟩:=get_ex (k:=i) HS.out.len him;obtain ⟨bS,oS,rfl,hbS,s0,s1⟩:=HS.out.cell hp;have S0:=hid s0;replace s1:=(HRb.out.bel.cell (p:=⟨bS,oS+i * 2+1,none⟩) hbS).trans s1;clear s0;have hpo:=HOK.out.tok p (List.mem_of_getElem? hp);obtain ⟨⟨p0,p1⟩,p2,p3⟩:=hpo
        have hln:i<ws.length:=by have:=HN.out;omega
        obtain ⟨f0,f1⟩:=Cs.fH_bd HOK.out hln;obtain ⟨fl0,fl1⟩:=Cs.fL_bd HOK.out hln;obtain ⟨b0,b1⟩:=Cs.bH_bd HOK.out (k:=ws.length - 1 - (i+1)) (by omega);obtain ⟨bl0,bl1⟩:=Cs.bL_bd HOK.out (k:=ws.length - 1 - (i+1)) (by omega);have hup:=hid (Cs.up_of hp);have hstep:=hid (fun j (hj:j<ws.length)=>Cs_bwd_step (ws:=ws) (st:=st) i (by have:=HN.out;omega) j hj);have hcell:=hid (Cs_bwd_cells (ws:=ws) (st:=st) i);obtain ⟨FH,hFH⟩:∃ x,x=Cs.fH ws st i:=⟨_,rfl⟩;obtain ⟨FL,hFL⟩:∃ x,x=Cs.fL ws st i:=⟨_,rfl⟩;obtain ⟨BH,hBH⟩:∃ x,x=Cs.bH ws st ws.length (ws.length - 1 - (i+1)):=⟨_,rfl⟩;obtain ⟨BL,hBL⟩:∃ x,x=Cs.bL ws st ws.length (ws.length - 1 - (i+1)):=⟨_,rfl⟩;have HEQ:=hid (And.intro hFH (And.intro hFL (And.intro hBH hBL)))
        rw [← hFH] at f0 f1
        rw [← hFL] at fl0 fl1
        rw [← hBH] at b0 b1
        rw [← hBL] at bl0 bl1
        clear hFH hFL hBH hBL hp hln
        have e1:wr.cell? ⟨g,i * 2+1,none⟩=some (vI FH):=by rw [HRb.out.hi i hin,HEQ.out.1];rw [hcell.out.1]
        have e0:wr.cell? ⟨g,(i+1) * 2+1,none⟩=some (vI BH):=by rw [HRb.out.hi (i+1) hin1,HEQ.out.2.2.1];rw [hcell.out.2.1]
        have fr:=HRb.out.fr (i * 2+1);have x1:IntKind.i64.wrap ((i:Int)+1)=(i:Int)+1:=IntWalk.i64_in _ (by omega);have x2:IntKind.i64.wrap (BH+p.2)=BH+p.2:=IntWalk.i64_in _ (by omega)
        have x3:((i:Int)+1).toNat=i+1:=by omega
        have x4:0<=(i:Int)+1:=by omega
        have x5:(i:Int)+1<n:=by omega
        have x6:(i:Int)<n:=by omega
        have x7:(i:Int)<m:=by omega
        go_wp2_with fail
        go_region
        have HR2:=hid ((HRb.out.setH hin (min FH (BH+p.2))).drew);clear e1 e0 fr s1 x2;generalize (wr.setCell ⟨g,i * 2+1,none⟩ (vI (min FH (BH+p.2)))).drew=wr2 at *
        have e1:wr2.cell? ⟨g,i * 2,none⟩=some (vI FL):=by rw [HR2.out.lo i hin,HEQ.out.2.1];rw [hcell.out.2.2.1]
        have e0:wr2.cell? ⟨g,(i+1) * 2,none⟩=some (vI BL):=by rw [HR2.out.lo (i+1) hin1,HEQ.out.2.2.2];rw [hcell.out.2.2.2]
        have fr:=HR2.out.fr (i * 2);have s0:=(HR2.out.bel.cell (p:=⟨bS,oS+i * 2,none⟩) hbS).trans S0.out;have x2:IntKind.i64.wrap (BL - p.1)=BL - p.1:=IntWalk.i64_in _ (by omega)
        go_wp2_with fail
        go_region
        have HR3:=hid ((HR2.out.setL hin (max FL (BL - p.1))).drew);clear e1 e0 fr s0 x2;generalize (wr2.setCell ⟨g,i * 2,none⟩ (vI (max FL (BL - p.1)))).drew=wr3 at *
        go_wp2_with fail
        go_roundw
        case rel=>exact ⟨i,(i:Int) - 1,by omega,by omega,rfl,HR3.out.congr fun j hj=>by rw [HEQ.out.1,HEQ.out.2.1,HEQ.out.2.2.1,HEQ.out.2.2.2,← hup.out.1,← hup.out.2];exact hstep.out j (by have:=HN.out;omega)⟩
        case measure=>simp only [intOf];omega
       ·obtain rfl:k2=0:=by omega
        have hP:=hid (show Pairs wr (some ⟨g,0,none⟩) n (Cs.tight ws st) by
         have h1:=HRb.out.pairs;have h2:=Cs.bwd_done HOK.out
         rw [HN.out] at h2
         rw [h2] at h1
         exact h1)
        go_wp2_with fail
        go_ret2
        exact ⟨fun _=>⟨_,cap,rfl,hP.out⟩,fun h=>absurd HE.out h,HRb.out.bel⟩
  ·have he2:=he
   have HE:=hid (Cs.tgE_conf he hcf);have hpos:0<(Cs.confL ws st).length:=List.length_pos_iff.2 hcf
   have HC2:=hid (HC.out.mono (R':=fun e w'=>∃ A' c',e=.returned (.tuple #[.slice A' (Cs.confL ws st).length c',vI 0])∧Below w.heap.size w w') fun e w' h=>by
    obtain ⟨A',c',h1,_⟩:=h.1 he
    exact ⟨A',c',h1,h.2.2⟩)
   clear hw hs he hcf he2 HC hn hm;generalize (Cs.confL ws st).length=L at *
   go_enter Tryz.func215,Tryz.ntmps215
   go_wp2_with fail
   refine HC2.out.mono ?_;rintro e w1 ⟨A',c',rfl,hB1⟩
   go_wp2_with fail
   go_ret2
   exact tgPost_err HE.out (by decide) rfl hB1
 ·have HE:=hid (Cs.tgE_chk he)
  have hne:(Cs.chkE ws st != 0)=true:=by rw [bne_iff_ne];exact he
  have HNE:=hid he;have HC2:=hid (HC.out.mono (R':=fun e w'=>e=.returned (.tuple #[.slice none 0 0,vI (Cs.chkE ws st)])∧Below w.heap.size w w') fun e w' h=>⟨h.2.1 he,h.2.2⟩);clear hw hs he HC;generalize Cs.chkE ws st=E at *
  go_enter Tryz.func215,Tryz.ntmps215
  go_wp2_with fail
  refine HC2.out.mono ?_;rintro e w1 ⟨rfl,hB1⟩
  go_wp2_with fail
  go_ret2
  exact tgPost_err HE.out HNE.out rfl hB1
end Go.Proofs.YtheepmnhpclimaaGreat
namespace Go.Proofs.YtheepmnhpclimaaGreat
open Go.RowKit
attribute [local go_sem ↓] Go.wp_at_zero Go.wp_at_succ
structure TRel (w:World) (L:Cs.Wins) (v:Value) (g:Nat) (X Y:Int) (wr:World):Prop where
 own:wr.ownsRow w.heap.size 43 2 v L.length (L.flatMap win)
 b0:wr.cell? ⟨g,0,none⟩=some (vI X)
 b1:wr.cell? ⟨g,1,none⟩=some (vI Y)
 f0:wr.frozen? ⟨g,0,none⟩=false
 f1:wr.frozen? ⟨g,1,none⟩=false
 lt:g<wr.heap.size
 ge:w.heap.size<=g
 ne:v.ownBlock≠some g
 bel:Below w.heap.size w wr
theorem TRel.below {w wr w2:World} {L:Cs.Wins} {v:Value} {g:Nat} {X Y:Int} (h:TRel w L v g X Y wr) (hb:Below wr.heap.size wr w2):TRel w L v g X Y w2 :=
 ⟨own_below h.own hb,(hb.cell (p:=⟨g,0,none⟩) h.lt).trans h.b0,(hb.cell (p:=⟨g,1,none⟩) h.lt).trans h.b1,(hb.frozen (p:=⟨g,0,none⟩) h.lt).trans h.f0,(hb.frozen (p:=⟨g,1,none⟩) h.lt).trans h.f1,Nat.lt_of_lt_of_le h.lt hb.size,h.ge,h.ne,bel_trans h.bel hb⟩
theorem TRel.drew {w wr:World} {L:Cs.Wins} {v:Value} {g:Nat} {X Y:Int} (h:TRel w L v g X Y wr):TRel w L v g X Y wr.drew:=h.below ((Below.refl _ wr).drew)
theorem TRel.start {ws st:Cs.Wins} {w wr:World} {v:Value} {i:Nat} (h:wr.ownsRow w.heap.size 43 2 v i (((Cs.tight ws st).take i).flatMap win)) (hb:Below w.heap.size w wr) (hi:i<=ws.length) (t:TypeId) (X Y:Int) :
  TRel w ((Cs.tight ws st).take i) v wr.heap.size X Y (wr.alloc (.cells #[vI X,vI Y] t)):=by
 have hl:((Cs.tight ws st).take i).length=i:=by rw [List.length_take,Cs.tight_len];omega
 refine ⟨by rw [hl];exact h.alloc _,by rw [World.cell?_alloc_new];rfl,by rw [World.cell?_alloc_new];rfl,Blk0 wr _ _ 0,Blk0 wr _ _ 1,by simp,hb.size,fun hk=>?_,hb.alloc hb.size _⟩
 have:=(h.lt _ hk).2
 omega
end Go.Proofs.YtheepmnhpclimaaGreat
