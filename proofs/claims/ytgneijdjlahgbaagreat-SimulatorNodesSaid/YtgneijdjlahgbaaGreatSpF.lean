
/- Layer 35: the contracts of check, Plan, Family and Span, of the program and of the reference (printed by gen_spf.py). -/
import Derived.Test.YtgneijdjlahgbaaGreatM2
import Derived.Test.YtgneijdjlahgbaaGreatM26
namespace Go.Proofs.YtgneijdjlahgbaaGreat
set_option maxRecDepth 100000
set_option maxHeartbeats 4000000
set_option linter.unusedSimpArgs false
set_option linter.unusedVariables false
open Go.RowKit Sp

theorem belPost_wb {ws st:Cs.Wins} {wish:List Int} {n:Nat} {w w1 w':World} {e:Ending} (hb:Below w.heap.size w w1) (h:BelPost ws st wish n w1 e w'):BelPost ws st wish n w e w':=⟨h.1,h.2.1,bel_trans hb h.2.2⟩
def plE (ws st:Cs.Wins) (wish:List Int):Int:=if rdE ws st≠0 then rdE ws st else Cs.belE ws st wish
def plL (ws:Cs.Wins) (wish:List Int) (st:Cs.Wins):List Int:=(Cs.tight (Cs.lowL ws wish) st).map fun p=>p.2
theorem plE_r {ws st:Cs.Wins} {wish:List Int} (h:rdE ws st≠0):plE ws st wish=rdE ws st:=by unfold plE;rw [if_pos h]
theorem plE_b {ws st:Cs.Wins} {wish:List Int} (h:rdE ws st=0):plE ws st wish=Cs.belE ws st wish:=by unfold plE;rw [if_neg (by omega)]
theorem bel_res {F:FuncId} {args:Array Value} {ws st:Cs.Wins} {wish:List Int} {n:Nat} {w:World} (h:Calls Tryz.prog F args w (BelPost ws st wish n w)):Calls Tryz.prog F args w (SlRes (okL (Cs.belE ws st wish) (plL ws wish st)) (okN (Cs.belE ws st wish) n) (Cs.belE ws st wish) w):=by
 refine h.mono fun e w' ⟨h1,h2,h3⟩=>?_
 by_cases hc:Cs.belE ws st wish=0
 ·obtain ⟨A,c,he,hI⟩:=h1 hc
  exact slRes_ok hc ⟨A,c,he,hI⟩ h3
 ·rw [h2 hc]
  exact slRes_err rfl hc h3
def NumB (V E:Int) (w:World) (e:Ending) (w':World):Prop:=e=.returned (.tuple #[.int .i64 V,.int .i64 E])∧Below w.heap.size w w'
def FaRel (n:Nat) (L:List Int) (w:World) (v t:Value) (wr:World):Prop:=∃ k:Nat,k≤n∧t=.int .i64 k∧Own oneI 1 2 w (L.take k) v wr
def SpRel (n:Nat) (L:Cs.Wins) (w:World) (v t:Value) (wr:World):Prop:=∃ k:Nat,k≤n∧t=.int .i64 k∧v=.int .i64 (spM (L.take k) 0)∧okV (spM (L.take k) 0)∧Below w.heap.size w wr

theorem xSpCheck (A S:Option Addr) (n cn m cm:Nat) (ws st:Cs.Wins) (w:World) (hw:Pairs w A n ws) (hs:Pairs w S m st) (hn:n≤maxLen) (hm:m≤maxLen) :
  Calls Tryz.prog 78 #[.slice A n cn,.slice S m cm] w (ChkPost (rdE ws st) w):=by
 have HC:=Lib.hid (xCheck A S n cn m cm ws st w hw hs hn hm)
 unfold ChkPost at HC
 by_cases he:Cs.chkE ws st=0
 ·have hok:=Cs.csOk_of he
  have hn64:n≤64:=by have:=hok.len;have:=hw.len;omega
  rw [he] at HC
  have HN:=Lib.hid hw.len
  have HW:=Lib.hid hw
  have HE:=Lib.hid he
  clear hw hs he hok hn hm
  go_enter Tryz.func78,Tryz.ntmps78
  go_wp2_with fail
  refine HC.out.mono ?_;rintro e w1 ⟨rfl,hB1⟩
  have HB1:=Lib.hid hB1
  clear hB1
  go_wp2_with fail
  go_loopw [16] (fun t wr=>ChkRel Sp.okP ws n w t wr) (fun t _=>n - (intOf t).toNat)
  case atStart=>exact ⟨0,by omega,rfl,by simp,HB1.out⟩
  case round =>
   obtain ⟨k,hk,rfl,hall,hB⟩:=hrel
   have HALL:=Lib.hid hall
   have HB:=Lib.hid hB
   have hsz:=hB.size
   clear hall hB
   by_cases hlt:k<n
   ·obtain ⟨p,hp⟩:=get_ex HN.out hlt
    obtain ⟨b,off,rfl,hb,c0,c1⟩:=HW.out.cell hp
    replace c0:=(HB.out.cell (p:=⟨b,off+k * 2,none⟩) hb).trans c0
    replace c1:=(HB.out.cell (p:=⟨b,off+k * 2+1,none⟩) hb).trans c1
    have HP:=Lib.hid hp
    clear hp
    have HBa:=Lib.hid (HB.out.alloc HB.out.size (.cells #[.int .i64 p.1,.int .i64 p.2] 58))
    by_cases h1:okV p.1
    ·by_cases h2:okV p.2
     ·have H12:=Lib.hid (And.intro h1 h2)
      clear h1 h2
      go_wp2_with fail
      refine (spd_yes p.1 H12.out.1 _).mono ?_;rintro e wx ⟨rfl,rfl⟩
      go_wp2_with fail
      refine (spd_yes p.2 H12.out.2 _).mono ?_;rintro e wx ⟨rfl,rfl⟩
      go_wp2_with fail
      go_roundw
      case rel=>exact ⟨k+1,by omega,by go_num,tk_all HALL.out HP.out H12.out,HBa.out⟩
      case measure=>simp only [intOf];omega
     ·have HX:=Lib.hid (rdE_b HE.out (List.mem_of_getElem? HP.out) (fun h=>h2 h.2))
      have H1:=Lib.hid h1
      have H2:=Lib.hid h2
      clear h1 h2
      go_wp2_with fail
      refine (spd_yes p.1 H1.out _).mono ?_;rintro e wx ⟨rfl,rfl⟩
      go_wp2_with fail
      refine (spd_no p.2 H2.out _).mono ?_;rintro e wx ⟨rfl,rfl⟩
      go_wp2_with fail
      go_ret
      exact ⟨ret_int HX.out.symm,HBa.out⟩
    ·have HX:=Lib.hid (rdE_b HE.out (List.mem_of_getElem? HP.out) (fun h=>h1 h.1))
     have H1:=Lib.hid h1
     clear h1
     go_wp2_with fail
     refine (spd_no p.1 H1.out _).mono ?_;rintro e wx ⟨rfl,rfl⟩
     go_wp2_with fail
     go_ret
     exact ⟨ret_int HX.out.symm,HBa.out⟩
   ·have hkn:=Lib.hid (show k=n by omega)
    have HX:=Lib.hid (rdE_ok HE.out (tk_len HN.out (by have:=HALL.out;rwa [hkn.out] at this)))
    go_wp2_with fail
    go_ret
    exact ⟨ret_int HX.out.symm,HB.out⟩
 ·have hne:(Cs.chkE ws st != 0)=true:=by rw [bne_iff_ne];exact he
  have HX:=Lib.hid (rdE_c he)
  rw [HX.out]
  clear hw hs he
  generalize Cs.chkE ws st=E at *
  go_enter Tryz.func78,Tryz.ntmps78
  go_wp2_with fail
  refine HC.out.mono ?_;rintro e w1 ⟨rfl,hB1⟩
  have HB1:=Lib.hid hB1
  clear hB1
  go_wp2_with fail
  go_ret
  exact ⟨rfl,HB1.out⟩

theorem xSpPlan (A S V:Option Addr) (n cn m cm nv cv:Nat) (ws st:Cs.Wins) (wish:List Int) (w:World) (hw:Pairs w A n ws) (hs:Pairs w S m st) (hv:Ints w V nv wish) (hn:n≤maxLen) (hm:m≤maxLen) (hnv:nv≤maxLen) (hmc:m≤cm) (hcm:cm≤maxLen) :
  Calls Tryz.prog 87 #[.slice A n cn,.slice S m cm,.slice V nv cv] w (SlRes (okL (plE ws st wish) (plL ws wish st)) (okN (plE ws st wish) n) (plE ws st wish) w):=by
 have HC:=Lib.hid (xSpCheck A S n cn m cm ws st w hw hs hn hm)
 unfold ChkPost at HC
 by_cases he:rdE ws st=0
 ·have HBL:=Lib.hid (fun W (h:Below w.heap.size w W)=>bel_res (xBelow A S V n cn m cm nv cv ws st wish W (hw.below h) (hs.below h) (hv.below h) hn hm hnv hmc hcm))
  have HX:=Lib.hid (plE_b (wish:=wish) he)
  rw [he] at HC
  rw [HX.out]
  clear hw hs hv he hn hm hnv hmc hcm
  go_enter Tryz.func87,Tryz.ntmps87
  go_wp2_with fail
  refine HC.out.mono ?_;rintro e w1 ⟨rfl,hB1⟩
  have HB1:=Lib.hid hB1
  clear hB1
  go_wp2_with fail
  refine (HBL.out _ HB1.out).mono ?_;rintro e w2 ⟨A',c',rfl,hI,hB⟩
  have HI:=Lib.hid hI
  have HB:=Lib.hid (bel_trans HB1.out hB)
  clear hI hB HBL
  go_wp2_with fail
  go_ret2
  exact ⟨A',c',rfl,HI.out,HB.out⟩
 ·have hne:(rdE ws st != 0)=true:=by rw [bne_iff_ne];exact he
  have HX:=Lib.hid (plE_r (wish:=wish) he)
  have HNE:=Lib.hid he
  clear hw hs hv he
  rw [HX.out]
  generalize rdE ws st=E at *
  go_enter Tryz.func87,Tryz.ntmps87
  go_wp2_with fail
  refine HC.out.mono ?_;rintro e w1 ⟨rfl,hB1⟩
  have HB1:=Lib.hid hB1
  clear hB1
  go_wp2_with fail
  go_ret2
  exact slRes_err rfl HNE.out HB1.out

theorem xSpFamily (A S:Option Addr) (n cn m cm:Nat) (ws st:Cs.Wins) (k0:Int) (w:World) (hw:Pairs w A n ws) (hs:Pairs w S m st) (hn:n≤maxLen) (hm:m≤maxLen) (hmc:m≤cm) (hcm:cm≤maxLen) :
  Calls Tryz.prog 36 #[.slice A n cn,.slice S m cm,.int .i64 k0] w (SlRes (okL (faE ws st k0) (faL ws st k0)) (okN (faE ws st k0) n) (faE ws st k0) w):=by
 have HC:=Lib.hid (xSpCheck A S n cn m cm ws st w hw hs hn hm)
 unfold ChkPost at HC
 have HN:=Lib.hid hw.len
 by_cases he:rdE ws st=0
 ·rw [he] at HC
  by_cases hk0:okV k0
  ·have HK:=Lib.hid hk0
   by_cases ht:Cs.tgE ws st=0
   ·have hn64:n≤64:=by have:=tgE_n ht;have:=hw.len;omega
    have HX:=Lib.hid ((faE_t he hk0).trans ht)
    have HE:=Lib.hid (And.intro he ht)
    have HLL:=Lib.hid (show (faL ws st k0).length=n by unfold faL;rw [List.length_map,Cs.tight_len];exact HN.out)
    have HC2:=Lib.hid (fun W (h:Below w.heap.size w W)=>(xTighten A S n cn m cm ws st W (hw.below h) (hs.below h) hn hm hmc hcm).mono (R':=fun e w'=>∃ A' c',e=.returned (.tuple #[.slice A' n c',.int .i64 0])∧Pairs w' A' n (Cs.tight ws st)∧Below W.heap.size W w') fun e w' h=>by
     obtain ⟨A',c',h1,h2⟩:=h.1 ht
     exact ⟨A',c',h1,h2,h.2.2⟩)
    have hmk:=run_make_row' (P:=Tryz.prog) 23 2 (.int .i64 0) 8 Tryz.underlying23 infoI64 rfl .i64 .i64 n (by omega) (by omega)
    clear hw hs he hn hm hmc hcm ht
    obtain ⟨k1,k2⟩:=hk0
    go_enter Tryz.func36,Tryz.ntmps36
    go_wp2_with fail
    refine HC.out.mono ?_;rintro e w1 ⟨rfl,hB1⟩
    have HB1:=Lib.hid hB1
    clear hB1
    go_wp2_with fail
    refine (spd_yes k0 HK.out _).mono ?_;rintro e wx ⟨rfl,rfl⟩
    go_wp2_with fail
    refine (HC2.out _ HB1.out).mono ?_;rintro e w2 ⟨A',c',rfl,hP1,hB2⟩
    have HP:=Lib.hid hP1
    have HB2:=Lib.hid (bel_trans HB1.out hB2)
    clear hP1 hB2 HC2
    go_wp2_with fail
    have HR0:=Lib.hid (RowI.made n HB2.out 2)
    have hw12:=Lib.hid ((Below.refl w2.heap.size w2).alloc (Nat.le_refl _) (.cells (madeCells #[.int .i64 0] n) 2))
    generalize hw2:w2.alloc (.cells (madeCells #[.int .i64 0] n) 2)=w3 at *
    generalize hg:w2.heap.size=g at *
    go_loopw [37] (fun t wr=>GrRel w g n (faL ws st k0) t wr∧Below g w2 wr) (fun t _=>n - (intOf t).toNat)
    case atStart=>exact ⟨⟨0,by omega,rfl,HR0.out.congr fun j _=>fillF_zero _ j⟩,hw12.out⟩
    case round =>
     obtain ⟨⟨k,hk,rfl,hR⟩,hB⟩:=hrel
     have HR:=Lib.hid hR
     have HB:=Lib.hid hB
     clear hR hB
     by_cases hlt:k<n
     ·obtain ⟨p,hp⟩:=get_ex (l:=Cs.tight ws st) (by rw [Cs.tight_len];exact HN.out) hlt
      have hpm:=Lib.hid (show (faL ws st k0)[k]? = some (min p.2 (p.1+k0)) by unfold faL;rw [List.getElem?_map,hp];rfl)
      obtain ⟨⟨q0,q1⟩,⟨q2,q3⟩,q4⟩:=tight_mem HE.out.1 HE.out.2 hp
      obtain ⟨b,off,rfl,hb,c0,c1⟩:=HP.out.cell hp
      replace c0:=(HB.out.cell (p:=⟨b,off+k * 2,none⟩) (by rw [← hg];exact hb)).trans c0
      replace c1:=(HB.out.cell (p:=⟨b,off+k * 2+1,none⟩) (by rw [← hg];exact hb)).trans c1
      have d0:=HR.out.cell k hlt
      have d1:=HR.out.fr k
      have hgl:=HR.out.lt
      clear hp
      go_wp2_with fail
      go_roundw
      case rel=>exact ⟨⟨k+1,by omega,by go_num,((HR.out.set hlt _).congr fun j _=>fillF_step hpm.out j).alloc _⟩,(HB.out.setCell (p:=⟨g,k,none⟩) (Nat.le_refl _) _).alloc (by have:=HR.out.lt;simp [World.setCell];omega) _⟩
      case measure=>simp only [intOf];omega
     ·have hkn:=Lib.hid (show k=n by omega)
      go_wp2_with fail
      go_ret2
      have hfin:=HR.out
      rw [hkn.out] at hfin
      exact slRes_ok HX.out ⟨_,_,rfl,hfin.ints HLL.out⟩ hfin.bel
   ·have HNE:=Lib.hid ht
    have htn:(Cs.tgE ws st != 0)=true:=by rw [bne_iff_ne];exact ht
    have HX:=Lib.hid (faE_t he hk0)
    have HC2:=Lib.hid (fun W (h:Below w.heap.size w W)=>(xTighten A S n cn m cm ws st W (hw.below h) (hs.below h) hn hm hmc hcm).mono (R':=fun e w'=>e=.returned (.tuple #[.slice none 0 0,.int .i64 (Cs.tgE ws st)])∧Below W.heap.size W w') fun e w' h=>⟨h.2.1 ht,h.2.2⟩)
    clear hw hs he hn hm hmc hcm ht
    obtain ⟨k1,k2⟩:=hk0
    rw [HX.out]
    generalize Cs.tgE ws st=E at *
    go_enter Tryz.func36,Tryz.ntmps36
    go_wp2_with fail
    refine HC.out.mono ?_;rintro e w1 ⟨rfl,hB1⟩
    have HB1:=Lib.hid hB1
    clear hB1
    go_wp2_with fail
    refine (spd_yes k0 HK.out _).mono ?_;rintro e wx ⟨rfl,rfl⟩
    go_wp2_with fail
    refine (HC2.out _ HB1.out).mono ?_;rintro e w2 ⟨rfl,hB2⟩
    have HB2:=Lib.hid (bel_trans HB1.out hB2)
    clear hB2 HC2
    go_wp2_with fail
    go_ret2
    exact slRes_err rfl HNE.out HB2.out
  ·have HX:=Lib.hid (faE_k he hk0)
   have HK:=Lib.hid hk0
   clear hw hs he hk0
   go_enter Tryz.func36,Tryz.ntmps36
   go_wp2_with fail
   refine HC.out.mono ?_;rintro e w1 ⟨rfl,hB1⟩
   have HB1:=Lib.hid hB1
   clear hB1
   go_wp2_with fail
   refine (spd_no k0 HK.out _).mono ?_;rintro e wx ⟨rfl,rfl⟩
   go_wp2_with fail
   go_ret2
   exact slRes_err HX.out (by decide) HB1.out
 ·have hne:(rdE ws st != 0)=true:=by rw [bne_iff_ne];exact he
  have HX:=Lib.hid (faE_r (k:=k0) (zs:=ws) (ys:=st) he)
  have HNE:=Lib.hid he
  clear hw hs he
  rw [HX.out]
  generalize rdE ws st=E at *
  go_enter Tryz.func36,Tryz.ntmps36
  go_wp2_with fail
  refine HC.out.mono ?_;rintro e w1 ⟨rfl,hB1⟩
  have HB1:=Lib.hid hB1
  clear hB1
  go_wp2_with fail
  go_ret2
  exact slRes_err rfl HNE.out HB1.out

theorem xSpSpan (A S:Option Addr) (n cn m cm:Nat) (ws st:Cs.Wins) (w:World) (hw:Pairs w A n ws) (hs:Pairs w S m st) (hn:n≤maxLen) (hm:m≤maxLen) (hmc:m≤cm) (hcm:cm≤maxLen) :
  Calls Tryz.prog 38 #[.slice A n cn,.slice S m cm] w (NumB (okI (spE ws st) (spV ws st)) (spE ws st) w):=by
 have HC:=Lib.hid (xSpCheck A S n cn m cm ws st w hw hs hn hm)
 unfold ChkPost at HC
 have HN:=Lib.hid hw.len
 by_cases he:rdE ws st=0
 ·rw [he] at HC
  by_cases ht:Cs.tgE ws st=0
  ·have hn64:n≤64:=by have:=tgE_n ht;have:=hw.len;omega
   have HX:=Lib.hid ((spE_t he).trans ht)
   have HE:=Lib.hid (And.intro he ht)
   have HC2:=Lib.hid (fun W (h:Below w.heap.size w W)=>(xTighten A S n cn m cm ws st W (hw.below h) (hs.below h) hn hm hmc hcm).mono (R':=fun e w'=>∃ A' c',e=.returned (.tuple #[.slice A' n c',.int .i64 0])∧Pairs w' A' n (Cs.tight ws st)∧Below W.heap.size W w') fun e w' h=>by
    obtain ⟨A',c',h1,h2⟩:=h.1 ht
    exact ⟨A',c',h1,h2,h.2.2⟩)
   clear hw hs he hn hm hmc hcm ht
   go_enter Tryz.func38,Tryz.ntmps38
   go_wp2_with fail
   refine HC.out.mono ?_;rintro e w1 ⟨rfl,hB1⟩
   have HB1:=Lib.hid hB1
   clear hB1
   go_wp2_with fail
   refine (HC2.out _ HB1.out).mono ?_;rintro e w2 ⟨A',c',rfl,hP1,hB2⟩
   have HP:=Lib.hid hP1
   have HB2:=Lib.hid (bel_trans HB1.out hB2)
   clear hP1 hB2 HC2
   go_wp2_with fail
   go_loopw [9,29] (fun v t wr=>SpRel n (Cs.tight ws st) w2 v t wr) (fun _ t _=>n - (intOf t).toNat)
   case atStart=>exact ⟨0,by omega,rfl,rfl,by rw [List.take_zero];exact ⟨by decide,by decide⟩,Below.refl _ _⟩
   case round =>
    obtain ⟨k,hk,rfl,rfl,hbd,hB⟩:=hrel
    have HB:=Lib.hid hB
    have hsz:=hB.size
    have HBD:=Lib.hid hbd
    clear hB
    by_cases hlt:k<n
    ·obtain ⟨p,hp⟩:=get_ex (l:=Cs.tight ws st) (by rw [Cs.tight_len];exact HN.out) hlt
     have hpm:=Lib.hid (show spM ((Cs.tight ws st).take (k+1)) 0=max (spM ((Cs.tight ws st).take k) 0) (p.2 - p.1) by rw [take_succ_get _ k p hp,spM_append];rfl)
     obtain ⟨⟨q0,q1⟩,⟨q2,q3⟩,q4⟩:=tight_mem HE.out.1 HE.out.2 hp
     obtain ⟨b,off,rfl,hb,c0,c1⟩:=HP.out.cell hp
     replace c0:=(HB.out.cell (p:=⟨b,off+k * 2,none⟩) hb).trans c0
     replace c1:=(HB.out.cell (p:=⟨b,off+k * 2+1,none⟩) hb).trans c1
     have HBa:=Lib.hid (HB.out.alloc HB.out.size (.cells #[.int .i64 p.1,.int .i64 p.2] 58))
     obtain ⟨m0,m1⟩:=hbd
     generalize spM ((Cs.tight ws st).take k) 0=M at *
     clear hp
     go_wp2_with fail
     go_roundw
     case rel=>exact ⟨k+1,by omega,by go_num,by rw [hpm.out],by rw [hpm.out];exact ⟨by omega,by omega⟩,HBa.out⟩
     case measure=>simp only [intOf];omega
    ·have hkn:=Lib.hid (show k=n by omega)
     have HT:=Lib.hid (show spM ((Cs.tight ws st).take k) 0=okI (spE ws st) (spV ws st) by unfold okI;rw [if_pos HX.out,List.take_of_length_le (by rw [Cs.tight_len,HN.out,hkn.out];exact Nat.le_refl _)];rfl)
     rw [HT.out]
     clear hbd HBD
     generalize okI (spE ws st) (spV ws st)=VV at *
     go_wp2_with fail
     go_ret2
     exact ⟨ret_tup2 rfl HX.out.symm,bel_trans HB2.out HB.out⟩
  ·have HNE:=Lib.hid ht
   have htn:(Cs.tgE ws st != 0)=true:=by rw [bne_iff_ne];exact ht
   have HX:=Lib.hid (spE_t he)
   have HC2:=Lib.hid (fun W (h:Below w.heap.size w W)=>(xTighten A S n cn m cm ws st W (hw.below h) (hs.below h) hn hm hmc hcm).mono (R':=fun e w'=>e=.returned (.tuple #[.slice none 0 0,.int .i64 (Cs.tgE ws st)])∧Below W.heap.size W w') fun e w' h=>⟨h.2.1 ht,h.2.2⟩)
   clear hw hs he hn hm hmc hcm ht
   rw [HX.out]
   have HO:=Lib.hid (show okI (Cs.tgE ws st) (spV ws st)=0 by unfold okI;rw [if_neg HNE.out])
   rw [HO.out]
   clear HO
   generalize Cs.tgE ws st=E at *
   go_enter Tryz.func38,Tryz.ntmps38
   go_wp2_with fail
   refine HC.out.mono ?_;rintro e w1 ⟨rfl,hB1⟩
   have HB1:=Lib.hid hB1
   clear hB1
   go_wp2_with fail
   refine (HC2.out _ HB1.out).mono ?_;rintro e w2 ⟨rfl,hB2⟩
   have HB2:=Lib.hid (bel_trans HB1.out hB2)
   clear hB2 HC2
   go_wp2_with fail
   go_ret2
   exact ⟨rfl,HB2.out⟩
 ·have hne:(rdE ws st != 0)=true:=by rw [bne_iff_ne];exact he
  have HX:=Lib.hid (spE_r (zs:=ws) (ys:=st) he)
  have HNE:=Lib.hid he
  clear hw hs he
  rw [HX.out]
  have HO:=Lib.hid (show okI (rdE ws st) (spV ws st)=0 by unfold okI;rw [if_neg HNE.out])
  rw [HO.out]
  clear HO
  generalize rdE ws st=E at *
  go_enter Tryz.func38,Tryz.ntmps38
  go_wp2_with fail
  refine HC.out.mono ?_;rintro e w1 ⟨rfl,hB1⟩
  have HB1:=Lib.hid hB1
  clear hB1
  go_wp2_with fail
  go_ret2
  exact ⟨rfl,HB1.out⟩

end Go.Proofs.YtgneijdjlahgbaaGreat
