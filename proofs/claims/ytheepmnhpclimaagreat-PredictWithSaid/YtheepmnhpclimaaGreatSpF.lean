
/- Layer 35: the contracts of check, Plan, Family and Span, of the program and of the reference (printed by gen_spf.py). -/
import Derived.Test.YtheepmnhpclimaaGreatM2
import Derived.Test.YtheepmnhpclimaaGreatM26
set_option linter.unusedSimpArgs false
set_option linter.unusedVariables false
set_option maxRecDepth 100000
set_option maxHeartbeats 4000000
namespace Go.Proofs.YtheepmnhpclimaaGreat
open Go.RowKit Sp
open Go.Lib (hid)
def plE (ws st:Cs.Wins) (wish:List Int):Int:=if rdE ws st≠0 then rdE ws st else Cs.belE ws st wish
def plL (ws:Cs.Wins) (wish:List Int) (st:Cs.Wins):List Int:=(Cs.tight (Cs.lowL ws wish) st).map fun p=>p.2
theorem plE_r {ws st:Cs.Wins} {wish:List Int} (h:rdE ws st≠0):plE ws st wish=rdE ws st:=by unfold plE;rw [if_pos h]
theorem plE_b {ws st:Cs.Wins} {wish:List Int} (h:rdE ws st=0):plE ws st wish=Cs.belE ws st wish:=by unfold plE;rw [if_neg (by omega)]
theorem bel_res {F:FuncId} {args:Array Value} {ws st:Cs.Wins} {wish:List Int} {n:Nat} {w:World} (h:Calls Tryz.prog F args w (BelPost ws st wish n w)):Calls Tryz.prog F args w (SlRes (okL (Cs.belE ws st wish) (plL ws wish st)) (okN (Cs.belE ws st wish) n) (Cs.belE ws st wish) w):=by
 refine h.mono fun e w' ⟨h1,h2,h3⟩=>?_
 by_cases hc:Cs.belE ws st wish=0
 ·obtain ⟨A,c,he,hI⟩:=h1 hc
  exact slRes_ok hc ⟨A,c,he,hI⟩ h3
 ·rw [h2 hc]
  exact slRes_err rfl hc h3
theorem xSpCheck (A S:Option Addr) (n cn m cm:Nat) (ws st:Cs.Wins) (w:World) (hw:Pairs w A n ws) (hs:Pairs w S m st) (hn:n<=maxLen) (hm:m<=maxLen) :
  Calls Tryz.prog 213 #[.slice A n cn,.slice S m cm] w (ChkPost (rdE ws st) w):=by
 have HC:=hid (xCheck A S n cn m cm ws st w hw hs hn hm)
 unfold ChkPost at HC
 by_cases he:Cs.chkE ws st=0
 ·have hok:=Cs.csOk_of he
  have hn64:n<=64:=by have:=hok.len;have:=hw.len;omega
  rw [he] at HC
  have HN:=hid hw.len;have HW:=hid hw;have HE:=hid he;clear hw hs he hok hn hm
  go_enter Tryz.func213,Tryz.ntmps213
  go_wp2_with fail
  refine HC.out.mono ?_;rintro e w1 ⟨rfl,hB1⟩
  have HB1:=hid hB1;clear hB1
  go_wp2_with fail
  go_loopw [16] (fun t wr=>ChkRel Sp.okP ws n w t wr) (fun t _=>n - (intOf t).toNat)
  case atStart=>exact ⟨0,by omega,rfl,by simp,HB1.out⟩
  case round =>
   obtain ⟨k,hk,rfl,hall,hB⟩:=hrel;have HALL:=hid hall;have HB:=hid hB;have hsz:=hB.size;clear hall hB
   by_cases hlt:k<n
   ·obtain ⟨p,hp⟩:=get_ex HN.out hlt
    obtain ⟨b,off,rfl,hb,c0,c1⟩:=HW.out.cell hp;replace c0:=(HB.out.cell (p:=⟨b,off+k * 2,none⟩) hb).trans c0;replace c1:=(HB.out.cell (p:=⟨b,off+k * 2+1,none⟩) hb).trans c1;have HP:=hid hp;clear hp;have HBa:=hid (HB.out.alloc HB.out.size (.cells #[vI p.1,vI p.2] 43))
    by_cases h1:okV p.1
    ·by_cases h2:okV p.2
     ·have H12:=hid (And.intro h1 h2)
      clear h1 h2
      go_wp2_with fail
      refine (spd_yes p.1 H12.out.1 _).mono ?_;rintro e wx ⟨rfl,rfl⟩
      go_wp2_with fail
      refine (spd_yes p.2 H12.out.2 _).mono ?_;rintro e wx ⟨rfl,rfl⟩
      go_wp2_with fail
      go_roundw
      case rel=>exact ⟨k+1,by omega,by go_num,tk_all HALL.out HP.out H12.out,HBa.out⟩
      case measure=>simp only [intOf];omega
     ·have HX:=hid (rdE_b HE.out (List.mem_of_getElem? HP.out) (fun h=>h2 h.2))
      have H1:=hid h1;have H2:=hid h2;clear h1 h2
      go_wp2_with fail
      refine (spd_yes p.1 H1.out _).mono ?_;rintro e wx ⟨rfl,rfl⟩
      go_wp2_with fail
      refine (spd_no p.2 H2.out _).mono ?_;rintro e wx ⟨rfl,rfl⟩
      go_wp2_with fail
      go_ret
      exact ⟨ret_int HX.out.symm,HBa.out⟩
    ·have HX:=hid (rdE_b HE.out (List.mem_of_getElem? HP.out) (fun h=>h1 h.1))
     have H1:=hid h1;clear h1
     go_wp2_with fail
     refine (spd_no p.1 H1.out _).mono ?_;rintro e wx ⟨rfl,rfl⟩
     go_wp2_with fail
     go_ret
     exact ⟨ret_int HX.out.symm,HBa.out⟩
   ·have hkn:=hid (show k=n by omega)
    have HX:=hid (rdE_ok HE.out (tk_len HN.out (by have:=HALL.out;rwa [hkn.out] at this)))
    go_wp2_with fail
    go_ret
    exact ⟨ret_int HX.out.symm,HB.out⟩
 ·have hne:(Cs.chkE ws st != 0)=true:=by rw [bne_iff_ne];exact he
  have HX:=hid (rdE_c he)
  rw [HX.out]
  clear hw hs he;generalize Cs.chkE ws st=E at *
  go_enter Tryz.func213,Tryz.ntmps213
  go_wp2_with fail
  refine HC.out.mono ?_;rintro e w1 ⟨rfl,hB1⟩
  have HB1:=hid hB1;clear hB1
  go_wp2_with fail
  go_ret
  exact ⟨rfl,HB1.out⟩
theorem xSpPlan (A S V:Option Addr) (n cn m cm nv cv:Nat) (ws st:Cs.Wins) (wish:List Int) (w:World) (hw:Pairs w A n ws) (hs:Pairs w S m st) (hv:Ints w V nv wish) (hn:n<=maxLen) (hm:m<=maxLen) (hnv:nv<=maxLen) (hmc:m<=cm) (hcm:cm<=maxLen) :
  Calls Tryz.prog 140 #[.slice A n cn,.slice S m cm,.slice V nv cv] w (SlRes (okL (plE ws st wish) (plL ws wish st)) (okN (plE ws st wish) n) (plE ws st wish) w):=by
 have HC:=hid (xSpCheck A S n cn m cm ws st w hw hs hn hm)
 unfold ChkPost at HC
 by_cases he:rdE ws st=0
 ·have HBL:=hid (fun W (h:Below w.heap.size w W)=>bel_res (xBelow A S V n cn m cm nv cv ws st wish W (hw.below h) (hs.below h) (hv.below h) hn hm hnv hmc hcm))
  have HX:=hid (plE_b (wish:=wish) he)
  rw [he] at HC
  rw [HX.out]
  clear hw hs hv he hn hm hnv hmc hcm
  go_enter Tryz.func140,Tryz.ntmps140
  go_wp2_with fail
  refine HC.out.mono ?_;rintro e w1 ⟨rfl,hB1⟩
  have HB1:=hid hB1;clear hB1
  go_wp2_with fail
  refine (HBL.out _ HB1.out).mono ?_;rintro e w2 ⟨A',c',rfl,hI,hB⟩
  have HI:=hid hI;have HB:=hid (bel_trans HB1.out hB);clear hI hB HBL
  go_wp2_with fail
  go_ret2
  exact ⟨A',c',rfl,HI.out,HB.out⟩
 ·have hne:(rdE ws st != 0)=true:=by rw [bne_iff_ne];exact he
  have HX:=hid (plE_r (wish:=wish) he);have HNE:=hid he;clear hw hs hv he
  rw [HX.out]
  generalize rdE ws st=E at *
  go_enter Tryz.func140,Tryz.ntmps140
  go_wp2_with fail
  refine HC.out.mono ?_;rintro e w1 ⟨rfl,hB1⟩
  have HB1:=hid hB1;clear hB1
  go_wp2_with fail
  go_ret2
  exact slRes_err rfl HNE.out HB1.out
end Go.Proofs.YtheepmnhpclimaaGreat
