
/- Layer 35: the contracts of check, Plan, Family and Span, of the program and of the reference (printed by gen_spf.py). -/
import Derived.Test.YtedcanagfajcgaaGreatM2
set_option linter.unusedSimpArgs false
set_option linter.unusedVariables false
set_option maxRecDepth 100000
set_option maxHeartbeats 4000000
namespace Go.Proofs.YtedcanagfajcgaaGreat
open Go.RowKit Sp
open Go.Lib (hid)
def plE (ws st:Cs.Wins) (wish:List Int):Int:=if rdE ws st≠0 then rdE ws st else Cs.belE ws st wish
def plL (ws:Cs.Wins) (wish:List Int) (st:Cs.Wins):List Int:=(Cs.tight (Cs.lowL ws wish) st).map fun p=>p.2
theorem Aef {ws st:Cs.Wins} {wish:List Int} (h:rdE ws st≠0):plE ws st wish=rdE ws st:=by unfold plE;rw [if_pos h]
theorem AaU {ws st:Cs.Wins} {wish:List Int} (h:rdE ws st=0):plE ws st wish=Cs.belE ws st wish:=by unfold plE;rw [if_neg (by omega)]
theorem YJ {F:FuncId} {args:Array Value} {ws st:Cs.Wins} {wish:List Int} {n:Nat} {w:World} (h:Calls Tryz.prog F args w (DI ws st wish n w)):Calls Tryz.prog F args w (JJ (okL (Cs.belE ws st wish) (plL ws wish st)) (okN (Cs.belE ws st wish) n) (Cs.belE ws st wish) w):=by
 refine h.mono fun e w' ⟨h1,h2,h3⟩=>?_
 by_cases hc:Cs.belE ws st wish=0
 ·obtain ⟨A,c,he,hI⟩:=h1 hc
  exact Xr hc ⟨A,c,he,hI⟩ h3
 ·rw [h2 hc]
  exact MB rfl hc h3
theorem X5 (A S:Option Addr) (n cn m cm:Nat) (ws st:Cs.Wins) (w:World) (hw:Pairs w A n ws) (hs:Pairs w S m st) (hn:n<=maxLen) (hm:m<=maxLen) :
  Calls Tryz.prog 188 #[.slice A n cn,.slice S m cm] w (Gx (rdE ws st) w):=by
 have HC:=hid (Ru A S n cn m cm ws st w hw hs hn hm)
 unfold Gx at HC
 by_cases he:Cs.chkE ws st=0
 ·have hok:=Cs.csOk_of he
  have hn64:n<=64:=by have:=hok.len;have:=hw.len;omega
  rw [he] at HC
  have HN:=hid hw.len;have HW:=hid hw;have HE:=hid he;clear hw hs he hok hn hm
  go_enter Tryz.func188,Tryz.ntmps188
  go_wp2_with fail
  refine HC.out.mono ?_;rintro e w1 ⟨rfl,hB1⟩
  have HB1:=hid hB1;clear hB1
  go_wp2_with fail
  go_loopw [16] (fun t wr=>Ku Sp.okP ws n w t wr) (fun t _=>n - (intOf t).toNat)
  case atStart=>exact ⟨0,by omega,rfl,by simp,HB1.out⟩
  case round =>
   obtain ⟨k,hk,rfl,hall,hB⟩:=hrel;have HALL:=hid hall;have HB:=hid hB;have hsz:=hB.size;clear hall hB
   by_cases hlt:k<n
   ·obtain ⟨p,hp⟩:=Am HN.out hlt
    obtain ⟨b,off,rfl,hb,c0,c1⟩:=HW.out.cell hp;replace c0:=(HB.out.cell (p:=⟨b,off+k * 2,none⟩) hb).trans c0;replace c1:=(HB.out.cell (p:=⟨b,off+k * 2+1,none⟩) hb).trans c1;have HP:=hid hp;clear hp;have HBa:=hid (HB.out.alloc HB.out.size (.cells #[vI p.1,vI p.2] 65))
    by_cases h1:okV p.1
    ·by_cases h2:okV p.2
     ·have H12:=hid (And.intro h1 h2)
      clear h1 h2
      go_wp2_with fail
      refine (GM p.1 H12.out.1 _).mono ?_;rintro e wx ⟨rfl,rfl⟩
      go_wp2_with fail
      refine (GM p.2 H12.out.2 _).mono ?_;rintro e wx ⟨rfl,rfl⟩
      go_wp2_with fail
      go_roundw
      case rel=>exact ⟨k+1,by omega,by go_num,Gq HALL.out HP.out H12.out,HBa.out⟩
      case measure=>exact zMs
     ·have HX:=hid (Aa1 HE.out (Au HP.out) (fun h=>h2 h.2))
      have H1:=hid h1;have H2:=hid h2;clear h1 h2
      go_wp2_with fail
      refine (GM p.1 H1.out _).mono ?_;rintro e wx ⟨rfl,rfl⟩
      go_wp2_with fail
      refine (Od p.2 H2.out _).mono ?_;rintro e wx ⟨rfl,rfl⟩
      go_wp2_with fail
      go_ret
      exact ⟨Af HX.out.symm,HBa.out⟩
    ·have HX:=hid (Aa1 HE.out (Au HP.out) (fun h=>h1 h.1))
     have H1:=hid h1;clear h1
     go_wp2_with fail
     refine (Od p.1 H1.out _).mono ?_;rintro e wx ⟨rfl,rfl⟩
     go_wp2_with fail
     go_ret
     exact ⟨Af HX.out.symm,HBa.out⟩
   ·have hkn:=hid (show k=n by omega)
    have HX:=hid (rdE_ok HE.out (IC HN.out (by have:=HALL.out;rwa [hkn.out] at this)))
    go_wp2_with fail
    go_ret
    exact ⟨Af HX.out.symm,HB.out⟩
 ·have hne:(Cs.chkE ws st != 0)=true:=by rw [bne_iff_ne];exact he
  have HX:=hid (Aa2 he)
  rw [HX.out]
  clear hw hs he;generalize Cs.chkE ws st=E at *
  go_enter Tryz.func188,Tryz.ntmps188
  go_wp2_with fail
  refine HC.out.mono ?_;rintro e w1 ⟨rfl,hB1⟩
  have HB1:=hid hB1;clear hB1
  go_wp2_with fail
  go_ret
  exact ⟨rfl,HB1.out⟩
theorem Aaa (A S V:Option Addr) (n cn m cm nv cv:Nat) (ws st:Cs.Wins) (wish:List Int) (w:World) (hw:Pairs w A n ws) (hs:Pairs w S m st) (hv:Ints w V nv wish) (hn:n<=maxLen) (hm:m<=maxLen) (hnv:nv<=maxLen) (hmc:m<=cm) (hcm:cm<=maxLen) :
  Calls Tryz.prog 114 #[.slice A n cn,.slice S m cm,.slice V nv cv] w (JJ (okL (plE ws st wish) (plL ws wish st)) (okN (plE ws st wish) n) (plE ws st wish) w):=by
 have HC:=hid (X5 A S n cn m cm ws st w hw hs hn hm)
 unfold Gx at HC
 by_cases he:rdE ws st=0
 ·have HBL:=hid (fun W (h:Below w.heap.size w W)=>YJ (XU A S V n cn m cm nv cv ws st wish W (hw.below h) (hs.below h) (hv.below h) hn hm hnv hmc hcm))
  have HX:=hid (AaU (wish:=wish) he)
  rw [he] at HC
  rw [HX.out]
  clear hw hs hv he hn hm hnv hmc hcm
  go_enter Tryz.func114,Tryz.ntmps114
  go_wp2_with fail
  refine HC.out.mono ?_;rintro e w1 ⟨rfl,hB1⟩
  have HB1:=hid hB1;clear hB1
  go_wp2_with fail
  refine (HBL.out _ HB1.out).mono ?_;rintro e w2 ⟨A',c',rfl,hI,hB⟩
  have HI:=hid hI;have HB:=hid (Ae HB1.out hB);clear hI hB HBL
  go_wp2_with fail
  go_ret2
  exact ⟨A',c',rfl,HI.out,HB.out⟩
 ·have hne:(rdE ws st != 0)=true:=by rw [bne_iff_ne];exact he
  have HX:=hid (Aef (wish:=wish) he);have HNE:=hid he;clear hw hs hv he
  rw [HX.out]
  generalize rdE ws st=E at *
  go_enter Tryz.func114,Tryz.ntmps114
  go_wp2_with fail
  refine HC.out.mono ?_;rintro e w1 ⟨rfl,hB1⟩
  have HB1:=hid hB1;clear hB1
  go_wp2_with fail
  go_ret2
  exact MB rfl HNE.out HB1.out
