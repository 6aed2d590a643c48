
/- Layer 35: the contracts of Family and Span, of the program and of the reference (printed by gen_spf.py). -/
import Derived.Test.YtlbmdnfnahingaaGreatSpF
set_option linter.unusedSimpArgs false
set_option linter.unusedVariables false
set_option maxRecDepth 100000
set_option maxHeartbeats 4000000
namespace Go.Proofs
theorem AhF{G:Prop}(h:G:=by
  have HT:=hid (show spM ((Cs.tight ws st).take k) 0=okI (spE ws st) (spV ws st) by unfold okI;rw [if_pos HX.out,CY (by rw [Cs.tight_len,HN.out,hkn.out];exact Bn _)];rfl)
  rw [HT.out]
  clear hbd HBD;generalize okI (spE ws st) (spV ws st)=VV at *
  go_wp2_with fail
  go_ret2
  exact ⟨Ay rfl HX.out.symm,Ae HB2.out HB.out⟩):G:=h
theorem AhG{G:Prop}(h:G:=by
  go_wp2_with fail
  refine HC.out.mono ?_;rintro e w1 ⟨rfl,hB1⟩
  have HB1:=hid hB1;clear hB1
  go_wp2_with fail
  refine (HC2.out _ HB1.out).mono ?_;rintro e w2 ⟨rfl,hB2⟩
  have HB2:=hid (Ae HB1.out hB2);clear hB2 HC2
  go_wp2_with fail
  go_ret2
  exact ⟨rfl,HB2.out⟩):G:=h
theorem AhH{G:Prop}(h:G:=by
  go_wp2_with fail
  refine (HC2.out _ HB1.out).mono ?_;rintro e w2 ⟨rfl,hB2⟩
  have HB2:=hid (Ae HB1.out hB2);clear hB2 HC2
  go_wp2_with fail
  go_ret2
  exact MB rfl HNE.out HB2.out):G:=h
theorem AhI{G:Prop}(h:G:=by
  go_wp2_with fail
  refine HC.out.mono ?_;rintro e w1 ⟨rfl,hB1⟩
  have HB1:=hid hB1;clear hB1
  go_wp2_with fail
  go_ret2
  exact MB HX.out (by decide) HB1.out):G:=h
theorem AhJ{G:Prop}(h:G:=by
  go_wp2_with fail
  refine HC.out.mono ?_;rintro e w1 ⟨rfl,hB1⟩
  have HB1:=hid hB1;clear hB1
  go_wp2_with fail
  go_ret2
  exact MB rfl HNE.out HB1.out):G:=h
theorem AhK{G:Prop}(h:G:=by
  go_wp2_with fail
  refine HC.out.mono ?_;rintro e w1 ⟨rfl,hB1⟩
  have HB1:=hid hB1;clear hB1
  go_wp2_with fail
  go_ret2
  exact ⟨rfl,HB1.out⟩):G:=h
end Go.Proofs
namespace Go.Proofs.YtlbmdnfnahingaaGreat
open Go.RowKit Sp
open Go.Lib (hid)
def AhM (V E:Int) (w:World) (e:Ending) (w':World):Prop:=e=.returned (.tuple #[vI V,vI E])∧Below w.heap.size w w'
def Ah8 (n:Nat) (L:List Int) (w:World) (v t:Value) (wr:World):Prop:=∃ k:Nat,k<=n∧t=vI k∧Own G9 1 2 w (L.take k) v wr
def AhA (n:Nat) (L:Cs.Wins) (w:World) (v t:Value) (wr:World):Prop:=∃ k:Nat,k<=n∧t=vI k∧v=vI (spM (L.take k) 0)∧okV (spM (L.take k) 0)∧Below w.heap.size w wr
theorem AgV (A S:Option Addr) (n cn m cm:Nat) (ws st:Cs.Wins) (w:World) (hw:Pairs w A n ws) (hs:Pairs w S m st) (hn:n<=maxLen) (hm:m<=maxLen) :
  Calls Tryz.prog 106 #[.slice A n cn,.slice S m cm] w (Gx (rdE ws st) w):=by
 have HC:=hid (AcE A S n cn m cm ws st w hw hs hn hm)
 unfold Gx at HC
 by_cases he:Cs.chkE ws st=0
 ·have hok:=Cs.csOk_of he
  have hn64:n<=64:=by have:=hok.len;have:=hw.len;omega
  rw [he] at HC
  have HN:=hid hw.len;have HW:=hid hw;have HE:=hid he;clear hw hs he hok hn hm
  go_enter Tryz.func106,Tryz.ntmps106
  go_wp2_with fail
  refine HC.out.mono ?_;rintro e w1 ⟨rfl,hB1⟩
  have HB1:=hid hB1;clear hB1
  go_wp2_with fail
  go_loopw [16] (fun t wr=>Ku Sp.okP ws n w t wr) (fun t _=>n - (intOf t).toNat)
  case atStart=>exact ⟨0,by omega,rfl,by simp,HB1.out⟩
  case round =>
   obtain ⟨k,hk,rfl,hall,hB⟩:=hrel;have HALL:=hid hall;have HB:=hid hB;have hsz:=hB.size;clear hall hB
   by_cases hlt:k<n
   ·obtain ⟨p,hp⟩:=Am HN.out hlt
    obtain ⟨b,off,rfl,hb,c0,c1⟩:=HW.out.cell hp;replace c0:=(HB.out.cell (p:=⟨b,off+k * 2,none⟩) hb).trans c0;replace c1:=(HB.out.cell (p:=⟨b,off+k * 2+1,none⟩) hb).trans c1;have HP:=hid hp;clear hp;have HBa:=hid (HB.out.alloc HB.out.size (.cells #[vI p.1,vI p.2] 53))
    by_cases h1:okV p.1
    ·by_cases h2:okV p.2
     ·have H12:=hid (And.intro h1 h2)
      obtain ⟨a0,a1⟩:=h1;obtain ⟨d0,d1⟩:=h2
      go_wp2_with fail
      go_roundw
      case rel=>exact ⟨k+1,by omega,by go_num,Gq HALL.out HP.out H12.out,HBa.out⟩
      case measure=>exact zMs
     ·have HX:=hid (Aa1 HE.out (Au HP.out) (fun h=>h2 h.2))
      obtain ⟨a0,a1⟩:=h1
      have h':p.2<0∨1000<p.2:=by unfold okV at h2;omega
      have a2:¬ p.1<0:=by omega
      have a3:¬ 1000<p.1:=by omega
      clear h2
      rcases h' with h | h
      ·go_wp2_with fail
       go_ret
       exact ⟨Af HX.out.symm,HBa.out⟩
      ·have h3:¬ p.2<0:=by omega
       go_wp2_with fail
       go_ret
       exact ⟨Af HX.out.symm,HBa.out⟩
    ·have HX:=hid (Aa1 HE.out (Au HP.out) (fun h=>h1 h.1))
     have h':p.1<0∨1000<p.1:=by unfold okV at h1;omega
     clear h1
     rcases h' with h | h
     ·go_wp2_with fail
      go_ret
      exact ⟨Af HX.out.symm,HBa.out⟩
     ·have h3:¬ p.1<0:=by omega
      go_wp2_with fail
      go_ret
      exact ⟨Af HX.out.symm,HBa.out⟩
   ·have hkn:=hid (show k=n by omega)
    have HX:=hid (rdE_ok HE.out (IC HN.out (by have:=HALL.out;rwa [hkn.out] at this)))
    go_wp2_with fail
    go_ret
    exact ⟨Af HX.out.symm,HB.out⟩
 ·have hne:(Cs.chkE ws st != 0)=true:=by rw [bne_iff_ne];exact he
  have HX:=hid (Aa2 he)
  rw [HX.out]
  clear hw hs he;generalize Cs.chkE ws st=E at *
  go_enter Tryz.func106,Tryz.ntmps106
  go_wp2_with fail
  refine HC.out.mono ?_;rintro e w1 ⟨rfl,hB1⟩
  have HB1:=hid hB1;clear hB1
  go_wp2_with fail
  go_ret
  exact ⟨rfl,HB1.out⟩
theorem Ag7 (A S:Option Addr) (n cn m cm:Nat) (ws st:Cs.Wins) (k0:Int) (w:World) (hw:Pairs w A n ws) (hs:Pairs w S m st) (hn:n<=maxLen) (hm:m<=maxLen) (hmc:m<=cm) (hcm:cm<=maxLen) :
  Calls Tryz.prog 105 #[.slice A n cn,.slice S m cm,vI k0] w (JJ (okL (faE ws st k0) (faL ws st k0)) (okN (faE ws st k0) n) (faE ws st k0) w):=by
 have HC:=hid (X5 A S n cn m cm ws st w hw hs hn hm)
 unfold Gx at HC
 have HN:=hid hw.len
 by_cases he:rdE ws st=0
 ·rw [he] at HC
  by_cases hk0:okV k0
  ·have HK:=hid hk0
   by_cases ht:Cs.tgE ws st=0
   ·have hn64:n<=64:=by have:=Abb ht;have:=hw.len;omega
    have HX:=hid ((Aga he hk0).trans ht);have HE:=hid (And.intro he ht);have HLL:=hid (show (faL ws st k0).length=n by unfold faL;rw [List.length_map,Cs.tight_len];exact HN.out)
    have HC2:=hid (fun W (h:Below w.heap.size w W)=>(X7 A S n cn m cm ws st W (hw.below h) (hs.below h) hn hm hmc hcm).mono (R':=fun e w'=>∃ A' c',e=.returned (.tuple #[.slice A' n c',vI 0])∧Pairs w' A' n (Cs.tight ws st)∧Below W.heap.size W w') fun e w' h=>by
     obtain ⟨A',c',h1,h2⟩:=h.1 ht
     exact ⟨A',c',h1,h2,h.2.2⟩)
    have hmk:=run_make_row' (P:=Tryz.prog) 23 2 (vI 0) 8 Tryz.underlying23 CU rfl .i64 .i64 n (by omega) (by omega);clear hw hs he hn hm hmc hcm ht;obtain ⟨k1,k2⟩:=hk0
    go_enter Tryz.func105,Tryz.ntmps105
    go_wp2_with fail
    refine HC.out.mono ?_;rintro e w1 ⟨rfl,hB1⟩
    have HB1:=hid hB1;clear hB1
    go_wp2_with fail
    refine (GM k0 HK.out _).mono ?_;rintro e wx ⟨rfl,rfl⟩
    go_wp2_with fail
    refine (HC2.out _ HB1.out).mono ?_;rintro e w2 ⟨A',c',rfl,hP1,hB2⟩
    have HP:=hid hP1;have HB2:=hid (Ae HB1.out hB2);clear hP1 hB2 HC2
    go_wp2_with fail
    have HR0:=hid (RowI.made n HB2.out 2);have hw12:=hid ((AJ w2.heap.size w2).alloc (Bn _) (.cells (madeCells #[vI 0] n) 2));generalize hw2:w2.alloc (.cells (madeCells #[vI 0] n) 2)=w3 at *;generalize hg:w2.heap.size=g at *
    go_loopw [37] (fun t wr=>Adp w g n (faL ws st k0) t wr∧Below g w2 wr) (fun t _=>n - (intOf t).toNat)
    case atStart=>exact ⟨⟨0,by omega,rfl,HR0.out.congr fun j _=>Fe _ j⟩,hw12.out⟩
    case round =>
     obtain ⟨⟨k,hk,rfl,hR⟩,hB⟩:=hrel;have HR:=hid hR;have HB:=hid hB;clear hR hB
     by_cases hlt:k<n
     ·obtain ⟨p,hp⟩:=Am (l:=Cs.tight ws st) (by rw [Cs.tight_len];exact HN.out) hlt
      have hpm:=hid (show (faL ws st k0)[k]? = some (min p.2 (p.1+k0)) by unfold faL;rw [List.getElem?_map,hp];rfl);obtain ⟨⟨q0,q1⟩,⟨q2,q3⟩,q4⟩:=AfU HE.out.1 HE.out.2 hp;obtain ⟨b,off,rfl,hb,c0,c1⟩:=HP.out.cell hp;replace c0:=(HB.out.cell (p:=⟨b,off+k * 2,none⟩) (by rw [← hg];exact hb)).trans c0;replace c1:=(HB.out.cell (p:=⟨b,off+k * 2+1,none⟩) (by rw [← hg];exact hb)).trans c1;have d0:=HR.out.cell k hlt;have d1:=HR.out.fr k;have hgl:=HR.out.lt;clear hp
      go_wp2_with fail
      go_roundw
      case rel=>exact ⟨⟨k+1,by omega,by go_num,((HR.out.set hlt _).congr fun j _=>E9 hpm.out j).alloc _⟩,(HB.out.setCell (p:=⟨g,k,none⟩) (Bn _) _).alloc (by have:=HR.out.lt;simp [World.setCell];omega) _⟩
      case measure=>exact zMs
     ·have hkn:=hid (show k=n by omega)
      go_wp2_with fail
      go_ret2
      have hfin:=HR.out
      rw [hkn.out] at hfin
      exact Xr HX.out ⟨_,_,rfl,hfin.ints HLL.out⟩ hfin.bel
   ·have HNE:=hid ht
    have htn:(Cs.tgE ws st != 0)=true:=by rw [bne_iff_ne];exact ht
    have HX:=hid (Aga he hk0);have HC2:=hid (fun W (h:Below w.heap.size w W)=>(X7 A S n cn m cm ws st W (hw.below h) (hs.below h) hn hm hmc hcm).mono (R':=fun e w'=>e=.returned (.tuple #[.slice none 0 0,vI (Cs.tgE ws st)])∧Below W.heap.size W w') fun e w' h=>⟨h.2.1 ht,h.2.2⟩);clear hw hs he hn hm hmc hcm ht;obtain ⟨k1,k2⟩:=hk0
    rw [HX.out]
    generalize Cs.tgE ws st=E at *
    go_enter Tryz.func105,Tryz.ntmps105
    go_wp2_with fail
    refine HC.out.mono ?_;rintro e w1 ⟨rfl,hB1⟩
    have HB1:=hid hB1;clear hB1
    go_wp2_with fail
    refine (GM k0 HK.out _).mono ?_;rintro e wx ⟨rfl,rfl⟩
    exact AhH
  ·have HX:=hid (AgA he hk0)
   have HK:=hid hk0;clear hw hs he hk0
   go_enter Tryz.func105,Tryz.ntmps105
   go_wp2_with fail
   refine HC.out.mono ?_;rintro e w1 ⟨rfl,hB1⟩
   have HB1:=hid hB1;clear hB1
   go_wp2_with fail
   refine (Od k0 HK.out _).mono ?_;rintro e wx ⟨rfl,rfl⟩
   go_wp2_with fail
   go_ret2
   exact MB HX.out (by decide) HB1.out
 ·have hne:(rdE ws st != 0)=true:=by rw [bne_iff_ne];exact he
  have HX:=hid (AgB (k:=k0) (zs:=ws) (ys:=st) he);have HNE:=hid he;clear hw hs he
  rw [HX.out]
  generalize rdE ws st=E at *
  go_enter Tryz.func105,Tryz.ntmps105
  exact AhJ
theorem RV (A S:Option Addr) (n cn m cm:Nat) (ws st:Cs.Wins) (k0:Int) (w:World) (hw:Pairs w A n ws) (hs:Pairs w S m st) (hn:n<=maxLen) (hm:m<=maxLen) (hmc:m<=cm) (hcm:cm<=maxLen) :
  Calls Tryz.prog 54 #[.slice A n cn,.slice S m cm,vI k0] w (JJ (okL (faE ws st k0) (faL ws st k0)) (okN (faE ws st k0) n) (faE ws st k0) w):=by
 have HC:=hid (AgV A S n cn m cm ws st w hw hs hn hm)
 unfold Gx at HC
 have HN:=hid hw.len
 by_cases he:rdE ws st=0
 ·rw [he] at HC
  by_cases hk0:okV k0
  ·have HK:=hid hk0
   by_cases ht:Cs.tgE ws st=0
   ·have hn64:n<=64:=by have:=Abb ht;have:=hw.len;omega
    have HX:=hid ((Aga he hk0).trans ht);have HE:=hid (And.intro he ht);have HLL:=hid (show (faL ws st k0).length=n by unfold faL;rw [List.length_map,Cs.tight_len];exact HN.out)
    have HC2:=hid (fun W (h:Below w.heap.size w W)=>(Xf A S n cn m cm ws st W (hw.below h) (hs.below h) hn hm hmc hcm).mono (R':=fun e w'=>∃ A' c',e=.returned (.tuple #[.slice A' n c',vI 0])∧Pairs w' A' n (Cs.tight ws st)∧Below W.heap.size W w') fun e w' h=>by
     obtain ⟨A',c',h1,h2⟩:=h.1 ht
     exact ⟨A',c',h1,h2,h.2.2⟩)
    obtain ⟨i0,hi,hz0,hz1,hz2⟩:=info_parts CU;clear hw hs he hn hm hmc hcm ht;obtain ⟨k1,k2⟩:=hk0
    go_enter Tryz.func54,Tryz.ntmps54
    go_wp2_with fail
    refine HC.out.mono ?_;rintro e w1 ⟨rfl,hB1⟩
    have HB1:=hid hB1;clear hB1
    go_wp2_with fail
    refine (HC2.out _ HB1.out).mono ?_;rintro e w2 ⟨A',c',rfl,hP1,hB2⟩
    have HP:=hid hP1;have HB2:=hid (Ae HB1.out hB2);clear hP1 hB2 HC2
    go_wp2_with fail
    go_loopw [11,37] (fun v t wr=>Ah8 n (faL ws st k0) w2 v t wr) (fun _ t _=>n - (intOf t).toNat)
    case atStart=>exact ⟨0,by omega,rfl,Own.start _ _ _ _⟩
    case round =>
     obtain ⟨k,hk,rfl,hO⟩:=hrel;have HO:=hid hO;clear hO
     by_cases hlt:k<n
     ·obtain ⟨p,hp⟩:=Am (l:=Cs.tight ws st) (by rw [Cs.tight_len];exact HN.out) hlt
      have hpm:=hid (show (faL ws st k0).take (k+1)=(faL ws st k0).take k ++ [min p.2 (p.1+k0)] from Hy (f:=faF k0) hp);obtain ⟨⟨q0,q1⟩,⟨q2,q3⟩,q4⟩:=AfU HE.out.1 HE.out.2 hp;obtain ⟨b,off,rfl,hb,c0,c1⟩:=HP.out.cell hp;replace c0:=(HO.out.bel.cell (p:=⟨b,off+k * 2,none⟩) hb).trans c0;replace c1:=(HO.out.bel.cell (p:=⟨b,off+k * 2+1,none⟩) hb).trans c1;have hlen:=hid (PT (k:=k) HLL.out hk)
      have hlen2:((faL ws st k0).take k).length<=64:=by rw [hlen.out];omega
      have HOb:=hid (HO.out.below ((AJ _ wr).alloc (Bn _) (.cells #[vI p.1,vI p.2] 53)));generalize hLL:(faL ws st k0).take k=LL at *;have HL2:=hid hLL;clear hLL hp
      go_wp2_with (at_builtin;refine wpList_append_own _ rfl _ _ 23 rfl w2.heap.size 2 i0 (vI 0) 1 8 Tryz.underlying23 hi hz0 hz1 hz2 rfl (by decide) _ _ _ rfl (HOb.out.own.alloc _) ⟨wr.heap.size+1,0,none⟩ 1 1 [vI (min p.2 (p.1+k0))] rfl rfl (AY _ _ (by simp) _ _ _ rfl) (by intro u hu;simp at hu;subst hu;rfl) (by unfold maxLen;omega) (by omega) (by have:=HO.out.bel.size;simp;omega) ?_;intro v1 w3 hown1 hgrow1 hnil1)
      go_roundw
      case rel=>exact ⟨k+1,by omega,by go_num,by rw [hpm.out];exact HOb.out.next hown1 hgrow1⟩
      case measure=>exact zMs
     ·have hkn:=hid (show k=n by omega)
      have HT:=hid (show (faL ws st k0).take k=faL ws st k0 from CY (by rw [HLL.out,hkn.out];exact Bn _));have hO:=HO.out
      rw [HT.out] at hO
      obtain ⟨A2,c2,hv,hI,hcap⟩:=hO.ints HLL.out;have HI:=hid hI;subst hv;clear hO hI hcap
      go_wp2_with fail
      go_ret2
      exact Xr HX.out ⟨A2,c2,rfl,HI.out⟩ (Ae HB2.out HO.out.bel)
   ·have HNE:=hid ht
    have htn:(Cs.tgE ws st != 0)=true:=by rw [bne_iff_ne];exact ht
    have HX:=hid (Aga he hk0);have HC2:=hid (fun W (h:Below w.heap.size w W)=>(Xf A S n cn m cm ws st W (hw.below h) (hs.below h) hn hm hmc hcm).mono (R':=fun e w'=>e=.returned (.tuple #[.slice none 0 0,vI (Cs.tgE ws st)])∧Below W.heap.size W w') fun e w' h=>⟨h.2.1 ht,h.2.2⟩);clear hw hs he hn hm hmc hcm ht;obtain ⟨k1,k2⟩:=hk0
    rw [HX.out]
    generalize Cs.tgE ws st=E at *
    go_enter Tryz.func54,Tryz.ntmps54
    go_wp2_with fail
    refine HC.out.mono ?_;rintro e w1 ⟨rfl,hB1⟩
    have HB1:=hid hB1;clear hB1
    exact AhH
  ·have HX:=hid (AgA he hk0)
   have h':k0<0∨1000<k0:=by unfold okV at hk0;omega
   clear hw hs he hk0
   rcases h' with h | h
   ·go_enter Tryz.func54,Tryz.ntmps54
    exact AhI
   ·have h2:¬ k0<0:=by omega
    go_enter Tryz.func54,Tryz.ntmps54
    exact AhI
 ·have hne:(rdE ws st != 0)=true:=by rw [bne_iff_ne];exact he
  have HX:=hid (AgB (k:=k0) (zs:=ws) (ys:=st) he);have HNE:=hid he;clear hw hs he
  rw [HX.out]
  generalize rdE ws st=E at *
  go_enter Tryz.func54,Tryz.ntmps54
  exact AhJ
theorem Ahz (A S:Option Addr) (n cn m cm:Nat) (ws st:Cs.Wins) (w:World) (hw:Pairs w A n ws) (hs:Pairs w S m st) (hn:n<=maxLen) (hm:m<=maxLen) (hmc:m<=cm) (hcm:cm<=maxLen) :
  Calls Tryz.prog 104 #[.slice A n cn,.slice S m cm] w (AhM (okI (spE ws st) (spV ws st)) (spE ws st) w):=by
 have HC:=hid (X5 A S n cn m cm ws st w hw hs hn hm)
 unfold Gx at HC
 have HN:=hid hw.len
 by_cases he:rdE ws st=0
 ·rw [he] at HC
  by_cases ht:Cs.tgE ws st=0
  ·have hn64:n<=64:=by have:=Abb ht;have:=hw.len;omega
   have HX:=hid ((spE_t he).trans ht);have HE:=hid (And.intro he ht)
   have HC2:=hid (fun W (h:Below w.heap.size w W)=>(X7 A S n cn m cm ws st W (hw.below h) (hs.below h) hn hm hmc hcm).mono (R':=fun e w'=>∃ A' c',e=.returned (.tuple #[.slice A' n c',vI 0])∧Pairs w' A' n (Cs.tight ws st)∧Below W.heap.size W w') fun e w' h=>by
    obtain ⟨A',c',h1,h2⟩:=h.1 ht
    exact ⟨A',c',h1,h2,h.2.2⟩)
   clear hw hs he hn hm hmc hcm ht
   go_enter Tryz.func104,Tryz.ntmps104
   go_wp2_with fail
   refine HC.out.mono ?_;rintro e w1 ⟨rfl,hB1⟩
   have HB1:=hid hB1;clear hB1
   go_wp2_with fail
   refine (HC2.out _ HB1.out).mono ?_;rintro e w2 ⟨A',c',rfl,hP1,hB2⟩
   have HP:=hid hP1;have HB2:=hid (Ae HB1.out hB2);clear hP1 hB2 HC2
   go_wp2_with fail
   go_loopw [9,29] (fun v t wr=>AhA n (Cs.tight ws st) w2 v t wr) (fun _ t _=>n - (intOf t).toNat)
   case atStart=>exact ⟨0,by omega,rfl,rfl,by rw [List.take_zero];exact ⟨by decide,by decide⟩,AJ _ _⟩
   case round =>
    obtain ⟨k,hk,rfl,rfl,hbd,hB⟩:=hrel;have HB:=hid hB;have hsz:=hB.size;have HBD:=hid hbd;clear hB
    by_cases hlt:k<n
    ·obtain ⟨p,hp⟩:=Am (l:=Cs.tight ws st) (by rw [Cs.tight_len];exact HN.out) hlt
     have hpm:=hid (show spM ((Cs.tight ws st).take (k+1)) 0=max (spM ((Cs.tight ws st).take k) 0) (p.2 - p.1) by rw [Aq _ k p hp,AfZ];rfl);obtain ⟨⟨q0,q1⟩,⟨q2,q3⟩,q4⟩:=AfU HE.out.1 HE.out.2 hp;obtain ⟨b,off,rfl,hb,c0,c1⟩:=HP.out.cell hp;replace c0:=(HB.out.cell (p:=⟨b,off+k * 2,none⟩) hb).trans c0;replace c1:=(HB.out.cell (p:=⟨b,off+k * 2+1,none⟩) hb).trans c1;have HBa:=hid (HB.out.alloc HB.out.size (.cells #[vI p.1,vI p.2] 53));obtain ⟨m0,m1⟩:=hbd;generalize spM ((Cs.tight ws st).take k) 0=M at *;clear hp
     go_wp2_with fail
     go_roundw
     case rel=>exact ⟨k+1,by omega,by go_num,by rw [hpm.out],by rw [hpm.out];exact ⟨by omega,by omega⟩,HBa.out⟩
     case measure=>exact zMs
    ·have hkn:=hid (show k=n by omega)
     exact AhF
  ·have HNE:=hid ht
   have htn:(Cs.tgE ws st != 0)=true:=by rw [bne_iff_ne];exact ht
   have HX:=hid (spE_t he);have HC2:=hid (fun W (h:Below w.heap.size w W)=>(X7 A S n cn m cm ws st W (hw.below h) (hs.below h) hn hm hmc hcm).mono (R':=fun e w'=>e=.returned (.tuple #[.slice none 0 0,vI (Cs.tgE ws st)])∧Below W.heap.size W w') fun e w' h=>⟨h.2.1 ht,h.2.2⟩);clear hw hs he hn hm hmc hcm ht
   rw [HX.out]
   have HO:=hid (show okI (Cs.tgE ws st) (spV ws st)=0 by unfold okI;rw [if_neg HNE.out])
   rw [HO.out]
   clear HO;generalize Cs.tgE ws st=E at *
   go_enter Tryz.func104,Tryz.ntmps104
   exact AhG
 ·have hne:(rdE ws st != 0)=true:=by rw [bne_iff_ne];exact he
  have HX:=hid (AgC (zs:=ws) (ys:=st) he);have HNE:=hid he;clear hw hs he
  rw [HX.out]
  have HO:=hid (show okI (rdE ws st) (spV ws st)=0 by unfold okI;rw [if_neg HNE.out])
  rw [HO.out]
  clear HO;generalize rdE ws st=E at *
  go_enter Tryz.func104,Tryz.ntmps104
  exact AhK
theorem Ahw (A S:Option Addr) (n cn m cm:Nat) (ws st:Cs.Wins) (w:World) (hw:Pairs w A n ws) (hs:Pairs w S m st) (hn:n<=maxLen) (hm:m<=maxLen) (hmc:m<=cm) (hcm:cm<=maxLen) :
  Calls Tryz.prog 51 #[.slice A n cn,.slice S m cm] w (AhM (okI (spE ws st) (spV ws st)) (spE ws st) w):=by
 have HC:=hid (AgV A S n cn m cm ws st w hw hs hn hm)
 unfold Gx at HC
 have HN:=hid hw.len
 by_cases he:rdE ws st=0
 ·rw [he] at HC
  by_cases ht:Cs.tgE ws st=0
  ·have hn64:n<=64:=by have:=Abb ht;have:=hw.len;omega
   have HX:=hid ((spE_t he).trans ht);have HE:=hid (And.intro he ht)
   have HC2:=hid (fun W (h:Below w.heap.size w W)=>(Xf A S n cn m cm ws st W (hw.below h) (hs.below h) hn hm hmc hcm).mono (R':=fun e w'=>∃ A' c',e=.returned (.tuple #[.slice A' n c',vI 0])∧Pairs w' A' n (Cs.tight ws st)∧Below W.heap.size W w') fun e w' h=>by
    obtain ⟨A',c',h1,h2⟩:=h.1 ht
    exact ⟨A',c',h1,h2,h.2.2⟩)
   clear hw hs he hn hm hmc hcm ht
   go_enter Tryz.func51,Tryz.ntmps51
   go_wp2_with fail
   refine HC.out.mono ?_;rintro e w1 ⟨rfl,hB1⟩
   have HB1:=hid hB1;clear hB1
   go_wp2_with fail
   refine (HC2.out _ HB1.out).mono ?_;rintro e w2 ⟨A',c',rfl,hP1,hB2⟩
   have HP:=hid hP1;have HB2:=hid (Ae HB1.out hB2);clear hP1 hB2 HC2
   go_wp2_with fail
   go_loopw [9,29] (fun v t wr=>AhA n (Cs.tight ws st) w2 v t wr) (fun _ t _=>n - (intOf t).toNat)
   case atStart=>exact ⟨0,by omega,rfl,rfl,by rw [List.take_zero];exact ⟨by decide,by decide⟩,AJ _ _⟩
   case round =>
    obtain ⟨k,hk,rfl,rfl,hbd,hB⟩:=hrel;have HB:=hid hB;have hsz:=hB.size;have HBD:=hid hbd;clear hB
    by_cases hlt:k<n
    ·obtain ⟨p,hp⟩:=Am (l:=Cs.tight ws st) (by rw [Cs.tight_len];exact HN.out) hlt
     have hpm:=hid (show spM ((Cs.tight ws st).take (k+1)) 0=max (spM ((Cs.tight ws st).take k) 0) (p.2 - p.1) by rw [Aq _ k p hp,AfZ];rfl);obtain ⟨⟨q0,q1⟩,⟨q2,q3⟩,q4⟩:=AfU HE.out.1 HE.out.2 hp;obtain ⟨b,off,rfl,hb,c0,c1⟩:=HP.out.cell hp;replace c0:=(HB.out.cell (p:=⟨b,off+k * 2,none⟩) hb).trans c0;replace c1:=(HB.out.cell (p:=⟨b,off+k * 2+1,none⟩) hb).trans c1;have HBa:=hid (HB.out.alloc HB.out.size (.cells #[vI p.1,vI p.2] 53));obtain ⟨m0,m1⟩:=hbd;generalize spM ((Cs.tight ws st).take k) 0=M at *;clear hp
     go_wp2_with fail
     go_roundw
     case rel=>exact ⟨k+1,by omega,by go_num,by rw [hpm.out],by rw [hpm.out];exact ⟨by omega,by omega⟩,HBa.out⟩
     case measure=>exact zMs
    ·have hkn:=hid (show k=n by omega)
     exact AhF
  ·have HNE:=hid ht
   have htn:(Cs.tgE ws st != 0)=true:=by rw [bne_iff_ne];exact ht
   have HX:=hid (spE_t he);have HC2:=hid (fun W (h:Below w.heap.size w W)=>(Xf A S n cn m cm ws st W (hw.below h) (hs.below h) hn hm hmc hcm).mono (R':=fun e w'=>e=.returned (.tuple #[.slice none 0 0,vI (Cs.tgE ws st)])∧Below W.heap.size W w') fun e w' h=>⟨h.2.1 ht,h.2.2⟩);clear hw hs he hn hm hmc hcm ht
   rw [HX.out]
   have HO:=hid (show okI (Cs.tgE ws st) (spV ws st)=0 by unfold okI;rw [if_neg HNE.out])
   rw [HO.out]
   clear HO;generalize Cs.tgE ws st=E at *
   go_enter Tryz.func51,Tryz.ntmps51
   exact AhG
 ·have hne:(rdE ws st != 0)=true:=by rw [bne_iff_ne];exact he
  have HX:=hid (AgC (zs:=ws) (ys:=st) he);have HNE:=hid he;clear hw hs he
  rw [HX.out]
  have HO:=hid (show okI (rdE ws st) (spV ws st)=0 by unfold okI;rw [if_neg HNE.out])
  rw [HO.out]
  clear HO;generalize rdE ws st=E at *
  go_enter Tryz.func51,Tryz.ntmps51
  exact AhK
