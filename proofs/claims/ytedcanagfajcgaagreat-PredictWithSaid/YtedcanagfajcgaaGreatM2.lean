/- M2: AtTRS, As, Sp in one text. -/
import Derived.Test.YtedcanagfajcgaaGreatM4
set_option linter.unusedSimpArgs false
set_option linter.unusedVariables false
set_option maxRecDepth 100000
set_option maxHeartbeats 4000000
namespace Go.Proofs
theorem Yr{G:Prop}(h:G:=by
  go_wp2_with fail
  refine (HI.out _).mono ?_;rintro e w1 ⟨rfl,rfl⟩
  go_wp2_with fail
  refine (HR.out _).mono ?_;rintro e w1 ⟨rfl,hB⟩
  have HB:=hid hB;clear hB
  go_wp2_with fail
  go_ret2
  exact ⟨Ay HV1.out.symm HE1.out.symm,HB.out⟩):G:=h
theorem RG{G:Prop}(h:G:=by
  go_wp2_with fail
  refine (HI.out _).mono ?_;rintro e w1 ⟨rfl,rfl⟩
  go_wp2_with fail
  go_ret2
  exact ⟨Ay HV1.out.symm HE1.out.symm,AJ _ _⟩):G:=h
theorem Adb{G:Prop}(h:G:=by
  go_wp2_with fail
  go_ret2
  exact ⟨Ay HV1.out.symm HE1.out.symm,AJ _ _⟩):G:=h
theorem Aae{G:Prop}(h:G:=by
  go_enter Tryz.func189,Tryz.ntmps189
  go_wp2_with fail
  refine (HO.out _).mono ?_;rintro e w' ⟨rfl,rfl⟩
  go_wp2_with fail
  go_ret
  exact ⟨Af hv.out.symm,rfl⟩):G:=h
theorem U1{G:Prop}(h:G:=by
  go_wp2_with fail
  go_ret2
  exact ⟨Ay HV1.out.symm HE1.out.symm,HB.out⟩):G:=h
theorem Yw{G:Prop}(h:G:=by
  go_enter Tryz.func199,Tryz.ntmps199
  go_wp2_with fail
  go_ret
  exact ⟨Af hv.out.symm,rfl⟩):G:=h
theorem AeZ{G:Prop}(h:G:=by
  have HE:=hid (stE_0 (a:=a) (c:=c) hnl.out HA.out (IC HL.out (by have:=HALL.out;rwa [hkn.out] at this)));have HT:=hid (show (stL d a c).take k=stL d a c from CY (by unfold stL;rw [List.length_map,HL.out,hkn.out];exact Bn _));have hO:=HO.out
  rw [HT.out] at hO
  obtain ⟨A',c',hv,hP,hcap⟩:=hO.res Dm (show (stL d a c).length=n by unfold stL;rw [List.length_map];exact HL.out);have HP:=hid hP;have HCAP:=hid hcap;subst hv;clear hO hP hcap
  go_wp2_with fail
  go_ret2
  exact IY HE.out ⟨A',c',rfl,HP.out,HCAP.out⟩ HO.out.bel):G:=h
theorem P9{G:Prop}(h:G:=by
  go_wp2_with fail
  go_ret2
  exact Ca HX.out (by decide) (AJ _ _)):G:=h
theorem Aaf{G:Prop}(h:G:=by
  go_wp2_with fail
  refine (HC.out _).mono ?_;rintro e w' ⟨rfl,rfl⟩
  go_wp2_with fail
  go_ret2
  exact ⟨Ay hv.out.symm rfl,AJ _ _⟩):G:=h
theorem U2{G:Prop}(h:G:=by
  go_wp2
  go_ret
  exact ⟨Ao (by rw [hv.out,Bool.eq_iff_iff];simp;try omega),rfl⟩):G:=h
theorem Yt{G:Prop}(h:G:=by
  go_enter Tryz.func187,Tryz.ntmps187
  go_wp2_with fail
  go_ret
  exact ⟨rfl,rfl⟩):G:=h
theorem Yu{G:Prop}(h:G:=by
  go_enter Tryz.func186,Tryz.ntmps186
  go_wp2_with fail
  go_ret
  exact ⟨rfl,rfl⟩):G:=h
theorem Abl{G:Prop}(h:G:=by
  go_wp2_with fail
  refine (HC.out _).mono ?_;rintro e w1 ⟨rfl,hB⟩
  have HB:=hid hB;clear hB
  go_wp2_with fail
  refine (HS.out _).mono ?_;rintro e w' ⟨rfl,rfl⟩
  go_wp2_with fail
  go_ret2
  exact ⟨Ay hv.out.symm HE.out.symm,HB.out⟩):G:=h
theorem Ue{G:Prop}(h:G:=by
  go_wp2_with fail
  go_ret2
  exact ⟨Ay (by rw [hv.out];rfl) HE.out.symm,HBB.out⟩):G:=h
theorem Abm{G:Prop}(h:G:=by
  go_wp2_with fail
  refine (HC.out _).mono ?_;rintro e w1 ⟨rfl,hB⟩
  have HB:=hid hB;clear hB
  go_wp2_with fail
  go_ret2
  exact ⟨Ay hv.out.symm rfl,HB.out⟩):G:=h
end Go.Proofs
namespace Go.Proofs.YtedcanagfajcgaaGreat
open Go.RowKit
open Go.Lib (hid)
def Dg (d:Int):Prop := -4000<=d∧d<=4000
instance (d:Int):Decidable (Dg d):=by unfold Dg;infer_instance
def tE (alt dev:Int):Int:=if Ed alt then (if Dg dev then 0 else 1) else 2
def tmV (alt dev:Int):Int:=if tE alt dev=0 then At.tempV alt dev else 0
def sdV (alt dev:Int):Int:=if tE alt dev=0 then At.soundV alt dev else 0
def rtV (alt dev:Int):Int:=if tE alt dev=0 then At.ratV alt dev else 0
theorem AcX {alt dev:Int} (h:¬ Ed alt):tE alt dev=2:=by unfold tE;rw [if_neg h]
theorem ZM {alt dev:Int} (h:Ed alt) (d:¬ Dg dev):tE alt dev=1:=by unfold tE;rw [if_pos h,if_neg d]
theorem ZL {alt dev:Int} (h:Ed alt) (d:Dg dev):tE alt dev=0:=by unfold tE;rw [if_pos h,if_pos d]
theorem EB {alt dev:Int} (h:tE alt dev=0):Ed alt∧Dg dev:=by
 unfold tE at h
 by_cases h1:Ed alt
 ·by_cases h2:Dg dev
  ·exact ⟨h1,h2⟩
  ·rw [if_pos h1,if_neg h2] at h;omega
 ·rw [if_neg h1] at h;omega
theorem Jc {alt dev:Int} (h1:Ed alt) (h2:Dg dev):17665<=At.tempV alt dev∧At.tempV alt dev<=33211:=by
 have:=At.bdT alt h1.1 h1.2
 unfold Dg at h2
 unfold At.tempV
 omega
theorem QY {alt dev:Int} (h1:Ed alt) (h2:Dg dev):0<=At.vR alt * (57630+dev)∧At.vR alt * (57630+dev)<=3259100 * 61630:=by
 have b:=At.bdR alt h1.1 h1.2
 unfold Dg at h2
 exact ⟨BM (by omega) (by omega),Int.mul_le_mul b.2 (by omega) (by omega) (by omega)⟩
theorem JL (alt dev:Int) (w:World):Calls Tryz.prog 189 #[vI alt,vI dev] w fun e w'=>e=.returned (vI (tE alt dev))∧w=w':=by
 by_cases h:Ed alt
 ·have HO:=hid (fun w=>QI alt h.1 h.2 w)
  by_cases d1:dev < -4000
  ·have hv:=hid (ZM (dev:=dev) h (fun d=>by unfold Dg at d;omega))
   clear h
   exact Aae
  ·by_cases d2:4000<dev
   ·have hv:=hid (ZM (dev:=dev) h (fun d=>by unfold Dg at d;omega))
    clear h
    exact Aae
   ·have hv:=hid (ZL (dev:=dev) h ⟨by omega,by omega⟩)
    clear h
    exact Aae
 ·have HO:=hid (fun w=>Pk alt (by unfold Ed at h;omega) w)
  have hv:=hid (AcX (dev:=dev) h);clear h
  exact Aae
theorem Mv (alt dev:Int) (w:World):Calls Tryz.prog 199 #[vI alt,vI dev] w fun e w'=>e=.returned (vI (tE alt dev))∧w=w':=by
 by_cases a1:alt < -200000
 ·have hv:=hid (AcX (alt:=alt) (dev:=dev) (fun h=>by unfold Ed at h;omega))
  exact Yw
 ·by_cases a2:6000000<alt
  ·have hv:=hid (AcX (alt:=alt) (dev:=dev) (fun h=>by unfold Ed at h;omega))
   exact Yw
  ·by_cases d1:dev < -4000
   ·have hv:=hid (ZM (alt:=alt) (dev:=dev) ⟨by omega,by omega⟩ (fun d=>by unfold Dg at d;omega))
    exact Yw
   ·by_cases d2:4000<dev
    ·have hv:=hid (ZM (alt:=alt) (dev:=dev) ⟨by omega,by omega⟩ (fun d=>by unfold Dg at d;omega))
     exact Yw
    ·have hv:=hid (ZL (alt:=alt) (dev:=dev) ⟨by omega,by omega⟩ ⟨by omega,by omega⟩)
     exact Yw
theorem Nr (alt dev:Int) (w:World):Calls Tryz.prog 192 #[vI alt,vI dev] w fun e w'=>e=.returned (.tuple #[vI (tmV alt dev),vI (tE alt dev)])∧Below w.heap.size w w':=by
 have HC:=hid (fun w=>JL alt dev w)
 by_cases he:tE alt dev=0
 ·have hv:=hid (show tmV alt dev=At.tempV alt dev by unfold tmV;rw [if_pos he])
  have hI:=EB he;have bt:=Jc hI.1 hI.2;have bv:=At.bdT alt hI.1.1 hI.1.2;have bd:=hI.2
  unfold Dg at bd
  obtain ⟨bt1,bt2⟩:=bt;obtain ⟨bv1,bv2⟩:=bv;obtain ⟨bd1,bd2⟩:=bd;have HI:=hid hI;have HE:=hid he
  rw [he] at HC
  clear hI he
  go_enter Tryz.func192,Tryz.ntmps192
  go_wp2_with fail
  refine (HC.out _).mono ?_;rintro e w' ⟨rfl,rfl⟩
  go_wp2_with fail
  refine (XH _).mono ?_;rintro e w1 ⟨b,rfl,hT,hB⟩
  go_wp2_with fail
  refine (MF b 0 4 4 At.tabT alt w1 rfl okT hT HI.out.1.1 HI.out.1.2).mono ?_;rintro e w2 ⟨rfl,hB2⟩
  rw [At.tv_T]
  have HBB:=hid (hB.trans (hB2.mono hB.size))
  exact Ue
 ·have hv:=hid (show tmV alt dev=0 by unfold tmV;rw [if_neg he])
  have hb:(tE alt dev == 0)=false:=BA.2 he;clear he;generalize tE alt dev=E at *
  go_enter Tryz.func192,Tryz.ntmps192
  exact Aaf
theorem AbT (alt dev:Int) (w:World):Calls Tryz.prog 127 #[vI alt,vI dev] w fun e w'=>e=.returned (.tuple #[vI (rtV alt dev),vI (tE alt dev)])∧Below w.heap.size w w':=by
 have HC:=hid (fun w=>JL alt dev w)
 by_cases he:tE alt dev=0
 ·have hv:=hid (show rtV alt dev=At.ratV alt dev by unfold rtV;rw [if_pos he])
  have hI:=EB he;have bt:=QY hI.1 hI.2;have bv:=At.bdR alt hI.1.1 hI.1.2;have bd:=hI.2
  unfold Dg at bd
  obtain ⟨bt1,bt2⟩:=bt;obtain ⟨bv1,bv2⟩:=bv;obtain ⟨bd1,bd2⟩:=bd;have HI:=hid hI;have HE:=hid he
  rw [he] at HC
  clear hI he
  go_enter Tryz.func127,Tryz.ntmps127
  go_wp2_with fail
  refine (HC.out _).mono ?_;rintro e w' ⟨rfl,rfl⟩
  go_wp2_with fail
  refine (XF _).mono ?_;rintro e w1 ⟨b,rfl,hT,hB⟩
  go_wp2_with fail
  refine (MF b 0 14 14 At.tabR alt w1 rfl okR hT HI.out.1.1 HI.out.1.2).mono ?_;rintro e w2 ⟨rfl,hB2⟩
  rw [At.tv_R]
  have HBB:=hid (hB.trans (hB2.mono hB.size))
  exact Ue
 ·have hv:=hid (show rtV alt dev=0 by unfold rtV;rw [if_neg he])
  have hb:(tE alt dev == 0)=false:=BA.2 he;clear he;generalize tE alt dev=E at *
  go_enter Tryz.func127,Tryz.ntmps127
  exact Aaf
theorem AbU (alt dev:Int) (w:World):Calls Tryz.prog 128 #[vI alt,vI dev] w fun e w'=>e=.returned (.tuple #[vI (sdV alt dev),vI (tE alt dev)])∧Below w.heap.size w w':=by
 have HC:=hid (fun w=>Nr alt dev w)
 by_cases he:tE alt dev=0
 ·have hv:=hid (show sdV alt dev=sqV (388734 * At.tempV alt dev / 100) by unfold sdV;rw [if_pos he];rfl)
  have hI:=EB he;obtain ⟨bt1,bt2⟩:=Jc hI.1 hI.2;have HE:=hid he
  have ht:tmV alt dev=At.tempV alt dev:=by unfold tmV;rw [if_pos he]
  rw [he,ht] at HC
  clear hI he ht;generalize At.tempV alt dev=t at *;have HS:=hid (fun w=>xSqrt (388734 * t / 100) (by omega) w)
  go_enter Tryz.func128,Tryz.ntmps128
  exact Abl
 ·have hv:=hid (show sdV alt dev=0 by unfold sdV;rw [if_neg he])
  have ht:tmV alt dev=0:=by unfold tmV;rw [if_neg he]
  have hb:(tE alt dev == 0)=false:=BA.2 he
  rw [ht] at HC
  clear he ht;generalize tE alt dev=E at *
  go_enter Tryz.func128,Tryz.ntmps128
  exact Abm
theorem NW (alt dev:Int) (w:World):Calls Tryz.prog 201 #[vI alt,vI dev] w fun e w'=>e=.returned (.tuple #[vI (tmV alt dev),vI (tE alt dev)])∧Below w.heap.size w w':=by
 have HC:=hid (fun w=>Mv alt dev w)
 by_cases he:tE alt dev=0
 ·have hv:=hid (show tmV alt dev=At.tempV alt dev by unfold tmV;rw [if_pos he])
  have hI:=EB he;have bt:=Jc hI.1 hI.2;have bv:=At.bdT alt hI.1.1 hI.1.2;have bd:=hI.2
  unfold Dg at bd
  obtain ⟨bt1,bt2⟩:=bt;obtain ⟨bv1,bv2⟩:=bv;obtain ⟨bd1,bd2⟩:=bd;have HI:=hid hI;have HE:=hid he
  rw [he] at HC
  clear hI he
  go_enter Tryz.func201,Tryz.ntmps201
  go_wp2_with fail
  refine (HC.out _).mono ?_;rintro e w' ⟨rfl,rfl⟩
  go_wp2_with fail
  refine (ZA alt HI.out.1 _).mono ?_;rintro e w2 ⟨rfl,hB2⟩
  have HBB:=hid hB2
  exact Ue
 ·have hv:=hid (show tmV alt dev=0 by unfold tmV;rw [if_neg he])
  have hb:(tE alt dev == 0)=false:=BA.2 he;clear he;generalize tE alt dev=E at *
  go_enter Tryz.func201,Tryz.ntmps201
  exact Aaf
theorem AcK (alt dev:Int) (w:World):Calls Tryz.prog 145 #[vI alt,vI dev] w fun e w'=>e=.returned (.tuple #[vI (rtV alt dev),vI (tE alt dev)])∧Below w.heap.size w w':=by
 have HC:=hid (fun w=>Mv alt dev w)
 by_cases he:tE alt dev=0
 ·have hv:=hid (show rtV alt dev=At.ratV alt dev by unfold rtV;rw [if_pos he])
  have hI:=EB he;have bt:=QY hI.1 hI.2;have bv:=At.bdR alt hI.1.1 hI.1.2;have bd:=hI.2
  unfold Dg at bd
  obtain ⟨bt1,bt2⟩:=bt;obtain ⟨bv1,bv2⟩:=bv;obtain ⟨bd1,bd2⟩:=bd;have HI:=hid hI;have HE:=hid he
  rw [he] at HC
  clear hI he
  go_enter Tryz.func145,Tryz.ntmps145
  go_wp2_with fail
  refine (HC.out _).mono ?_;rintro e w' ⟨rfl,rfl⟩
  go_wp2_with fail
  refine (Zz alt HI.out.1 _).mono ?_;rintro e w2 ⟨rfl,hB2⟩
  have HBB:=hid hB2
  exact Ue
 ·have hv:=hid (show rtV alt dev=0 by unfold rtV;rw [if_neg he])
  have hb:(tE alt dev == 0)=false:=BA.2 he;clear he;generalize tE alt dev=E at *
  go_enter Tryz.func145,Tryz.ntmps145
  exact Aaf
theorem AcM (alt dev:Int) (w:World):Calls Tryz.prog 146 #[vI alt,vI dev] w fun e w'=>e=.returned (.tuple #[vI (sdV alt dev),vI (tE alt dev)])∧Below w.heap.size w w':=by
 have HC:=hid (fun w=>NW alt dev w)
 by_cases he:tE alt dev=0
 ·have hv:=hid (show sdV alt dev=sqV (388734 * At.tempV alt dev / 100) by unfold sdV;rw [if_pos he];rfl)
  have hI:=EB he;obtain ⟨bt1,bt2⟩:=Jc hI.1 hI.2;have HE:=hid he
  have ht:tmV alt dev=At.tempV alt dev:=by unfold tmV;rw [if_pos he]
  rw [he,ht] at HC
  clear hI he ht;generalize At.tempV alt dev=t at *;have HS:=hid (fun w=>Pv (388734 * t / 100) (by omega) w)
  go_enter Tryz.func146,Tryz.ntmps146
  exact Abl
 ·have hv:=hid (show sdV alt dev=0 by unfold sdV;rw [if_neg he])
  have ht:tmV alt dev=0:=by unfold tmV;rw [if_neg he]
  have hb:(tE alt dev == 0)=false:=BA.2 he
  rw [ht] at HC
  clear he ht;generalize tE alt dev=E at *
  go_enter Tryz.func146,Tryz.ntmps146
  exact Abm
def tsE (cas alt dev:Int):Int:=if inB cas 0 1000=true then tE alt dev else 1
def tsV (cas alt dev:Int):Int:=if tsE cas alt dev=0 then cas * rtV alt dev / 1000000 else 0
def omE (m alt dev:Int):Int:=if inB m 0 2000=true then tE alt dev else 1
def omV (m alt dev:Int):Int:=if omE m alt dev=0 then (m * sdV alt dev+15999) / 16000 else 0
def He (cas m alt dev:Int):Int:=if inB cas 0 1000=true∧inB m 0 2000=true then tE alt dev else 1
def Ck (cas m alt dev:Int):Int:=if He cas m alt dev=0 then min (tsV cas alt dev) (omV m alt dev) else 0
theorem PD (alt dev:Int):0<=rtV alt dev∧rtV alt dev<=3500000:=by
 unfold rtV
 by_cases h:tE alt dev=0
 ·rw [if_pos h]
  obtain ⟨h1,h2⟩:=EB h;have b:=QY h1 h2
  unfold At.ratV
  omega
 ·rw [if_neg h];omega
theorem Tt (alt dev:Int):0<=sdV alt dev∧sdV alt dev<=12000:=by
 unfold sdV
 by_cases h:tE alt dev=0
 ·rw [if_pos h]
  obtain ⟨h1,h2⟩:=EB h;have b:=Jc h1 h2;have h:=(Fx.isq_spec (388734 * At.tempV alt dev / 100).toNat).1
  have hn:(388734 * At.tempV alt dev / 100).toNat<=144000000:=by omega
  show 0<=((Fx.isq _:Nat):Int)∧_
  unfold At.soundV
  generalize Fx.isq (388734 * At.tempV alt dev / 100).toNat=r at *
  refine ⟨by omega,?_⟩
  have hr:r<=12000:=by
   rcases Nat.lt_or_ge 12000 r with h' | h'
   ·exfalso
    have:=Nat.mul_le_mul (show 12001<=r from h') (show 12001<=r from h')
    omega
   ·exact h'
  omega
 ·rw [if_neg h];omega
theorem Ua (n m:Int) (w:World):Calls Tryz.prog 67 #[vI n,vI m] w fun e w'=>e=.returned (.bool (inB n 0 m))∧w=w':=by
 have hv:=hid (show inB n 0 m=(decide (0<=n) && decide (n<=m)) from rfl)
 by_cases h1:n<0
 ·go_enter Tryz.func67,Tryz.ntmps67
  exact U2
 by_cases h2:m<n
 ·go_enter Tryz.func67,Tryz.ntmps67
  exact U2
 ·go_enter Tryz.func67,Tryz.ntmps67
  exact U2
theorem WY (n:Int) (w:World):Calls Tryz.prog 78 #[vI n] w fun e w'=>e=.returned (.bool (inB n 0 1000))∧w=w':=by
 have hv:=hid (show inB n 0 1000=(decide (0<=n) && decide (n<=1000)) from rfl)
 by_cases h1:n<0
 ·go_enter Tryz.func78,Tryz.ntmps78
  exact U2
 by_cases h2:1000<n
 ·go_enter Tryz.func78,Tryz.ntmps78
  exact U2
 ·go_enter Tryz.func78,Tryz.ntmps78
  exact U2
theorem AeR (cas alt dev:Int) (w:World):Calls Tryz.prog 68 #[vI cas,vI alt,vI dev] w fun e w'=>e=.returned (.tuple #[vI (tsV cas alt dev),vI (tsE cas alt dev)])∧Below w.heap.size w w':=by
 have HI:=hid (fun w=>Ua cas 1000 w);have HR:=hid (fun w=>AbT alt dev w)
 have HE:=hid (show tsE cas alt dev=if inB cas 0 1000=true then tE alt dev else 1 from rfl)
 have HV:=hid (show tsV cas alt dev=if tsE cas alt dev=0 then cas * rtV alt dev / 1000000 else 0 from rfl)
 have hr:=PD alt dev;generalize tsV cas alt dev=V at *;generalize tsE cas alt dev=E at *
 cases hc:inB cas 0 1000
 ·rw [hc] at HI HE
  have HE1:=hid (HE.out.trans (if_neg (by decide)));have HV1:=hid (HV.out.trans (if_neg (by rw [HE1.out];decide)));clear HE HV hc
  go_enter Tryz.func68,Tryz.ntmps68
  exact RG
 rw [hc] at HI HE
 have hb:=Al.1 hc;obtain ⟨b1,b2⟩:=hb;obtain ⟨r1,r2⟩:=hr
 by_cases he:tE alt dev=0
 ·rw [he] at HE HR
  have HE1:=hid (HE.out.trans (if_pos rfl));have HV1:=hid (HV.out.trans (if_pos HE1.out));generalize rtV alt dev=R at *;have m1:0<=cas * R:=BM b1 r1;have m2:cas * R<=1000 * 3500000:=Int.mul_le_mul b2 r2 r1 (by decide);clear HE HV hc he
  go_enter Tryz.func68,Tryz.ntmps68
  exact Yr
 ·have e1:=Aw he
  have e2:=AL e1;have HE1:=hid (HE.out.trans (if_pos rfl));have HV1:=hid (HV.out.trans (if_neg (by rw [HE1.out];exact he)));clear HE HV hc he;generalize tE alt dev=E' at *
  go_enter Tryz.func68,Tryz.ntmps68
  exact Yr
theorem Aet (cas alt dev:Int) (w:World):Calls Tryz.prog 79 #[vI cas,vI alt,vI dev] w fun e w'=>e=.returned (.tuple #[vI (tsV cas alt dev),vI (tsE cas alt dev)])∧Below w.heap.size w w':=by
 have HI:=hid (fun w=>WY cas w);have HR:=hid (fun w=>AcK alt dev w)
 have HE:=hid (show tsE cas alt dev=if inB cas 0 1000=true then tE alt dev else 1 from rfl)
 have HV:=hid (show tsV cas alt dev=if tsE cas alt dev=0 then cas * rtV alt dev / 1000000 else 0 from rfl)
 have hr:=PD alt dev;generalize tsV cas alt dev=V at *;generalize tsE cas alt dev=E at *
 cases hc:inB cas 0 1000
 ·rw [hc] at HI HE
  have HE1:=hid (HE.out.trans (if_neg (by decide)));have HV1:=hid (HV.out.trans (if_neg (by rw [HE1.out];decide)));clear HE HV hc
  go_enter Tryz.func79,Tryz.ntmps79
  exact RG
 rw [hc] at HI HE
 have hb:=Al.1 hc;obtain ⟨b1,b2⟩:=hb;obtain ⟨r1,r2⟩:=hr
 by_cases he:tE alt dev=0
 ·rw [he] at HE HR
  have HE1:=hid (HE.out.trans (if_pos rfl));have HV1:=hid (HV.out.trans (if_pos HE1.out));generalize rtV alt dev=R at *;have m1:0<=cas * R:=BM b1 r1;have m2:cas * R<=1000 * 3500000:=Int.mul_le_mul b2 r2 r1 (by decide);clear HE HV hc he
  go_enter Tryz.func79,Tryz.ntmps79
  exact Yr
 ·have e1:=Aw he
  have e2:=AL e1;have HE1:=hid (HE.out.trans (if_pos rfl));have HV1:=hid (HV.out.trans (if_neg (by rw [HE1.out];exact he)));clear HE HV hc he;generalize tE alt dev=E' at *
  go_enter Tryz.func79,Tryz.ntmps79
  exact Yr
theorem RZ (X:Int) (h0:0<=X) (h1:X<=100000000):Fx.scV 1 X 1 16000=(X+15999) / 16000∧Fx.scE 1 X 1 16000=0:=by
 have e1:(X+15999) / 16000 = -((-X) / 16000):=by omega
 have e2:Fx.rqz 1 (X * 1) 16000=(X+15999) / 16000:=by
  unfold Fx.rqz Fx.rq
  rw [if_neg (by omega),if_neg (by decide),if_pos rfl,Int.mul_one,e1]
 rw [Fx.scV_eq 1 X 1 16000 (by omega),Fx.scE_eq 1 X 1 16000 (by omega),e2]
 constructor <;> (rw [if_pos];unfold Fx.inR;omega)
theorem ZX (X:Int) (h0:0<=X) (h1:X<=100000000) (w:World):Calls Tryz.prog 103 #[vI X,vI 16000] w fun e w'=>e=.returned (.tuple #[vI ((X+15999) / 16000),vI 0])∧∃ n,w'=w.drewN n:=by
 have h:=xCeil X 16000 ⟨by omega,by omega⟩ ⟨by omega,by omega⟩ w
 rw [(RZ X h0 h1).1,(RZ X h0 h1).2] at h
 exact h
theorem Aev (a:Int) (h0:0<=a) (h1:a<=100000000) (w:World):Calls Tryz.prog 147 #[vI a,vI 16000] w fun e w'=>e=.returned (vI ((a+15999) / 16000))∧w=w':=by
 go_enter Tryz.func147,Tryz.ntmps147
 go_wp2
 go_ret
 exact ⟨Af (by congr 1;omega),rfl⟩
theorem Z7 (m alt dev:Int) (w:World):Calls Tryz.prog 69 #[vI m,vI alt,vI dev] w fun e w'=>e=.returned (.tuple #[vI (omV m alt dev),vI (omE m alt dev)])∧Below w.heap.size w w':=by
 have HI:=hid (fun w=>Ua m 2000 w);have HR:=hid (fun w=>AbU alt dev w)
 have HE:=hid (show omE m alt dev=if inB m 0 2000=true then tE alt dev else 1 from rfl)
 have HV:=hid (show omV m alt dev=if omE m alt dev=0 then (m * sdV alt dev+15999) / 16000 else 0 from rfl)
 have hr:=Tt alt dev;generalize omV m alt dev=V at *;generalize omE m alt dev=E at *
 cases hc:inB m 0 2000
 ·rw [hc] at HI HE
  clear hc;have HE1:=hid (HE.out.trans (if_neg (by simp)));have HV1:=hid (HV.out.trans (if_neg (by rw [HE1.out];decide)));clear HE HV
  go_enter Tryz.func69,Tryz.ntmps69
  exact RG
 rw [hc] at HI HE
 obtain ⟨b1,b2⟩:=Al.1 hc;obtain ⟨r1,r2⟩:=hr
 by_cases he:tE alt dev=0
 ·rw [he] at HE HR
  have HE1:=hid (HE.out.trans (if_pos rfl));have HV1:=hid (HV.out.trans (if_pos HE1.out));generalize sdV alt dev=S at *;have m1:0<=m * S:=BM b1 r1;have m2:m * S<=2000 * 12000:=Int.mul_le_mul b2 r2 r1 (by decide);have HU:=hid (fun w=>ZX (m * S) m1 (by omega) w);clear HE HV hc he
  go_enter Tryz.func69,Tryz.ntmps69
  go_wp2_with fail
  refine (HI.out _).mono ?_;rintro e w1 ⟨rfl,rfl⟩
  go_wp2_with fail
  refine (HR.out _).mono ?_;rintro e w1 ⟨rfl,hB⟩
  have HB:=hid hB;clear hB
  go_wp2_with fail
  refine (HU.out _).mono ?_;rintro e w2 ⟨rfl,q,rfl⟩
  go_wp2_with fail
  go_ret2
  exact ⟨Ay HV1.out.symm HE1.out.symm,Ag HB.out q⟩
 ·have e1:=Aw he
  have e2:=AL e1;have HE1:=hid (HE.out.trans (if_pos rfl));have HV1:=hid (HV.out.trans (if_neg (by rw [HE1.out];exact he)));clear HE HV hc he;generalize tE alt dev=E' at *
  go_enter Tryz.func69,Tryz.ntmps69
  exact Yr
theorem Zn (m alt dev:Int) (w:World):Calls Tryz.prog 80 #[vI m,vI alt,vI dev] w fun e w'=>e=.returned (.tuple #[vI (omV m alt dev),vI (omE m alt dev)])∧Below w.heap.size w w':=by
 have HR:=hid (fun w=>AcM alt dev w)
 have HE:=hid (show omE m alt dev=if inB m 0 2000=true then tE alt dev else 1 from rfl)
 have HV:=hid (show omV m alt dev=if omE m alt dev=0 then (m * sdV alt dev+15999) / 16000 else 0 from rfl)
 have hr:=Tt alt dev;generalize omV m alt dev=V at *;generalize omE m alt dev=E at *
 by_cases c1:m<0
 ·have hc:inB m 0 2000=false:=Dz.2 (by omega)
  rw [hc] at HE
  clear hc;have HE1:=hid (HE.out.trans (if_neg (by simp)));have HV1:=hid (HV.out.trans (if_neg (by rw [HE1.out];decide)));clear HE HV
  go_enter Tryz.func80,Tryz.ntmps80
  exact Adb
 by_cases c2:2000<m
 ·have hc:inB m 0 2000=false:=Dz.2 (by omega)
  rw [hc] at HE
  clear hc;have HE1:=hid (HE.out.trans (if_neg (by simp)));have HV1:=hid (HV.out.trans (if_neg (by rw [HE1.out];decide)));clear HE HV
  go_enter Tryz.func80,Tryz.ntmps80
  exact Adb
 have hc:inB m 0 2000=true:=Al.2 (by omega)
 have b1:0<=m:=by omega
 have b2:m<=2000:=by omega
 clear c1 c2
 rw [hc] at HE
 obtain ⟨r1,r2⟩:=hr
 by_cases he:tE alt dev=0
 ·rw [he] at HE HR
  have HE1:=hid (HE.out.trans (if_pos rfl));have HV1:=hid (HV.out.trans (if_pos HE1.out));generalize sdV alt dev=S at *;have m1:0<=m * S:=BM b1 r1;have m2:m * S<=2000 * 12000:=Int.mul_le_mul b2 r2 r1 (by decide);have HU:=hid (fun w=>Aev (m * S) m1 (by omega) w);clear HE HV hc he
  go_enter Tryz.func80,Tryz.ntmps80
  go_wp2_with fail
  refine (HR.out _).mono ?_;rintro e w1 ⟨rfl,hB⟩
  have HB:=hid hB;clear hB
  go_wp2_with fail
  refine (HU.out _).mono ?_;rintro e w2 ⟨rfl,rfl⟩
  exact U1
 ·have e1:=Aw he
  have e2:=AL e1;have HE1:=hid (HE.out.trans (if_pos rfl));have HV1:=hid (HV.out.trans (if_neg (by rw [HE1.out];exact he)));clear HE HV hc he;generalize tE alt dev=E' at *
  go_enter Tryz.func80,Tryz.ntmps80
  go_wp2_with fail
  refine (HR.out _).mono ?_;rintro e w1 ⟨rfl,hB⟩
  have HB:=hid hB;clear hB
  exact U1
theorem XZ (cas m alt dev:Int) (w:World):Calls Tryz.prog 19 #[vI cas,vI m,vI alt,vI dev] w fun e w'=>e=.returned (.tuple #[vI (Ck cas m alt dev),vI (He cas m alt dev)])∧Below w.heap.size w w':=by
 have HI:=hid (fun w=>Ua cas 1000 w);have HJ:=hid (fun w=>Ua m 2000 w);have HT:=hid (fun w=>AeR cas alt dev w);have HO:=hid (fun w=>Z7 m alt dev w)
 have HE:=hid (show He cas m alt dev=if inB cas 0 1000=true∧inB m 0 2000=true then tE alt dev else 1 from rfl)
 have HV:=hid (show Ck cas m alt dev=if He cas m alt dev=0 then min (tsV cas alt dev) (omV m alt dev) else 0 from rfl)
 have HTE:=hid (show tsE cas alt dev=if inB cas 0 1000=true then tE alt dev else 1 from rfl)
 have HOE:=hid (show omE m alt dev=if inB m 0 2000=true then tE alt dev else 1 from rfl)
 generalize Ck cas m alt dev=V at *;generalize He cas m alt dev=E at *;generalize tsE cas alt dev=ET at *;generalize omE m alt dev=EO at *
 cases hc:inB cas 0 1000
 ·rw [hc] at HI HE
  clear hc;have HE1:=hid (HE.out.trans (if_neg (by simp)));have HV1:=hid (HV.out.trans (if_neg (by rw [HE1.out];decide)));clear HE HV
  go_enter Tryz.func19,Tryz.ntmps19
  exact RG
 rw [hc] at HI HE HTE
 cases hm:inB m 0 2000
 ·rw [hm] at HJ HE
  clear hm;have HE1:=hid (HE.out.trans (if_neg (by simp)));have HV1:=hid (HV.out.trans (if_neg (by rw [HE1.out];decide)));clear HE HV
  go_enter Tryz.func19,Tryz.ntmps19
  go_wp2_with fail
  refine (HI.out _).mono ?_;rintro e w1 ⟨rfl,rfl⟩
  go_wp2_with fail
  refine (HJ.out _).mono ?_;rintro e w1 ⟨rfl,rfl⟩
  exact Adb
 rw [hm] at HJ HE
 rw [hm] at HOE
 have ht:=HTE.out.trans (if_pos rfl);have ho:=HOE.out.trans (if_pos rfl)
 rw [ht] at HT
 rw [ho] at HO
 clear HTE HOE ht ho;have HE1:=hid (HE.out.trans (if_pos ⟨rfl,rfl⟩))
 by_cases he:tE alt dev=0
 ·rw [he] at HT HO HE1
  have HV1:=hid (HV.out.trans (if_pos HE1.out));generalize tsV cas alt dev=VT at *;generalize omV m alt dev=VO at *;clear HE HV hc hm he
  go_enter Tryz.func19,Tryz.ntmps19
  go_wp2_with fail
  refine (HI.out _).mono ?_;rintro e w1 ⟨rfl,rfl⟩
  go_wp2_with fail
  refine (HJ.out _).mono ?_;rintro e w1 ⟨rfl,rfl⟩
  go_wp2_with fail
  refine (HT.out _).mono ?_;rintro e w1 ⟨rfl,hB⟩
  have HB:=hid hB;clear hB
  go_wp2_with fail
  refine (HO.out _).mono ?_;rintro e w2 ⟨rfl,hB⟩
  replace HB:=hid (Ae HB.out hB);clear hB
  exact U1
 ·have e1:=Aw he
  have e2:=AL e1;have HV1:=hid (HV.out.trans (if_neg (by rw [HE1.out];exact he)));clear HE HV hc hm he;generalize tE alt dev=E' at *;generalize tsV cas alt dev=VT at *
  go_enter Tryz.func19,Tryz.ntmps19
  go_wp2_with fail
  refine (HI.out _).mono ?_;rintro e w1 ⟨rfl,rfl⟩
  go_wp2_with fail
  refine (HJ.out _).mono ?_;rintro e w1 ⟨rfl,rfl⟩
  go_wp2_with fail
  refine (HT.out _).mono ?_;rintro e w1 ⟨rfl,hB⟩
  have HB:=hid hB;clear hB
  exact U1
theorem QU (cas m alt dev:Int) (w:World):Calls Tryz.prog 25 #[vI cas,vI m,vI alt,vI dev] w fun e w'=>e=.returned (.tuple #[vI (Ck cas m alt dev),vI (He cas m alt dev)])∧Below w.heap.size w w':=by
 have HI:=hid (fun w=>WY cas w);have HT:=hid (fun w=>Aet cas alt dev w);have HO:=hid (fun w=>Zn m alt dev w)
 have HE:=hid (show He cas m alt dev=if inB cas 0 1000=true∧inB m 0 2000=true then tE alt dev else 1 from rfl)
 have HV:=hid (show Ck cas m alt dev=if He cas m alt dev=0 then min (tsV cas alt dev) (omV m alt dev) else 0 from rfl)
 have HTE:=hid (show tsE cas alt dev=if inB cas 0 1000=true then tE alt dev else 1 from rfl)
 have HOE:=hid (show omE m alt dev=if inB m 0 2000=true then tE alt dev else 1 from rfl)
 generalize Ck cas m alt dev=V at *;generalize He cas m alt dev=E at *;generalize tsE cas alt dev=ET at *;generalize omE m alt dev=EO at *
 cases hc:inB cas 0 1000
 ·rw [hc] at HI HE
  clear hc;have HE1:=hid (HE.out.trans (if_neg (by simp)));have HV1:=hid (HV.out.trans (if_neg (by rw [HE1.out];decide)));clear HE HV
  go_enter Tryz.func25,Tryz.ntmps25
  exact RG
 rw [hc] at HI HE HTE
 by_cases c1:m<0
 ·have hm:inB m 0 2000=false:=Dz.2 (by omega)
  rw [hm] at HE
  clear hm;have HE1:=hid (HE.out.trans (if_neg (by simp)));have HV1:=hid (HV.out.trans (if_neg (by rw [HE1.out];decide)));clear HE HV
  go_enter Tryz.func25,Tryz.ntmps25
  exact RG
 by_cases c2:2000<m
 ·have hm:inB m 0 2000=false:=Dz.2 (by omega)
  rw [hm] at HE
  clear hm;have HE1:=hid (HE.out.trans (if_neg (by simp)));have HV1:=hid (HV.out.trans (if_neg (by rw [HE1.out];decide)));clear HE HV
  go_enter Tryz.func25,Tryz.ntmps25
  exact RG
 have hm:inB m 0 2000=true:=Al.2 (by omega)
 have b1:0<=m:=by omega
 have b2:m<=2000:=by omega
 clear c1 c2
 rw [hm] at HE
 rw [hm] at HOE
 have ht:=HTE.out.trans (if_pos rfl);have ho:=HOE.out.trans (if_pos rfl)
 rw [ht] at HT
 rw [ho] at HO
 clear HTE HOE ht ho;have HE1:=hid (HE.out.trans (if_pos ⟨rfl,rfl⟩))
 by_cases he:tE alt dev=0
 ·rw [he] at HT HO HE1
  have HV1:=hid (HV.out.trans (if_pos HE1.out));generalize tsV cas alt dev=VT at *;generalize omV m alt dev=VO at *;clear HE HV hc hm he
  go_enter Tryz.func25,Tryz.ntmps25
  go_wp2_with fail
  refine (HI.out _).mono ?_;rintro e w1 ⟨rfl,rfl⟩
  go_wp2_with fail
  refine (HT.out _).mono ?_;rintro e w1 ⟨rfl,hB⟩
  have HB:=hid hB;clear hB
  go_wp2_with fail
  refine (HO.out _).mono ?_;rintro e w2 ⟨rfl,hB⟩
  replace HB:=hid (Ae HB.out hB);clear hB
  exact U1
 ·have e1:=Aw he
  have e2:=AL e1;have HV1:=hid (HV.out.trans (if_neg (by rw [HE1.out];exact he)));clear HE HV hc hm he;generalize tE alt dev=E' at *;generalize tsV cas alt dev=VT at *
  go_enter Tryz.func25,Tryz.ntmps25
  go_wp2_with fail
  refine (HI.out _).mono ?_;rintro e w1 ⟨rfl,rfl⟩
  go_wp2_with fail
  refine (HT.out _).mono ?_;rintro e w1 ⟨rfl,hB⟩
  have HB:=hid hB;clear hB
  exact U1
open Go.RowKit Sp
theorem IU:(Tryz.prog.info? 136).map (fun i=>(i.zero,i.size,i.bytes))=some (some (.agg #[vI 0,vI 0]),2,16):=by kernel_rfl
def FY (l:List (Int × Int)) (n:Nat) (E:Int) (w:World) (e:Ending) (w':World):Prop:=∃ A c,e=.returned (.tuple #[.slice A n c,vI E])∧Pairs w' A n l∧BS A n c∧Below w.heap.size w w'
theorem Ca {l:List (Int × Int)} {n:Nat} {E E':Int} {w w':World} (hE:E=E') (h0:E'≠0) (hb:Below w.heap.size w w'):FY (okL E l) (okN E n) E w (.returned (.tuple #[.slice none 0 0,vI E'])) w':=by
 subst hE
 unfold okL okN
 rw [if_neg h0,if_neg h0]
 exact ⟨none,0,rfl,Recs.nil _ _ _,⟨Bn _,Nat.zero_le _,fun _=>rfl⟩,hb⟩
theorem MB {l:List Int} {n:Nat} {E E':Int} {w w':World} (hE:E=E') (h0:E'≠0) (hb:Below w.heap.size w w'):JJ (okL E l) (okN E n) E w (.returned (.tuple #[.slice none 0 0,vI E'])) w':=by
 subst hE
 unfold okL okN
 rw [if_neg h0,if_neg h0]
 exact ⟨none,0,rfl,Ints.nil _,hb⟩
theorem IY {l:List (Int × Int)} {n:Nat} {E:Int} {w w':World} {e:Ending} (hE:E=0) (h:∃ A c,e=.returned (.tuple #[.slice A n c,vI 0])∧Pairs w' A n l∧BS A n c) (hb:Below w.heap.size w w'):FY (okL E l) (okN E n) E w e w':=by
 subst hE;obtain ⟨A,c,h1,h2,h3⟩:=h
 exact ⟨A,c,h1,h2,h3,hb⟩
theorem Xr {l:List Int} {n:Nat} {E:Int} {w w':World} {e:Ending} (hE:E=0) (h:∃ A c,e=.returned (.tuple #[.slice A n c,vI 0])∧Ints w' A n l) (hb:Below w.heap.size w w'):JJ (okL E l) (okN E n) E w e w':=by
 subst hE;obtain ⟨A,c,h1,h2⟩:=h
 exact ⟨A,c,h1,h2,hb⟩
theorem Hy {α β:Type} {l:List α} {f:α→β} {k:Nat} {x:α} (h:l[k]? = some x):(l.map f).take (k+1)=(l.map f).take k ++ [f x]:=Aq _ k _ (by rw [List.getElem?_map,h];rfl)
theorem PT {α:Type} {l:List α} {n k:Nat} (h:l.length=n) (hk:k<=n):(l.take k).length=k:=by rw [List.length_take];omega
theorem GM (x:Int) (h:okV x) (w:World):Calls Tryz.prog 186 #[vI x] w fun e w'=>e=.returned (.bool true)∧w=w':=by
 obtain ⟨h0,h1⟩:=h
 exact Yu
theorem Od (x:Int) (h:¬ okV x) (w:World):Calls Tryz.prog 186 #[vI x] w fun e w'=>e=.returned (.bool false)∧w=w':=by
 have h':x<0∨1000<x:=by unfold okV at h;omega
 clear h
 rcases h' with h | h
 ·have h0:¬ 0<=x:=by omega
  exact Yu
 ·have h0:0<=x:=by omega
  have h1:¬ x<=1000:=by omega
  exact Yu
theorem YP (x:Int) (h:Pf.okD x) (w:World):Calls Tryz.prog 187 #[vI x] w fun e w'=>e=.returned (.bool true)∧w=w':=by
 obtain ⟨h0,h1⟩:=h
 exact Yt
theorem Ab5 (x:Int) (h:¬ Pf.okD x) (w:World):Calls Tryz.prog 187 #[vI x] w fun e w'=>e=.returned (.bool false)∧w=w':=by
 have h':x<0∨8000000<x:=by unfold Pf.okD at h;omega
 clear h
 rcases h' with h | h
 ·have h0:¬ 0<=x:=by omega
  exact Yt
 ·have h0:0<=x:=by omega
  have h1:¬ x<=8000000:=by omega
  exact Yt
def Aam (n:Nat) (d:List Int) (a c:Int) (w:World) (v t:Value) (wr:World):Prop:=∃ k:Nat,k<=n∧t=vI k∧(∀ x ∈ d.take k,Pf.okD x)∧Own win 2 136 w ((stL d a c).take k) v wr
theorem Af7 (A:Option Addr) (n cn:Nat) (d:List Int) (a c:Int) (w:World) (hd:Ints w A n d) (hn:n<=maxLen) :
  Calls Tryz.prog 113 #[.slice A n cn,vI a,vI c] w (FY (okL (stE d a c) (stL d a c)) (okN (stE d a c) n) (stE d a c) w):=by
 unfold maxLen at hn
 obtain ⟨i0,hi,hz0,hz1,hz2⟩:=info_parts IU;have HD:=hid hd;have HL:=hid hd.len
 by_cases h64:64<=n
 ·have HX:=hid (Aa8 (a:=a) (c:=c) (show 64<=d.length by rw [hd.len];exact h64))
  clear hd
  go_enter Tryz.func113,Tryz.ntmps113
  exact P9
 ·have hnl:=hid (show ¬ 64<=d.length by rw [hd.len];exact h64)
  clear hd
  by_cases ha:okV a
  ·by_cases hc:okV c
   ·have HA:=hid (And.intro ha hc)
    obtain ⟨a0,a1⟩:=ha;obtain ⟨c0,c1⟩:=hc
    go_enter Tryz.func113,Tryz.ntmps113
    go_wp2_with fail
    refine (GM a HA.out.1 _).mono ?_;rintro e wx ⟨rfl,rfl⟩
    go_wp2_with fail
    refine (GM c HA.out.2 _).mono ?_;rintro e wx ⟨rfl,rfl⟩
    go_wp2_with fail
    go_loopw [8,24] (fun v t wr=>Aam n d a c w v t wr) (fun _ t _=>n - (intOf t).toNat)
    case atStart=>exact ⟨0,by omega,rfl,by simp,Own.start _ _ _ _⟩
    case round =>
     obtain ⟨k,hk,rfl,hall,hO⟩:=hrel;have HALL:=hid hall;have HO:=hid hO;clear hall hO
     by_cases hlt:k<n
     ·obtain ⟨x,hx⟩:=Am HL.out hlt
      obtain ⟨b,off,rfl,hb,cx0⟩:=BZ HD.out hx;have cx:=(HO.out.bel.cell (p:=⟨b,off+k,none⟩) hb).trans cx0;have HX:=hid hx;clear hx cx0
      by_cases hin:Pf.okD x
      ·have HI:=hid hin
       obtain ⟨p0,p1,p2,p3⟩:=st_prod HA.out.1 hin;obtain ⟨r0,r1,r2,r3⟩:=st_prod HA.out.2 hin;obtain ⟨x0,x1⟩:=hin;have e1:=iW (a * x);have e2:=iW (c * x);have hlen:=hid (PT (k:=k) (show (stL d a c).length=n by unfold stL;rw [List.length_map];exact HL.out) hk)
       have hlen2:((stL d a c).take k).length<=64:=by rw [hlen.out];omega
       have HN:=hid (Hy (f:=stF a c) HX.out);generalize hLL:(stL d a c).take k=LL at *;have HLL:=hid hLL;clear hLL
       go_wp2_with fail
       refine (YP x HI.out _).mono ?_;rintro e wx ⟨rfl,rfl⟩
       go_wp2_with (at_builtin;refine wpList_append_own _ rfl _ _ 89 rfl w.heap.size 136 i0 (.agg #[vI 0,vI 0]) 2 16 Tryz.underlying89 hi hz0 hz1 hz2 rfl (by decide) _ _ _ rfl (HO.out.own.alloc _) ⟨wr.heap.size,0,none⟩ 1 1 (lz2 (a * x / 6000) (c * x / 6000)) rfl rfl (AY _ _ rfl _ _ _ rfl) (by intro u hu;simp at hu;rcases hu with rfl | rfl <;> rfl) (by unfold maxLen;omega) (by omega) (by have:=HO.out.bel.size;simp;omega) ?_;intro v1 w3 hown1 hgrow1 hnil1)
       go_roundw
       case rel=>exact ⟨k+1,by omega,by go_num,Gq HALL.out HX.out HI.out,by show Own win 2 136 w ((d.map (stF a c)).take (k+1)) _ _;rw [HN.out];have h:=HO.out.next (x:=stF a c x) hown1 hgrow1;rw [← HLL.out] at h;exact h⟩
       case measure=>exact zMs
      ·have HE:=hid (Aa9 (a:=a) (c:=c) hnl.out HA.out (Au HX.out) hin)
       have HI:=hid hin;clear hin
       go_wp2_with fail
       refine (Ab5 x HI.out _).mono ?_;rintro e wx ⟨rfl,rfl⟩
       go_wp2_with fail
       go_ret2
       exact Ca HE.out (by decide) HO.out.bel
     ·have hkn:=hid (show k=n by omega)
      exact AeZ
   ·have HX:=hid (Tz (a:=a) (c:=c) hnl.out (fun h=>hc h.2))
    have HV:=hid hc;have HA:=hid ha;clear ha;clear hc
    go_enter Tryz.func113,Tryz.ntmps113
    go_wp2_with fail
    refine (GM a HA.out _).mono ?_;rintro e wx ⟨rfl,rfl⟩
    go_wp2_with fail
    refine (Od c HV.out _).mono ?_;rintro e wx ⟨rfl,rfl⟩
    exact P9
  ·have HX:=hid (Tz (a:=a) (c:=c) hnl.out (fun h=>ha h.1))
   have HV:=hid ha;clear ha
   go_enter Tryz.func113,Tryz.ntmps113
   go_wp2_with fail
   refine (Od a HV.out _).mono ?_;rintro e wx ⟨rfl,rfl⟩
   exact P9
theorem Xe (A:Option Addr) (n cn:Nat) (d:List Int) (a c:Int) (w:World) (hd:Ints w A n d) (hn:n<=maxLen) :
  Calls Tryz.prog 34 #[.slice A n cn,vI a,vI c] w (FY (okL (stE d a c) (stL d a c)) (okN (stE d a c) n) (stE d a c) w):=by
 unfold maxLen at hn
 obtain ⟨i0,hi,hz0,hz1,hz2⟩:=info_parts IU;have HD:=hid hd;have HL:=hid hd.len
 by_cases h64:64<=n
 ·have HX:=hid (Aa8 (a:=a) (c:=c) (show 64<=d.length by rw [hd.len];exact h64))
  clear hd
  go_enter Tryz.func34,Tryz.ntmps34
  exact P9
 ·have hnl:=hid (show ¬ 64<=d.length by rw [hd.len];exact h64)
  clear hd
  by_cases ha:okV a
  ·by_cases hc:okV c
   ·have HA:=hid (And.intro ha hc)
    obtain ⟨a0,a1⟩:=ha;obtain ⟨c0,c1⟩:=hc
    go_enter Tryz.func34,Tryz.ntmps34
    go_wp2_with fail
    go_loopw [8,30] (fun v t wr=>Aam n d a c w v t wr) (fun _ t _=>n - (intOf t).toNat)
    case atStart=>exact ⟨0,by omega,rfl,by simp,Own.start _ _ _ _⟩
    case round =>
     obtain ⟨k,hk,rfl,hall,hO⟩:=hrel;have HALL:=hid hall;have HO:=hid hO;clear hall hO
     by_cases hlt:k<n
     ·obtain ⟨x,hx⟩:=Am HL.out hlt
      obtain ⟨b,off,rfl,hb,cx0⟩:=BZ HD.out hx;have cx:=(HO.out.bel.cell (p:=⟨b,off+k,none⟩) hb).trans cx0;have HX:=hid hx;clear hx cx0
      by_cases hin:Pf.okD x
      ·have HI:=hid hin
       obtain ⟨p0,p1,p2,p3⟩:=st_prod HA.out.1 hin;obtain ⟨r0,r1,r2,r3⟩:=st_prod HA.out.2 hin;obtain ⟨x0,x1⟩:=hin;have e1:=iW (a * x);have e2:=iW (c * x);have hlen:=hid (PT (k:=k) (show (stL d a c).length=n by unfold stL;rw [List.length_map];exact HL.out) hk)
       have hlen2:((stL d a c).take k).length<=64:=by rw [hlen.out];omega
       have HN:=hid (Hy (f:=stF a c) HX.out);generalize hLL:(stL d a c).take k=LL at *;have HLL:=hid hLL;clear hLL
       go_wp2_with (at_builtin;refine wpList_append_own _ rfl _ _ 89 rfl w.heap.size 136 i0 (.agg #[vI 0,vI 0]) 2 16 Tryz.underlying89 hi hz0 hz1 hz2 rfl (by decide) _ _ _ rfl (HO.out.own.alloc _) ⟨wr.heap.size,0,none⟩ 1 1 (lz2 (a * x / 6000) (c * x / 6000)) rfl rfl (AY _ _ rfl _ _ _ rfl) (by intro u hu;simp at hu;rcases hu with rfl | rfl <;> rfl) (by unfold maxLen;omega) (by omega) (by have:=HO.out.bel.size;simp;omega) ?_;intro v1 w3 hown1 hgrow1 hnil1)
       go_roundw
       case rel=>exact ⟨k+1,by omega,by go_num,Gq HALL.out HX.out HI.out,by show Own win 2 136 w ((d.map (stF a c)).take (k+1)) _ _;rw [HN.out];have h:=HO.out.next (x:=stF a c x) hown1 hgrow1;rw [← HLL.out] at h;exact h⟩
       case measure=>exact zMs
      ·have HE:=hid (Aa9 (a:=a) (c:=c) hnl.out HA.out (Au HX.out) hin)
       have hin':x<0∨8000000<x:=by unfold Pf.okD at hin;omega
       clear hin
       rcases hin' with hin | hin
       ·go_wp2_with fail
        go_ret2
        exact Ca HE.out (by decide) HO.out.bel
       ·have hin2:¬ x<0:=by omega
        go_wp2_with fail
        go_ret2
        exact Ca HE.out (by decide) HO.out.bel
     ·have hkn:=hid (show k=n by omega)
      exact AeZ
   ·have HX:=hid (Tz (a:=a) (c:=c) hnl.out (fun h=>hc h.2))
    have h':c<0∨1000<c:=by unfold okV at hc;omega
    clear hc;obtain ⟨a0,a1⟩:=ha
    have b0:¬ a<0:=by omega
    have b1:¬ 1000<a:=by omega
    rcases h' with h | h
    ·go_enter Tryz.func34,Tryz.ntmps34
     exact P9
    ·have h2:¬ c<0:=by omega
     go_enter Tryz.func34,Tryz.ntmps34
     exact P9
  ·have HX:=hid (Tz (a:=a) (c:=c) hnl.out (fun h=>ha h.1))
   have h':a<0∨1000<a:=by unfold okV at ha;omega
   clear ha
   rcases h' with h | h
   ·go_enter Tryz.func34,Tryz.ntmps34
    exact P9
   ·have h2:¬ a<0:=by omega
    go_enter Tryz.func34,Tryz.ntmps34
    exact P9
