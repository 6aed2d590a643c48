/- M2: AtTRS, As, Sp in one text. -/
import Derived.Test.YtheepmnhpclimaaGreatM4
import Derived.Test.YtheepmnhpclimaaGreatM8
import Derived.Test.YtheepmnhpclimaaGreatM31
import Derived.Test.YtheepmnhpclimaaGreatM18
import Derived.Test.YtheepmnhpclimaaGreatM11
import Derived.Test.YtheepmnhpclimaaGreatM7
import Derived.RegionTactic
import Derived.BigRegion
import Derived.Deep.QuietTactic
import Derived.BigQuiet
set_option linter.unusedSimpArgs false
set_option linter.unusedVariables false
set_option maxRecDepth 100000
set_option maxHeartbeats 4000000
namespace Go.Proofs
theorem zM20 {G : Prop} (h : G := by
  go_wp2_with fail
  refine (HI.out _).mono ?_;rintro e w1 ⟨rfl,rfl⟩
  go_wp2_with fail
  refine (HR.out _).mono ?_;rintro e w1 ⟨rfl,hB⟩
  have HB:=hid hB;clear hB
  go_wp2_with fail
  go_ret2
  exact ⟨ret_tup2 HV1.out.symm HE1.out.symm,HB.out⟩) : G := h
theorem zM21 {G : Prop} (h : G := by
  go_wp2_with fail
  refine (HI.out _).mono ?_;rintro e w1 ⟨rfl,rfl⟩
  go_wp2_with fail
  go_ret2
  exact ⟨ret_tup2 HV1.out.symm HE1.out.symm,Below.refl _ _⟩) : G := h
theorem zM22 {G : Prop} (h : G := by
  go_wp2_with fail
  go_ret2
  exact ⟨ret_tup2 HV1.out.symm HE1.out.symm,Below.refl _ _⟩) : G := h
theorem zM23 {G : Prop} (h : G := by
  go_enter Tryz.func218,Tryz.ntmps218
  go_wp2_with fail
  refine (HO.out _).mono ?_;rintro e w' ⟨rfl,rfl⟩
  go_wp2_with fail
  go_ret
  exact ⟨ret_int hv.out.symm,rfl⟩) : G := h
theorem zM24 {G : Prop} (h : G := by
  go_wp2_with fail
  go_ret2
  exact ⟨ret_tup2 HV1.out.symm HE1.out.symm,HB.out⟩) : G := h
theorem zM25 {G : Prop} (h : G := by
  go_enter Tryz.func227,Tryz.ntmps227
  go_wp2_with fail
  go_ret
  exact ⟨ret_int hv.out.symm,rfl⟩) : G := h
theorem zM26 {G : Prop} (h : G := by
  go_wp2_with fail
  refine (HC.out _).mono ?_;rintro e w' ⟨rfl,rfl⟩
  go_wp2_with fail
  go_ret2
  exact ⟨ret_tup2 hv.out.symm rfl,Below.refl _ _⟩) : G := h
theorem zM27 {G : Prop} (h : G := by
  go_wp2
  go_ret
  exact ⟨ret_bool (by rw [hv.out,Bool.eq_iff_iff];simp;try omega),rfl⟩) : G := h
theorem zM28 {G : Prop} (h : G := by
  go_enter Tryz.func212,Tryz.ntmps212
  go_wp2_with fail
  go_ret
  exact ⟨rfl,rfl⟩) : G := h
theorem zM29 {G : Prop} (h : G := by
  go_enter Tryz.func211,Tryz.ntmps211
  go_wp2_with fail
  go_ret
  exact ⟨rfl,rfl⟩) : G := h
theorem zM210 {G : Prop} (h : G := by
  go_wp2_with fail
  refine (HC.out _).mono ?_;rintro e w1 ⟨rfl,hB⟩
  have HB:=hid hB;clear hB
  go_wp2_with fail
  refine (HS.out _).mono ?_;rintro e w' ⟨rfl,rfl⟩
  go_wp2_with fail
  go_ret2
  exact ⟨ret_tup2 hv.out.symm HE.out.symm,HB.out⟩) : G := h
theorem zM211 {G : Prop} (h : G := by
  go_wp2_with fail
  go_ret2
  exact ⟨ret_tup2 (by rw [hv.out];rfl) HE.out.symm,HBB.out⟩) : G := h
theorem zM212 {G : Prop} (h : G := by
  go_wp2_with fail
  refine (HC.out _).mono ?_;rintro e w1 ⟨rfl,hB⟩
  have HB:=hid hB;clear hB
  go_wp2_with fail
  go_ret2
  exact ⟨ret_tup2 hv.out.symm rfl,HB.out⟩) : G := h
theorem zM213 {G : Prop} (h : G := by
  go_wp2_with fail
  go_ret2
  exact prRes_err HX.out (by decide) (Below.refl _ _)) : G := h
end Go.Proofs
namespace Go.Proofs.YtheepmnhpclimaaGreat
open Go.RowKit
open Go.Lib (hid)
def inDev (d:Int):Prop := -4000<=d∧d<=4000
instance (d:Int):Decidable (inDev d):=by unfold inDev;infer_instance
def tE (alt dev:Int):Int:=if inAlt alt then (if inDev dev then 0 else 1) else 2
def tmV (alt dev:Int):Int:=if tE alt dev=0 then At.tempV alt dev else 0
def sdV (alt dev:Int):Int:=if tE alt dev=0 then At.soundV alt dev else 0
def rtV (alt dev:Int):Int:=if tE alt dev=0 then At.ratV alt dev else 0
theorem tE_2 {alt dev:Int} (h:¬ inAlt alt):tE alt dev=2:=by unfold tE;rw [if_neg h]
theorem tE_1 {alt dev:Int} (h:inAlt alt) (d:¬ inDev dev):tE alt dev=1:=by unfold tE;rw [if_pos h,if_neg d]
theorem tE_0 {alt dev:Int} (h:inAlt alt) (d:inDev dev):tE alt dev=0:=by unfold tE;rw [if_pos h,if_pos d]
theorem tE_zero {alt dev:Int} (h:tE alt dev=0):inAlt alt∧inDev dev:=by
 unfold tE at h
 by_cases h1:inAlt alt
 ·by_cases h2:inDev dev
  ·exact ⟨h1,h2⟩
  ·rw [if_pos h1,if_neg h2] at h;omega
 ·rw [if_neg h1] at h;omega
theorem temp_bd {alt dev:Int} (h1:inAlt alt) (h2:inDev dev):17665<=At.tempV alt dev∧At.tempV alt dev<=33211:=by
 have:=At.bdT alt h1.1 h1.2
 unfold inDev at h2
 unfold At.tempV
 omega
theorem rat_bd {alt dev:Int} (h1:inAlt alt) (h2:inDev dev):0<=At.vR alt * (57630+dev)∧At.vR alt * (57630+dev)<=3259100 * 61630:=by
 have b:=At.bdR alt h1.1 h1.2
 unfold inDev at h2
 exact ⟨Int.mul_nonneg (by omega) (by omega),Int.mul_le_mul b.2 (by omega) (by omega) (by omega)⟩
theorem checkAt_any (alt dev:Int) (w:World):Calls Tryz.prog 218 #[vI alt,vI dev] w fun e w'=>e=.returned (vI (tE alt dev))∧w=w':=by
 by_cases h:inAlt alt
 ·have HO:=hid (fun w=>outside_no alt h.1 h.2 w)
  by_cases d1:dev < -4000
  ·have hv:=hid (tE_1 (dev:=dev) h (fun d=>by unfold inDev at d;omega))
   clear h
   exact zM23
  ·by_cases d2:4000<dev
   ·have hv:=hid (tE_1 (dev:=dev) h (fun d=>by unfold inDev at d;omega))
    clear h
    exact zM23
   ·have hv:=hid (tE_0 (dev:=dev) h ⟨by omega,by omega⟩)
    clear h
    exact zM23
 ·have HO:=hid (fun w=>outside_yes alt (by unfold inAlt at h;omega) w)
  have hv:=hid (tE_2 (dev:=dev) h);clear h
  exact zM23
theorem ready_any (alt dev:Int) (w:World):Calls Tryz.prog 227 #[vI alt,vI dev] w fun e w'=>e=.returned (vI (tE alt dev))∧w=w':=by
 by_cases a1:alt < -200000
 ·have hv:=hid (tE_2 (alt:=alt) (dev:=dev) (fun h=>by unfold inAlt at h;omega))
  exact zM25
 ·by_cases a2:6000000<alt
  ·have hv:=hid (tE_2 (alt:=alt) (dev:=dev) (fun h=>by unfold inAlt at h;omega))
   exact zM25
  ·by_cases d1:dev < -4000
   ·have hv:=hid (tE_1 (alt:=alt) (dev:=dev) ⟨by omega,by omega⟩ (fun d=>by unfold inDev at d;omega))
    exact zM25
   ·by_cases d2:4000<dev
    ·have hv:=hid (tE_1 (alt:=alt) (dev:=dev) ⟨by omega,by omega⟩ (fun d=>by unfold inDev at d;omega))
     exact zM25
    ·have hv:=hid (tE_0 (alt:=alt) (dev:=dev) ⟨by omega,by omega⟩ ⟨by omega,by omega⟩)
     exact zM25
theorem aTemperature (alt dev:Int) (w:World):Calls Tryz.prog 221 #[vI alt,vI dev] w fun e w'=>e=.returned (.tuple #[vI (tmV alt dev),vI (tE alt dev)])∧Below w.heap.size w w':=by
 have HC:=hid (fun w=>checkAt_any alt dev w)
 by_cases he:tE alt dev=0
 ·have hv:=hid (show tmV alt dev=At.tempV alt dev by unfold tmV;rw [if_pos he])
  have hI:=tE_zero he;have bt:=temp_bd hI.1 hI.2;have bv:=At.bdT alt hI.1.1 hI.1.2;have bd:=hI.2
  unfold inDev at bd
  obtain ⟨bt1,bt2⟩:=bt;obtain ⟨bv1,bv2⟩:=bv;obtain ⟨bd1,bd2⟩:=bd;have HI:=hid hI;have HE:=hid he
  rw [he] at HC
  clear hI he
  go_enter Tryz.func221,Tryz.ntmps221
  go_wp2_with fail
  refine (HC.out _).mono ?_;rintro e w' ⟨rfl,rfl⟩
  go_wp2_with fail
  refine (tabT_any _).mono ?_;rintro e w1 ⟨b,rfl,hT,hB⟩
  go_wp2_with fail
  refine (value_any b 0 4 4 At.tabT alt w1 rfl okT hT HI.out.1.1 HI.out.1.2).mono ?_;rintro e w2 ⟨rfl,hB2⟩
  rw [At.tv_T]
  have HBB:=hid (hB.trans (hB2.mono hB.size))
  exact zM211
 ·have hv:=hid (show tmV alt dev=0 by unfold tmV;rw [if_neg he])
  have hb:(tE alt dev == 0)=false:=beq_eq_false_iff_ne.2 he;clear he;generalize tE alt dev=E at *
  go_enter Tryz.func221,Tryz.ntmps221
  exact zM26
theorem aRatio (alt dev:Int) (w:World):Calls Tryz.prog 175 #[vI alt,vI dev] w fun e w'=>e=.returned (.tuple #[vI (rtV alt dev),vI (tE alt dev)])∧Below w.heap.size w w':=by
 have HC:=hid (fun w=>checkAt_any alt dev w)
 by_cases he:tE alt dev=0
 ·have hv:=hid (show rtV alt dev=At.ratV alt dev by unfold rtV;rw [if_pos he])
  have hI:=tE_zero he;have bt:=rat_bd hI.1 hI.2;have bv:=At.bdR alt hI.1.1 hI.1.2;have bd:=hI.2
  unfold inDev at bd
  obtain ⟨bt1,bt2⟩:=bt;obtain ⟨bv1,bv2⟩:=bv;obtain ⟨bd1,bd2⟩:=bd;have HI:=hid hI;have HE:=hid he
  rw [he] at HC
  clear hI he
  go_enter Tryz.func175,Tryz.ntmps175
  go_wp2_with fail
  refine (HC.out _).mono ?_;rintro e w' ⟨rfl,rfl⟩
  go_wp2_with fail
  refine (tabR_any _).mono ?_;rintro e w1 ⟨b,rfl,hT,hB⟩
  go_wp2_with fail
  refine (value_any b 0 14 14 At.tabR alt w1 rfl okR hT HI.out.1.1 HI.out.1.2).mono ?_;rintro e w2 ⟨rfl,hB2⟩
  rw [At.tv_R]
  have HBB:=hid (hB.trans (hB2.mono hB.size))
  exact zM211
 ·have hv:=hid (show rtV alt dev=0 by unfold rtV;rw [if_neg he])
  have hb:(tE alt dev == 0)=false:=beq_eq_false_iff_ne.2 he;clear he;generalize tE alt dev=E at *
  go_enter Tryz.func175,Tryz.ntmps175
  exact zM26
theorem aSound (alt dev:Int) (w:World):Calls Tryz.prog 176 #[vI alt,vI dev] w fun e w'=>e=.returned (.tuple #[vI (sdV alt dev),vI (tE alt dev)])∧Below w.heap.size w w':=by
 have HC:=hid (fun w=>aTemperature alt dev w)
 by_cases he:tE alt dev=0
 ·have hv:=hid (show sdV alt dev=sqV (388734 * At.tempV alt dev / 100) by unfold sdV;rw [if_pos he];rfl)
  have hI:=tE_zero he;obtain ⟨bt1,bt2⟩:=temp_bd hI.1 hI.2;have HE:=hid he
  have ht:tmV alt dev=At.tempV alt dev:=by unfold tmV;rw [if_pos he]
  rw [he,ht] at HC
  clear hI he ht;generalize At.tempV alt dev=t at *;have HS:=hid (fun w=>xSqrt (388734 * t / 100) (by omega) w)
  go_enter Tryz.func176,Tryz.ntmps176
  exact zM210
 ·have hv:=hid (show sdV alt dev=0 by unfold sdV;rw [if_neg he])
  have ht:tmV alt dev=0:=by unfold tmV;rw [if_neg he]
  have hb:(tE alt dev == 0)=false:=beq_eq_false_iff_ne.2 he
  rw [ht] at HC
  clear he ht;generalize tE alt dev=E at *
  go_enter Tryz.func176,Tryz.ntmps176
  exact zM212
theorem rTemperature (alt dev:Int) (w:World):Calls Tryz.prog 229 #[vI alt,vI dev] w fun e w'=>e=.returned (.tuple #[vI (tmV alt dev),vI (tE alt dev)])∧Below w.heap.size w w':=by
 have HC:=hid (fun w=>ready_any alt dev w)
 by_cases he:tE alt dev=0
 ·have hv:=hid (show tmV alt dev=At.tempV alt dev by unfold tmV;rw [if_pos he])
  have hI:=tE_zero he;have bt:=temp_bd hI.1 hI.2;have bv:=At.bdT alt hI.1.1 hI.1.2;have bd:=hI.2
  unfold inDev at bd
  obtain ⟨bt1,bt2⟩:=bt;obtain ⟨bv1,bv2⟩:=bv;obtain ⟨bd1,bd2⟩:=bd;have HI:=hid hI;have HE:=hid he
  rw [he] at HC
  clear hI he
  go_enter Tryz.func229,Tryz.ntmps229
  go_wp2_with fail
  refine (HC.out _).mono ?_;rintro e w' ⟨rfl,rfl⟩
  go_wp2_with fail
  refine (rvT_any alt HI.out.1 _).mono ?_;rintro e w2 ⟨rfl,hB2⟩
  have HBB:=hid hB2
  exact zM211
 ·have hv:=hid (show tmV alt dev=0 by unfold tmV;rw [if_neg he])
  have hb:(tE alt dev == 0)=false:=beq_eq_false_iff_ne.2 he;clear he;generalize tE alt dev=E at *
  go_enter Tryz.func229,Tryz.ntmps229
  exact zM26
theorem rRatio (alt dev:Int) (w:World):Calls Tryz.prog 183 #[vI alt,vI dev] w fun e w'=>e=.returned (.tuple #[vI (rtV alt dev),vI (tE alt dev)])∧Below w.heap.size w w':=by
 have HC:=hid (fun w=>ready_any alt dev w)
 by_cases he:tE alt dev=0
 ·have hv:=hid (show rtV alt dev=At.ratV alt dev by unfold rtV;rw [if_pos he])
  have hI:=tE_zero he;have bt:=rat_bd hI.1 hI.2;have bv:=At.bdR alt hI.1.1 hI.1.2;have bd:=hI.2
  unfold inDev at bd
  obtain ⟨bt1,bt2⟩:=bt;obtain ⟨bv1,bv2⟩:=bv;obtain ⟨bd1,bd2⟩:=bd;have HI:=hid hI;have HE:=hid he
  rw [he] at HC
  clear hI he
  go_enter Tryz.func183,Tryz.ntmps183
  go_wp2_with fail
  refine (HC.out _).mono ?_;rintro e w' ⟨rfl,rfl⟩
  go_wp2_with fail
  refine (rvR_any alt HI.out.1 _).mono ?_;rintro e w2 ⟨rfl,hB2⟩
  have HBB:=hid hB2
  exact zM211
 ·have hv:=hid (show rtV alt dev=0 by unfold rtV;rw [if_neg he])
  have hb:(tE alt dev == 0)=false:=beq_eq_false_iff_ne.2 he;clear he;generalize tE alt dev=E at *
  go_enter Tryz.func183,Tryz.ntmps183
  exact zM26
theorem rSound (alt dev:Int) (w:World):Calls Tryz.prog 184 #[vI alt,vI dev] w fun e w'=>e=.returned (.tuple #[vI (sdV alt dev),vI (tE alt dev)])∧Below w.heap.size w w':=by
 have HC:=hid (fun w=>rTemperature alt dev w)
 by_cases he:tE alt dev=0
 ·have hv:=hid (show sdV alt dev=sqV (388734 * At.tempV alt dev / 100) by unfold sdV;rw [if_pos he];rfl)
  have hI:=tE_zero he;obtain ⟨bt1,bt2⟩:=temp_bd hI.1 hI.2;have HE:=hid he
  have ht:tmV alt dev=At.tempV alt dev:=by unfold tmV;rw [if_pos he]
  rw [he,ht] at HC
  clear hI he ht;generalize At.tempV alt dev=t at *;have HS:=hid (fun w=>rSqrt (388734 * t / 100) (by omega) w)
  go_enter Tryz.func184,Tryz.ntmps184
  exact zM210
 ·have hv:=hid (show sdV alt dev=0 by unfold sdV;rw [if_neg he])
  have ht:tmV alt dev=0:=by unfold tmV;rw [if_neg he]
  have hb:(tE alt dev == 0)=false:=beq_eq_false_iff_ne.2 he
  rw [ht] at HC
  clear he ht;generalize tE alt dev=E at *
  go_enter Tryz.func184,Tryz.ntmps184
  exact zM212
def tsE (cas alt dev:Int):Int:=if inB cas 0 1000=true then tE alt dev else 1
def tsV (cas alt dev:Int):Int:=if tsE cas alt dev=0 then cas * rtV alt dev / 1000000 else 0
def omE (m alt dev:Int):Int:=if inB m 0 2000=true then tE alt dev else 1
def omV (m alt dev:Int):Int:=if omE m alt dev=0 then (m * sdV alt dev+15999) / 16000 else 0
def scdE (cas m alt dev:Int):Int:=if inB cas 0 1000=true∧inB m 0 2000=true then tE alt dev else 1
def scdV (cas m alt dev:Int):Int:=if scdE cas m alt dev=0 then min (tsV cas alt dev) (omV m alt dev) else 0
theorem rt_bd (alt dev:Int):0<=rtV alt dev∧rtV alt dev<=3500000:=by
 unfold rtV
 by_cases h:tE alt dev=0
 ·rw [if_pos h]
  obtain ⟨h1,h2⟩:=tE_zero h;have b:=rat_bd h1 h2
  unfold At.ratV
  omega
 ·rw [if_neg h];omega
theorem sd_bd (alt dev:Int):0<=sdV alt dev∧sdV alt dev<=12000:=by
 unfold sdV
 by_cases h:tE alt dev=0
 ·rw [if_pos h]
  obtain ⟨h1,h2⟩:=tE_zero h;have b:=temp_bd h1 h2;have h:=(Fx.isq_spec (388734 * At.tempV alt dev / 100).toNat).1
  have hn:(388734 * At.tempV alt dev / 100).toNat<=144000000:=by omega
  show 0<=((Fx.isq _:Nat):Int)∧_
  unfold At.soundV
  generalize Fx.isq (388734 * At.tempV alt dev / 100).toNat=r at *
  refine ⟨by omega,?_⟩
  have hr:r<=12000:=by
   rcases Nat.lt_or_ge 12000 r with h' | h'
   ·exfalso
    have:=Nat.mul_le_mul (show 12001<=r from h') (show 12001<=r from h')
    omega
   ·exact h'
  omega
 ·rw [if_neg h];omega
theorem xWi30 (n m:Int) (w:World):Calls Tryz.prog 104 #[vI n,vI m] w fun e w'=>e=.returned (.bool (inB n 0 m))∧w=w':=by
 have hv:=hid (show inB n 0 m=(decide (0<=n) && decide (n<=m)) from rfl)
 by_cases h1:n<0
 ·go_enter Tryz.func104,Tryz.ntmps104
  exact zM27
 by_cases h2:m<n
 ·go_enter Tryz.func104,Tryz.ntmps104
  exact zM27
 ·go_enter Tryz.func104,Tryz.ntmps104
  exact zM27
theorem rCal30 (n:Int) (w:World):Calls Tryz.prog 112 #[vI n] w fun e w'=>e=.returned (.bool (inB n 0 1000))∧w=w':=by
 have hv:=hid (show inB n 0 1000=(decide (0<=n) && decide (n<=1000)) from rfl)
 by_cases h1:n<0
 ·go_enter Tryz.func112,Tryz.ntmps112
  exact zM27
 by_cases h2:1000<n
 ·go_enter Tryz.func112,Tryz.ntmps112
  exact zM27
 ·go_enter Tryz.func112,Tryz.ntmps112
  exact zM27
theorem xTAS (cas alt dev:Int) (w:World):Calls Tryz.prog 105 #[vI cas,vI alt,vI dev] w fun e w'=>e=.returned (.tuple #[vI (tsV cas alt dev),vI (tsE cas alt dev)])∧Below w.heap.size w w':=by
 have HI:=hid (fun w=>xWi30 cas 1000 w);have HR:=hid (fun w=>aRatio alt dev w)
 have HE:=hid (show tsE cas alt dev=if inB cas 0 1000=true then tE alt dev else 1 from rfl)
 have HV:=hid (show tsV cas alt dev=if tsE cas alt dev=0 then cas * rtV alt dev / 1000000 else 0 from rfl)
 have hr:=rt_bd alt dev;generalize tsV cas alt dev=V at *;generalize tsE cas alt dev=E at *
 cases hc:inB cas 0 1000
 ·rw [hc] at HI HE
  have HE1:=hid (HE.out.trans (if_neg (by decide)));have HV1:=hid (HV.out.trans (if_neg (by rw [HE1.out];decide)));clear HE HV hc
  go_enter Tryz.func105,Tryz.ntmps105
  exact zM21
 rw [hc] at HI HE
 have hb:=inB_iff.1 hc;obtain ⟨b1,b2⟩:=hb;obtain ⟨r1,r2⟩:=hr
 by_cases he:tE alt dev=0
 ·rw [he] at HE HR
  have HE1:=hid (HE.out.trans (if_pos rfl));have HV1:=hid (HV.out.trans (if_pos HE1.out));generalize rtV alt dev=R at *;have m1:0<=cas * R:=Int.mul_nonneg b1 r1;have m2:cas * R<=1000 * 3500000:=Int.mul_le_mul b2 r2 r1 (by decide);clear HE HV hc he
  go_enter Tryz.func105,Tryz.ntmps105
  exact zM20
 ·have e1:=beq_of he
  have e2:=bne_of e1;have HE1:=hid (HE.out.trans (if_pos rfl));have HV1:=hid (HV.out.trans (if_neg (by rw [HE1.out];exact he)));clear HE HV hc he;generalize tE alt dev=E' at *
  go_enter Tryz.func105,Tryz.ntmps105
  exact zM20
theorem rTAS (cas alt dev:Int) (w:World):Calls Tryz.prog 113 #[vI cas,vI alt,vI dev] w fun e w'=>e=.returned (.tuple #[vI (tsV cas alt dev),vI (tsE cas alt dev)])∧Below w.heap.size w w':=by
 have HI:=hid (fun w=>rCal30 cas w);have HR:=hid (fun w=>rRatio alt dev w)
 have HE:=hid (show tsE cas alt dev=if inB cas 0 1000=true then tE alt dev else 1 from rfl)
 have HV:=hid (show tsV cas alt dev=if tsE cas alt dev=0 then cas * rtV alt dev / 1000000 else 0 from rfl)
 have hr:=rt_bd alt dev;generalize tsV cas alt dev=V at *;generalize tsE cas alt dev=E at *
 cases hc:inB cas 0 1000
 ·rw [hc] at HI HE
  have HE1:=hid (HE.out.trans (if_neg (by decide)));have HV1:=hid (HV.out.trans (if_neg (by rw [HE1.out];decide)));clear HE HV hc
  go_enter Tryz.func113,Tryz.ntmps113
  exact zM21
 rw [hc] at HI HE
 have hb:=inB_iff.1 hc;obtain ⟨b1,b2⟩:=hb;obtain ⟨r1,r2⟩:=hr
 by_cases he:tE alt dev=0
 ·rw [he] at HE HR
  have HE1:=hid (HE.out.trans (if_pos rfl));have HV1:=hid (HV.out.trans (if_pos HE1.out));generalize rtV alt dev=R at *;have m1:0<=cas * R:=Int.mul_nonneg b1 r1;have m2:cas * R<=1000 * 3500000:=Int.mul_le_mul b2 r2 r1 (by decide);clear HE HV hc he
  go_enter Tryz.func113,Tryz.ntmps113
  exact zM20
 ·have e1:=beq_of he
  have e2:=bne_of e1;have HE1:=hid (HE.out.trans (if_pos rfl));have HV1:=hid (HV.out.trans (if_neg (by rw [HE1.out];exact he)));clear HE HV hc he;generalize tE alt dev=E' at *
  go_enter Tryz.func113,Tryz.ntmps113
  exact zM20
theorem ceil_16 (X:Int) (h0:0<=X) (h1:X<=100000000):Fx.scV 1 X 1 16000=(X+15999) / 16000∧Fx.scE 1 X 1 16000=0:=by
 have e1:(X+15999) / 16000 = -((-X) / 16000):=by omega
 have e2:Fx.rqz 1 (X * 1) 16000=(X+15999) / 16000:=by
  unfold Fx.rqz Fx.rq
  rw [if_neg (by omega),if_neg (by decide),if_pos rfl,Int.mul_one,e1]
 rw [Fx.scV_eq 1 X 1 16000 (by omega),Fx.scE_eq 1 X 1 16000 (by omega),e2]
 constructor <;> (rw [if_pos];unfold Fx.inR;omega)
theorem xCeil16 (X:Int) (h0:0<=X) (h1:X<=100000000) (w:World):Calls Tryz.prog 134 #[vI X,vI 16000] w fun e w'=>e=.returned (.tuple #[vI ((X+15999) / 16000),vI 0])∧∃ n,w'=w.drewN n:=by
 have h:=xCeil X 16000 ⟨by omega,by omega⟩ ⟨by omega,by omega⟩ w
 rw [(ceil_16 X h0 h1).1,(ceil_16 X h0 h1).2] at h
 exact h
theorem rUp30 (a:Int) (h0:0<=a) (h1:a<=100000000) (w:World):Calls Tryz.prog 185 #[vI a,vI 16000] w fun e w'=>e=.returned (vI ((a+15999) / 16000))∧w=w':=by
 go_enter Tryz.func185,Tryz.ntmps185
 go_wp2
 go_ret
 exact ⟨ret_int (by congr 1;omega),rfl⟩
theorem xOfMach (m alt dev:Int) (w:World):Calls Tryz.prog 106 #[vI m,vI alt,vI dev] w fun e w'=>e=.returned (.tuple #[vI (omV m alt dev),vI (omE m alt dev)])∧Below w.heap.size w w':=by
 have HI:=hid (fun w=>xWi30 m 2000 w);have HR:=hid (fun w=>aSound alt dev w)
 have HE:=hid (show omE m alt dev=if inB m 0 2000=true then tE alt dev else 1 from rfl)
 have HV:=hid (show omV m alt dev=if omE m alt dev=0 then (m * sdV alt dev+15999) / 16000 else 0 from rfl)
 have hr:=sd_bd alt dev;generalize omV m alt dev=V at *;generalize omE m alt dev=E at *
 cases hc:inB m 0 2000
 ·rw [hc] at HI HE
  clear hc;have HE1:=hid (HE.out.trans (if_neg (by simp)));have HV1:=hid (HV.out.trans (if_neg (by rw [HE1.out];decide)));clear HE HV
  go_enter Tryz.func106,Tryz.ntmps106
  exact zM21
 rw [hc] at HI HE
 obtain ⟨b1,b2⟩:=inB_iff.1 hc;obtain ⟨r1,r2⟩:=hr
 by_cases he:tE alt dev=0
 ·rw [he] at HE HR
  have HE1:=hid (HE.out.trans (if_pos rfl));have HV1:=hid (HV.out.trans (if_pos HE1.out));generalize sdV alt dev=S at *;have m1:0<=m * S:=Int.mul_nonneg b1 r1;have m2:m * S<=2000 * 12000:=Int.mul_le_mul b2 r2 r1 (by decide);have HU:=hid (fun w=>xCeil16 (m * S) m1 (by omega) w);clear HE HV hc he
  go_enter Tryz.func106,Tryz.ntmps106
  go_wp2_with fail
  refine (HI.out _).mono ?_;rintro e w1 ⟨rfl,rfl⟩
  go_wp2_with fail
  refine (HR.out _).mono ?_;rintro e w1 ⟨rfl,hB⟩
  have HB:=hid hB;clear hB
  go_wp2_with fail
  refine (HU.out _).mono ?_;rintro e w2 ⟨rfl,q,rfl⟩
  go_wp2_with fail
  go_ret2
  exact ⟨ret_tup2 HV1.out.symm HE1.out.symm,below_drewN HB.out q⟩
 ·have e1:=beq_of he
  have e2:=bne_of e1;have HE1:=hid (HE.out.trans (if_pos rfl));have HV1:=hid (HV.out.trans (if_neg (by rw [HE1.out];exact he)));clear HE HV hc he;generalize tE alt dev=E' at *
  go_enter Tryz.func106,Tryz.ntmps106
  exact zM20
theorem rOfMach (m alt dev:Int) (w:World):Calls Tryz.prog 114 #[vI m,vI alt,vI dev] w fun e w'=>e=.returned (.tuple #[vI (omV m alt dev),vI (omE m alt dev)])∧Below w.heap.size w w':=by
 have HR:=hid (fun w=>rSound alt dev w)
 have HE:=hid (show omE m alt dev=if inB m 0 2000=true then tE alt dev else 1 from rfl)
 have HV:=hid (show omV m alt dev=if omE m alt dev=0 then (m * sdV alt dev+15999) / 16000 else 0 from rfl)
 have hr:=sd_bd alt dev;generalize omV m alt dev=V at *;generalize omE m alt dev=E at *
 by_cases c1:m<0
 ·have hc:inB m 0 2000=false:=inB_no.2 (by omega)
  rw [hc] at HE
  clear hc;have HE1:=hid (HE.out.trans (if_neg (by simp)));have HV1:=hid (HV.out.trans (if_neg (by rw [HE1.out];decide)));clear HE HV
  go_enter Tryz.func114,Tryz.ntmps114
  exact zM22
 by_cases c2:2000<m
 ·have hc:inB m 0 2000=false:=inB_no.2 (by omega)
  rw [hc] at HE
  clear hc;have HE1:=hid (HE.out.trans (if_neg (by simp)));have HV1:=hid (HV.out.trans (if_neg (by rw [HE1.out];decide)));clear HE HV
  go_enter Tryz.func114,Tryz.ntmps114
  exact zM22
 have hc:inB m 0 2000=true:=inB_iff.2 (by omega)
 have b1:0<=m:=by omega
 have b2:m<=2000:=by omega
 clear c1 c2
 rw [hc] at HE
 obtain ⟨r1,r2⟩:=hr
 by_cases he:tE alt dev=0
 ·rw [he] at HE HR
  have HE1:=hid (HE.out.trans (if_pos rfl));have HV1:=hid (HV.out.trans (if_pos HE1.out));generalize sdV alt dev=S at *;have m1:0<=m * S:=Int.mul_nonneg b1 r1;have m2:m * S<=2000 * 12000:=Int.mul_le_mul b2 r2 r1 (by decide);have HU:=hid (fun w=>rUp30 (m * S) m1 (by omega) w);clear HE HV hc he
  go_enter Tryz.func114,Tryz.ntmps114
  go_wp2_with fail
  refine (HR.out _).mono ?_;rintro e w1 ⟨rfl,hB⟩
  have HB:=hid hB;clear hB
  go_wp2_with fail
  refine (HU.out _).mono ?_;rintro e w2 ⟨rfl,rfl⟩
  exact zM24
 ·have e1:=beq_of he
  have e2:=bne_of e1;have HE1:=hid (HE.out.trans (if_pos rfl));have HV1:=hid (HV.out.trans (if_neg (by rw [HE1.out];exact he)));clear HE HV hc he;generalize tE alt dev=E' at *
  go_enter Tryz.func114,Tryz.ntmps114
  go_wp2_with fail
  refine (HR.out _).mono ?_;rintro e w1 ⟨rfl,hB⟩
  have HB:=hid hB;clear hB
  exact zM24
theorem xSched (cas m alt dev:Int) (w:World):Calls Tryz.prog 42 #[vI cas,vI m,vI alt,vI dev] w fun e w'=>e=.returned (.tuple #[vI (scdV cas m alt dev),vI (scdE cas m alt dev)])∧Below w.heap.size w w':=by
 have HI:=hid (fun w=>xWi30 cas 1000 w);have HJ:=hid (fun w=>xWi30 m 2000 w);have HT:=hid (fun w=>xTAS cas alt dev w);have HO:=hid (fun w=>xOfMach m alt dev w)
 have HE:=hid (show scdE cas m alt dev=if inB cas 0 1000=true∧inB m 0 2000=true then tE alt dev else 1 from rfl)
 have HV:=hid (show scdV cas m alt dev=if scdE cas m alt dev=0 then min (tsV cas alt dev) (omV m alt dev) else 0 from rfl)
 have HTE:=hid (show tsE cas alt dev=if inB cas 0 1000=true then tE alt dev else 1 from rfl)
 have HOE:=hid (show omE m alt dev=if inB m 0 2000=true then tE alt dev else 1 from rfl)
 generalize scdV cas m alt dev=V at *;generalize scdE cas m alt dev=E at *;generalize tsE cas alt dev=ET at *;generalize omE m alt dev=EO at *
 cases hc:inB cas 0 1000
 ·rw [hc] at HI HE
  clear hc;have HE1:=hid (HE.out.trans (if_neg (by simp)));have HV1:=hid (HV.out.trans (if_neg (by rw [HE1.out];decide)));clear HE HV
  go_enter Tryz.func42,Tryz.ntmps42
  exact zM21
 rw [hc] at HI HE HTE
 cases hm:inB m 0 2000
 ·rw [hm] at HJ HE
  clear hm;have HE1:=hid (HE.out.trans (if_neg (by simp)));have HV1:=hid (HV.out.trans (if_neg (by rw [HE1.out];decide)));clear HE HV
  go_enter Tryz.func42,Tryz.ntmps42
  go_wp2_with fail
  refine (HI.out _).mono ?_;rintro e w1 ⟨rfl,rfl⟩
  go_wp2_with fail
  refine (HJ.out _).mono ?_;rintro e w1 ⟨rfl,rfl⟩
  exact zM22
 rw [hm] at HJ HE
 rw [hm] at HOE
 have ht:=HTE.out.trans (if_pos rfl);have ho:=HOE.out.trans (if_pos rfl)
 rw [ht] at HT
 rw [ho] at HO
 clear HTE HOE ht ho;have HE1:=hid (HE.out.trans (if_pos ⟨rfl,rfl⟩))
 by_cases he:tE alt dev=0
 ·rw [he] at HT HO HE1
  have HV1:=hid (HV.out.trans (if_pos HE1.out));generalize tsV cas alt dev=VT at *;generalize omV m alt dev=VO at *;clear HE HV hc hm he
  go_enter Tryz.func42,Tryz.ntmps42
  go_wp2_with fail
  refine (HI.out _).mono ?_;rintro e w1 ⟨rfl,rfl⟩
  go_wp2_with fail
  refine (HJ.out _).mono ?_;rintro e w1 ⟨rfl,rfl⟩
  go_wp2_with fail
  refine (HT.out _).mono ?_;rintro e w1 ⟨rfl,hB⟩
  have HB:=hid hB;clear hB
  go_wp2_with fail
  refine (HO.out _).mono ?_;rintro e w2 ⟨rfl,hB⟩
  replace HB:=hid (bel_trans HB.out hB);clear hB
  exact zM24
 ·have e1:=beq_of he
  have e2:=bne_of e1;have HV1:=hid (HV.out.trans (if_neg (by rw [HE1.out];exact he)));clear HE HV hc hm he;generalize tE alt dev=E' at *;generalize tsV cas alt dev=VT at *
  go_enter Tryz.func42,Tryz.ntmps42
  go_wp2_with fail
  refine (HI.out _).mono ?_;rintro e w1 ⟨rfl,rfl⟩
  go_wp2_with fail
  refine (HJ.out _).mono ?_;rintro e w1 ⟨rfl,rfl⟩
  go_wp2_with fail
  refine (HT.out _).mono ?_;rintro e w1 ⟨rfl,hB⟩
  have HB:=hid hB;clear hB
  exact zM24
theorem rSched (cas m alt dev:Int) (w:World):Calls Tryz.prog 47 #[vI cas,vI m,vI alt,vI dev] w fun e w'=>e=.returned (.tuple #[vI (scdV cas m alt dev),vI (scdE cas m alt dev)])∧Below w.heap.size w w':=by
 have HI:=hid (fun w=>rCal30 cas w);have HT:=hid (fun w=>rTAS cas alt dev w);have HO:=hid (fun w=>rOfMach m alt dev w)
 have HE:=hid (show scdE cas m alt dev=if inB cas 0 1000=true∧inB m 0 2000=true then tE alt dev else 1 from rfl)
 have HV:=hid (show scdV cas m alt dev=if scdE cas m alt dev=0 then min (tsV cas alt dev) (omV m alt dev) else 0 from rfl)
 have HTE:=hid (show tsE cas alt dev=if inB cas 0 1000=true then tE alt dev else 1 from rfl)
 have HOE:=hid (show omE m alt dev=if inB m 0 2000=true then tE alt dev else 1 from rfl)
 generalize scdV cas m alt dev=V at *;generalize scdE cas m alt dev=E at *;generalize tsE cas alt dev=ET at *;generalize omE m alt dev=EO at *
 cases hc:inB cas 0 1000
 ·rw [hc] at HI HE
  clear hc;have HE1:=hid (HE.out.trans (if_neg (by simp)));have HV1:=hid (HV.out.trans (if_neg (by rw [HE1.out];decide)));clear HE HV
  go_enter Tryz.func47,Tryz.ntmps47
  exact zM21
 rw [hc] at HI HE HTE
 by_cases c1:m<0
 ·have hm:inB m 0 2000=false:=inB_no.2 (by omega)
  rw [hm] at HE
  clear hm;have HE1:=hid (HE.out.trans (if_neg (by simp)));have HV1:=hid (HV.out.trans (if_neg (by rw [HE1.out];decide)));clear HE HV
  go_enter Tryz.func47,Tryz.ntmps47
  exact zM21
 by_cases c2:2000<m
 ·have hm:inB m 0 2000=false:=inB_no.2 (by omega)
  rw [hm] at HE
  clear hm;have HE1:=hid (HE.out.trans (if_neg (by simp)));have HV1:=hid (HV.out.trans (if_neg (by rw [HE1.out];decide)));clear HE HV
  go_enter Tryz.func47,Tryz.ntmps47
  exact zM21
 have hm:inB m 0 2000=true:=inB_iff.2 (by omega)
 have b1:0<=m:=by omega
 have b2:m<=2000:=by omega
 clear c1 c2
 rw [hm] at HE
 rw [hm] at HOE
 have ht:=HTE.out.trans (if_pos rfl);have ho:=HOE.out.trans (if_pos rfl)
 rw [ht] at HT
 rw [ho] at HO
 clear HTE HOE ht ho;have HE1:=hid (HE.out.trans (if_pos ⟨rfl,rfl⟩))
 by_cases he:tE alt dev=0
 ·rw [he] at HT HO HE1
  have HV1:=hid (HV.out.trans (if_pos HE1.out));generalize tsV cas alt dev=VT at *;generalize omV m alt dev=VO at *;clear HE HV hc hm he
  go_enter Tryz.func47,Tryz.ntmps47
  go_wp2_with fail
  refine (HI.out _).mono ?_;rintro e w1 ⟨rfl,rfl⟩
  go_wp2_with fail
  refine (HT.out _).mono ?_;rintro e w1 ⟨rfl,hB⟩
  have HB:=hid hB;clear hB
  go_wp2_with fail
  refine (HO.out _).mono ?_;rintro e w2 ⟨rfl,hB⟩
  replace HB:=hid (bel_trans HB.out hB);clear hB
  exact zM24
 ·have e1:=beq_of he
  have e2:=bne_of e1;have HV1:=hid (HV.out.trans (if_neg (by rw [HE1.out];exact he)));clear HE HV hc hm he;generalize tE alt dev=E' at *;generalize tsV cas alt dev=VT at *
  go_enter Tryz.func47,Tryz.ntmps47
  go_wp2_with fail
  refine (HI.out _).mono ?_;rintro e w1 ⟨rfl,rfl⟩
  go_wp2_with fail
  refine (HT.out _).mono ?_;rintro e w1 ⟨rfl,hB⟩
  have HB:=hid hB;clear hB
  exact zM24
end Go.Proofs.YtheepmnhpclimaaGreat
namespace Go.Proofs.YtheepmnhpclimaaGreat
open Go.RowKit Sp
open Go.Lib (hid)
theorem infoStep:(Tryz.prog.info? 129).map (fun i=>(i.zero,i.size,i.bytes))=some (some (.agg #[vI 0,vI 0]),2,16):=by kernel_rfl
def PrRes (l:List (Int × Int)) (n:Nat) (E:Int) (w:World) (e:Ending) (w':World):Prop:=∃ A c,e=.returned (.tuple #[.slice A n c,vI E])∧Pairs w' A n l∧CapOk A n c∧Below w.heap.size w w'
theorem prRes_err {l:List (Int × Int)} {n:Nat} {E E':Int} {w w':World} (hE:E=E') (h0:E'≠0) (hb:Below w.heap.size w w'):PrRes (okL E l) (okN E n) E w (.returned (.tuple #[.slice none 0 0,vI E'])) w':=by
 subst hE
 unfold okL okN
 rw [if_neg h0,if_neg h0]
 exact ⟨none,0,rfl,Recs.nil _ _ _,⟨Nat.le_refl _,Nat.zero_le _,fun _=>rfl⟩,hb⟩
theorem slRes_err {l:List Int} {n:Nat} {E E':Int} {w w':World} (hE:E=E') (h0:E'≠0) (hb:Below w.heap.size w w'):SlRes (okL E l) (okN E n) E w (.returned (.tuple #[.slice none 0 0,vI E'])) w':=by
 subst hE
 unfold okL okN
 rw [if_neg h0,if_neg h0]
 exact ⟨none,0,rfl,Ints.nil _,hb⟩
theorem prRes_ok {l:List (Int × Int)} {n:Nat} {E:Int} {w w':World} {e:Ending} (hE:E=0) (h:∃ A c,e=.returned (.tuple #[.slice A n c,vI 0])∧Pairs w' A n l∧CapOk A n c) (hb:Below w.heap.size w w'):PrRes (okL E l) (okN E n) E w e w':=by
 subst hE;obtain ⟨A,c,h1,h2,h3⟩:=h
 exact ⟨A,c,h1,h2,h3,hb⟩
theorem slRes_ok {l:List Int} {n:Nat} {E:Int} {w w':World} {e:Ending} (hE:E=0) (h:∃ A c,e=.returned (.tuple #[.slice A n c,vI 0])∧Ints w' A n l) (hb:Below w.heap.size w w'):SlRes (okL E l) (okN E n) E w e w':=by
 subst hE;obtain ⟨A,c,h1,h2⟩:=h
 exact ⟨A,c,h1,h2,hb⟩
theorem take_map_succ {α β:Type} {l:List α} {f:α→β} {k:Nat} {x:α} (h:l[k]? = some x):(l.map f).take (k+1)=(l.map f).take k ++ [f x]:=take_succ_get _ k _ (by rw [List.getElem?_map,h];rfl)
theorem take_len {α:Type} {l:List α} {n k:Nat} (h:l.length=n) (hk:k<=n):(l.take k).length=k:=by rw [List.length_take];omega
theorem spd_yes (x:Int) (h:okV x) (w:World):Calls Tryz.prog 211 #[vI x] w fun e w'=>e=.returned (.bool true)∧w=w':=by
 obtain ⟨h0,h1⟩:=h
 exact zM29
theorem spd_no (x:Int) (h:¬ okV x) (w:World):Calls Tryz.prog 211 #[vI x] w fun e w'=>e=.returned (.bool false)∧w=w':=by
 have h':x<0∨1000<x:=by unfold okV at h;omega
 clear h
 rcases h' with h | h
 ·have h0:¬ 0<=x:=by omega
  exact zM29
 ·have h0:0<=x:=by omega
  have h1:¬ x<=1000:=by omega
  exact zM29
theorem dst_yes (x:Int) (h:Pf.okD x) (w:World):Calls Tryz.prog 212 #[vI x] w fun e w'=>e=.returned (.bool true)∧w=w':=by
 obtain ⟨h0,h1⟩:=h
 exact zM28
theorem dst_no (x:Int) (h:¬ Pf.okD x) (w:World):Calls Tryz.prog 212 #[vI x] w fun e w'=>e=.returned (.bool false)∧w=w':=by
 have h':x<0∨8000000<x:=by unfold Pf.okD at h;omega
 clear h
 rcases h' with h | h
 ·have h0:¬ 0<=x:=by omega
  exact zM28
 ·have h0:0<=x:=by omega
  have h1:¬ x<=8000000:=by omega
  exact zM28
def StRel (n:Nat) (d:List Int) (a c:Int) (w:World) (v t:Value) (wr:World):Prop:=∃ k:Nat,k<=n∧t=vI k∧(∀ x ∈ d.take k,Pf.okD x)∧Own win 2 129 w ((stL d a c).take k) v wr
theorem xSpSteps (A:Option Addr) (n cn:Nat) (d:List Int) (a c:Int) (w:World) (hd:Ints w A n d) (hn:n<=maxLen) :
  Calls Tryz.prog 139 #[.slice A n cn,vI a,vI c] w (PrRes (okL (stE d a c) (stL d a c)) (okN (stE d a c) n) (stE d a c) w):=by
 unfold maxLen at hn
 obtain ⟨i0,hi,hz0,hz1,hz2⟩:=info_parts infoStep;have HD:=hid hd;have HL:=hid hd.len
 by_cases h64:64<=n
 ·have HX:=hid (stE_3 (a:=a) (c:=c) (show 64<=d.length by rw [hd.len];exact h64))
  clear hd
  go_enter Tryz.func139,Tryz.ntmps139
  exact zM213
 ·have hnl:=hid (show ¬ 64<=d.length by rw [hd.len];exact h64)
  clear hd
  by_cases ha:okV a
  ·by_cases hc:okV c
   ·have HA:=hid (And.intro ha hc)
    obtain ⟨a0,a1⟩:=ha;obtain ⟨c0,c1⟩:=hc
    go_enter Tryz.func139,Tryz.ntmps139
    go_wp2_with fail
    refine (spd_yes a HA.out.1 _).mono ?_;rintro e wx ⟨rfl,rfl⟩
    go_wp2_with fail
    refine (spd_yes c HA.out.2 _).mono ?_;rintro e wx ⟨rfl,rfl⟩
    go_wp2_with fail
    go_loopw [8,24] (fun v t wr=>StRel n d a c w v t wr) (fun _ t _=>n - (intOf t).toNat)
    case atStart=>exact ⟨0,by omega,rfl,by simp,Own.start _ _ _ _⟩
    case round =>
     obtain ⟨k,hk,rfl,hall,hO⟩:=hrel;have HALL:=hid hall;have HO:=hid hO;clear hall hO
     by_cases hlt:k<n
     ·obtain ⟨x,hx⟩:=get_ex HL.out hlt
      obtain ⟨b,off,rfl,hb,cx0⟩:=ints_cell HD.out hx;have cx:=(HO.out.bel.cell (p:=⟨b,off+k,none⟩) hb).trans cx0;have HX:=hid hx;clear hx cx0
      by_cases hin:Pf.okD x
      ·have HI:=hid hin
       obtain ⟨p0,p1,p2,p3⟩:=st_prod HA.out.1 hin;obtain ⟨r0,r1,r2,r3⟩:=st_prod HA.out.2 hin;obtain ⟨x0,x1⟩:=hin;have e1:IntKind.i64.wrap (a * x)=a * x:=IntWalk.i64_in _ (by omega);have e2:IntKind.i64.wrap (c * x)=c * x:=IntWalk.i64_in _ (by omega);have hlen:=hid (take_len (k:=k) (show (stL d a c).length=n by unfold stL;rw [List.length_map];exact HL.out) hk)
       have hlen2:((stL d a c).take k).length<=64:=by rw [hlen.out];omega
       have HN:=hid (take_map_succ (f:=stF a c) HX.out);generalize hLL:(stL d a c).take k=LL at *;have HLL:=hid hLL;clear hLL
       go_wp2_with fail
       refine (dst_yes x HI.out _).mono ?_;rintro e wx ⟨rfl,rfl⟩
       go_wp2_with (at_builtin;refine wpList_append_own _ rfl _ _ 74 rfl w.heap.size 129 i0 (.agg #[vI 0,vI 0]) 2 16 Tryz.underlying74 hi hz0 hz1 hz2 rfl (by decide) _ _ _ rfl (HO.out.own.alloc _) ⟨wr.heap.size,0,none⟩ 1 1 (lz2 (a * x / 6000) (c * x / 6000)) rfl rfl (news_new _ _ rfl _ _ _ rfl) (by intro u hu;simp at hu;rcases hu with rfl | rfl <;> rfl) (by unfold maxLen;omega) (by omega) (by have:=HO.out.bel.size;simp;omega) ?_;intro v1 w3 hown1 hgrow1 hnil1)
       go_roundw
       case rel=>exact ⟨k+1,by omega,by go_num,tk_all HALL.out HX.out HI.out,by show Own win 2 129 w ((d.map (stF a c)).take (k+1)) _ _;rw [HN.out];have h:=HO.out.next (x:=stF a c x) hown1 hgrow1;rw [← HLL.out] at h;exact h⟩
       case measure=>simp only [intOf];omega
      ·have HE:=hid (stE_b (a:=a) (c:=c) hnl.out HA.out (List.mem_of_getElem? HX.out) hin)
       have HI:=hid hin;clear hin
       go_wp2_with fail
       refine (dst_no x HI.out _).mono ?_;rintro e wx ⟨rfl,rfl⟩
       go_wp2_with fail
       go_ret2
       exact prRes_err HE.out (by decide) HO.out.bel
     ·have hkn:=hid (show k=n by omega)
      have HE:=hid (stE_0 (a:=a) (c:=c) hnl.out HA.out (tk_len HL.out (by have:=HALL.out;rwa [hkn.out] at this)));have HT:=hid (show (stL d a c).take k=stL d a c from List.take_of_length_le (by unfold stL;rw [List.length_map,HL.out,hkn.out];exact Nat.le_refl _));have hO:=HO.out
      rw [HT.out] at hO
      obtain ⟨A',c',hv,hP,hcap⟩:=hO.res win_len (show (stL d a c).length=n by unfold stL;rw [List.length_map];exact HL.out);have HP:=hid hP;have HCAP:=hid hcap;subst hv;clear hO hP hcap
      go_wp2_with fail
      go_ret2
      exact prRes_ok HE.out ⟨A',c',rfl,HP.out,HCAP.out⟩ HO.out.bel
   ·have HX:=hid (stE_2 (a:=a) (c:=c) hnl.out (fun h=>hc h.2))
    have HV:=hid hc;have HA:=hid ha;clear ha;clear hc
    go_enter Tryz.func139,Tryz.ntmps139
    go_wp2_with fail
    refine (spd_yes a HA.out _).mono ?_;rintro e wx ⟨rfl,rfl⟩
    go_wp2_with fail
    refine (spd_no c HV.out _).mono ?_;rintro e wx ⟨rfl,rfl⟩
    exact zM213
  ·have HX:=hid (stE_2 (a:=a) (c:=c) hnl.out (fun h=>ha h.1))
   have HV:=hid ha;clear ha
   go_enter Tryz.func139,Tryz.ntmps139
   go_wp2_with fail
   refine (spd_no a HV.out _).mono ?_;rintro e wx ⟨rfl,rfl⟩
   exact zM213
end Go.Proofs.YtheepmnhpclimaaGreat
