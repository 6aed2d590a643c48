/- M6: Bi, Pr2, PrP, PrL in one text. -/
import Derived.Test.YtedcanagfajcgaaGreatM4
import Derived.Test.YtedcanagfajcgaaGreatPr1
import Derived.Test.YtedcanagfajcgaaGreatM2
import Derived.Test.YtedcanagfajcgaaGreatSpF
set_option linter.unusedSimpArgs false
set_option linter.unusedVariables false
set_option maxRecDepth 100000
set_option maxHeartbeats 8000000
namespace Go.Proofs
theorem U3{G:Prop}(h:G:=by
  have HL:=hid (show biL l0 l1 f0 f1 t0 t1=0 from (Ma (by rw [HE.out];decide)).1);have HH:=hid (show biH l0 l1 f0 f1 t0 t1=0 from (Ma (by rw [HE.out];decide)).2)
  go_enter Tryz.func72,Tryz.ntmps72
  go_wp2
  exact bodyPost_ret (v:=.tuple #[.agg #[vI 0,vI 0],vI 2]) (by simp [results,Tryz.results72,go_sem]) rfl ⟨Cw HL.out.symm HH.out.symm HE.out.symm,((((AJ _ _).alloc (Bn _) _).alloc (by simp) _).alloc (by simp;omega) _).alloc (by simp;omega) _⟩):G:=h
theorem Adf{G:Prop}(h:G:=by
  have HL:=hid (show biL l0 l1 f0 f1 t0 t1=0 from (Ma (by rw [HE.out];decide)).1);have HH:=hid (show biH l0 l1 f0 f1 t0 t1=0 from (Ma (by rw [HE.out];decide)).2)
  go_enter Tryz.func72,Tryz.ntmps72
  go_wp2
  exact bodyPost_ret (v:=.tuple #[.agg #[vI 0,vI 0],vI 1]) (by simp [results,Tryz.results72,go_sem]) rfl ⟨Cw HL.out.symm HH.out.symm HE.out.symm,((((AJ _ _).alloc (Bn _) _).alloc (by simp) _).alloc (by simp;omega) _).alloc (by simp;omega) _⟩):G:=h
theorem RJ{G:Prop}(h:G:=by
  clear g
  go_wp2_with fail
  go_ret
  exact ⟨Af HF.out.symm,HB.out⟩):G:=h
theorem Adg{G:Prop}(h:G:=by
  have e2:(E != 0)=true:=by rw [bne,e1];rfl
  clear he
  go_wp2_with fail
  go_ret
  exact ⟨Af HF.out.symm,HB.out⟩):G:=h
theorem Ae4{G:Prop}(h:G:=by
  clear hl hok
  go_enter Tryz.func15,Tryz.ntmps15
  go_wp2_with fail
  go_ret
  exact ⟨Af HF.out.symm,Aa _ _⟩):G:=h
end Go.Proofs
namespace Go.Proofs.YtedcanagfajcgaaGreat
open Go.RowKit
open Go.Lib (hid)
theorem Vk {l0 l1 f0 f1 t0 t1:Int} (h:l1<l0∨f1<f0∨t1<t0):biE l0 l1 f0 f1 t0 t1=1:=if_pos h
theorem L9 {l0 l1 f0 f1 t0 t1:Int} (h:¬ (l1<l0∨f1<f0∨t1<t0)) (h2:l0<0∨3000000000<l1∨f0<0∨50000<f1∨t0<0∨1099511627776<t1):biE l0 l1 f0 f1 t0 t1=2:=by unfold biE;rw [if_neg h,if_pos h2]
theorem AbZ {l0 l1 f0 f1 t0 t1:Int} (h:¬ (l1<l0∨f1<f0∨t1<t0)) (h2:¬ (l0<0∨3000000000<l1∨f0<0∨50000<f1∨t0<0∨1099511627776<t1)) (h3:l0 - f1 * t1<0):biE l0 l1 f0 f1 t0 t1=15:=by unfold biE;rw [if_neg h,if_neg h2,if_pos h3]
theorem AdK {l0 l1 f0 f1 t0 t1:Int} (h:¬ (l1<l0∨f1<f0∨t1<t0)) (h2:¬ (l0<0∨3000000000<l1∨f0<0∨50000<f1∨t0<0∨1099511627776<t1)) (h3:¬ l0 - f1 * t1<0):biE l0 l1 f0 f1 t0 t1=0∧biL l0 l1 f0 f1 t0 t1=l0 - f1 * t1∧biH l0 l1 f0 f1 t0 t1=l1 - f0 * t0:=by
 have e:biE l0 l1 f0 f1 t0 t1=0:=by unfold biE;rw [if_neg h,if_neg h2,if_neg h3]
 exact ⟨e,if_pos e,if_pos e⟩
theorem Ma {l0 l1 f0 f1 t0 t1:Int} (h:biE l0 l1 f0 f1 t0 t1≠0):biL l0 l1 f0 f1 t0 t1=0∧biH l0 l1 f0 f1 t0 t1=0:=⟨if_neg h,if_neg h⟩
theorem Cw {a b c x y z:Int} (h:a=x) (h2:b=y) (h3:c=z):Ending.returned (.tuple #[.agg #[vI a,vI b],vI c])=.returned (.tuple #[.agg #[vI x,vI y],vI z]):=by rw [h,h2,h3]
theorem Ta {f t:Int} (h0:0<=f) (h1:f<=50000) (h2:0<=t) (h3:t<=1099511627776):0<=f * t∧f * t<=54975581388800000:=by
 have a:=Int.mul_le_mul h1 h3 h2 (by decide);have b:=BM h0 h2
 omega
theorem ZW (l0 l1 f0 f1 t0 t1:Int) (w:World):Calls Tryz.prog 72 #[.agg #[vI l0,vI l1],.agg #[vI f0,vI f1],.agg #[vI t0,vI t1]] w fun e w'=>e=.returned (.tuple #[.agg #[vI (biL l0 l1 f0 f1 t0 t1),vI (biH l0 l1 f0 f1 t0 t1)],vI (biE l0 l1 f0 f1 t0 t1)])∧Below w.heap.size w w':=by
 by_cases h0:l1<l0
 ·have HE:=hid (show biE l0 l1 f0 f1 t0 t1=1 from Vk (by omega))
  exact Adf
 by_cases h1:f1<f0
 ·have HE:=hid (show biE l0 l1 f0 f1 t0 t1=1 from Vk (by omega))
  exact Adf
 by_cases h2:t1<t0
 ·have HE:=hid (show biE l0 l1 f0 f1 t0 t1=1 from Vk (by omega))
  exact Adf
 by_cases h3:l0<0
 ·have HE:=hid (show biE l0 l1 f0 f1 t0 t1=2 from L9 (by omega) (by omega))
  exact U3
 by_cases h4:3000000000<l1
 ·have HE:=hid (show biE l0 l1 f0 f1 t0 t1=2 from L9 (by omega) (by omega))
  exact U3
 by_cases h5:f0<0
 ·have HE:=hid (show biE l0 l1 f0 f1 t0 t1=2 from L9 (by omega) (by omega))
  exact U3
 by_cases h6:50000<f1
 ·have HE:=hid (show biE l0 l1 f0 f1 t0 t1=2 from L9 (by omega) (by omega))
  exact U3
 by_cases h7:t0<0
 ·have HE:=hid (show biE l0 l1 f0 f1 t0 t1=2 from L9 (by omega) (by omega))
  exact U3
 by_cases h8:1099511627776<t1
 ·have HE:=hid (show biE l0 l1 f0 f1 t0 t1=2 from L9 (by omega) (by omega))
  exact U3
 have p1:=Ta (f:=f1) (t:=t1) (by omega) (by omega) (by omega) (by omega);have p0:=Ta (f:=f0) (t:=t0) (by omega) (by omega) (by omega) (by omega)
 by_cases h9:l0 - f1 * t1<0
 ·have HE:=hid (show biE l0 l1 f0 f1 t0 t1=15 from AbZ (by omega) (by omega) h9)
  have HL:=hid (show biL l0 l1 f0 f1 t0 t1=0 from (Ma (by rw [HE.out];decide)).1);have HH:=hid (show biH l0 l1 f0 f1 t0 t1=0 from (Ma (by rw [HE.out];decide)).2)
  go_enter Tryz.func72,Tryz.ntmps72
  go_wp2
  exact bodyPost_ret (v:=.tuple #[.agg #[vI 0,vI 0],vI 15]) (by simp [results,Tryz.results72,go_sem]) rfl ⟨Cw HL.out.symm HH.out.symm HE.out.symm,(((((AJ _ _).alloc (Bn _) _).alloc (by simp) _).alloc (by simp;omega) _).alloc (by simp;omega) _).alloc (by simp;omega) _⟩
 obtain ⟨z0,z1,z2⟩:=AdK (l0:=l0) (l1:=l1) (f0:=f0) (f1:=f1) (t0:=t0) (t1:=t1) (by omega) (by omega) h9;have HE:=hid z0;have HL:=hid z1;have HH:=hid z2;clear z0 z1 z2
 go_enter Tryz.func72,Tryz.ntmps72
 go_wp2
 exact bodyPost_ret (v:=.tuple #[.agg #[vI (l0 - f1 * t1),vI (l1 - f0 * t0)],vI 0]) (by simp [results,Tryz.results72,go_sem]) rfl ⟨Cw HL.out.symm HH.out.symm HE.out.symm,(((((AJ _ _).alloc (Bn _) _).alloc (by simp) _).alloc (by simp;omega) _).alloc (by simp;omega) _).alloc (by simp;omega) _⟩
def Aal (s:Stp) (w:World) (t:Value) (wr:World):Prop:=∃ k:Nat,k<=s.sno.n∧t=vI k∧(∀ j m,j<k→s.no[j]? = some m→noE m j=0)∧Has wr w.heap.size s.cells∧Below w.heap.size w wr
theorem AcW {s:Stp} (h:inB s.sno.n 2 64=false):suE s=3:=if_pos h
theorem AeA {s:Stp} (h:inB s.sno.n 2 64=true) (h2:G8 s.no 0≠0):suE s=G8 s.no 0:=by unfold suE;rw [h,if_neg (by decide),if_pos h2]
theorem AeB {s:Stp} (h:inB s.sno.n 2 64=true) (h2:G8 s.no 0=0):suE s=if pfE s.pf≠0 then pfE s.pf else if gdE s.gr≠0 then gdE s.gr else if s.ac.E≠0 then s.ac.E else if suT s=true then 0 else 2:=by unfold suE;rw [h,if_neg (by decide),if_neg (by rw [h2];decide)]
theorem Jj (s:Stp) (w:World) (hl:s.lies w) (hok:s.ok):Calls Tryz.prog 15 #[.agg s.cells.toArray] w fun e w'=>e=.returned (vI (suE s))∧Below w.heap.size w w':=by
 have HS:Hid (Has (w.alloc (.cells s.cells.toArray 35)) w.heap.size s.cells):=hid (Has.new w _ _);have k0:(w.alloc (.cells s.cells.toArray 35)).cell? ⟨w.heap.size,0,none⟩=some (.slice s.sno.A s.sno.n s.sno.c):=PQ HS.out;have k1:=Ro s;have hn:=hok.no
 unfold maxLen at hn
 by_cases h1:(s.sno.n:Int)<2
 ·have HF:=hid (AcW (s:=s) (by rw [Dz];omega))
  exact Ae4
 by_cases h2:64<(s.sno.n:Int)
 ·have HF:=hid (AcW (s:=s) (by rw [Dz];omega))
  exact Ae4
 have G1:=hid (show inB s.sno.n 2 64=true by rw [Al];omega);have HB:=hid (Aa w (.cells s.cells.toArray 35));have HL:=hid (fun W (hB:Below w.heap.size w W)=>hl.below hB);have HOK:=hid hok;have HLN:=hid hl.no.len;clear hl hok
 go_enter Tryz.func15,Tryz.ntmps15
 go_wp2_with fail
 clear k0 k1;generalize w.alloc (.cells s.cells.toArray 35)=w1 at *
 go_loopw [22] (fun t wr=>Aal s w t wr) (fun t _=>s.sno.n - (intOf t).toNat)
 case atStart=>exact ⟨0,by omega,rfl,fun j m hj=>by omega,HS.out,HB.out⟩
 case round =>
  obtain ⟨k,hk,rfl,ha,hs,hb⟩:=hrel;replace HS:=hid hs;replace HB:=hid hb;have HA:=hid ha;clear hs hb ha
  by_cases hlt:k<s.sno.n
  ·obtain ⟨n,hx⟩:=Am HLN.out hlt
   obtain ⟨b,off,hA,hb,hc⟩:=(HL.out _ HB.out).no.cells (by omega);have HC1:=hid (hc k n hx);have HQ:=hid hx;have HAA:=hid hA;clear hx hc hA
   rw [HAA.out]
   have c0:wr.cell? ⟨b,off+k * 7,none⟩=some (vI n.px):=HC1.out 0 _ rfl;have c1:wr.cell? ⟨b,off+k * 7+1,none⟩=some (vI n.py):=HC1.out 1 _ rfl;have c2:wr.cell? ⟨b,off+k * 7+2,none⟩=some (vI n.di):=HC1.out 2 _ rfl;have c3:wr.cell? ⟨b,off+k * 7+3,none⟩=some (vI n.a0):=HC1.out 3 _ rfl;have c4:wr.cell? ⟨b,off+k * 7+4,none⟩=some (vI n.a1):=HC1.out 4 _ rfl;have c5:wr.cell? ⟨b,off+k * 7+5,none⟩=some (vI n.s0):=HC1.out 5 _ rfl;have c6:wr.cell? ⟨b,off+k * 7+6,none⟩=some (vI n.s1):=HC1.out 6 _ rfl;have HCN:=hid (fun W=>Rw n k W)
   go_wp2_with fail
   refine (HCN.out _).mono ?_;rintro e w2 ⟨rfl,hB⟩
   replace HS:=hid (HS.out.below (Ap hB));replace HB:=hid (Ae HB.out (Ap hB));clear hB c0 c1 c2 c3 c4 c5 c6
   by_cases he:noE n k=0
   ·have HA2:=hid (show ∀ j m,j<k+1→s.no[j]? = some m→noE m j=0 from fun j m hj hm=>by
     by_cases e:j=k
     ·subst e;rw [HQ.out] at hm;injection hm with hm;subst hm;exact he
     ·exact HA.out j m (by omega) hm)
    rw [he]
    clear he
    go_wp2_with fail
    go_roundw
    case rel=>exact ⟨k+1,by omega,by go_num,HA2.out,HS.out,HB.out⟩
    case measure=>exact zMs
   ·have hne:=QC (l:=s.no) (i:=0) (k:=k) (fun j m hj hm=>by rw [Nat.zero_add];exact HA.out j m hj hm) HQ.out (by rw [Nat.zero_add];exact he)
    rw [Nat.zero_add] at hne
    have HF:=hid (AeA G1.out (by rw [hne];exact he) |>.trans hne);generalize noE n k=E at *;have e1:(E == 0)=false:=BA.2 he
    have e2:(E != 0)=true:=by rw [bne,e1];rfl
    clear he hne
    go_wp2_with fail
    go_ret
    exact ⟨Af HF.out.symm,HB.out⟩
  have hz:G8 s.no 0=0:=NH (fun j m hm=>by
   rw [Nat.zero_add]
   exact HA.out j m (by have:=(List.getElem?_eq_some_iff.1 hm).1;have:=HLN.out;omega) hm)
  have HR:=hid (AeB G1.out hz);have HP:=hid (fun W hB=>P7 s.pf W (HL.out W hB).pf HOK.out.pf);have HG:=hid (fun W hB=>Lv s.gr W (HL.out W hB).gr HOK.out.gr);have HC:=hid (fun W=>Gv s.ac W);clear hz HA HOK HL HLN
  go_wp2_with (refine Dx (.tmp 34) rfl rfl rfl HS.out ?_)
  refine (HP.out _ HB.out).mono ?_;rintro e w2 ⟨rfl,hB⟩
  replace HS:=hid (HS.out.below hB);replace HB:=hid (Ae HB.out hB);clear hB HP
  by_cases he:pfE s.pf=0
  rotate_left
  ·have HF:=hid (HR.out.trans (if_pos he))
   generalize pfE s.pf=E at *;have e1:(E == 0)=false:=BA.2 he
   exact Adg
  replace HR:=hid (HR.out.trans (if_neg (by rw [he];decide)))
  rw [he]
  clear he
  go_wp2_with (refine Qe (.tmp 40) rfl rfl rfl HS.out ?_)
  refine (HG.out _ HB.out).mono ?_;rintro e w3 ⟨rfl,hB⟩
  replace HS:=hid (HS.out.below hB);replace HB:=hid (Ae HB.out hB);clear hB HG
  by_cases he:gdE s.gr=0
  rotate_left
  ·have HF:=hid (HR.out.trans (if_pos he))
   generalize gdE s.gr=E at *;have e1:(E == 0)=false:=BA.2 he
   exact Adg
  replace HR:=hid (HR.out.trans (if_neg (by rw [he];decide)))
  rw [he]
  clear he
  go_wp2_with (refine FZ (.tmp 46) rfl rfl rfl HS.out ?_)
  refine (HC.out _).mono ?_;rintro e w4 ⟨rfl,hB⟩
  replace HS:=hid (HS.out.below hB);replace HB:=hid (Ae HB.out hB);clear hB HC
  by_cases he:s.ac.E=0
  rotate_left
  ·have HF:=hid (HR.out.trans (if_pos he))
   generalize s.ac.E=E at *;have e1:(E == 0)=false:=BA.2 he
   exact Adg
  replace HR:=hid (HR.out.trans (if_neg (by rw [he];decide)))
  rw [he]
  clear he;have HT:=hid (show suT s=(inB s.lv (-200000) 6000000 && inB s.cas 1 1000 && inB s.mch 1 2000 && inB s.acc 0 1000 && inB s.dec 0 1000 && inB s.la (-200000) 6000000 && inB s.ls 1 1000) from rfl);have q29:=FP HS.out;have q30:=IA HS.out;have q31:=JE HS.out;have q32:=Oh HS.out;have q33:=Oi HS.out;have q34:=TC HS.out;have q35:=TD HS.out;have HNT:=hid (show suT s=false→suE s=2 from fun h=>HR.out.trans (if_neg (by rw [h];decide)))
  go_wp2_with fail
  refine (Gs _ _).mono ?_;rintro e wx ⟨rfl,rfl⟩
  cases g:inB s.lv (-200000) 6000000
  ·have HF:=hid (HNT.out (by rw [HT.out,g];simp))
   exact RJ
  have G10:=hid g;clear g
  go_wp2_with fail
  refine (BU _ _ _ _).mono ?_;rintro e wx ⟨rfl,rfl⟩
  cases g:inB s.cas 1 1000
  ·have HF:=hid (HNT.out (by rw [HT.out,G10.out,g];simp))
   exact RJ
  have G11:=hid g;clear g
  go_wp2_with fail
  refine (BU _ _ _ _).mono ?_;rintro e wx ⟨rfl,rfl⟩
  cases g:inB s.mch 1 2000
  ·have HF:=hid (HNT.out (by rw [HT.out,G10.out,G11.out,g];simp))
   exact RJ
  have G12:=hid g;clear g
  go_wp2_with fail
  refine (BU _ _ _ _).mono ?_;rintro e wx ⟨rfl,rfl⟩
  cases g:inB s.acc 0 1000
  ·have HF:=hid (HNT.out (by rw [HT.out,G10.out,G11.out,G12.out,g];simp))
   exact RJ
  have G13:=hid g;clear g
  go_wp2_with fail
  refine (BU _ _ _ _).mono ?_;rintro e wx ⟨rfl,rfl⟩
  cases g:inB s.dec 0 1000
  ·have HF:=hid (HNT.out (by rw [HT.out,G10.out,G11.out,G12.out,G13.out,g];simp))
   exact RJ
  have G14:=hid g;clear g
  go_wp2_with fail
  refine (Gs _ _).mono ?_;rintro e wx ⟨rfl,rfl⟩
  cases g:inB s.la (-200000) 6000000
  ·have HF:=hid (HNT.out (by rw [HT.out,G10.out,G11.out,G12.out,G13.out,G14.out,g];simp))
   exact RJ
  have G15:=hid g;clear g
  go_wp2_with fail
  refine (BU _ _ _ _).mono ?_;rintro e wx ⟨rfl,rfl⟩
  cases g:inB s.ls 1 1000
  ·have HF:=hid (HNT.out (by rw [HT.out,G10.out,G11.out,G12.out,G13.out,G14.out,G15.out,g];simp))
   exact RJ
  have G16:=hid g;clear g;have HF:=hid (HR.out.trans (if_pos (by rw [HT.out,G10.out,G11.out,G12.out,G13.out,G14.out,G15.out,G16.out];rfl)))
  go_wp2_with fail
  go_ret
  exact ⟨Af HF.out.symm,HB.out⟩
def Ac (s:Stp) (k:Nat):Nod:=s.no.getD k ⟨0,0,0,0,0,0,0⟩
theorem GJ {s:Stp} {k:Nat} {n:Nod} (h:s.no[k]? = some n):Ac s k=n:=by unfold Ac;rw [Dp,h];rfl
def suH (s:Stp) (k:Nat):Hul:=G6 s.gr (Ac s k).px (Ac s k).py (Ac s (k+1)).px (Ac s (k+1)).py (-200000) s.lv
def grt (a b:Int):Int:=max (Bo a) (Bo b)
def ltC (s:Stp) (k:Nat):Int:=(min (Ac s k).s1 s.cas+min (Ac s (k+1)).s1 s.cas) / 2
def ltG (s:Stp) (k:Nat):Int:=tsV (ltC s k) s.lv (suH s k).d1+grt (suH s k).e0 (suH s k).e1+grt (suH s k).n0 (suH s k).n1
def ltV (s:Stp) (k:Nat):Int:=if ltG s k=0 then 50000 else min ((Ac s (k+1)).di / ltG s k) 50000
def riN (s:Stp) (h:Int) (k:Nat):Int:=rsV s.pf h s.ac.mass (ltV s k)
def hgt (s:Stp):Nat→Int
  | 0=>min s.lv (Ac s 0).a1
  | k+1=>min (min (riN s (hgt s k) k) s.lv) (Ac s (k+1)).a1
def LQ (s:Stp) (k:Nat):Int × Int:=(riN s (hgt s k) k - hgt s k,Im s.pf (-200000) * ltV s k)
def Cy (s:Stp):Cs.Wins:=(List.range (s.no.length - 1)).map (LQ s)
def awL (s:Stp):Cs.Wins:=s.no.map fun n=>(n.a0,n.a1)
def awC (s:Stp):Cs.Wins:=s.no.map fun n=>(n.a0,min n.a1 s.lv)
def Dr (s:Stp):Int:=if suE s≠0 then suE s else crE (awL s) (Cy s) s.lv
def C8 (s:Stp):List Int:=crV (awL s) (Cy s) s.lv
def hdC (l:Cs.Wins):Int × Int:=l.headD (0,0)
def Jl (s:Stp):Int × Int:=if suE s≠0 then (0,0) else if crE (awL s) (Cy s) s.lv=0 then (0,0) else hdC (Cs.confL (awC s) (Cy s))
/-! ### speeds -/
def sdF (s:Stp) (n:Nod) (alt:Int):Int × Int :=
  (max n.s0 (JW s.pf s.ac.mass),if alt<s.la then min (min (min n.s1 s.cas) (FV s.pf alt)) s.ls else min (min n.s1 s.cas) (FV s.pf alt))
def sdE (s:Stp) (al:List Int):Int:=if suE s≠0 then suE s else if al.length≠s.no.length then 1 else if BK al (-200000) 6000000=true then 0 else 2
def sdL (s:Stp) (al:List Int):Cs.Wins:=List.zipWith (sdF s) s.no al
/-! ### legs -/
def fcE (s:Stp) (al sp:List Int):Int:=if al.length≠s.no.length∨sp.length≠s.no.length then 1 else if BK al (-200000) s.lv=true∧BK sp 0 1000=true then 0 else 2
structure Lg where
  al:Int
  co:Int
  ph:Int
  sp:Int
  ta:Int
  we:Int
  wn:Int
def lgA (al:List Int) (k:Nat):Int:=(al.getD k 0+al.getD (k+1) 0) / 2
def lgX (s:Stp) (k:Nat):Int:=((Ac s k).px+(Ac s (k+1)).px) / 2
def lgY (s:Stp) (k:Nat):Int:=((Ac s k).py+(Ac s (k+1)).py) / 2
def lgP (al:List Int) (k:Nat):Int:=if al.getD k 0<al.getD (k+1) 0 then 1 else if al.getD (k+1) 0<al.getD k 0 then 3 else 2
noncomputable def lgV (s:Stp) (al sp:List Int) (k:Nat):Lg :=
  ⟨lgA al k,coV (Ac s k).px (Ac s k).py (Ac s (k+1)).px (Ac s (k+1)).py,lgP al k,lgA sp k,
   Ck (lgA sp k) s.mch (lgA al k) (gAt s.gr (elD s.gr) (lgX s k) (lgY s k) (lgA al k)),
   gAt s.gr (elE s.gr) (lgX s k) (lgY s k) (lgA al k),gAt s.gr (elN s.gr) (lgX s k) (lgY s k) (lgA al k)⟩
def flw (s:Stp) (l:Lg) (left tas:Int):Int :=
  if l.ph=1 then KH s.pf l.al (s.ac.em+left) else if l.ph=2 then KL s.pf l.al (s.ac.em+left) tas else JV s.pf l.al
def tck (d g:Int):Int:=(d+g - 1) / g
/-! ### the passage at the end of a leg -/
structure Nx where
  l:Lg
  h:Hul
  slow:Int
  fast:Int
  di:Int
noncomputable def nxV (s:Stp) (al sp:List Int) (k:Nat):Nx :=
  ⟨lgV s al sp k,suH s k,Ck (lgA sp k) s.mch (lgA al k) (suH s k).d0,Ck (lgA sp k) s.mch (lgA al k) (suH s k).d1,(Ac s (k+1)).di⟩
def Nx.g (x:Nx):Int:=gsV x.l.co x.l.ta x.l.we x.l.wn / 1024
def Nx.gl (x:Nx):Int:=giL x.l.co x.slow x.fast x.h.e0 x.h.e1 x.h.n0 x.h.n1
def Nx.gh (x:Nx):Int:=giH x.l.co x.slow x.fast x.h.e0 x.h.e1 x.h.n0 x.h.n1
def Nx.t (x:Nx):Int:=tck x.di x.g
def Nx.t0 (x:Nx):Int:=tck x.di x.gh
def Nx.t1 (x:Nx):Int:=tck x.di x.gl
def Nx.f0 (x:Nx) (s:Stp) (p:Pass):Int:=flw s x.l p.fl x.slow
def Nx.f1 (x:Nx) (s:Stp) (p:Pass):Int:=flw s x.l p.fh x.fast
def Nx.fu (x:Nx) (s:Stp) (p:Pass):Int:=p.fuel - x.t * flw s x.l p.fuel x.l.ta
def Nx.E (x:Nx) (s:Stp) (p:Pass):Int :=
  if x.l.ta=0∨x.slow=0 then 10
  else if gsE x.l.co x.l.ta x.l.we x.l.wn≠0 then gsE x.l.co x.l.ta x.l.we x.l.wn
  else if giE x.l.co x.slow x.fast x.h.e0 x.h.e1 x.h.n0 x.h.n1≠0 then giE x.l.co x.slow x.fast x.h.e0 x.h.e1 x.h.n0 x.h.n1
  else if x.fu s p<0 then 15
  else biE p.fl p.fh (x.f0 s p) (x.f1 s p) x.t0 x.t1
def Uk:Pass:=⟨0,0,0,0,0,0,0,0,0,0,0,0,0⟩
def Nx.P (x:Nx) (s:Stp) (p:Pass) (a c:Int):Pass :=
  ⟨a,c,x.l.ta,x.g,p.tick+x.t,x.fu s p,x.gl,x.gh,p.tl+x.t0,p.th+x.t1,biL p.fl p.fh (x.f0 s p) (x.f1 s p) x.t0 x.t1,biH p.fl p.fh (x.f0 s p) (x.f1 s p) x.t0 x.t1,x.l.ph⟩
noncomputable def nxE (s:Stp) (p:Pass) (al sp:List Int) (k:Nat):Int:=(nxV s al sp k).E s p
noncomputable def nxP (s:Stp) (p:Pass) (al sp:List Int) (k:Nat):Pass:=(nxV s al sp k).P s p (al.getD (k+1) 0) (sp.getD (k+1) 0)
/-! ### the passages of a flight -/
def YV (s:Stp) (al sp:List Int):Pass :=
  ⟨al.getD 0 0,sp.getD 0 0,Ck (sp.getD 0 0) s.mch (al.getD 0 0) (gAt s.gr (elD s.gr) (Ac s 0).px (Ac s 0).py (al.getD 0 0)),0,0,s.ac.left,0,0,0,0,s.ac.left,s.ac.left,0⟩
noncomputable def psP (s:Stp) (al sp:List Int):Nat→Pass
  | 0=>YV s al sp
  | k+1=>nxP s (psP s al sp k) al sp k
noncomputable def psE (s:Stp) (al sp:List Int):Nat→Int
  | 0=>0
  | k+1=>if psE s al sp k≠0 then psE s al sp k else nxE s (psP s al sp k) al sp k
noncomputable def wtE (s:Stp) (al sp:List Int):Int:=if suE s≠0 then suE s else if fcE s al sp≠0 then fcE s al sp else psE s al sp (s.no.length - 1)
noncomputable def wtL (s:Stp) (al sp:List Int):List Pass:=(List.range s.no.length).map (psP s al sp)
/-! ### predictions -/
def EI (s:Stp):List Int:=(s.no.drop 1).map Nod.di
def spS (s:Stp):Cs.Wins:=Sp.stL (EI s) s.acc s.dec
def wsh (s:Stp):List Int:=List.replicate s.no.length s.cas
def pnE (s:Stp):Int:=plE (sdL s (C8 s)) (spS s) (wsh s)
def pnL (s:Stp):List Int:=plL (sdL s (C8 s)) (wsh s) (spS s)
noncomputable def Fy (s:Stp):Int:=if Dr s≠0 then Dr s else if pnE s≠0 then pnE s else wtE s (C8 s) (pnL s)
noncomputable def PE (s:Stp):List Pass:=if Fy s=0 then wtL s (C8 s) (pnL s) else []
def LP (s:Stp):Int × Int:=if Dr s≠0 then Jl s else if pnE s=11 then hdC (Cs.confL (sdL s (C8 s)) (spS s)) else (0,0)
def PG (s:Stp):Bool:=decide (Dr s=0) && decide (pnE s=11)
/-! ### flights -/
def flB (s:Stp) (ws:Cs.Wins):Bool:=decide (∀ k,k<ws.length→wnB (suH s k).e0 (suH s k).e1 (suH s k).n0 (suH s k).n1 (ws.getD k (0,0)).1 (ws.getD k (0,0)).2=true)
noncomputable def flT (s:Stp) (al sp:List Int) (ws:Cs.Wins) (k:Nat):Int:=tck (Ac s (k+1)).di (gsV (lgV s al sp k).co (lgV s al sp k).ta (ws.getD k (0,0)).1 (ws.getD k (0,0)).2 / 1024)
noncomputable def DT (s:Stp) (al sp:List Int) (ws:Cs.Wins):Nat→Int
  | 0=>0
  | k+1=>DT s al sp ws k+flT s al sp ws k
noncomputable def Cc (s:Stp) (al sp:List Int) (ws:Cs.Wins):Nat→Int
  | 0=>s.ac.left
  | k+1=>Cc s al sp ws k - flT s al sp ws k * flw s (lgV s al sp k) (Cc s al sp ws k) (lgV s al sp k).ta
noncomputable def CJ (s:Stp) (al sp:List Int) (ws:Cs.Wins) (k:Nat):Int :=
  if (lgV s al sp k).ta=0 then 10
  else if gsE (lgV s al sp k).co (lgV s al sp k).ta (ws.getD k (0,0)).1 (ws.getD k (0,0)).2≠0 then gsE (lgV s al sp k).co (lgV s al sp k).ta (ws.getD k (0,0)).1 (ws.getD k (0,0)).2
  else if Cc s al sp ws (k+1)<0 then 15 else 0
noncomputable def DV (s:Stp) (al sp:List Int) (ws:Cs.Wins):Nat→Int
  | 0=>0
  | k+1=>if DV s al sp ws k≠0 then DV s al sp ws k else CJ s al sp ws k
noncomputable def CX (s:Stp) (ps:List Pass) (ws:Cs.Wins):Int :=
  if suE s≠0 then suE s else if ps.length≠s.no.length∨ws.length≠s.no.length - 1 then 1
  else if fcE s (ps.map Pass.alt) (ps.map Pass.cas)≠0 then fcE s (ps.map Pass.alt) (ps.map Pass.cas)
  else if flB s ws=false then 2 else DV s (ps.map Pass.alt) (ps.map Pass.cas) ws ws.length
noncomputable def DY (s:Stp) (ps:List Pass) (ws:Cs.Wins):List Int:=(List.range s.no.length).map (DT s (ps.map Pass.alt) (ps.map Pass.cas) ws)
noncomputable def DX (s:Stp) (ps:List Pass) (ws:Cs.Wins):List Int:=(List.range s.no.length).map (Cc s (ps.map Pass.alt) (ps.map Pass.cas) ws)
/-! ### tables -/
theorem ZN {al:List Int} {T:List (List Int)} {M:Nat} (ha:Pe.Asc al) (hT:T.length=al.length) (hr:∀ i,i<T.length→(T.getD i []).length=M) (hu:∀ i,i<T.length→Pe.Up (T.getD i [])) (alt:Int):Pe.Up (FX al T M alt):=by
  intro i hi
  rw [Gp] at hi
  rw [Ah (Jb (show i<M by omega)),Ah (Jb hi)]
  refine Pe.iv_mono al _ _ alt (by rw [EP,hT]) (by rw [EP,hT]) ha (fun k hk=>?_)
  rw [GA (by omega),GA (by omega)]
  exact hu k (by omega) i (by rw [hr k (by omega)];exact hi)
theorem ME {al ms:List Int} {T:List (List Int)} (ha:Pe.Asc al) (hm:Pe.Asc ms) (hT:T.length=al.length) (hr:∀ i,i<T.length→(T.getD i []).length=ms.length) (hu:∀ i,i<T.length→Pe.Up (T.getD i [])) {alt a b:Int} (h:a<=b):BQ al ms T alt a<=BQ al ms T alt b:=by
  unfold BQ
  have hl:=Gp al T ms.length alt
  refine Pe.iv_x _ a b (Eh hm hl) ?_ h
  rw [List.map_snd_zip (by omega)]
  exact ZN ha hT hr hu alt
theorem EX {t:List (List Int)} {n m:Nat} (h:EW t n m=true):t.length=n∧∀ i,i<t.length→(t.getD i []).length=m:=by
  unfold EW at h
  simp only [Bool.and_eq_true,decide_eq_true_eq,List.all_eq_true] at h
  refine ⟨h.1,fun i hi=>?_⟩
  rw [Ah (AQ hi)]
  exact h.2 _ (List.getElem_mem hi)
theorem PU {t:List (List Int)} (h:Fp t=true):∀ i,i<t.length→Pe.Up (t.getD i []):=by
  unfold Fp at h
  exact fun i hi=>((of_decide_eq_true h) i hi).1
theorem Jy {p l:List Int} (hl:l.length=p.length) (h:0<p.length):p.zip l≠[]:=by
  intro e
  have h0:(p.zip l).length=0:=by rw [e];rfl
  rw [List.length_zip,hl] at h0
  omega
theorem Lm {al ms:List Int} {T:List (List Int)} {hi:Int} (ha:Pe.Asc al) (hm:Pe.Asc ms) (hT:T.length=al.length) (hr:∀ i,i<T.length→(T.getD i []).length=ms.length) (hal:0<al.length) (hms:0<ms.length) (hb:FW T 0 hi=true) (alt mass:Int):0<=BQ al ms T alt mass∧BQ al ms T alt mass<=hi:=by
  unfold FW at hb
  rw [List.all_eq_true] at hb
  have hc:(FX al T ms.length alt).length=ms.length:=Gp _ _ _ _
  unfold BQ
  refine Pe.iv_bd _ _ (Jy hc hms) (Eh hm hc) (fun r hr2=>?_)
  have hy:=(List.of_mem_zip hr2).2
  unfold FX at hy
  rw [List.mem_map] at hy
  obtain ⟨j,hj,hjr⟩:=hy
  rw [List.mem_range] at hj
  rw [← hjr]
  have hcl:(IL T j).length=al.length:=by rw [EP,hT]
  refine Pe.iv_bd _ _ (Jy hcl hal) (Eh ha hcl) (fun q hq=>?_)
  have hz:=(List.of_mem_zip hq).2
  unfold IL at hz
  rw [List.mem_map] at hz
  obtain ⟨row,hrow,he⟩:=hz
  rw [← he]
  obtain ⟨i,hi2,hrow2⟩:=List.mem_iff_getElem.1 hrow;have hlen:=hr i hi2
  rw [Ah (AQ hi2),hrow2] at hlen
  rw [Ah (AQ (show j<row.length by omega))]
  exact Ci (hb row hrow) _ (List.getElem_mem _)
/-! ### flows -/
structure StN (s:Stp):Prop where
  no:s.no.length=s.sno.n
  al:s.pf.al.length=s.pf.sal.n
  ms:s.pf.ms.length=s.pf.sms.n
  de:s.pf.de.length=s.pf.sde.n
  id:s.pf.id.length=s.pf.sid.n
  mx:s.pf.mx.length=s.pf.smx.n
  mn:s.pf.mn.length=s.pf.smn.n
  gal:s.gr.al.length=s.gr.sal.n
  gwi:s.gr.wi.length=s.gr.swi.n
  gde:s.gr.de.length=s.gr.sde.n
theorem StN.of {s:Stp} {w:World} (h:s.lies w):StN s:=⟨h.no.len,h.pf.al.len,h.pf.ms.len,h.pf.de.len,h.pf.id.len,h.pf.mx.len,h.pf.mn.len,h.gr.al.len,h.gr.wi.len,h.gr.de.len⟩
section
variable {s:Stp}
theorem Acj (G:StG s) (N:StN s) (alt:Int):0<=JV s.pf alt∧JV s.pf alt<=50000:=by
  have g:=AO G.pf
  unfold JV
  split
  · have hl:s.pf.id.length=s.pf.al.length:=by rw [N.id,N.al,g.lid]
    exact Pe.iv_bd _ _ (Jy hl (by rw [N.al];have:=g.r2;omega)) (Eh g.aal hl) (fun r hr=>g.rid _ (List.of_mem_zip hr).2)
  · omega
theorem Ab4 (G:StG s) (N:StN s) (alt:Int):0<=Im s.pf alt∧Im s.pf alt<=10000:=by
  have g:=AO G.pf
  unfold Im
  split
  · have hl:s.pf.de.length=s.pf.al.length:=by rw [N.de,N.al,g.lde]
    have:=Pe.iv_bd (s.pf.al.zip s.pf.de) alt (Jy hl (by rw [N.al];have:=g.r2;omega)) (Eh g.aal hl) (fun r hr=>g.rde _ (List.of_mem_zip hr).2)
    omega
  · omega
theorem Aco (G:StG s) (N:StN s) (alt:Int):0<=FV s.pf alt∧FV s.pf alt<=1000:=by
  have g:=AO G.pf
  unfold FV
  split
  · have hl:s.pf.mx.length=s.pf.al.length:=by rw [N.mx,N.al,g.lmx]
    have:=Pe.iv_bd (s.pf.al.zip s.pf.mx) alt (Jy hl (by rw [N.al];have:=g.r2;omega)) (Eh g.aal hl) (fun r hr=>g.rmx _ (List.of_mem_zip hr).2)
    omega
  · omega
theorem Acn (G:StG s) (N:StN s) (m:Int):0<=JW s.pf m∧JW s.pf m<=1000:=by
  have g:=AO G.pf
  unfold JW
  split
  · have hl:s.pf.mn.length=s.pf.ms.length:=by rw [N.mn,N.ms,g.lmn]
    have:=Pe.iv_bd (s.pf.ms.zip s.pf.mn) m (Jy hl (by rw [N.ms];have:=g.c2;omega)) (Eh g.ams hl) (fun r hr=>g.rmn _ (List.of_mem_zip hr).2)
    omega
  · omega
theorem AcZ (G:StG s) (N:StN s) (alt m:Int):0<=BQ s.pf.al s.pf.ms (Aj s.pf.cf) alt m∧BQ s.pf.al s.pf.ms (Aj s.pf.cf) alt m<=50000:=by
  have g:=AO G.pf;obtain ⟨h1,h2⟩:=EX g.scf
  exact Lm g.aal g.ams (by rw [h1,N.al]) (fun i hi=>by rw [h2 i hi,N.ms]) (by rw [N.al];have:=g.r2;omega) (by rw [N.ms];have:=g.c2;omega) g.rcf _ _
theorem XJ (G:StG s) (N:StN s) (alt m:Int):0<=BQ s.pf.al s.pf.ms (Aj s.pf.cr) alt m∧BQ s.pf.al s.pf.ms (Aj s.pf.cr) alt m<=50000:=by
  have g:=AO G.pf;obtain ⟨h1,h2⟩:=EX g.scr
  exact Lm g.aal g.ams (by rw [h1,N.al]) (fun i hi=>by rw [h2 i hi,N.ms]) (by rw [N.al];have:=g.r2;omega) (by rw [N.ms];have:=g.c2;omega) g.rcr _ _
theorem Ac0 (G:StG s) (N:StN s) (alt m:Int):0<=BQ s.pf.al s.pf.ms (Aj s.pf.cl) alt m∧BQ s.pf.al s.pf.ms (Aj s.pf.cl) alt m<=10000:=by
  have g:=AO G.pf;obtain ⟨h1,h2⟩:=EX g.scl
  exact Lm g.aal g.ams (by rw [h1,N.al]) (fun i hi=>by rw [h2 i hi,N.ms]) (by rw [N.al];have:=g.r2;omega) (by rw [N.ms];have:=g.c2;omega) g.rcl _ _
theorem XI (G:StG s) (N:StN s) {alt a b:Int} (h:a<=b):BQ s.pf.al s.pf.ms (Aj s.pf.cf) alt a<=BQ s.pf.al s.pf.ms (Aj s.pf.cf) alt b:=by
  have g:=AO G.pf;obtain ⟨h1,h2⟩:=EX g.scf
  exact ME g.aal g.ams (by rw [h1,N.al]) (fun i hi=>by rw [h2 i hi,N.ms]) (PU g.ccf) h
theorem XK (G:StG s) (N:StN s) {alt a b:Int} (h:a<=b):BQ s.pf.al s.pf.ms (Aj s.pf.cr) alt a<=BQ s.pf.al s.pf.ms (Aj s.pf.cr) alt b:=by
  have g:=AO G.pf;obtain ⟨h1,h2⟩:=EX g.scr
  exact ME g.aal g.ams (by rw [h1,N.al]) (fun i hi=>by rw [h2 i hi,N.ms]) (PU g.ccr) h
theorem QJ {p:Prf} {alt mass:Int} (h:pfE p=0) (h1 : -200000<=alt∧alt<=6000000) (h2:1<=mass∧mass<=3000000000):pcE p alt mass=0:=by
  unfold pcE
  rw [if_neg (by rw [h];decide),if_pos ⟨Al.2 h1,Al.2 h2⟩]
theorem Io (G:StG s) (N:StN s) (l:Lg) (left tas:Int):0<=flw s l left tas∧flw s l left tas<=50000:=by
  unfold flw
  split
  · unfold KH
    split
    · exact AcZ G N _ _
    · omega
  · split
    · unfold KL
      split
      · next h =>
        have h1:=XJ G N l.al (s.ac.em+left);have g:=AO G.pf
        have h2:inB tas 0 4000=true:=by
          unfold IP at h
          by_cases h0:pcE s.pf l.al (s.ac.em+left)=0
          · rw [if_neg (by rw [h0];decide)] at h
            by_cases h3:inB tas 0 4000=true
            · exact h3
            · rw [if_neg h3] at h;exact absurd h (by decide)
          · rw [if_pos h0] at h;exact absurd h h0
        rw [Al] at h2
        have h4:=g.rrf;have h3:=Qj (y:=max (tas - s.pf.rf) 0) h1 g.rex (by omega);have:=Int.ediv_nonneg h3.2.1 (show (0:Int)<=1000 by decide)
        omega
      · omega
    · exact Acj G N _
theorem OX (G:StG s) (N:StN s) {l:Lg} {a b t u:Int} (hal : -200000<=l.al∧l.al<=6000000) (h0:0<=a) (hab:a<=b) (hb:s.ac.em+b<=3000000000) (ht:0<=t) (htu:t<=u) (hu:u<=4000):flw s l a t<=flw s l b u:=by
  have hem:=(Dv G.ac).1;have pa:pcE s.pf l.al (s.ac.em+a)=0:=QJ G.pf hal (by omega);have pb:pcE s.pf l.al (s.ac.em+b)=0:=QJ G.pf hal (by omega)
  unfold flw
  split
  · unfold KH
    rw [if_pos pa,if_pos pb]
    exact XI G N (by omega)
  · split
    · have ca:IP s.pf l.al (s.ac.em+a) t=0:=by unfold IP;rw [if_neg (by rw [pa];decide),if_pos (Al.2 (by omega))]
      have cb:IP s.pf l.al (s.ac.em+b) u=0:=by unfold IP;rw [if_neg (by rw [pb];decide),if_pos (Al.2 (by omega))]
      unfold KL
      rw [if_pos ca,if_pos cb]
      have h1:=XJ G N l.al (s.ac.em+a);have h2:=XK G N (alt:=l.al) (show s.ac.em+a<=s.ac.em+b by omega);have g:=AO G.pf;have h5:s.pf.ex * max (t - s.pf.rf) 0<=s.pf.ex * max (u - s.pf.rf) 0:=Ef (by omega) g.rex.1;have h6:0<=s.pf.ex * max (t - s.pf.rf) 0:=BM g.rex.1 (by omega);have h7:BQ s.pf.al s.pf.ms (Aj s.pf.cr) l.al (s.ac.em+a) * (1000+s.pf.ex * max (t - s.pf.rf) 0)<=BQ s.pf.al s.pf.ms (Aj s.pf.cr) l.al (s.ac.em+b) * (1000+s.pf.ex * max (u - s.pf.rf) 0):=Int.mul_le_mul h2 (by omega) (by omega) (by omega);have:=Int.ediv_le_ediv (show (0:Int)<1000 by decide) h7
      omega
    · exact Bt _
end
/-! ### airspeeds -/
theorem Ri (c m alt dev:Int):0<=Ck c m alt dev∧Ck c m alt dev<=3500:=by
  unfold Ck
  split
  · next h =>
    have hr:=PD alt dev;have hs:=Tt alt dev
    unfold He at h
    by_cases h1:inB c 0 1000=true∧inB m 0 2000=true
    · obtain ⟨hc,hm⟩:=h1
      rw [Al] at hc hm
      unfold tsV omV
      have p0:0<=c * rtV alt dev:=BM hc.1 hr.1;have p1:c * rtV alt dev<=1000 * 3500000:=Int.mul_le_mul hc.2 hr.2 hr.1 (by decide);have p2:0<=m * sdV alt dev:=BM hm.1 hs.1
      split <;> split <;> omega
    · rw [if_neg h1] at h;exact absurd h (by decide)
  · omega
theorem EU {c c' m alt d d':Int} (hc:0<=c) (hcc:c<=c') (hc':c'<=1000) (hm:0<=m∧m<=2000) (ha : -200000<=alt∧alt<=6000000) (hd : -4000<=d) (hdd:d<=d') (hd':d'<=4000):Ck c m alt d<=Ck c' m alt d':=by
  have t1:tE alt d=0:=ZL ha ⟨hd,by omega⟩;have t2:tE alt d'=0:=ZL ha ⟨by omega,hd'⟩
  have e1:He c m alt d=0:=by unfold He;rw [if_pos ⟨Al.2 (by omega),Al.2 hm⟩,t1]
  have e2:He c' m alt d'=0:=by unfold He;rw [if_pos ⟨Al.2 (by omega),Al.2 hm⟩,t2]
  have e3:tsE c alt d=0:=by unfold tsE;rw [if_pos (Al.2 (by omega)),t1]
  have e4:tsE c' alt d'=0:=by unfold tsE;rw [if_pos (Al.2 (by omega)),t2]
  have e5:omE m alt d=0:=by unfold omE;rw [if_pos (Al.2 hm),t1]
  have e6:omE m alt d'=0:=by unfold omE;rw [if_pos (Al.2 hm),t2]
  unfold Ck
  rw [if_pos e1,if_pos e2]
  unfold tsV omV
  rw [if_pos e3,if_pos e4,if_pos e5,if_pos e6]
  have r0:=PD alt d;have s0:=Tt alt d
  have r1:rtV alt d<=rtV alt d':=by
    unfold rtV
    rw [if_pos t1,if_pos t2]
    exact At.ratV_mono (by have:=At.bdR alt ha.1 ha.2;omega) (Bt _) (by omega) hdd
  have s1:sdV alt d<=sdV alt d':=by
    unfold sdV
    rw [if_pos t1,if_pos t2]
    exact At.soundV_mono (by unfold At.tempV;omega)
  have p1:c * rtV alt d<=c' * rtV alt d':=Int.mul_le_mul hcc r1 r0.1 (by omega);have p2:m * sdV alt d<=m * sdV alt d':=Ef s1 hm.1;have:=Int.ediv_le_ediv (show (0:Int)<1000000 by decide) p1
  omega
/-! ### legs -/
section
variable {s:Stp}
theorem AR (G:StG s) (N:StN s) {k:Nat} (hk:k<s.no.length):YD (Ac s k):=by
  have h:=AQ hk
  rw [GJ h]
  exact G.no k _ h
theorem Og (G:StG s) (k:Nat):(-400<=(suH s k).e0∧(suH s k).e0<=(suH s k).e1∧(suH s k).e1<=400)∧(-400<=(suH s k).n0∧(suH s k).n0<=(suH s k).n1∧(suH s k).n1<=400) ∧ -4000<=(suH s k).d0∧(suH s k).d0<=(suH s k).d1∧(suH s k).d1<=4000:=Aci (Ez G.gr) _
theorem Xw (G:StG s) (N:StN s) {k:Nat} {x y alt:Int} (hx:min (Ac s k).px (Ac s (k+1)).px<=x∧x<=max (Ac s k).px (Ac s (k+1)).px) (hy:min (Ac s k).py (Ac s (k+1)).py<=y∧y<=max (Ac s k).py (Ac s (k+1)).py) (ha : -200000<=alt∧alt<=s.lv) :
    ((suH s k).e0+s.gr.er<=gAt s.gr (elE s.gr) x y alt∧gAt s.gr (elE s.gr) x y alt<=(suH s k).e1 - s.gr.er)∧((suH s k).n0+s.gr.er<=gAt s.gr (elN s.gr) x y alt∧gAt s.gr (elN s.gr) x y alt<=(suH s k).n1 - s.gr.er)∧(suH s k).d0<=gAt s.gr (elD s.gr) x y alt∧gAt s.gr (elD s.gr) x y alt<=(suH s k).d1:=by
  have g:=Ez G.gr;have h1:=NB g N.gal (E:=elE s.gr) hx hy ha;have h2:=NB g N.gal (E:=elN s.gr) hx hy ha;have h3:=NB g N.gal (E:=elD s.gr) hx hy ha
  unfold suH G6 G5
  simp only
  omega
structure FcG (s:Stp) (al sp:List Int):Prop where
  la:al.length=s.no.length
  ls:sp.length=s.no.length
  a:∀ k,k<s.no.length → -200000<=al.getD k 0∧al.getD k 0<=s.lv
  s:∀ k,k<s.no.length→0<=sp.getD k 0∧sp.getD k 0<=1000
theorem J7 {al sp:List Int} (h:fcE s al sp=0):FcG s al sp:=by
  unfold fcE at h
  by_cases h1:al.length≠s.no.length∨sp.length≠s.no.length
  · rw [if_pos h1] at h;exact absurd h (by decide)
  rw [if_neg h1] at h
  by_cases h2:BK al (-200000) s.lv=true∧BK sp 0 1000=true
  · have h3:al.length=s.no.length:=by omega
    have h4:sp.length=s.no.length:=by omega
    refine ⟨h3,h4,fun k hk=>?_,fun k hk=>?_⟩
    · rw [Ah (AQ (show k<al.length by omega))]
      exact Ci h2.1 _ (List.getElem_mem _)
    · rw [Ah (AQ (show k<sp.length by omega))]
      exact Ci h2.2 _ (List.getElem_mem _)
  · rw [if_neg h2] at h;exact absurd h (by decide)
theorem ND {al sp:List Int} (F:FcG s al sp) {k:Nat} (hk:k+1<s.no.length):(-200000<=lgA al k∧lgA al k<=s.lv)∧0<=lgA sp k∧lgA sp k<=1000:=by
  have h1:=F.a k (by omega);have h2:=F.a (k+1) hk;have h3:=F.s k (by omega);have h4:=F.s (k+1) hk
  unfold lgA
  omega
theorem Wy (G:StG s) (N:StN s) {al sp:List Int} (F:FcG s al sp) {k:Nat} (hk:k+1<s.no.length) :
    ((nxV s al sp k).slow<=(lgV s al sp k).ta∧(lgV s al sp k).ta<=(nxV s al sp k).fast)∧((suH s k).e0<=(lgV s al sp k).we∧(lgV s al sp k).we<=(suH s k).e1)∧(suH s k).n0<=(lgV s al sp k).wn∧(lgV s al sp k).wn<=(suH s k).n1:=by
  obtain ⟨ha,hs⟩:=ND F hk;have hlv:=G.lv;have hi:=Xw G N (k:=k) (x:=lgX s k) (y:=lgY s k) (alt:=lgA al k) (by unfold lgX;omega) (by unfold lgY;omega) ha;have hh:=Og G k;have he:=(Ez G.gr).er;have hm:=G.mch
  unfold nxV lgV
  simp only
  refine ⟨⟨EU hs.1 (Bt _) hs.2 (by omega) (by omega) (by omega) (by omega) (by omega),EU hs.1 (Bt _) hs.2 (by omega) (by omega) (by omega) (by omega) (by omega)⟩,⟨by omega,by omega⟩,by omega,by omega⟩
structure NxG (s:Stp) (p:Pass) (x:Nx):Prop where
  ta:x.l.ta≠0
  sl:x.slow≠0
  gs:gsE x.l.co x.l.ta x.l.we x.l.wn=0
  gi:giE x.l.co x.slow x.fast x.h.e0 x.h.e1 x.h.n0 x.h.n1=0
  fu:0<=x.fu s p
  bi:biE p.fl p.fh (x.f0 s p) (x.f1 s p) x.t0 x.t1=0
theorem NJ {p:Pass} {x:Nx} (h:x.E s p=0):NxG s p x:=by
  unfold Nx.E at h
  by_cases h1:x.l.ta=0∨x.slow=0
  · rw [if_pos h1] at h;exact absurd h (by decide)
  rw [if_neg h1] at h
  by_cases h2:gsE x.l.co x.l.ta x.l.we x.l.wn=0
  rotate_left
  · rw [if_pos h2] at h;exact absurd h h2
  rw [if_neg (by rw [h2];decide)] at h
  by_cases h3:giE x.l.co x.slow x.fast x.h.e0 x.h.e1 x.h.n0 x.h.n1=0
  rotate_left
  · rw [if_pos h3] at h;exact absurd h h3
  rw [if_neg (by rw [h3];decide)] at h
  by_cases h4:x.fu s p<0
  · rw [if_pos h4] at h;exact absurd h (by decide)
  rw [if_neg h4] at h
  exact ⟨fun e=>h1 (.inl e),fun e=>h1 (.inr e),h2,h3,by omega,h⟩
theorem YK {l0 l1 f0 f1 t0 t1:Int} (h:biE l0 l1 f0 f1 t0 t1=0):(l0<=l1∧f0<=f1∧t0<=t1)∧(0<=l0∧l1<=3000000000∧0<=f0∧f1<=50000∧0<=t0∧t1<=1099511627776)∧0<=l0 - f1 * t1∧biL l0 l1 f0 f1 t0 t1=l0 - f1 * t1∧biH l0 l1 f0 f1 t0 t1=l1 - f0 * t0:=by
  have e1:biL l0 l1 f0 f1 t0 t1=l0 - f1 * t1:=if_pos h;have e2:biH l0 l1 f0 f1 t0 t1=l1 - f0 * t0:=if_pos h
  unfold biE at h
  by_cases h1:l1<l0∨f1<f0∨t1<t0
  · rw [if_pos h1] at h;exact absurd h (by decide)
  rw [if_neg h1] at h
  by_cases h2:l0<0∨3000000000<l1∨f0<0∨50000<f1∨t0<0∨1099511627776<t1
  · rw [if_pos h2] at h;exact absurd h (by decide)
  rw [if_neg h2] at h
  by_cases h3:l0 - f1 * t1<0
  · rw [if_pos h3] at h;exact absurd h (by decide)
  exact ⟨by omega,by omega,by omega,e1,e2⟩
structure FuI (s:Stp) (p:Pass):Prop where
  lo:0<=p.fl
  le:p.fl<=p.fh
  hi:s.ac.em+p.fh<=3000000000
theorem Pi (G:StG s) (N:StN s) {al sp:List Int} (F:FcG s al sp) {k:Nat} (hk:k+1<s.no.length) {p:Pass} (hE:nxE s p al sp k=0) (hF:FuI s p) {e n:Int} (he:(suH s k).e0<=e∧e<=(suH s k).e1) (hn:(suH s k).n0<=n∧n<=(suH s k).n1) {left:Int} (hl:p.fl<=left∧left<=p.fh) :
    (lgV s al sp k).ta≠0∧gsE (lgV s al sp k).co (lgV s al sp k).ta e n=0 ∧
    (0<=(nxV s al sp k).t0∧(nxV s al sp k).t0<=tck (Ac s (k+1)).di (gsV (lgV s al sp k).co (lgV s al sp k).ta e n / 1024)∧tck (Ac s (k+1)).di (gsV (lgV s al sp k).co (lgV s al sp k).ta e n / 1024)<=(nxV s al sp k).t1∧(nxV s al sp k).t1<=8000000) ∧
    ((nxP s p al sp k).fl<=left - tck (Ac s (k+1)).di (gsV (lgV s al sp k).co (lgV s al sp k).ta e n / 1024) * flw s (lgV s al sp k) left (lgV s al sp k).ta∧left - tck (Ac s (k+1)).di (gsV (lgV s al sp k).co (lgV s al sp k).ta e n / 1024) * flw s (lgV s al sp k) left (lgV s al sp k).ta<=(nxP s p al sp k).fh)∧FuI s (nxP s p al sp k):=by
  have hx:=NJ hE;obtain ⟨⟨i1,i2⟩,i3,i4⟩:=Wy G N F hk;obtain ⟨ha,_⟩:=ND F hk;have hlv:=G.lv;have hdi:=(AR G N hk).di;have hgi:giE (lgV s al sp k).co (nxV s al sp k).slow (nxV s al sp k).fast (suH s k).e0 (suH s k).e1 (suH s k).n0 (suH s k).n1=0:=hx.gi;obtain ⟨⟨b1,b2⟩,b3⟩:=SE hgi;obtain ⟨b4,b5,b6⟩:=b3 (lgV s al sp k).ta e n he hn ⟨i1,i2⟩;have s0:=Ri (lgA sp k) s.mch (lgA al k) (suH s k).d0;have s1:=Ri (lgA sp k) s.mch (lgA al k) (suH s k).d1;have hsl:0<=(nxV s al sp k).slow:=s0.1;have hfa:(nxV s al sp k).fast<=3500:=s1.2;generalize hg:gsV (lgV s al sp k).co (lgV s al sp k).ta e n / 1024=g at *;have c1:1<=(nxV s al sp k).gl:=b1;have c2:(nxV s al sp k).gl<=(nxV s al sp k).gh:=b2;have c5:(nxV s al sp k).gl<=g:=b5;have c6:g<=(nxV s al sp k).gh:=b6;have t0:0<=(nxV s al sp k).t0:=(E8 (d:=(Ac s (k+1)).di) (g:=(nxV s al sp k).gh) hdi.1 (by omega)).1;have t1:(nxV s al sp k).t0<=tck (Ac s (k+1)).di g:=EL hdi.1 (by omega) c6;have t2:tck (Ac s (k+1)).di g<=(nxV s al sp k).t1:=EL hdi.1 c1 c5;have t3:(nxV s al sp k).t1<=8000000:=Int.le_trans (E8 (d:=(Ac s (k+1)).di) (g:=(nxV s al sp k).gl) hdi.1 c1).2 hdi.2;have hb:=YK hx.bi;have hal:(lgV s al sp k).al=lgA al k:=rfl;have f1:(nxV s al sp k).f0 s p<=flw s (lgV s al sp k) left (lgV s al sp k).ta:=OX G N (show -200000<=lgA al k∧lgA al k<=6000000 by omega) hF.lo hl.1 (by have:=hF.hi;omega) hsl i1 (by omega);have f2:flw s (lgV s al sp k) left (lgV s al sp k).ta<=(nxV s al sp k).f1 s p:=OX G N (show -200000<=lgA al k∧lgA al k<=6000000 by omega) (by have:=hF.lo;omega) hl.2 hF.hi (by omega) i2 (by omega);have f0:=Io G N (lgV s al sp k) left (lgV s al sp k).ta;have f00:0<=(nxV s al sp k).f0 s p:=(Io G N _ _ _).1
  have p1:(nxV s al sp k).f0 s p * (nxV s al sp k).t0<=tck (Ac s (k+1)).di g * flw s (lgV s al sp k) left (lgV s al sp k).ta:=by
    rw [Int.mul_comm (tck _ _)]
    exact Int.mul_le_mul f1 t1 t0 f0.1
  have p2:tck (Ac s (k+1)).di g * flw s (lgV s al sp k) left (lgV s al sp k).ta<=(nxV s al sp k).f1 s p * (nxV s al sp k).t1:=by
    rw [Int.mul_comm (tck _ _)]
    exact Int.mul_le_mul f2 t2 (by omega) (by omega)
  have p0:0<=(nxV s al sp k).f0 s p * (nxV s al sp k).t0:=BM f00 t0;have e1:(nxP s p al sp k).fl=p.fl - (nxV s al sp k).f1 s p * (nxV s al sp k).t1:=hb.2.2.2.1;have e2:(nxP s p al sp k).fh=p.fh - (nxV s al sp k).f0 s p * (nxV s al sp k).t0:=hb.2.2.2.2;have e3:=hb.2.2.1;have:=hF.le;have:=hF.hi
  exact ⟨hx.ta,b4,⟨t0,t1,t2,t3⟩,⟨by rw [e1];omega,by rw [e2];omega⟩,⟨by rw [e1];omega,by rw [e1,e2];omega,by rw [e2];omega⟩⟩
theorem YW (G:StG s) (al sp:List Int):FuI s (YV s al sp):=by
  have:=Dv G.ac;have e:s.ac.left=s.ac.ld - s.ac.bu:=if_pos G.ac
  refine ⟨?_,?_,?_⟩
  · show 0<=s.ac.left;omega
  · exact Bt _
  · show s.ac.em+s.ac.left<=_;omega
theorem JA {al sp : List Int}:∀ {n k:Nat},k<=n→psE s al sp n=0→psE s al sp k=0
  | 0, k, hk, h => by obtain rfl:k=0:=by omega
                      exact h
  | n + 1,k,hk,h=>by
    by_cases e:k=n+1
    · subst e;exact h
    · refine JA (n:=n) (by omega) ?_
      by_cases h0:psE s al sp n=0
      · exact h0
      · have:psE s al sp (n+1)=psE s al sp n:=if_pos h0
        rw [← this];exact h
theorem QM {al sp:List Int} {k:Nat} (h:psE s al sp (k+1)=0):nxE s (psP s al sp k) al sp k=0:=by
  have h0:=JA (k:=k) (Nat.le_succ k) h;have:psE s al sp (k+1)=nxE s (psP s al sp k) al sp k:=if_neg (by rw [h0];decide)
  rw [← this];exact h
def AdC (s:Stp) (ws:Cs.Wins):Prop:=∀ k,k+1<s.no.length→((suH s k).e0<=(ws.getD k (0,0)).1∧(ws.getD k (0,0)).1<=(suH s k).e1)∧(suH s k).n0<=(ws.getD k (0,0)).2∧(ws.getD k (0,0)).2<=(suH s k).n1
structure FlI (s:Stp) (al sp:List Int) (ws:Cs.Wins) (k:Nat):Prop where
  fu:FuI s (psP s al sp k)
  e:DV s al sp ws k=0
  t:(psP s al sp k).tl<=DT s al sp ws k∧DT s al sp ws k<=(psP s al sp k).th
  f:(psP s al sp k).fl<=Cc s al sp ws k∧Cc s al sp ws k<=(psP s al sp k).fh
  t':(psP s al sp k).tl<=(psP s al sp k).tick∧(psP s al sp k).tick<=(psP s al sp k).th
  f':(psP s al sp k).fl<=(psP s al sp k).fuel∧(psP s al sp k).fuel<=(psP s al sp k).fh
  t0:0<=(psP s al sp k).tl∧(psP s al sp k).th<=8000000 * (k:Int)
theorem AaE (G:StG s) (N:StN s) {al sp:List Int} (F:FcG s al sp) {ws:Cs.Wins} (hw:AdC s ws):∀ k,k<s.no.length→psE s al sp k=0→FlI s al sp ws k
  | 0,hk,h=>⟨YW G al sp,rfl,⟨Bt _,Bt _⟩,⟨Bt _,Bt _⟩,⟨Bt _,Bt _⟩,⟨Bt _,Bt _⟩,⟨Bt _,Bt _⟩⟩
  | k+1,hk,h=>by
    have ih:=AaE G N F hw k (by omega) (JA (Nat.le_succ k) h);have hE:=QM h;obtain ⟨a1,a2,a3,a4,a5⟩:=Pi G N F hk hE ih.fu (hw k hk).1 (hw k hk).2 ih.f;have hl:=Wy G N F hk;obtain ⟨b1,b2,b3,b4,b5⟩:=Pi G N F hk hE ih.fu hl.2.1 hl.2.2 ih.f';have eT:DT s al sp ws (k+1)=DT s al sp ws k+flT s al sp ws k:=rfl;have eL:Cc s al sp ws (k+1)=Cc s al sp ws k - flT s al sp ws k * flw s (lgV s al sp k) (Cc s al sp ws k) (lgV s al sp k).ta:=rfl;have eF:flT s al sp ws k=tck (Ac s (k+1)).di (gsV (lgV s al sp k).co (lgV s al sp k).ta (ws.getD k (0,0)).1 (ws.getD k (0,0)).2 / 1024):=rfl;have eP:psP s al sp (k+1)=nxP s (psP s al sp k) al sp k:=rfl;have e1:(psP s al sp (k+1)).tl=(psP s al sp k).tl+(nxV s al sp k).t0:=rfl;have e2:(psP s al sp (k+1)).th=(psP s al sp k).th+(nxV s al sp k).t1:=rfl;have e3:(psP s al sp (k+1)).tick=(psP s al sp k).tick+tck (Ac s (k+1)).di (gsV (lgV s al sp k).co (lgV s al sp k).ta (lgV s al sp k).we (lgV s al sp k).wn / 1024):=rfl;have e4:(psP s al sp (k+1)).fuel=(psP s al sp k).fuel - tck (Ac s (k+1)).di (gsV (lgV s al sp k).co (lgV s al sp k).ta (lgV s al sp k).we (lgV s al sp k).wn / 1024) * flw s (lgV s al sp k) (psP s al sp k).fuel (lgV s al sp k).ta:=rfl
    rw [← eF] at a3 a4
    rw [← eL] at a4
    rw [← e4] at b4
    rw [← eP] at a4 b4 a5
    have i1:=ih.t;have i2:=ih.t';have i3:=ih.t0
    refine ⟨a5,?_,⟨by omega,by omega⟩,a4,⟨by omega,by omega⟩,b4,⟨by omega,by omega⟩⟩
    have e5:DV s al sp ws (k+1)=CJ s al sp ws k:=if_neg (by rw [ih.e];decide)
    rw [e5]
    unfold CJ
    rw [if_neg a1,if_neg (by rw [a2];decide),if_neg (by have:=a5.lo;omega)]
/-! ### VJ -/
theorem VJ (G:StG s) (N:StN s) {al a b:List Int} (Fa:FcG s al a) (Fb:FcG s al b) (hab:∀ k,k<s.no.length→a.getD k 0<=b.getD k 0):∀ k,k<s.no.length→psE s al a k=0→psE s al b k=0 →
    ((psP s al b k).tick<=(psP s al a k).tick∧(psP s al a k).tas<=(psP s al b k).tas)∧(psP s al b k).tl<=(psP s al a k).tl∧(psP s al b k).th<=(psP s al a k).th
  | 0,hk,_,_=>by
    have h1:=hab 0 hk;have h2:=Fa.s 0 hk;have h3:=Fb.s 0 hk;have h4:=Fa.a 0 hk;have hlv:=G.lv;have hm:=G.mch;have g:=Ez G.gr
    have hd : -4000<=gAt s.gr (elD s.gr) (Ac s 0).px (Ac s 0).py (al.getD 0 0)∧gAt s.gr (elD s.gr) (Ac s 0).px (Ac s 0).py (al.getD 0 0)<=4000:=by
      have hi:=NB g N.gal (E:=elD s.gr) (px:=(Ac s 0).px) (py:=(Ac s 0).py) (alt:=al.getD 0 0) (ax:=(Ac s 0).px) (bx:=(Ac s 0).px) (ay:=(Ac s 0).py) (by_:=(Ac s 0).py) (lo:=al.getD 0 0) (hi:=al.getD 0 0) (by omega) (by omega) (by omega);have hb:=Jr (h:=hbx s.gr (Ac s 0).px (Ac s 0).py (Ac s 0).px (Ac s 0).py (al.getD 0 0) (al.getD 0 0)) (VA g)
      omega
    exact ⟨⟨Bt _,EU h2.1 h1 h3.2 (by omega) (by omega) hd.1 (Bt _) hd.2⟩,Bt _,Bt _⟩
  | k+1,hk,ha,hb=>by
    have ih:=VJ G N Fa Fb hab k (by omega) (JA (Nat.le_succ k) ha) (JA (Nat.le_succ k) hb);have xa:=NJ (QM ha);have xb:=NJ (QM hb);have h1:=hab k (by omega);have h1':=hab (k+1) hk;obtain ⟨hal,hsa⟩:=ND Fa hk;obtain ⟨_,hsb⟩:=ND Fb hk
    have hs:lgA a k<=lgA b k:=by unfold lgA;omega
    have hlv:=G.lv;have hm:=G.mch;have hh:=Og G k;have hdi:=(AR G N hk).di;have hi:=Xw G N (k:=k) (x:=lgX s k) (y:=lgY s k) (alt:=lgA al k) (by unfold lgX;omega) (by unfold lgY;omega) hal;have c1:(lgV s al a k).ta<=(lgV s al b k).ta:=EU hsa.1 hs hsb.2 (by omega) (by omega) (by omega) (Bt _) (by omega);have c2:(nxV s al a k).slow<=(nxV s al b k).slow:=EU hsa.1 hs hsb.2 (by omega) (by omega) (by omega) (Bt _) (by omega);have c3:(nxV s al a k).fast<=(nxV s al b k).fast:=EU hsa.1 hs hsb.2 (by omega) (by omega) (by omega) (Bt _) (by omega);have hta:(lgV s al b k).ta<=3500:=(Ri _ _ _ _).2;have gs:gsE (lgV s al a k).co (lgV s al a k).ta (lgV s al a k).we (lgV s al a k).wn=0:=xa.gs;have d1:=(YZ gs c1 (by omega)).2;have gia:giE (lgV s al a k).co (nxV s al a k).slow (nxV s al a k).fast (suH s k).e0 (suH s k).e1 (suH s k).n0 (suH s k).n1=0:=xa.gi;have gib:giE (lgV s al a k).co (nxV s al b k).slow (nxV s al b k).fast (suH s k).e0 (suH s k).e1 (suH s k).n0 (suH s k).n1=0:=xb.gi;have d2:=YX gia gib c2 c3;have d3:=(SE gia).1;have hgs:=GH gs
    have g1:1<=gsV (lgV s al a k).co (lgV s al a k).ta (lgV s al a k).we (lgV s al a k).wn / 1024:=by have:=hgs.hlo;have:=hgs.hv;omega
    have g2:gsV (lgV s al a k).co (lgV s al a k).ta (lgV s al a k).we (lgV s al a k).wn / 1024<=gsV (lgV s al a k).co (lgV s al b k).ta (lgV s al a k).we (lgV s al a k).wn / 1024:=Int.ediv_le_ediv (by decide) d1
    have g3:1<=giH (lgV s al a k).co (nxV s al a k).slow (nxV s al a k).fast (suH s k).e0 (suH s k).e1 (suH s k).n0 (suH s k).n1:=by omega
    have d4:(nxV s al b k).t<=(nxV s al a k).t:=EL hdi.1 g1 g2;have d5:(nxV s al b k).t0<=(nxV s al a k).t0:=EL hdi.1 g3 d2.2;have d6:(nxV s al b k).t1<=(nxV s al a k).t1:=EL hdi.1 d3.1 d2.1;have e1:(psP s al a (k+1)).tick=(psP s al a k).tick+(nxV s al a k).t:=rfl;have e2:(psP s al b (k+1)).tick=(psP s al b k).tick+(nxV s al b k).t:=rfl;have e3:(psP s al a (k+1)).tl=(psP s al a k).tl+(nxV s al a k).t0:=rfl;have e4:(psP s al b (k+1)).tl=(psP s al b k).tl+(nxV s al b k).t0:=rfl;have e5:(psP s al a (k+1)).th=(psP s al a k).th+(nxV s al a k).t1:=rfl;have e6:(psP s al b (k+1)).th=(psP s al b k).th+(nxV s al b k).t1:=rfl
    exact ⟨⟨by omega,c1⟩,by omega,by omega⟩
end
