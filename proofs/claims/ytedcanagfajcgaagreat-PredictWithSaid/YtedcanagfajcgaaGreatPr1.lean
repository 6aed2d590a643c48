
/- Layer 37: predictions, the program's functions: Check and small ones. -/
import Derived.Test.YtedcanagfajcgaaGreatM32
import Derived.Test.YtedcanagfajcgaaGreatGd1
import Derived.Test.YtedcanagfajcgaaGreatM4
set_option linter.unusedSimpArgs false
set_option linter.unusedVariables false
set_option maxRecDepth 100000
set_option maxHeartbeats 2000000
namespace Go.Proofs
theorem FT{G:Prop}(h:G:=by
  go_enter Tryz.func48,Tryz.ntmps48
  go_wp2_with fail
  refine (BU _ _ _ _).mono ?_;rintro e wx ⟨rfl,rfl⟩
  rw [G0.out]
  go_wp2_with fail
  refine (BU _ _ _ _).mono ?_;rintro e wx ⟨rfl,rfl⟩
  rw [G1.out]
  go_wp2_with fail
  refine (BU _ _ _ _).mono ?_;rintro e wx ⟨rfl,rfl⟩
  rw [G2.out]
  go_wp2_with fail
  refine (Gs _ _).mono ?_;rintro e wx ⟨rfl,rfl⟩
  rw [G3.out]
  go_wp2_with fail
  refine (Gs _ _).mono ?_;rintro e wx ⟨rfl,rfl⟩
  rw [G4.out]
  go_wp2_with fail
  go_ret
  exact ⟨Af HF.out.symm,Aa _ _⟩):G:=h
theorem Na{G:Prop}(h:G:=by
  go_wp2_with fail
  go_ret
  exact ⟨Af HF.out.symm,Aa _ _⟩):G:=h
theorem YA{G:Prop}(h:G:=by
  go_wp2
  go_ret
  exact ⟨Ao (by rw [hv.out,Bool.eq_iff_iff];simp;try omega),rfl⟩):G:=h
end Go.Proofs
namespace Go.Proofs.YtedcanagfajcgaaGreat
open Go.RowKit
open Go.Lib (hid)
theorem BU (n lo hi:Int) (w:World):Calls Tryz.prog 53 #[vI n,vI lo,vI hi] w fun e w'=>e=.returned (.bool (inB n lo hi))∧w=w':=by
 have hv:=hid (show inB n lo hi=(decide (lo<=n) && decide (n<=hi)) from rfl)
 by_cases h1:n<lo
 ·go_enter Tryz.func53,Tryz.ntmps53
  exact YA
 by_cases h2:hi<n
 ·go_enter Tryz.func53,Tryz.ntmps53
  exact YA
 ·go_enter Tryz.func53,Tryz.ntmps53
  exact YA
theorem Gs (n:Int) (w:World):Calls Tryz.prog 52 #[vI n] w fun e w'=>e=.returned (.bool (inB n (-200000) 6000000))∧w=w':=by
 go_enter Tryz.func52,Tryz.ntmps52
 go_wp2_with fail
 refine (BU _ _ _ _).mono ?_;rintro e wx ⟨rfl,rfl⟩
 go_wp2_with fail
 go_ret
 exact ⟨rfl,rfl⟩
theorem WL {n:Nod} {i:Nat} (h:(inB n.px (-2000000) 2000000 && inB n.py (-2000000) 2000000 && inB n.di 0 8000000)=false):noE n i=2:=if_pos h
theorem Afu {n:Nod} {i:Nat} (h:(inB n.px (-2000000) 2000000 && inB n.py (-2000000) 2000000 && inB n.di 0 8000000)=true) (h2:i=0∧n.di≠0):noE n i=1:=by unfold noE;rw [h,if_neg (by decide),if_pos h2]
theorem Afv {n:Nod} {i:Nat} (h:(inB n.px (-2000000) 2000000 && inB n.py (-2000000) 2000000 && inB n.di 0 8000000)=true) (h2:¬ (i=0∧n.di≠0)):noE n i=if (inB n.a0 (-200000) 6000000 && inB n.a1 (-200000) 6000000 && decide (n.a0<=n.a1))=false then 2 else if (decide (0<=n.s0) && decide (n.s0<=n.s1) && decide (n.s1<=1000))=false then 2 else 0:=by unfold noE;rw [h,if_neg (by decide),if_neg h2]
theorem Rw (n:Nod) (i:Nat) (w:World):Calls Tryz.prog 48 #[.agg #[vI n.px,vI n.py,vI n.di,vI n.a0,vI n.a1,vI n.s0,vI n.s1],vI i] w fun e w'=>e=.returned (vI (noE n i))∧Below w.heap.size w w':=by
 cases g:inB n.px (-2000000) 2000000
 ·have HF:=hid (WL (n:=n) (i:=i) (by rw [g];simp))
  have G0:=hid g;clear g
  go_enter Tryz.func48,Tryz.ntmps48
  go_wp2_with fail
  refine (BU _ _ _ _).mono ?_;rintro e wx ⟨rfl,rfl⟩
  rw [G0.out]
  exact Na
 have G0:=hid g;clear g
 cases g:inB n.py (-2000000) 2000000
 ·have HF:=hid (WL (n:=n) (i:=i) (by rw [G0.out,g];simp))
  have G1:=hid g;clear g
  go_enter Tryz.func48,Tryz.ntmps48
  go_wp2_with fail
  refine (BU _ _ _ _).mono ?_;rintro e wx ⟨rfl,rfl⟩
  rw [G0.out]
  go_wp2_with fail
  refine (BU _ _ _ _).mono ?_;rintro e wx ⟨rfl,rfl⟩
  rw [G1.out]
  exact Na
 have G1:=hid g;clear g
 cases g:inB n.di 0 8000000
 ·have HF:=hid (WL (n:=n) (i:=i) (by rw [G0.out,G1.out,g];simp))
  have G2:=hid g;clear g
  go_enter Tryz.func48,Tryz.ntmps48
  go_wp2_with fail
  refine (BU _ _ _ _).mono ?_;rintro e wx ⟨rfl,rfl⟩
  rw [G0.out]
  go_wp2_with fail
  refine (BU _ _ _ _).mono ?_;rintro e wx ⟨rfl,rfl⟩
  rw [G1.out]
  go_wp2_with fail
  refine (BU _ _ _ _).mono ?_;rintro e wx ⟨rfl,rfl⟩
  rw [G2.out]
  exact Na
 have G2:=hid g;clear g;have G012:=hid (show (inB n.px (-2000000) 2000000 && inB n.py (-2000000) 2000000 && inB n.di 0 8000000)=true by rw [G0.out,G1.out,G2.out];rfl)
 by_cases h1:i=0∧n.di≠0
 ·have HF:=hid (Afu G012.out h1)
  have e1:((i:Int) == 0)=true:=by simp [h1.1]
  have e2:(n.di != 0)=true:=by simp [h1.2]
  clear h1
  go_enter Tryz.func48,Tryz.ntmps48
  go_wp2_with fail
  refine (BU _ _ _ _).mono ?_;rintro e wx ⟨rfl,rfl⟩
  rw [G0.out]
  go_wp2_with fail
  refine (BU _ _ _ _).mono ?_;rintro e wx ⟨rfl,rfl⟩
  rw [G1.out]
  go_wp2_with fail
  refine (BU _ _ _ _).mono ?_;rintro e wx ⟨rfl,rfl⟩
  rw [G2.out]
  exact Na
 have HR:=hid (Afv G012.out h1)
 have E1:Hid (((i:Int) == 0)=false∨(((i:Int) == 0)=true∧(n.di != 0)=false)):=hid (by
  by_cases h:i=0
  ·right;refine ⟨by simp [h],?_⟩
   by_cases h2:n.di=0
   ·simp [h2]
   ·exact absurd ⟨h,h2⟩ h1
  ·left;simp;omega)
 clear h1
 rcases E1.out with e1 | ⟨e1,e2⟩
 ·clear E1
  cases g:inB n.a0 (-200000) 6000000
  ·have HF:=hid (HR.out.trans (if_pos (by rw [g];simp)))
   have G3:=hid g;clear g
   go_enter Tryz.func48,Tryz.ntmps48
   go_wp2_with fail
   refine (BU _ _ _ _).mono ?_;rintro e wx ⟨rfl,rfl⟩
   rw [G0.out]
   go_wp2_with fail
   refine (BU _ _ _ _).mono ?_;rintro e wx ⟨rfl,rfl⟩
   rw [G1.out]
   go_wp2_with fail
   refine (BU _ _ _ _).mono ?_;rintro e wx ⟨rfl,rfl⟩
   rw [G2.out]
   go_wp2_with fail
   refine (Gs _ _).mono ?_;rintro e wx ⟨rfl,rfl⟩
   rw [G3.out]
   exact Na
  have G3:=hid g;clear g
  cases g:inB n.a1 (-200000) 6000000
  ·have HF:=hid (HR.out.trans (if_pos (by rw [G3.out,g];simp)))
   have G4:=hid g;clear g
   exact FT
  have G4:=hid g;clear g
  by_cases h3:n.a1<n.a0
  ·have HF:=hid (HR.out.trans (if_pos (by rw [G3.out,G4.out];simp;omega)))
   exact FT
  replace HR:=hid (HR.out.trans (if_neg (by rw [G3.out,G4.out];simp;omega)))
  by_cases q0:n.s0<0
  ·have HF:=hid (HR.out.trans (if_pos (by simp;omega)))
   exact FT
  by_cases q1:n.s1<n.s0
  ·have HF:=hid (HR.out.trans (if_pos (by simp;omega)))
   exact FT
  by_cases q2:1000<n.s1
  ·have HF:=hid (HR.out.trans (if_pos (by simp;omega)))
   exact FT
  have HF:=hid (HR.out.trans (if_neg (by simp;omega)))
  exact FT
 ·clear E1
  cases g:inB n.a0 (-200000) 6000000
  ·have HF:=hid (HR.out.trans (if_pos (by rw [g];simp)))
   have G3:=hid g;clear g
   go_enter Tryz.func48,Tryz.ntmps48
   go_wp2_with fail
   refine (BU _ _ _ _).mono ?_;rintro e wx ⟨rfl,rfl⟩
   rw [G0.out]
   go_wp2_with fail
   refine (BU _ _ _ _).mono ?_;rintro e wx ⟨rfl,rfl⟩
   rw [G1.out]
   go_wp2_with fail
   refine (BU _ _ _ _).mono ?_;rintro e wx ⟨rfl,rfl⟩
   rw [G2.out]
   go_wp2_with fail
   refine (Gs _ _).mono ?_;rintro e wx ⟨rfl,rfl⟩
   rw [G3.out]
   exact Na
  have G3:=hid g;clear g
  cases g:inB n.a1 (-200000) 6000000
  ·have HF:=hid (HR.out.trans (if_pos (by rw [G3.out,g];simp)))
   have G4:=hid g;clear g
   exact FT
  have G4:=hid g;clear g
  by_cases h3:n.a1<n.a0
  ·have HF:=hid (HR.out.trans (if_pos (by rw [G3.out,G4.out];simp;omega)))
   exact FT
  replace HR:=hid (HR.out.trans (if_neg (by rw [G3.out,G4.out];simp;omega)))
  by_cases q0:n.s0<0
  ·have HF:=hid (HR.out.trans (if_pos (by simp;omega)))
   exact FT
  by_cases q1:n.s1<n.s0
  ·have HF:=hid (HR.out.trans (if_pos (by simp;omega)))
   exact FT
  by_cases q2:1000<n.s1
  ·have HF:=hid (HR.out.trans (if_pos (by simp;omega)))
   exact FT
  have HF:=hid (HR.out.trans (if_neg (by simp;omega)))
  exact FT
