
/- Layer 37: PredictSpeeds, the walk. -/
import Derived.Test.YtheepmnhpclimaaGreatRfSp
import Derived.Test.YtheepmnhpclimaaGreatLaBase37
import Derived.Test.YtheepmnhpclimaaGreatM41
import Derived.RegionTactic
namespace Go.Proofs.YtheepmnhpclimaaGreat
set_option linter.unusedSimpArgs false
set_option linter.unusedVariables false
set_option maxRecDepth 100000
set_option maxHeartbeats 8000000
open Go.RowKit
open Go.Lib (hid)
theorem boxS0q (w:World):BoxS w 0 [] w:=⟨fun i cs hi=>by simp at hi,by simp,Below.refl _ _,by simp⟩
def PqRel (m:Nat) (B:World) (j t:Value) (wr:World):Prop:=∃ k:Nat,k≤m∧t=vI (k:Int)∧BoxS B 0 [] wr
theorem walk_PredictSpeeds (s:Stp) (A:Option Addr) (n c:Nat) (al:List Int) (w:World) (hl:s.lies w) (hok:s.ok) (_:StpW s) (ha:Ints w A n al) (_:∀ x ∈ al,(Lit.int .i64 x).wf=true) (hn:n≤maxLen) (_:n * 8≤reachBytes):Calls Tryz.prog 4 #[.agg s.cells.toArray,.slice A n c] w fun e w'=>e=.returned (.bool true)∧Below w.heap.size w w':=by
 have HS:=hid (boxS1 w s.cells.toArray 35);have HAW:=hid awake37;have HA:=hid (fun W (h:BoxS w 1 [s.cells] W)=>xPSpeeds s A n c al W (hl.below h.B) hok (ha.below h.B) hn);have HR:=hid (fun W (h:BoxS w 1 [s.cells] W)=>rPSpeeds s A n c al W (hl.below h.B) hok (ha.below h.B) hn)
 have hm:okN (sdE s al) n≤maxLen:=by unfold okN;split <;> omega
 unfold maxLen at hm
 unfold PrRes at HA HR
 generalize okN (sdE s al) n=m at *;generalize okL (sdE s al) (sdL s al)=l at *;generalize sdE s al=E at *;clear hl hok ha hn
 go_enter Tryz.func4,Tryz.ntmps4
 go_wp2_with fail
 refine (HAW.out _).mono ?_;rintro e' w1 ⟨rfl,hB⟩
 replace HS:=hid (HS.out.below hB);clear hB HAW
 go_wp2_with (refine at_stp (.tmp 2) rfl rfl rfl (HS.out.has 0 _ rfl) ?_)
 refine (HA.out _ HS.out).mono ?_;rintro e' w2 ⟨A1,c1,rfl,hp,-,hB⟩
 replace HS:=hid (HS.out.below hB);have P:=hid hp;clear hB HA hp
 go_wp2_with (refine at_stp (.tmp 2) rfl rfl rfl (HS.out.has 0 _ rfl) ?_)
 refine (HR.out _ HS.out).mono ?_;rintro e' w3 ⟨A2,c2,rfl,hq,-,hB⟩
 replace HS:=hid (HS.out.below hB);replace P:=hid (P.out.below hB);have Q:=hid hq;clear hB HR hq
 go_wp2_with fail
 go_loopw [9,36] (fun j t wr=>PqRel m w3 j t wr) (fun _ t _=>m - (intOf t).toNat)
 case atStart=>exact ⟨0,by omega,rfl,boxS0q _⟩
 case round =>
 obtain ⟨k,hk,rfl,hs⟩:=hrel;have HR:=hid hs;clear hs
 by_cases hlt:k<m
 rotate_left
 ·have hlt':¬ (k:Int)<(m:Int):=by omega
  go_wp2_with fail
  go_ret
  exact ⟨rfl,(HS.out.below HR.out.B).B⟩
 obtain ⟨x,hx⟩:=get_ex P.out.len hlt;obtain ⟨b,off,hA,hb,hc⟩:=P.out.cells (by omega);obtain ⟨b2,o2,hA2,hb2,hc2⟩:=Q.out.cells (by omega);have FA:=fun W (h:BoxS w3 0 [] W)=>And.intro (show W.cell? ⟨b,off+k * 2,none⟩=some (vI x.1) from (h.B.cell (p:=⟨b,off+k * 2,none⟩) hb).trans (hc k x hx 0 _ rfl)) (And.intro (show W.cell? ⟨b,off+k * 2+1,none⟩=some (vI x.2) from (h.B.cell (p:=⟨b,off+k * 2+1,none⟩) hb).trans (hc k x hx 1 _ rfl)) (And.intro (show W.cell? ⟨b2,o2+k * 2,none⟩=some (vI x.1) from (h.B.cell (p:=⟨b2,o2+k * 2,none⟩) hb2).trans (hc2 k x hx 0 _ rfl)) (show W.cell? ⟨b2,o2+k * 2+1,none⟩=some (vI x.2) from (h.B.cell (p:=⟨b2,o2+k * 2+1,none⟩) hb2).trans (hc2 k x hx 1 _ rfl))))
 have i0:(0:Int)≤(k:Int):=by omega
 have i1:(k:Int)<(m:Int):=by omega
 rw [hA,hA2]
 clear hA hA2 hc hc2 hx hb hb2
 go_wp2_with fail
 refine rS (fun W=>BoxS w3 0 [] W) 9 HR.out.drew (fun hHeld=>?_)
 iterate 3 refine rQ ?_
 refine rF ?_
 iterate 3 refine rQ ?_
 refine rF ?_
 refine rQ ?_
 refine wpAnyH_done (by kernel_rfl) ?_ _
 go_wp2_with fail
 go_roundw
 case rel=>exact ⟨k+1,by omega,by go_num,hHeld⟩
 case measure=>simp only [intOf];omega
end Go.Proofs.YtheepmnhpclimaaGreat
