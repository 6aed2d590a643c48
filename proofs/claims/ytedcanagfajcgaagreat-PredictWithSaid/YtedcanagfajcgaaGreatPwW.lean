
/- Layer 37: PredictWith, the walk. -/
import Derived.Test.YtedcanagfajcgaaGreatRfWt
import Derived.Test.YtedcanagfajcgaaGreatM20
set_option linter.unusedSimpArgs false
set_option linter.unusedVariables false
set_option maxRecDepth 100000
set_option maxHeartbeats 8000000
namespace Go.Proofs.YtedcanagfajcgaaGreat
open Go.RowKit
open Go.Lib (hid)
theorem AiA (w:World):BoxS w 0 [] w:=⟨fun i cs hi=>by simp at hi,by simp,AJ _ _,by simp⟩
def AiB (m:Nat) (B:World) (t:Value) (wr:World):Prop:=∃ k:Nat,k<=m∧t=vI (k:Int)∧BoxS B 0 [] wr
theorem Aiz (A B:Option Addr) (m c d:Nat) (l:List Pass) (w:World) (ha:Passes w A m l) (hb:Passes w B m l) (hn:m<=maxLen):Calls Tryz.prog 8 #[.slice A m c,.slice B m d] w fun e w'=>e=.returned (.bool true)∧Below w.heap.size w w':=by
 have P:=hid ha;have Q:=hid hb
 unfold maxLen at hn
 clear ha hb
 go_enter Tryz.func8,Tryz.ntmps8
 go_wp2_with fail
 go_loopw [13] (fun t wr=>AiB m w t wr) (fun t _=>m - (intOf t).toNat)
 case atStart=>exact ⟨0,by omega,rfl,AiA _⟩
 case round =>
 obtain ⟨k,hk,rfl,hs⟩:=hrel;have HR:=hid hs;clear hs
 by_cases hlt:k<m
 rotate_left
 ·have hlt':¬ (k:Int)<(m:Int):=by omega
  go_wp2_with fail
  go_ret
  exact ⟨rfl,HR.out.B⟩
 obtain ⟨x,hx⟩:=Am P.out.len hlt;obtain ⟨b,off,hA,hb,hc⟩:=P.out.cells (by omega);obtain ⟨b2,o2,hA2,hb2,hc2⟩:=Q.out.cells (by omega);have FA:=fun W (h:BoxS w 0 [] W)=>(And.intro (And.intro (And.intro (And.intro (show W.cell? ⟨b,off+k * 13,none⟩=some (vI x.alt) from (h.B.cell (p:=⟨b,off+k * 13,none⟩) hb).trans (hc k x hx 0 _ rfl)) (And.intro (show W.cell? ⟨b,off+k * 13+1,none⟩=some (vI x.cas) from (h.B.cell (p:=⟨b,off+k * 13+1,none⟩) hb).trans (hc k x hx 1 _ rfl)) (show W.cell? ⟨b,off+k * 13+2,none⟩=some (vI x.tas) from (h.B.cell (p:=⟨b,off+k * 13+2,none⟩) hb).trans (hc k x hx 2 _ rfl)))) (And.intro (show W.cell? ⟨b,off+k * 13+3,none⟩=some (vI x.ground) from (h.B.cell (p:=⟨b,off+k * 13+3,none⟩) hb).trans (hc k x hx 3 _ rfl)) (And.intro (show W.cell? ⟨b,off+k * 13+4,none⟩=some (vI x.tick) from (h.B.cell (p:=⟨b,off+k * 13+4,none⟩) hb).trans (hc k x hx 4 _ rfl)) (show W.cell? ⟨b,off+k * 13+5,none⟩=some (vI x.fuel) from (h.B.cell (p:=⟨b,off+k * 13+5,none⟩) hb).trans (hc k x hx 5 _ rfl))))) (And.intro (And.intro (show W.cell? ⟨b,off+k * 13+6,none⟩=some (vI x.gl) from (h.B.cell (p:=⟨b,off+k * 13+6,none⟩) hb).trans (hc k x hx 6 _ rfl)) (And.intro (show W.cell? ⟨b,off+k * 13+7,none⟩=some (vI x.gh) from (h.B.cell (p:=⟨b,off+k * 13+7,none⟩) hb).trans (hc k x hx 7 _ rfl)) (show W.cell? ⟨b,off+k * 13+8,none⟩=some (vI x.tl) from (h.B.cell (p:=⟨b,off+k * 13+8,none⟩) hb).trans (hc k x hx 8 _ rfl)))) (And.intro (And.intro (show W.cell? ⟨b,off+k * 13+9,none⟩=some (vI x.th) from (h.B.cell (p:=⟨b,off+k * 13+9,none⟩) hb).trans (hc k x hx 9 _ rfl)) (show W.cell? ⟨b,off+k * 13+10,none⟩=some (vI x.fl) from (h.B.cell (p:=⟨b,off+k * 13+10,none⟩) hb).trans (hc k x hx 10 _ rfl))) (And.intro (show W.cell? ⟨b,off+k * 13+11,none⟩=some (vI x.fh) from (h.B.cell (p:=⟨b,off+k * 13+11,none⟩) hb).trans (hc k x hx 11 _ rfl)) (show W.cell? ⟨b,off+k * 13+12,none⟩=some (.int .u8 x.phase) from (h.B.cell (p:=⟨b,off+k * 13+12,none⟩) hb).trans (hc k x hx 12 _ rfl)))))) (And.intro (And.intro (And.intro (show W.cell? ⟨b2,o2+k * 13,none⟩=some (vI x.alt) from (h.B.cell (p:=⟨b2,o2+k * 13,none⟩) hb2).trans (hc2 k x hx 0 _ rfl)) (And.intro (show W.cell? ⟨b2,o2+k * 13+1,none⟩=some (vI x.cas) from (h.B.cell (p:=⟨b2,o2+k * 13+1,none⟩) hb2).trans (hc2 k x hx 1 _ rfl)) (show W.cell? ⟨b2,o2+k * 13+2,none⟩=some (vI x.tas) from (h.B.cell (p:=⟨b2,o2+k * 13+2,none⟩) hb2).trans (hc2 k x hx 2 _ rfl)))) (And.intro (show W.cell? ⟨b2,o2+k * 13+3,none⟩=some (vI x.ground) from (h.B.cell (p:=⟨b2,o2+k * 13+3,none⟩) hb2).trans (hc2 k x hx 3 _ rfl)) (And.intro (show W.cell? ⟨b2,o2+k * 13+4,none⟩=some (vI x.tick) from (h.B.cell (p:=⟨b2,o2+k * 13+4,none⟩) hb2).trans (hc2 k x hx 4 _ rfl)) (show W.cell? ⟨b2,o2+k * 13+5,none⟩=some (vI x.fuel) from (h.B.cell (p:=⟨b2,o2+k * 13+5,none⟩) hb2).trans (hc2 k x hx 5 _ rfl))))) (And.intro (And.intro (show W.cell? ⟨b2,o2+k * 13+6,none⟩=some (vI x.gl) from (h.B.cell (p:=⟨b2,o2+k * 13+6,none⟩) hb2).trans (hc2 k x hx 6 _ rfl)) (And.intro (show W.cell? ⟨b2,o2+k * 13+7,none⟩=some (vI x.gh) from (h.B.cell (p:=⟨b2,o2+k * 13+7,none⟩) hb2).trans (hc2 k x hx 7 _ rfl)) (show W.cell? ⟨b2,o2+k * 13+8,none⟩=some (vI x.tl) from (h.B.cell (p:=⟨b2,o2+k * 13+8,none⟩) hb2).trans (hc2 k x hx 8 _ rfl)))) (And.intro (And.intro (show W.cell? ⟨b2,o2+k * 13+9,none⟩=some (vI x.th) from (h.B.cell (p:=⟨b2,o2+k * 13+9,none⟩) hb2).trans (hc2 k x hx 9 _ rfl)) (show W.cell? ⟨b2,o2+k * 13+10,none⟩=some (vI x.fl) from (h.B.cell (p:=⟨b2,o2+k * 13+10,none⟩) hb2).trans (hc2 k x hx 10 _ rfl))) (And.intro (show W.cell? ⟨b2,o2+k * 13+11,none⟩=some (vI x.fh) from (h.B.cell (p:=⟨b2,o2+k * 13+11,none⟩) hb2).trans (hc2 k x hx 11 _ rfl)) (show W.cell? ⟨b2,o2+k * 13+12,none⟩=some (.int .u8 x.phase) from (h.B.cell (p:=⟨b2,o2+k * 13+12,none⟩) hb2).trans (hc2 k x hx 12 _ rfl)))))))
 have i0:(0:Int)<=(k:Int):=by omega
 have i1:(k:Int)<(m:Int):=by omega
 rw [hA,hA2]
 clear hA hA2 hc hc2 hx hb hb2
 go_wp2_with fail
 refine rS (fun W=>BoxS w 0 [] W) 9 HR.out.drew (fun hHeld=>?_)
 repeat (first | refine rQ ?_ | refine rF ?_)
 refine rD ?_
 go_wp2_with fail
 go_roundw
 case rel=>exact ⟨k+1,by omega,by go_num,hHeld⟩
 case measure=>exact zMs
theorem walk_PredictWith (s:Stp) (A:Option Addr) (n c:Nat) (al:List Int) (B:Option Addr) (n' d:Nat) (sp:List Int) (w:World) (hl:s.lies w) (hok:s.ok) (_:AbQ s) (ha:Ints w A n al) (_:∀ x ∈ al,(Lit.int .i64 x).wf=true) (hn:n<=maxLen) (_:n * 8<=reachBytes) (hb:Ints w B n' sp) (_:∀ x ∈ sp,(Lit.int .i64 x).wf=true) (hn':n'<=maxLen) (_:n' * 8<=reachBytes):Calls Tryz.prog 3 #[.agg s.cells.toArray,.slice A n c,.slice B n' d] w fun e w'=>e=.returned (.bool true)∧Below w.heap.size w w':=by
 have HS:=hid (DR w s.cells.toArray 35);have HAW:=hid YI;have HA:=hid (fun W (h:BoxS w 1 [s.cells] W)=>Ac7 s A B n c n' d al sp W (hl.below h.B) hok (ha.below h.B) (hb.below h.B) hn hn');have HR:=hid (fun W (h:BoxS w 1 [s.cells] W)=>(AcJ s A B n c n' d al sp W (hl.below h.B) hok (ha.below h.B) (hb.below h.B) hn hn').mono (R':=Vf _ _ _ W) fun e w' ⟨A,c,h1,h2,h3,h4,_⟩=>⟨A,c,h1,h2,h3,h4⟩)
 have hm:okN (wtE s al sp) s.no.length<=maxLen:=by have:=hok.no;have:=hl.no.len;unfold okN;split <;> omega
 unfold Vf at HA HR
 generalize okN (wtE s al sp) s.no.length=m at *;generalize okL (wtE s al sp) (wtL s al sp)=l at *;generalize wtE s al sp=E at *;clear hl hok ha hn hb hn'
 go_enter Tryz.func3,Tryz.ntmps3
 go_wp2_with fail
 refine (HAW.out _).mono ?_;rintro e' w1 ⟨rfl,hB⟩
 replace HS:=hid (HS.out.below hB);clear hB HAW
 go_wp2_with (refine AC (.tmp 3) rfl rfl rfl (HS.out.has 0 _ rfl) ?_)
 refine (HA.out _ HS.out).mono ?_;rintro e' w2 ⟨A1,c1,rfl,hp,-,hB⟩
 replace HS:=hid (HS.out.below hB);have P:=hid hp;clear hB HA hp
 go_wp2_with (refine AC (.tmp 3) rfl rfl rfl (HS.out.has 0 _ rfl) ?_)
 refine (HR.out _ HS.out).mono ?_;rintro e' w3 ⟨A2,c2,rfl,hq,-,hB⟩
 replace HS:=hid (HS.out.below hB);replace P:=hid (P.out.below hB);have HX:=hid (Aiz A1 A2 m c1 c2 l w3 P.out hq hm);clear hB HR hq hm
 go_wp2_with fail
 refine HX.out.mono ?_;rintro e' w4 ⟨rfl,hB⟩
 have HB:=hid (Ae HS.out.B hB);clear hB
 go_wp2_with fail
 go_ret
 exact ⟨rfl,HB.out⟩
