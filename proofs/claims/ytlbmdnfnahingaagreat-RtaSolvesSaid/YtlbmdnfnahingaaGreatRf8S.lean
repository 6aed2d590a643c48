
/- Layer 38: the reference's Solve; RtaSolves, the walk. -/
import Derived.Test.YtlbmdnfnahingaaGreatM61
import Derived.Test.YtlbmdnfnahingaaGreatM5
set_option linter.unusedSimpArgs false
set_option linter.unusedVariables false
set_option maxRecDepth 100000
set_option maxHeartbeats 8000000
namespace Go.Proofs.YtlbmdnfnahingaaGreat
open Go.RowKit
open Go.Lib (hid)
theorem Ahv (s:Stp) (node lo hi:Int) (w:World) (hl:s.lies w) (hok:s.ok) (hcap:s.sno.n<=s.sno.c) (hlo:I64 lo):Calls Tryz.prog 17 #[.agg s.cells.toArray,vI node,.agg #[vI lo,vI hi]] w (SoP s node lo hi w):=by
 have HS:=hid (OH w s.cells.toArray #[vI lo,vI hi] #[.slice none 0 0,vI 0,vI 0,.bool false] 35 53 41);have X4:Hid (Ex (((w.alloc (.cells s.cells.toArray 35)).alloc (.cells #[vI lo,vI hi] 53)).alloc (.cells #[.slice none 0 0,vI 0,vI 0,.bool false] 41)) (w.heap.size+2) [.slice none 0 0,vI 0,vI 0,.bool false]):=hid (Ex.new _ _ _ _ (by simp));have HR:=hid (fun W (h:BoxS w 3 [s.cells,(lz2 lo hi),[.slice none 0 0,vI 0,vI 0,.bool false]] W)=>AgO s node lo hi W (hl.below h.B) hok hcap);have N:=hid (StN.of hl);have HL:=hid hl;have HOK:=hid hok;have HLO:=hid hlo;have HK:=hid (fun W (h:BoxS w 3 [s.cells,(lz2 lo hi),[.slice none 0 0,vI 0,vI 0,.bool false]] W)=>show W.cell? ⟨w.heap.size+1,0,none⟩=some (vI lo)∧W.cell? ⟨w.heap.size+1,1,none⟩=some (vI hi) from ⟨h.at 1 _ rfl 0 _ rfl,h.at 1 _ rfl 1 _ rfl⟩);clear hl hok hcap hlo
 go_enter Tryz.func17,Tryz.ntmps17
 obtain ⟨k0,k1⟩:=HK.out _ HS.out
 go_wp2_with (refine AC (.tmp 3) rfl rfl rfl (HS.out.has 0 _ rfl) ?_)
 clear k0 k1
 refine (HR.out _ HS.out).mono ?_;rintro e' w1 ⟨hbad,hgood,hB⟩
 by_cases h0:opE s node (decide (hi<lo))=0
 rotate_left
 ·have HE:=hid (AhB h0)
  have HNE:=hid h0;have e1:=Aw h0;have e2:=AL e1;obtain rfl:=hbad h0;replace HS:=hid ((HS.out.below hB).alloc (.cells #[.slice none 0 0,.slice none 0 0,.slice none 0 0] 112));clear hbad hgood hB HR X4 HK
  let EE:=opE s node (decide (hi<lo))
  exact r8s
 obtain ⟨A,c,A2,c2,A3,c3,rfl,P⟩:=hgood h0;have O:=hid (Af2 N.out h0).1;have hx:=Cq O.out.G N.out;obtain ⟨m,rfl⟩:=Int.eq_ofNat_of_zero_le (show 0<=node by have:=O.out.n1;omega);have HM:=hid (show m<s.no.length by have:=O.out.n2;omega);have H0:=hid h0;replace hB:=Bh hB (.cells #[.slice A s.no.length c,.slice A2 s.no.length c2,.slice A3 (s.no.length - 1) c3] 112);have HP:=hid (P.below (Aa w1 (.cells #[.slice A s.no.length c,.slice A2 s.no.length c2,.slice A3 (s.no.length - 1) c3] 112)));have Q6:=hid (Has.new w1 #[.slice A s.no.length c,.slice A2 s.no.length c2,.slice A3 (s.no.length - 1) c3] 112);have HF:=hid (fun W (h:BoxS w 3 [s.cells,(lz2 lo hi),[.slice none 0 0,vI 0,vI 0,.bool false]] W) (P:PlB s A A2 A3 c3 W) k hf=>AgU s A A2 A3 s.no.length c c2 (s.no.length - 1) c3 k W (HL.out.below h.B) HOK.out rfl rfl P hx.2 hf)
 unfold Vf at HF
 replace HS:=hid (HS.out.below hB);replace X4:=hid (X4.out.below hB)
 have i0:(0:Int)<=(m:Int):=by omega
 have i1:(m:Int)<(s.no.length:Int):=by have:=HM.out;omega
 have HSN:=hid (AgX O.out N.out);clear hbad hgood hB HR P h0;have c6_1:=Q6.out.cell 1 _ rfl;have c6_2:=Q6.out.cell 2 _ rfl
 go_wp2_with fail
 clear c6_1 c6_2;generalize w1.alloc _=w2 at *;generalize w1.heap.size=H6 at *
 refine (PS O.out HP.out hx.2).mono ?_;rintro e' w3 ⟨rfl,hB⟩
 replace HS:=hid (HS.out.below hB);replace X4:=hid (X4.out.below hB);replace HP:=hid (HP.out.below hB);replace Q6:=hid (Q6.out.below hB);clear hB
 go_wp2_with fail
 exact r8l
/-! ### the law -/
def Ah9 (m:Nat) (B:World) (t:Value) (wr:World):Prop:=∃ k:Nat,k<=m∧t=vI (k:Int)∧BoxS B 0 [] wr
theorem Ahy (A B:Option Addr) (m c d:Nat) (l:List Pass) (w:World) (ha:Passes w A m l) (hb:Passes w B m l) (hn:m<=maxLen):Calls Tryz.prog 18 #[.agg #[.slice A m c,vI 0,vI 0,.bool false],.agg #[.slice B m d,vI 0,vI 0,.bool false]] w fun e w'=>e=.returned (.bool true)∧Below w.heap.size w w':=by
 have HS:=hid (Dt w #[.slice A m c,vI 0,vI 0,.bool false] #[.slice B m d,vI 0,vI 0,.bool false] 41 41);have P:=hid ha;have Q:=hid hb;have HK:=hid (fun W (h:BoxS w 2 [[.slice A m c,vI 0,vI 0,.bool false],[.slice B m d,vI 0,vI 0,.bool false]] W)=>And.intro (And.intro (h.at 0 _ rfl 0 _ rfl) (And.intro (h.at 0 _ rfl 1 _ rfl) (And.intro (h.at 0 _ rfl 2 _ rfl) (h.at 0 _ rfl 3 _ rfl)))) (And.intro (h.at 1 _ rfl 0 _ rfl) (And.intro (h.at 1 _ rfl 1 _ rfl) (And.intro (h.at 1 _ rfl 2 _ rfl) (h.at 1 _ rfl 3 _ rfl)))))
 unfold maxLen at hn
 clear ha hb
 go_enter Tryz.func18,Tryz.ntmps18
 obtain ⟨⟨k0,k1,k2,k3⟩,j0,j1,j2,j3⟩:=HK.out _ HS.out
 rw [Nat.add_zero] at k0 k1 k2 k3
 go_wp2_with fail
 clear k0 k1 k2 k3 j0 j1 j2 j3;generalize hW1:World.alloc _ _=w1 at *;clear hW1;have HY:=hid (fun W (h:BoxS w1 0 [] W)=>HS.out.below h.B);clear HS
 go_loopw [30] (fun t wr=>Ah9 m w1 t wr) (fun t _=>m - (intOf t).toNat)
 case atStart=>exact ⟨0,by omega,rfl,Ahc _⟩
 case round =>
 obtain ⟨k,hk,rfl,hs⟩:=hrel;have HR:=hid hs;have HS:=hid (HY.out _ hs);clear hs
 by_cases hlt:k<m
 rotate_left
 ·have hlt':¬ (k:Int)<(m:Int):=by omega
  go_wp2_with fail
  go_ret
  exact ⟨rfl,HS.out.B⟩
 obtain ⟨x,hx⟩:=Am P.out.len hlt;obtain ⟨b,off,hA,hb,hc⟩:=P.out.cells (by omega);obtain ⟨b2,o2,hA2,hb2,hc2⟩:=Q.out.cells (by omega);have FA:=fun W (h:BoxS w 2 [[.slice A m c,vI 0,vI 0,.bool false],[.slice B m d,vI 0,vI 0,.bool false]] W∧BoxS w1 0 [] W)=>And.intro (And.intro (show W.cell? ⟨w.heap.size,0,none⟩=some (.slice (some ⟨b,off,none⟩) m c) from hA ▸ (HK.out W h.1).1.1) (show W.cell? ⟨w.heap.size+1,0,none⟩=some (.slice (some ⟨b2,o2,none⟩) m d) from hA2 ▸ (HK.out W h.1).2.1)) (And.intro (And.intro (And.intro (And.intro (show W.cell? ⟨b,off+k * 13,none⟩=some (vI x.alt) from (h.1.B.cell (p:=⟨b,off+k * 13,none⟩) hb).trans (hc k x hx 0 _ rfl)) (And.intro (show W.cell? ⟨b,off+k * 13+1,none⟩=some (vI x.cas) from (h.1.B.cell (p:=⟨b,off+k * 13+1,none⟩) hb).trans (hc k x hx 1 _ rfl)) (show W.cell? ⟨b,off+k * 13+2,none⟩=some (vI x.tas) from (h.1.B.cell (p:=⟨b,off+k * 13+2,none⟩) hb).trans (hc k x hx 2 _ rfl)))) (And.intro (show W.cell? ⟨b,off+k * 13+3,none⟩=some (vI x.ground) from (h.1.B.cell (p:=⟨b,off+k * 13+3,none⟩) hb).trans (hc k x hx 3 _ rfl)) (And.intro (show W.cell? ⟨b,off+k * 13+4,none⟩=some (vI x.tick) from (h.1.B.cell (p:=⟨b,off+k * 13+4,none⟩) hb).trans (hc k x hx 4 _ rfl)) (show W.cell? ⟨b,off+k * 13+5,none⟩=some (vI x.fuel) from (h.1.B.cell (p:=⟨b,off+k * 13+5,none⟩) hb).trans (hc k x hx 5 _ rfl))))) (And.intro (And.intro (show W.cell? ⟨b,off+k * 13+6,none⟩=some (vI x.gl) from (h.1.B.cell (p:=⟨b,off+k * 13+6,none⟩) hb).trans (hc k x hx 6 _ rfl)) (And.intro (show W.cell? ⟨b,off+k * 13+7,none⟩=some (vI x.gh) from (h.1.B.cell (p:=⟨b,off+k * 13+7,none⟩) hb).trans (hc k x hx 7 _ rfl)) (show W.cell? ⟨b,off+k * 13+8,none⟩=some (vI x.tl) from (h.1.B.cell (p:=⟨b,off+k * 13+8,none⟩) hb).trans (hc k x hx 8 _ rfl)))) (And.intro (And.intro (show W.cell? ⟨b,off+k * 13+9,none⟩=some (vI x.th) from (h.1.B.cell (p:=⟨b,off+k * 13+9,none⟩) hb).trans (hc k x hx 9 _ rfl)) (show W.cell? ⟨b,off+k * 13+10,none⟩=some (vI x.fl) from (h.1.B.cell (p:=⟨b,off+k * 13+10,none⟩) hb).trans (hc k x hx 10 _ rfl))) (And.intro (show W.cell? ⟨b,off+k * 13+11,none⟩=some (vI x.fh) from (h.1.B.cell (p:=⟨b,off+k * 13+11,none⟩) hb).trans (hc k x hx 11 _ rfl)) (show W.cell? ⟨b,off+k * 13+12,none⟩=some (.int .u8 x.phase) from (h.1.B.cell (p:=⟨b,off+k * 13+12,none⟩) hb).trans (hc k x hx 12 _ rfl)))))) (And.intro (And.intro (And.intro (show W.cell? ⟨b2,o2+k * 13,none⟩=some (vI x.alt) from (h.1.B.cell (p:=⟨b2,o2+k * 13,none⟩) hb2).trans (hc2 k x hx 0 _ rfl)) (And.intro (show W.cell? ⟨b2,o2+k * 13+1,none⟩=some (vI x.cas) from (h.1.B.cell (p:=⟨b2,o2+k * 13+1,none⟩) hb2).trans (hc2 k x hx 1 _ rfl)) (show W.cell? ⟨b2,o2+k * 13+2,none⟩=some (vI x.tas) from (h.1.B.cell (p:=⟨b2,o2+k * 13+2,none⟩) hb2).trans (hc2 k x hx 2 _ rfl)))) (And.intro (show W.cell? ⟨b2,o2+k * 13+3,none⟩=some (vI x.ground) from (h.1.B.cell (p:=⟨b2,o2+k * 13+3,none⟩) hb2).trans (hc2 k x hx 3 _ rfl)) (And.intro (show W.cell? ⟨b2,o2+k * 13+4,none⟩=some (vI x.tick) from (h.1.B.cell (p:=⟨b2,o2+k * 13+4,none⟩) hb2).trans (hc2 k x hx 4 _ rfl)) (show W.cell? ⟨b2,o2+k * 13+5,none⟩=some (vI x.fuel) from (h.1.B.cell (p:=⟨b2,o2+k * 13+5,none⟩) hb2).trans (hc2 k x hx 5 _ rfl))))) (And.intro (And.intro (show W.cell? ⟨b2,o2+k * 13+6,none⟩=some (vI x.gl) from (h.1.B.cell (p:=⟨b2,o2+k * 13+6,none⟩) hb2).trans (hc2 k x hx 6 _ rfl)) (And.intro (show W.cell? ⟨b2,o2+k * 13+7,none⟩=some (vI x.gh) from (h.1.B.cell (p:=⟨b2,o2+k * 13+7,none⟩) hb2).trans (hc2 k x hx 7 _ rfl)) (show W.cell? ⟨b2,o2+k * 13+8,none⟩=some (vI x.tl) from (h.1.B.cell (p:=⟨b2,o2+k * 13+8,none⟩) hb2).trans (hc2 k x hx 8 _ rfl)))) (And.intro (And.intro (show W.cell? ⟨b2,o2+k * 13+9,none⟩=some (vI x.th) from (h.1.B.cell (p:=⟨b2,o2+k * 13+9,none⟩) hb2).trans (hc2 k x hx 9 _ rfl)) (show W.cell? ⟨b2,o2+k * 13+10,none⟩=some (vI x.fl) from (h.1.B.cell (p:=⟨b2,o2+k * 13+10,none⟩) hb2).trans (hc2 k x hx 10 _ rfl))) (And.intro (show W.cell? ⟨b2,o2+k * 13+11,none⟩=some (vI x.fh) from (h.1.B.cell (p:=⟨b2,o2+k * 13+11,none⟩) hb2).trans (hc2 k x hx 11 _ rfl)) (show W.cell? ⟨b2,o2+k * 13+12,none⟩=some (.int .u8 x.phase) from (h.1.B.cell (p:=⟨b2,o2+k * 13+12,none⟩) hb2).trans (hc2 k x hx 12 _ rfl)))))))
 have i0:(0:Int)<=(k:Int):=by omega
 have i1:(k:Int)<(m:Int):=by omega
 clear hA hA2 hc hc2 hx hb hb2
 go_wp2_with fail
 refine rS (fun W=>BoxS w 2 [[.slice A m c,vI 0,vI 0,.bool false],[.slice B m d,vI 0,vI 0,.bool false]] W∧BoxS w1 0 [] W) 11 ⟨HS.out.drew,HR.out.drew⟩ (fun hHeld=>?_)
 repeat (first | refine rQ ?_ | refine rF ?_)
 refine rD ?_
 go_wp2_with fail
 go_roundw
 case rel=>exact ⟨k+1,by omega,by go_num,hHeld.2⟩
 case measure=>exact zMs
theorem walk_RtaSolves (s:Stp) (node lo hi:Int) (w:World) (hl:s.lies w) (hok:s.ok) (hsw:AbQ s) (hn0:(Lit.int .i64 node).wf=true) (hlo0:(Lit.int .i64 lo).wf=true) (hhi0:(Lit.int .i64 hi).wf=true):Calls Tryz.prog 5 #[.agg s.cells.toArray,vI node,.agg #[vI lo,vI hi]] w fun e w'=>e=.returned (.bool true)∧Below w.heap.size w w':=by
 have HS:=hid (Dt w s.cells.toArray #[vI lo,vI hi] 35 53);have HAW:=hid Ag0;have hnode:I64 node:=Az hn0;have hlo:I64 lo:=Az hlo0;have hhi:I64 hi:=Az hhi0;have HK:=hid (fun W (h:BoxS w 2 [s.cells,(lz2 lo hi)] W)=>show W.cell? ⟨w.heap.size+1,0,none⟩=some (vI lo)∧W.cell? ⟨w.heap.size+1,1,none⟩=some (vI hi) from ⟨h.at 1 _ rfl 0 _ rfl,h.at 1 _ rfl 1 _ rfl⟩);have H1:=hid (fun W (h:BoxS w 2 [s.cells,(lz2 lo hi)] W)=>Ha s node lo hi W (hl.below h.B) hok hsw.cap hnode hlo hhi);have H2:=hid (fun W (h:BoxS w 2 [s.cells,(lz2 lo hi)] W)=>Ahv s node lo hi W (hl.below h.B) hok hsw.cap.le hlo)
 unfold SoP at H1 H2
 have hm:okN (soE s node lo hi) s.no.length<=maxLen:=by have:=hok.no;have:=hl.no.len;unfold okN;split <;> omega
 generalize okN (soE s node lo hi) s.no.length=m at *;generalize soL s node lo hi=l at *;generalize soV s node lo hi=v at *;generalize soE s node lo hi=E at *;clear hl hok hsw hn0 hnode hlo0 hhi0 hlo hhi
 go_enter Tryz.func5,Tryz.ntmps5
 go_wp2_with fail
 refine (HAW.out _).mono ?_;rintro e' w1 ⟨rfl,hB⟩
 replace HS:=hid (HS.out.below hB);clear hB HAW;obtain ⟨k0,k1⟩:=HK.out _ HS.out
 go_wp2_with (refine AC (.tmp 3) rfl rfl rfl (HS.out.has 0 _ rfl) ?_)
 clear k0 k1
 refine (H1.out _ HS.out).mono ?_;rintro e' w2 ⟨A1,c1,rfl,hp,-,hB⟩
 replace HS:=hid ((HS.out.below hB).alloc (.cells #[.slice A1 m c1,vI 0,vI 0,.bool false] 41));have P:=hid (hp.below (Aa w2 (.cells #[.slice A1 m c1,vI 0,vI 0,.bool false] 41)));have Q1:=hid (Has.new w2 #[.slice A1 m c1,vI 0,vI 0,.bool false] 41);clear hB H1 hp;obtain ⟨k0,k1⟩:=HK.out _ HS.out
 go_wp2_with (refine AC (.tmp 3) rfl rfl rfl (HS.out.has 0 _ rfl) ?_)
 clear k0 k1;generalize w2.alloc _=w3 at *;generalize w2.heap.size=B7 at *
 refine (H2.out _ HS.out).mono ?_;rintro e' w4 ⟨A2,c2,rfl,hp,-,hB⟩
 replace hB:=Bh hB (.cells #[.slice A2 m c2,vI 0,vI 0,.bool false] 41);replace HS:=hid (HS.out.below hB);replace P:=hid (P.out.below hB);replace Q1:=hid (Q1.out.below hB);have Q2:=hid (Has.new w4 #[.slice A2 m c2,vI 0,vI 0,.bool false] 41);have HX:=hid (Ahy A1 A2 m c1 c2 l _ P.out (hp.below (Aa w4 (.cells #[.slice A2 m c2,vI 0,vI 0,.bool false] 41))) hm);have a0:=Q1.out.cell 0 _ rfl;have a1:=Q1.out.cell 1 _ rfl;have a2:=Q1.out.cell 2 _ rfl;have a3:=Q1.out.cell 3 _ rfl;have d0:=Q2.out.cell 0 _ rfl;have d1:=Q2.out.cell 1 _ rfl;have d2:=Q2.out.cell 2 _ rfl;have d3:=Q2.out.cell 3 _ rfl;clear hB H2 hp hm P Q1 Q2
 go_wp2_with fail
 refine HX.out.mono ?_;rintro e' w5 ⟨rfl,hB⟩
 have HB:=hid (Ae HS.out.B hB);clear hB HX HS a0 a1 a2 a3 d0 d1 d2 d3
 go_wp2_with fail
 go_ret
 exact ⟨by simp,HB.out⟩
