
/- Layer 38: RtaArrives, the walk. -/
import Derived.Test.YtgneijdjlahgbaaGreatM5
import Derived.Test.YtgneijdjlahgbaaGreatM21
import Derived.RegionTactic
import Derived.Test.YtgneijdjlahgbaaGreatRgF
namespace Go.Proofs.YtgneijdjlahgbaaGreat
set_option maxRecDepth 100000
set_option maxHeartbeats 16000000
set_option linter.unusedSimpArgs false
set_option linter.unusedVariables false
open Go.RowKit
theorem ret_tt_ra {v:Bool} (h:v=true):Ending.returned (.bool v)=.returned (.bool true):=by rw [h]
structure RaG (s:Stp) (node lo hi:Int) (t:Int):Prop where
 n1:1≤node
 n2:node<s.no.length
 t0:0≤t
 th:t≤hi
 v:soV s node lo hi=max (lo - t) 0
 at':∃ p,(soL s node lo hi)[node.toNat]? = some p∧p.tick=t
 sp:∀ k,k<s.no.length→∃ p,(soL s node lo hi)[k]? = some p∧(nodA s k).s0≤p.cas∧p.cas≤(nodA s k).s1∧p.cas≤s.cas
theorem ra_good {s:Stp} (N:StN s) {node lo hi:Int} (h:soE s node lo hi=0):∃ t,RaG s node lo hi t:=by
 obtain ⟨k,F⟩:=so_good N h
 have O:=F.O
 have hm:node.toNat<s.no.length:=by have:=O.n1;have:=O.n2;omega
 refine ⟨fkT s k node.toNat,O.n1,O.n2,(fk_psI O N (by omega) F.e hm).tick.1,F.t,F.soV,⟨_,by rw [F.soL];exact fkL_get hm,rfl⟩,fun i hi=>⟨_,by rw [F.soL];exact fkL_get hi,?_⟩⟩
 have b:=(fam_good O (show (0:Int)≤(k:Int) by omega)).bd O.G N hi
 rw [(psP_alt (altL s) (fam s k) i).2]
 exact ⟨b.2.2.2.1,b.2.2.2.2.1,b.2.2.1⟩
def RaR (n:Nat) (B:World) (t:Value) (wr:World):Prop:=∃ k:Nat,k≤n∧t=.int .i64 (k:Int)∧BoxS B 0 [] wr
theorem walk_RtaArrives (s:Stp) (node lo hi:Int) (w:World) (hl:s.lies w) (hok:s.ok) (hsw:StpW s) (hn0:(Lit.int .i64 node).wf=true) (hlo0:(Lit.int .i64 lo).wf=true) (hhi0:(Lit.int .i64 hi).wf=true):Calls Tryz.prog 9 #[.agg s.cells.toArray,.int .i64 node,.agg #[.int .i64 lo,.int .i64 hi]] w (fun e w'=>e=.returned (.bool true)∧Below w.heap.size w w'):=by
 have HS:=Lib.hid (boxS2 w s.cells.toArray #[.int .i64 lo,.int .i64 hi] 35 58)
 have HAW:=Lib.hid awake38
 have hnode:I64 node:=wf_i64_bd hn0
 have hlo:I64 lo:=wf_i64_bd hlo0
 have hhi:I64 hi:=wf_i64_bd hhi0
 have HLH:=Lib.hid (fun W (h:BoxS w 2 [s.cells,(lz2 lo hi)] W)=>show W.cell? ⟨w.heap.size+1,0,none⟩=some (.int .i64 lo)∧W.cell? ⟨w.heap.size+1,1,none⟩=some (.int .i64 hi) from ⟨h.at 1 _ rfl 0 _ rfl,h.at 1 _ rfl 1 _ rfl⟩)
 have HSO:=Lib.hid (fun W (h:BoxS w 2 [s.cells,(lz2 lo hi)] W)=>xRtSolve s node lo hi W (hl.below h.B) hok hsw.cap hnode hlo hhi)
 unfold SoP at HSO
 have N:=StN.of hl
 by_cases hz:soE s node lo hi=0
 rotate_left
 ·have hv:soV s node lo hi=0:=if_neg hz
  rw [hv,show okN (soE s node lo hi) s.no.length=0 from if_neg hz] at HSO
  have e1:=beq_of hz
  have e2:=bne_of e1
  generalize soE s node lo hi=E at *
  clear hl hok hsw hn0 hlo0 hhi0 hnode hlo hhi hz hv N
  go_enter Tryz.func9,Tryz.ntmps9
  go_wp2_with fail
  refine (HAW.out _).mono ?_;rintro e' w1 ⟨rfl,hB⟩
  replace HS:=Lib.hid (HS.out.below hB)
  clear hB HAW
  obtain ⟨l0,l1⟩:=HLH.out _ HS.out
  go_wp2_with (refine at_stp (.tmp 3) rfl rfl rfl (HS.out.has 0 _ rfl) ?_)
  clear l0 l1
  refine (HSO.out _ HS.out).mono ?_;rintro e' w4 ⟨A,c,rfl,-,-,hB⟩
  replace HS:=Lib.hid (HS.out.below hB)
  clear hB HSO
  have Q7:Hid (Has ((w4.alloc (.cells #[.slice A 0 c,.int .i64 0,.int .i64 0,.bool false] 42))) w4.heap.size [.slice A 0 c,.int .i64 0,.int .i64 0,.bool false]):=Lib.hid (Has.new _ _ _)
  have r7:w.heap.size+2≤w4.heap.size:=HS.out.sz
  replace HS:=Lib.hid ((HS.out.alloc (.cells #[.slice A 0 c,.int .i64 0,.int .i64 0,.bool false] 42)))
  have c7_0:=Q7.out.cell 0 (.slice A 0 c) rfl
  have c7_1:=Q7.out.cell 1 (.int .i64 0) rfl
  have c7_2:=Q7.out.cell 2 (.int .i64 0) rfl
  have c7_3:=Q7.out.cell 3 (.bool false) rfl
  go_wp2_with fail
  go_ret
  exact ⟨ret_tt_ra (by simp),HS.out.B⟩
 obtain ⟨t,G⟩:=ra_good N hz
 rw [hz] at HSO
 simp only [okN_0] at HSO
 have HV:=Lib.hid G.v
 obtain ⟨g1,g2,g3,g4⟩:1≤node∧node<(s.no.length:Int)∧0≤t∧t≤hi:=⟨G.n1,G.n2,G.t0,G.th⟩
 obtain ⟨m,rfl⟩:=Int.eq_ofNat_of_zero_le (show 0≤node by omega)
 have HAT:=Lib.hid G.at'
 have HSP:=Lib.hid G.sp
 have hno:=N.no
 obtain ⟨b,off,hA⟩:=su_A hl (by omega)
 have HNS:=Lib.hid (fun W (h:BoxS w 2 [s.cells,(lz2 lo hi)] W)=>show W.cell? ⟨w.heap.size,0,none⟩=some (.slice (some ⟨b,off,none⟩) s.sno.n s.sno.c) from su_sl (h.has 0 _ rfl) hA)
 have HND:=Lib.hid (fun W (h:BoxS w 2 [s.cells,(lz2 lo hi)] W) k (hk:k<s.no.length)=>su_nd (hl.below h.B) hA hk)
 have HCS:=Lib.hid (fun W (h:BoxS w 2 [s.cells,(lz2 lo hi)] W)=>show W.cell? ⟨w.heap.size,30,none⟩=some (.int .i64 s.cas) from su_cas (h.has 0 _ rfl))
 have hnl:s.sno.n≤9223372036854775807:=by have:=hok.no;unfold maxLen at this;omega
 rw [hno] at HSO g2
 have HNO:=Lib.hid hno
 have hli:(lo:Int)≤9223372036854775807:=hlo.2
 have hgt:(m:Int)<(s.sno.n:Int):=g2
 generalize soV s (m:Int) lo hi=V at *
 generalize soL s (m:Int) lo hi=SL at *
 clear hl hok hsw hn0 hlo0 hhi0 hnode hlo hhi hz N G hno hA
 go_enter Tryz.func9,Tryz.ntmps9
 go_wp2_with fail
 refine (HAW.out _).mono ?_;rintro e' w1 ⟨rfl,hB⟩
 replace HS:=Lib.hid (HS.out.below hB)
 clear hB HAW
 obtain ⟨l0,l1⟩:=HLH.out _ HS.out
 go_wp2_with (refine at_stp (.tmp 3) rfl rfl rfl (HS.out.has 0 _ rfl) ?_)
 clear l0 l1
 refine (HSO.out _ HS.out).mono ?_;rintro e' w4 ⟨A,c,rfl,hP,-,hB⟩
 replace HS:=Lib.hid (HS.out.below hB)
 obtain ⟨b5,o5,rfl⟩:=pass_A hP (by omega)
 have HP5:=Lib.hid hP
 clear hB HSO hP
 have Q7:Hid (Has ((w4.alloc (.cells #[.slice (some ⟨b5,o5,none⟩) s.sno.n c,.int .i64 0,.int .i64 0,.bool false] 42))) w4.heap.size [.slice (some ⟨b5,o5,none⟩) s.sno.n c,.int .i64 0,.int .i64 0,.bool false]):=Lib.hid (Has.new _ _ _)
 have r7:w.heap.size+2≤w4.heap.size:=HS.out.sz
 replace HS:=Lib.hid ((HS.out.alloc (.cells #[.slice (some ⟨b5,o5,none⟩) s.sno.n c,.int .i64 0,.int .i64 0,.bool false] 42)))
 replace HP5:=Lib.hid (HP5.out.below (below_alloc1 w4 (.cells #[.slice (some ⟨b5,o5,none⟩) s.sno.n c,.int .i64 0,.int .i64 0,.bool false] 42)))
 have q5:(w4.alloc (.cells #[.slice (some ⟨b5,o5,none⟩) s.sno.n c,.int .i64 0,.int .i64 0,.bool false] 42)).cell? ⟨b5,o5+m * 13+4,none⟩=some (.int .i64 t):=by
  obtain ⟨p,h1,h2⟩:=HAT.out
  rw [← h2]
  exact (pass_at HP5.out (by simpa using h1)).2 4 _ rfl
 have c7_0:=Q7.out.cell 0 (.slice (some ⟨b5,o5,none⟩) s.sno.n c) rfl
 have k0:=HNS.out _ HS.out
 obtain ⟨l0,l1⟩:=HLH.out _ HS.out
 have wl:t<lo→IntKind.i64.wrap (lo - t)=lo - t:=fun h=>IntWalk.i64_in _ (by omega)
 have hlast:Hid (∀ w5:World,BoxS (w4.alloc (.cells #[.slice (some ⟨b5,o5,none⟩) s.sno.n c,.int .i64 0,.int .i64 0,.bool false] 42)) 0 [] w5→True):=Lib.hid fun _ _=>trivial
 clear hlast
 have HVC:=Lib.hid (show (t<lo∧V=lo - t)∨(¬ t<lo∧V=0) from by have:=HV.out;omega)
 rcases HVC.out with ⟨hv1,hv2⟩ | ⟨hv1,hv2⟩
 ·subst hv2
  have wl':=wl hv1
  have v1:¬ lo - t<0:=by omega
  have v2:0<lo - t:=by omega
  have v3:(lo - t == 0)=false:=by simp;omega
  go_wp2_with fail
  clear q5 k0 l0 l1
  clear c7_0
  generalize (w4.alloc (.cells #[.slice (some ⟨b5,o5,none⟩) s.sno.n c,.int .i64 0,.int .i64 0,.bool false] 42))=w5 at *
  generalize w4.heap.size=H7 at *
  have HY:=Lib.hid (fun W (h:BoxS w5 0 [] W)=>HS.out.below h.B)
  go_loopw [90] (fun t wr=>RaR s.sno.n w5 t wr) (fun t _=>s.sno.n - (intOf t).toNat)
  case atStart=>exact ⟨0,by omega,rfl,⟨fun i cs hi=>by simp at hi,by simp,Below.refl _ _,by simp⟩⟩
  case round =>
   obtain ⟨k,hk,rfl,hs⟩:=hrel
   have HR:=Lib.hid hs
   clear hs
   by_cases hlt:k<s.sno.n
   rotate_left
   ·have hlt':¬ (k:Int)<(s.sno.n:Int):=by omega
    go_wp2_with fail
    go_ret
    exact ⟨rfl,(HY.out _ HR.out).B⟩
   have hlt':(k:Int)<(s.sno.n:Int):=by omega
   have hk0:(0:Int)≤(k:Int):=by omega
   have hkn:k<s.no.length:=by have:=HNO.out;omega
   obtain ⟨p,hp1,f1,f2,f3⟩:=HSP.out k hkn
   have hp5:=pass_at HP5.out hp1
   have hcr:=fun j u hj=>(HR.out.B.cell (p:=⟨b5,o5+k * 13+j,none⟩) hp5.1).trans (hp5.2 j u hj)
   have p0:wr.cell? ⟨b5,o5+k * 13,none⟩=some (.int .i64 p.alt):=hcr 0 _ rfl
   have p1:wr.cell? ⟨b5,o5+k * 13+1,none⟩=some (.int .i64 p.cas):=hcr 1 _ rfl
   have p2:wr.cell? ⟨b5,o5+k * 13+2,none⟩=some (.int .i64 p.tas):=hcr 2 _ rfl
   have p3:wr.cell? ⟨b5,o5+k * 13+3,none⟩=some (.int .i64 p.ground):=hcr 3 _ rfl
   have p4:wr.cell? ⟨b5,o5+k * 13+4,none⟩=some (.int .i64 p.tick):=hcr 4 _ rfl
   have p5:wr.cell? ⟨b5,o5+k * 13+5,none⟩=some (.int .i64 p.fuel):=hcr 5 _ rfl
   have p6:wr.cell? ⟨b5,o5+k * 13+6,none⟩=some (.int .i64 p.gl):=hcr 6 _ rfl
   have p7:wr.cell? ⟨b5,o5+k * 13+7,none⟩=some (.int .i64 p.gh):=hcr 7 _ rfl
   have p8:wr.cell? ⟨b5,o5+k * 13+8,none⟩=some (.int .i64 p.tl):=hcr 8 _ rfl
   have p9:wr.cell? ⟨b5,o5+k * 13+9,none⟩=some (.int .i64 p.th):=hcr 9 _ rfl
   have p10:wr.cell? ⟨b5,o5+k * 13+10,none⟩=some (.int .i64 p.fl):=hcr 10 _ rfl
   have p11:wr.cell? ⟨b5,o5+k * 13+11,none⟩=some (.int .i64 p.fh):=hcr 11 _ rfl
   have p12:wr.cell? ⟨b5,o5+k * 13+12,none⟩=some (.int .u8 p.phase):=hcr 12 _ rfl
   have HNK:=Lib.hid (fun W (h:BoxS w5 0 [] W)=>HND.out W (HY.out W h) k hkn)
   have HNZ:=Lib.hid (fun W (h:BoxS w5 0 [] W)=>HNS.out W (HY.out W h))
   have HCZ:=Lib.hid (fun W (h:BoxS w5 0 [] W)=>HCS.out W (HY.out W h))
   have d1:decide (p.cas<(nodA s k).s0)=false:=decide_eq_false (by omega)
   have d2:decide ((nodA s k).s1<p.cas)=false:=decide_eq_false (by omega)
   have d3:decide (s.cas<p.cas)=false:=decide_eq_false (by omega)
   clear hcr hp5 hp1 f1 f2 f3 hkn HS
   have HS:=HR
   clear HR
   have Q12:Hid (Has ((wr.alloc (.cells #[.int .i64 p.alt,.int .i64 p.cas,.int .i64 p.tas,.int .i64 p.ground,.int .i64 p.tick,.int .i64 p.fuel,.int .i64 p.gl,.int .i64 p.gh,.int .i64 p.tl,.int .i64 p.th,.int .i64 p.fl,.int .i64 p.fh,.int .u8 p.phase] 53))) wr.heap.size (lzp p.alt p.cas p.tas p.ground p.tick p.fuel p.gl p.gh p.tl p.th p.fl p.fh p.phase)):=Lib.hid (Has.new _ _ _)
   have r12:w5.heap.size+0≤wr.heap.size:=HS.out.sz
   replace HS:=Lib.hid ((HS.out.alloc (.cells #[.int .i64 p.alt,.int .i64 p.cas,.int .i64 p.tas,.int .i64 p.ground,.int .i64 p.tick,.int .i64 p.fuel,.int .i64 p.gl,.int .i64 p.gh,.int .i64 p.tl,.int .i64 p.th,.int .i64 p.fl,.int .i64 p.fh,.int .u8 p.phase] 53)))
   go_wp2_with fail
   clear p0 p1 p2 p3 p4 p5 p6 p7 p8 p9 p10 p11 p12
   generalize (wr.alloc (.cells #[.int .i64 p.alt,.int .i64 p.cas,.int .i64 p.tas,.int .i64 p.ground,.int .i64 p.tick,.int .i64 p.fuel,.int .i64 p.gl,.int .i64 p.gh,.int .i64 p.tl,.int .i64 p.th,.int .i64 p.fl,.int .i64 p.fh,.int .u8 p.phase] 53))=w6 at *
   generalize wr.heap.size=H12 at *
   refine held_start (S:=fun W=>BoxS w5 0 [] W∧Has W H12 (lzp p.alt p.cas p.tas p.ground p.tick p.fuel p.gl p.gh p.tl p.th p.fl p.fh p.phase)) 29 #[false,false,false,false,false,false,false,false,false,false,false,false,false,false,false,false,false,false,false,false,false,false,false,false,false,false,false,false,false] rfl rfl (by kernel_rfl) ((And.intro (HS.out.drew) (Q12.out.drew))) (fun hHeld=>?_)
   iterate 29 (refine hF (L:=_) (v:=?_) rfl rfl ?_ ?_;rotate_left;(intro W hW;have y0:=hW.2.cell 1 (.int .i64 p.cas) rfl;have y1:=HNZ.out W hW.1;have y2:=(HNK.out W hW.1).2.2.2.2.2.1;have y3:=(HNK.out W hW.1).2.2.2.2.2.2;have y4:=HCZ.out W hW.1;clear hW;go_simp;try with_reducible rfl);try simp only [Act.put,pa,pb,pc,setF])
   refine wpAnyH_done (by kernel_rfl) ?_ _
   replace HS:=Lib.hid (hHeld.1)
   replace Q12:=Lib.hid (hHeld.2)
   clear hHeld
   go_wp2_with fail
   go_roundw
   case rel=>exact ⟨k+1,by omega,by go_num,HS.out⟩
   case measure=>simp only [intOf];omega
 ·subst hv2
  go_wp2_with fail
  clear q5 k0 l0 l1
  clear c7_0
  generalize (w4.alloc (.cells #[.slice (some ⟨b5,o5,none⟩) s.sno.n c,.int .i64 0,.int .i64 0,.bool false] 42))=w5 at *
  generalize w4.heap.size=H7 at *
  have HY:=Lib.hid (fun W (h:BoxS w5 0 [] W)=>HS.out.below h.B)
  go_loopw [90] (fun t wr=>RaR s.sno.n w5 t wr) (fun t _=>s.sno.n - (intOf t).toNat)
  case atStart=>exact ⟨0,by omega,rfl,⟨fun i cs hi=>by simp at hi,by simp,Below.refl _ _,by simp⟩⟩
  case round =>
   obtain ⟨k,hk,rfl,hs⟩:=hrel
   have HR:=Lib.hid hs
   clear hs
   by_cases hlt:k<s.sno.n
   rotate_left
   ·have hlt':¬ (k:Int)<(s.sno.n:Int):=by omega
    go_wp2_with fail
    go_ret
    exact ⟨rfl,(HY.out _ HR.out).B⟩
   have hlt':(k:Int)<(s.sno.n:Int):=by omega
   have hk0:(0:Int)≤(k:Int):=by omega
   have hkn:k<s.no.length:=by have:=HNO.out;omega
   obtain ⟨p,hp1,f1,f2,f3⟩:=HSP.out k hkn
   have hp5:=pass_at HP5.out hp1
   have hcr:=fun j u hj=>(HR.out.B.cell (p:=⟨b5,o5+k * 13+j,none⟩) hp5.1).trans (hp5.2 j u hj)
   have p0:wr.cell? ⟨b5,o5+k * 13,none⟩=some (.int .i64 p.alt):=hcr 0 _ rfl
   have p1:wr.cell? ⟨b5,o5+k * 13+1,none⟩=some (.int .i64 p.cas):=hcr 1 _ rfl
   have p2:wr.cell? ⟨b5,o5+k * 13+2,none⟩=some (.int .i64 p.tas):=hcr 2 _ rfl
   have p3:wr.cell? ⟨b5,o5+k * 13+3,none⟩=some (.int .i64 p.ground):=hcr 3 _ rfl
   have p4:wr.cell? ⟨b5,o5+k * 13+4,none⟩=some (.int .i64 p.tick):=hcr 4 _ rfl
   have p5:wr.cell? ⟨b5,o5+k * 13+5,none⟩=some (.int .i64 p.fuel):=hcr 5 _ rfl
   have p6:wr.cell? ⟨b5,o5+k * 13+6,none⟩=some (.int .i64 p.gl):=hcr 6 _ rfl
   have p7:wr.cell? ⟨b5,o5+k * 13+7,none⟩=some (.int .i64 p.gh):=hcr 7 _ rfl
   have p8:wr.cell? ⟨b5,o5+k * 13+8,none⟩=some (.int .i64 p.tl):=hcr 8 _ rfl
   have p9:wr.cell? ⟨b5,o5+k * 13+9,none⟩=some (.int .i64 p.th):=hcr 9 _ rfl
   have p10:wr.cell? ⟨b5,o5+k * 13+10,none⟩=some (.int .i64 p.fl):=hcr 10 _ rfl
   have p11:wr.cell? ⟨b5,o5+k * 13+11,none⟩=some (.int .i64 p.fh):=hcr 11 _ rfl
   have p12:wr.cell? ⟨b5,o5+k * 13+12,none⟩=some (.int .u8 p.phase):=hcr 12 _ rfl
   have HNK:=Lib.hid (fun W (h:BoxS w5 0 [] W)=>HND.out W (HY.out W h) k hkn)
   have HNZ:=Lib.hid (fun W (h:BoxS w5 0 [] W)=>HNS.out W (HY.out W h))
   have HCZ:=Lib.hid (fun W (h:BoxS w5 0 [] W)=>HCS.out W (HY.out W h))
   have d1:decide (p.cas<(nodA s k).s0)=false:=decide_eq_false (by omega)
   have d2:decide ((nodA s k).s1<p.cas)=false:=decide_eq_false (by omega)
   have d3:decide (s.cas<p.cas)=false:=decide_eq_false (by omega)
   clear hcr hp5 hp1 f1 f2 f3 hkn HS
   have HS:=HR
   clear HR
   have Q12:Hid (Has ((wr.alloc (.cells #[.int .i64 p.alt,.int .i64 p.cas,.int .i64 p.tas,.int .i64 p.ground,.int .i64 p.tick,.int .i64 p.fuel,.int .i64 p.gl,.int .i64 p.gh,.int .i64 p.tl,.int .i64 p.th,.int .i64 p.fl,.int .i64 p.fh,.int .u8 p.phase] 53))) wr.heap.size (lzp p.alt p.cas p.tas p.ground p.tick p.fuel p.gl p.gh p.tl p.th p.fl p.fh p.phase)):=Lib.hid (Has.new _ _ _)
   have r12:w5.heap.size+0≤wr.heap.size:=HS.out.sz
   replace HS:=Lib.hid ((HS.out.alloc (.cells #[.int .i64 p.alt,.int .i64 p.cas,.int .i64 p.tas,.int .i64 p.ground,.int .i64 p.tick,.int .i64 p.fuel,.int .i64 p.gl,.int .i64 p.gh,.int .i64 p.tl,.int .i64 p.th,.int .i64 p.fl,.int .i64 p.fh,.int .u8 p.phase] 53)))
   go_wp2_with fail
   clear p0 p1 p2 p3 p4 p5 p6 p7 p8 p9 p10 p11 p12
   generalize (wr.alloc (.cells #[.int .i64 p.alt,.int .i64 p.cas,.int .i64 p.tas,.int .i64 p.ground,.int .i64 p.tick,.int .i64 p.fuel,.int .i64 p.gl,.int .i64 p.gh,.int .i64 p.tl,.int .i64 p.th,.int .i64 p.fl,.int .i64 p.fh,.int .u8 p.phase] 53))=w6 at *
   generalize wr.heap.size=H12 at *
   refine held_start (S:=fun W=>BoxS w5 0 [] W∧Has W H12 (lzp p.alt p.cas p.tas p.ground p.tick p.fuel p.gl p.gh p.tl p.th p.fl p.fh p.phase)) 29 #[false,false,false,false,false,false,false,false,false,false,false,false,false,false,false,false,false,false,false,false,false,false,false,false,false,false,false,false,false] rfl rfl (by kernel_rfl) ((And.intro (HS.out.drew) (Q12.out.drew))) (fun hHeld=>?_)
   iterate 29 (refine hF (L:=_) (v:=?_) rfl rfl ?_ ?_;rotate_left;(intro W hW;have y0:=hW.2.cell 1 (.int .i64 p.cas) rfl;have y1:=HNZ.out W hW.1;have y2:=(HNK.out W hW.1).2.2.2.2.2.1;have y3:=(HNK.out W hW.1).2.2.2.2.2.2;have y4:=HCZ.out W hW.1;clear hW;go_simp;try with_reducible rfl);try simp only [Act.put,pa,pb,pc,setF])
   refine wpAnyH_done (by kernel_rfl) ?_ _
   replace HS:=Lib.hid (hHeld.1)
   replace Q12:=Lib.hid (hHeld.2)
   clear hHeld
   go_wp2_with fail
   go_roundw
   case rel=>exact ⟨k+1,by omega,by go_num,HS.out⟩
   case measure=>simp only [intOf];omega
end Go.Proofs.YtgneijdjlahgbaaGreat
