
/- Over the layers: TopTime, the walk. -/
import Derived.Test.YtgneijdjlahgbaaGreatTpB
import Derived.Test.YtgneijdjlahgbaaGreatToP
import Derived.Test.YtgneijdjlahgbaaGreatM21
import Derived.RegionTactic
import Derived.Test.YtgneijdjlahgbaaGreatM37
namespace Go.Proofs.YtgneijdjlahgbaaGreat
set_option maxRecDepth 100000
set_option maxHeartbeats 16000000
set_option linter.unusedSimpArgs false
set_option linter.unusedVariables false
open Go.RowKit
theorem ret_tt_to {v:Bool} (h:v=true):Ending.returned (.bool v)=.returned (.bool true):=by rw [h]
def ToR (n:Nat) (B:World) (t:Value) (wr:World):Prop:=∃ k:Nat,k≤n∧t=.int .i64 (k:Int)∧BoxS B 0 [] wr
theorem walk_TopTime (s:Stp) (node lo hi:Int) (w:World) (hl:s.lies w) (hok:s.ok) (hsw:StpW s) (hn0:(Lit.int .i64 node).wf=true) (hlo0:(Lit.int .i64 lo).wf=true) (hhi0:(Lit.int .i64 hi).wf=true):Calls Tryz.prog 14 #[.agg s.cells.toArray,.int .i64 node,.agg #[.int .i64 lo,.int .i64 hi]] w (fun e w'=>e=.returned (.bool true)∧Below w.heap.size w w'):=by
 have HS:=Lib.hid (boxS2 w s.cells.toArray #[.int .i64 lo,.int .i64 hi] 35 58)
 have HAW:=Lib.hid bFlight_ok
 have hnode:I64 node:=wf_i64_bd hn0
 have hlo:I64 lo:=wf_i64_bd hlo0
 have hhi:I64 hi:=wf_i64_bd hhi0
 have HLH:=Lib.hid (fun W (h:BoxS w 2 [s.cells,(lz2 lo hi)] W)=>show W.cell? ⟨w.heap.size+1,0,none⟩=some (.int .i64 lo)∧W.cell? ⟨w.heap.size+1,1,none⟩=some (.int .i64 hi) from ⟨h.at 1 _ rfl 0 _ rfl,h.at 1 _ rfl 1 _ rfl⟩)
 have HRN:=Lib.hid (fun W (h:BoxS w 2 [s.cells,(lz2 lo hi)] W)=>xPRun s W (hl.below h.B) hok)
 have HSO:=Lib.hid (fun W (h:BoxS w 2 [s.cells,(lz2 lo hi)] W)=>xRtSolve s node lo hi W (hl.below h.B) hok hsw.cap hnode hlo hhi)
 unfold RunP at HRN
 unfold SoP at HSO
 have N:=StN.of hl
 have hno:=N.no
 have HNS:=Lib.hid (fun W (h:BoxS w 2 [s.cells,(lz2 lo hi)] W)=>show W.cell? ⟨w.heap.size,0,none⟩=some (.slice s.sno.A s.sno.n s.sno.c) from su_no (h.has 0 _ rfl))
 generalize (runC s).1=rx at *
 generalize (runC s).2=ry at *
 generalize (runS s)=rb at *
 rw [hno] at HRN HSO
 by_cases hr:runE s=0
 rotate_left
 ·rw [show okN (runE s) s.sno.n=0 from if_neg hr] at HRN
  have e1:=beq_of hr
  have e2:=bne_of e1
  generalize runE s=E at *
  generalize okN (soE s node lo hi) s.sno.n=M at *
  generalize soV s node lo hi=V at *
  generalize soE s node lo hi=E2 at *
  clear hl hok hsw hn0 hlo0 hhi0 hnode hlo hhi hr N hno
  go_enter Tryz.func14,Tryz.ntmps14
  go_wp2_with fail
  refine (HAW.out _).mono ?_;rintro e' w1 ⟨rfl,hB⟩
  replace HS:=Lib.hid (HS.out.below hB)
  clear hB HAW
  go_wp2_with (refine at_stp (.tmp 3) rfl rfl rfl (HS.out.has 0 _ rfl) ?_)
  refine (HRN.out _ HS.out).mono ?_;rintro e' w2 ⟨A1,c1,rfl,-,-,hB⟩
  replace HS:=Lib.hid (HS.out.below hB)
  clear hB HRN
  have Q7:Hid (Has ((w2.alloc (.cells #[.slice A1 0 c1,.int .i64 rx,.int .i64 ry,.bool rb] 42))) w2.heap.size [.slice A1 0 c1,.int .i64 rx,.int .i64 ry,.bool rb]):=Lib.hid (Has.new _ _ _)
  have r7:w.heap.size+2≤w2.heap.size:=HS.out.sz
  replace HS:=Lib.hid ((HS.out.alloc (.cells #[.slice A1 0 c1,.int .i64 rx,.int .i64 ry,.bool rb] 42)))
  obtain ⟨l0,l1⟩:=HLH.out _ HS.out
  go_wp2_with (refine at_stp (.tmp 3) rfl rfl rfl (HS.out.has 0 _ rfl) ?_)
  clear l0 l1
  generalize (w2.alloc (.cells #[.slice A1 0 c1,.int .i64 rx,.int .i64 ry,.bool rb] 42))=w3 at *
  generalize w2.heap.size=H7 at *
  refine (HSO.out _ HS.out).mono ?_;rintro e' w4 ⟨A2,c2,rfl,-,-,hB⟩
  replace HS:=Lib.hid (HS.out.below hB)
  replace Q7:=Lib.hid (Q7.out.below hB)
  clear hB HSO
  have Q9:Hid (Has ((w4.alloc (.cells #[.slice A2 M c2,.int .i64 0,.int .i64 0,.bool false] 42))) w4.heap.size [.slice A2 M c2,.int .i64 0,.int .i64 0,.bool false]):=Lib.hid (Has.new _ _ _)
  have r9:w.heap.size+2≤w4.heap.size:=HS.out.sz
  have n7_9:H7≠w4.heap.size:=by have:=Q7.out.lt;omega
  replace HS:=Lib.hid ((HS.out.alloc (.cells #[.slice A2 M c2,.int .i64 0,.int .i64 0,.bool false] 42)))
  replace Q7:=Lib.hid ((Q7.out.alloc (.cells #[.slice A2 M c2,.int .i64 0,.int .i64 0,.bool false] 42)))
  have c7_0:=Q7.out.cell 0 (.slice A1 0 c1) rfl
  go_wp2_with fail
  go_ret
  exact ⟨ret_tt_to (by simp),HS.out.B⟩
 rw [hr] at HRN
 simp only [okN_0] at HRN
 by_cases hb:node<1∨(s.no.length:Int)≤node∨hi<lo
 ·obtain ⟨g1,g2⟩:=to_bad N hr hb
  rw [g1,g2,show okN 1 s.sno.n=0 from rfl] at HSO
  rw [hno] at hb
  have hn2:=no_len (run_good N hr).1.G N
  rw [hno] at hn2
  obtain ⟨i1,i2⟩:=hn2
  clear hl hok hsw hn0 hlo0 hhi0 hnode hlo hhi hr N hno g1 g2
  go_enter Tryz.func14,Tryz.ntmps14
  go_wp2_with fail
  refine (HAW.out _).mono ?_;rintro e' w1 ⟨rfl,hB⟩
  replace HS:=Lib.hid (HS.out.below hB)
  clear hB HAW
  go_wp2_with (refine at_stp (.tmp 3) rfl rfl rfl (HS.out.has 0 _ rfl) ?_)
  refine (HRN.out _ HS.out).mono ?_;rintro e' w2 ⟨A1,c1,rfl,-,-,hB⟩
  replace HS:=Lib.hid (HS.out.below hB)
  clear hB HRN
  have Q7:Hid (Has ((w2.alloc (.cells #[.slice A1 s.sno.n c1,.int .i64 rx,.int .i64 ry,.bool rb] 42))) w2.heap.size [.slice A1 s.sno.n c1,.int .i64 rx,.int .i64 ry,.bool rb]):=Lib.hid (Has.new _ _ _)
  have r7:w.heap.size+2≤w2.heap.size:=HS.out.sz
  replace HS:=Lib.hid ((HS.out.alloc (.cells #[.slice A1 s.sno.n c1,.int .i64 rx,.int .i64 ry,.bool rb] 42)))
  obtain ⟨l0,l1⟩:=HLH.out _ HS.out
  go_wp2_with (refine at_stp (.tmp 3) rfl rfl rfl (HS.out.has 0 _ rfl) ?_)
  clear l0 l1
  generalize (w2.alloc (.cells #[.slice A1 s.sno.n c1,.int .i64 rx,.int .i64 ry,.bool rb] 42))=w3 at *
  generalize w2.heap.size=H7 at *
  refine (HSO.out _ HS.out).mono ?_;rintro e' w4 ⟨A2,c2,rfl,-,-,hB⟩
  replace HS:=Lib.hid (HS.out.below hB)
  replace Q7:=Lib.hid (Q7.out.below hB)
  clear hB HSO
  have Q9:Hid (Has ((w4.alloc (.cells #[.slice A2 0 c2,.int .i64 0,.int .i64 0,.bool false] 42))) w4.heap.size [.slice A2 0 c2,.int .i64 0,.int .i64 0,.bool false]):=Lib.hid (Has.new _ _ _)
  have r9:w.heap.size+2≤w4.heap.size:=HS.out.sz
  have n7_9:H7≠w4.heap.size:=by have:=Q7.out.lt;omega
  replace HS:=Lib.hid ((HS.out.alloc (.cells #[.slice A2 0 c2,.int .i64 0,.int .i64 0,.bool false] 42)))
  replace Q7:=Lib.hid ((Q7.out.alloc (.cells #[.slice A2 0 c2,.int .i64 0,.int .i64 0,.bool false] 42)))
  have c7_0:=Q7.out.cell 0 (.slice A1 s.sno.n c1) rfl
  have c9_0:=Q9.out.cell 0 (.slice A2 0 c2) rfl
  obtain ⟨l0,l1⟩:=HLH.out _ HS.out
  have k0:=HNS.out _ HS.out
  by_cases a1:node<1
  ·clear hb
   go_wp2_with fail
   go_ret
   exact ⟨ret_tt_to (by simp),HS.out.B⟩
  by_cases a2:(s.sno.n:Int)≤node
  ·clear hb
   go_wp2_with fail
   go_ret
   exact ⟨ret_tt_to (by simp),HS.out.B⟩
  have a3:hi<lo:=by omega
  clear hb
  go_wp2_with fail
  go_ret
  exact ⟨ret_tt_to (by simp),HS.out.B⟩
 have a1:¬ node<1:=by omega
 have a2:¬ (s.no.length:Int)≤node:=by omega
 have a3:¬ hi<lo:=by omega
 have G:=to_good N hr (show 1≤node by omega) (show node<s.no.length by omega) (show lo≤hi by omega)
 have hn2:=no_len (run_good N hr).1.G N
 obtain ⟨m,rfl⟩:=Int.eq_ofNat_of_zero_le (show 0≤node by omega)
 have HPT:=Lib.hid G.at'
 have hmn:(m:Int)<(s.sno.n:Int):=by omega
 rw [hno] at a2 hn2
 obtain ⟨i1,i2⟩:=hn2
 generalize fkT s (spn s) (m:Int).toNat=t at *
 have t0:=G.t0
 by_cases hz:soE s (m:Int) lo hi=0
 rotate_left
 ·obtain ⟨g1,g2,g3⟩:=G.no hz
  rw [g1,g3,show okN 16 s.sno.n=0 from rfl] at HSO
  generalize runL s=RL at *
  clear hl hok hsw hn0 hlo0 hhi0 hnode hlo hhi hr hb N hno G g1 g3 hz
  go_enter Tryz.func14,Tryz.ntmps14
  go_wp2_with fail
  refine (HAW.out _).mono ?_;rintro e' w1 ⟨rfl,hB⟩
  replace HS:=Lib.hid (HS.out.below hB)
  clear hB HAW
  go_wp2_with (refine at_stp (.tmp 3) rfl rfl rfl (HS.out.has 0 _ rfl) ?_)
  refine (HRN.out _ HS.out).mono ?_;rintro e' w2 ⟨A1,c1,rfl,hP1,-,hB⟩
  replace HS:=Lib.hid (HS.out.below hB)
  clear hB HRN
  obtain ⟨b5,o5,rfl⟩:=pass_A hP1 (by omega)
  have HP1:=Lib.hid hP1
  clear hP1
  have Q7:Hid (Has ((w2.alloc (.cells #[.slice (some ⟨b5,o5,none⟩) s.sno.n c1,.int .i64 rx,.int .i64 ry,.bool rb] 42))) w2.heap.size [.slice (some ⟨b5,o5,none⟩) s.sno.n c1,.int .i64 rx,.int .i64 ry,.bool rb]):=Lib.hid (Has.new _ _ _)
  have r7:w.heap.size+2≤w2.heap.size:=HS.out.sz
  replace HS:=Lib.hid ((HS.out.alloc (.cells #[.slice (some ⟨b5,o5,none⟩) s.sno.n c1,.int .i64 rx,.int .i64 ry,.bool rb] 42)))
  replace HP1:=Lib.hid (HP1.out.below (below_alloc1 w2 (.cells #[.slice (some ⟨b5,o5,none⟩) s.sno.n c1,.int .i64 rx,.int .i64 ry,.bool rb] 42)))
  obtain ⟨l0,l1⟩:=HLH.out _ HS.out
  go_wp2_with (refine at_stp (.tmp 3) rfl rfl rfl (HS.out.has 0 _ rfl) ?_)
  clear l0 l1
  generalize (w2.alloc (.cells #[.slice (some ⟨b5,o5,none⟩) s.sno.n c1,.int .i64 rx,.int .i64 ry,.bool rb] 42))=w3 at *
  generalize w2.heap.size=H7 at *
  refine (HSO.out _ HS.out).mono ?_;rintro e' w4 ⟨A2,c2,rfl,-,-,hB⟩
  replace HS:=Lib.hid (HS.out.below hB)
  replace Q7:=Lib.hid (Q7.out.below hB)
  replace HP1:=Lib.hid (HP1.out.below hB)
  clear hB HSO
  have Q9:Hid (Has ((w4.alloc (.cells #[.slice A2 0 c2,.int .i64 0,.int .i64 0,.bool false] 42))) w4.heap.size [.slice A2 0 c2,.int .i64 0,.int .i64 0,.bool false]):=Lib.hid (Has.new _ _ _)
  have r9:w.heap.size+2≤w4.heap.size:=HS.out.sz
  have n7_9:H7≠w4.heap.size:=by have:=Q7.out.lt;omega
  replace HS:=Lib.hid ((HS.out.alloc (.cells #[.slice A2 0 c2,.int .i64 0,.int .i64 0,.bool false] 42)))
  replace Q7:=Lib.hid ((Q7.out.alloc (.cells #[.slice A2 0 c2,.int .i64 0,.int .i64 0,.bool false] 42)))
  replace HP1:=Lib.hid (HP1.out.below (below_alloc1 w4 (.cells #[.slice A2 0 c2,.int .i64 0,.int .i64 0,.bool false] 42)))
  have q5:(w4.alloc (.cells #[.slice A2 0 c2,.int .i64 0,.int .i64 0,.bool false] 42)).cell? ⟨b5,o5+m * 13+4,none⟩=some (.int .i64 t):=by
   obtain ⟨p,h1,h2⟩:=HPT.out
   rw [← h2]
   exact (pass_at HP1.out (by simpa using h1)).2 4 _ rfl
  have c7_0:=Q7.out.cell 0 (.slice (some ⟨b5,o5,none⟩) s.sno.n c1) rfl
  have c9_0:=Q9.out.cell 0 (.slice A2 0 c2) rfl
  obtain ⟨l0,l1⟩:=HLH.out _ HS.out
  have k0:=HNS.out _ HS.out
  go_wp2_with fail
  go_ret
  exact ⟨ret_tt_to (by simp),HS.out.B⟩
 obtain ⟨g1,u,⟨g2,g3⟩,g4,g5,g6⟩:=G.yes hz
 rw [hz] at HSO
 simp only [okN_0] at HSO
 have HQT:=Lib.hid g5
 have HAL:=Lib.hid g6
 have hv:(soV s (m:Int) lo hi == 0)=decide (lo≤u):=by
  rw [g4]
  by_cases h:lo≤u
  ·rw [show max (lo - u) 0=0 by omega,decide_eq_true h];rfl
  ·rw [show max (lo - u) 0=lo - u by omega,decide_eq_false h];simp;omega
 have HNO:=Lib.hid hno
 have HV:=Lib.hid hv
 generalize soV s (m:Int) lo hi=V at *
 generalize soL s (m:Int) lo hi=SL at *
 generalize runL s=RL at *
 clear hl hok hsw hn0 hlo0 hhi0 hnode hlo hhi hr hb N hno G hz g4 g5 g6 hv
 go_enter Tryz.func14,Tryz.ntmps14
 go_wp2_with fail
 refine (HAW.out _).mono ?_;rintro e' w1 ⟨rfl,hB⟩
 replace HS:=Lib.hid (HS.out.below hB)
 clear hB HAW
 go_wp2_with (refine at_stp (.tmp 3) rfl rfl rfl (HS.out.has 0 _ rfl) ?_)
 refine (HRN.out _ HS.out).mono ?_;rintro e' w2 ⟨A1,c1,rfl,hP1,-,hB⟩
 replace HS:=Lib.hid (HS.out.below hB)
 clear hB HRN
 obtain ⟨b5,o5,rfl⟩:=pass_A hP1 (by omega)
 have HP1:=Lib.hid hP1
 clear hP1
 have Q7:Hid (Has ((w2.alloc (.cells #[.slice (some ⟨b5,o5,none⟩) s.sno.n c1,.int .i64 rx,.int .i64 ry,.bool rb] 42))) w2.heap.size [.slice (some ⟨b5,o5,none⟩) s.sno.n c1,.int .i64 rx,.int .i64 ry,.bool rb]):=Lib.hid (Has.new _ _ _)
 have r7:w.heap.size+2≤w2.heap.size:=HS.out.sz
 replace HS:=Lib.hid ((HS.out.alloc (.cells #[.slice (some ⟨b5,o5,none⟩) s.sno.n c1,.int .i64 rx,.int .i64 ry,.bool rb] 42)))
 replace HP1:=Lib.hid (HP1.out.below (below_alloc1 w2 (.cells #[.slice (some ⟨b5,o5,none⟩) s.sno.n c1,.int .i64 rx,.int .i64 ry,.bool rb] 42)))
 obtain ⟨l0,l1⟩:=HLH.out _ HS.out
 go_wp2_with (refine at_stp (.tmp 3) rfl rfl rfl (HS.out.has 0 _ rfl) ?_)
 clear l0 l1
 generalize (w2.alloc (.cells #[.slice (some ⟨b5,o5,none⟩) s.sno.n c1,.int .i64 rx,.int .i64 ry,.bool rb] 42))=w3 at *
 generalize w2.heap.size=H7 at *
 refine (HSO.out _ HS.out).mono ?_;rintro e' w4 ⟨A2,c2,rfl,hP2,-,hB⟩
 replace HS:=Lib.hid (HS.out.below hB)
 replace Q7:=Lib.hid (Q7.out.below hB)
 replace HP1:=Lib.hid (HP1.out.below hB)
 obtain ⟨b6,o6,rfl⟩:=pass_A hP2 (by omega)
 have HP2:=Lib.hid hP2
 clear hB HSO hP2
 have Q9:Hid (Has ((w4.alloc (.cells #[.slice (some ⟨b6,o6,none⟩) s.sno.n c2,.int .i64 0,.int .i64 0,.bool false] 42))) w4.heap.size [.slice (some ⟨b6,o6,none⟩) s.sno.n c2,.int .i64 0,.int .i64 0,.bool false]):=Lib.hid (Has.new _ _ _)
 have r9:w.heap.size+2≤w4.heap.size:=HS.out.sz
 have n7_9:H7≠w4.heap.size:=by have:=Q7.out.lt;omega
 replace HS:=Lib.hid ((HS.out.alloc (.cells #[.slice (some ⟨b6,o6,none⟩) s.sno.n c2,.int .i64 0,.int .i64 0,.bool false] 42)))
 replace Q7:=Lib.hid ((Q7.out.alloc (.cells #[.slice (some ⟨b6,o6,none⟩) s.sno.n c2,.int .i64 0,.int .i64 0,.bool false] 42)))
 replace HP1:=Lib.hid (HP1.out.below (below_alloc1 w4 (.cells #[.slice (some ⟨b6,o6,none⟩) s.sno.n c2,.int .i64 0,.int .i64 0,.bool false] 42)))
 replace HP2:=Lib.hid (HP2.out.below (below_alloc1 w4 (.cells #[.slice (some ⟨b6,o6,none⟩) s.sno.n c2,.int .i64 0,.int .i64 0,.bool false] 42)))
 have q5:(w4.alloc (.cells #[.slice (some ⟨b6,o6,none⟩) s.sno.n c2,.int .i64 0,.int .i64 0,.bool false] 42)).cell? ⟨b5,o5+m * 13+4,none⟩=some (.int .i64 t):=by
  obtain ⟨p,h1,h2⟩:=HPT.out
  rw [← h2]
  exact (pass_at HP1.out (by simpa using h1)).2 4 _ rfl
 have c7_0:=Q7.out.cell 0 (.slice (some ⟨b5,o5,none⟩) s.sno.n c1) rfl
 have c9_0:=Q9.out.cell 0 (.slice (some ⟨b6,o6,none⟩) s.sno.n c2) rfl
 obtain ⟨l0,l1⟩:=HLH.out _ HS.out
 have k0:=HNS.out _ HS.out
 go_wp2_with fail
 clear q5 k0 l0 l1
 clear c7_0 c9_0
 generalize (w4.alloc (.cells #[.slice (some ⟨b6,o6,none⟩) s.sno.n c2,.int .i64 0,.int .i64 0,.bool false] 42))=w5 at *
 generalize w4.heap.size=H9 at *
 have HY:=Lib.hid (fun W (h:BoxS w5 0 [] W)=>HS.out.below h.B)
 have HY7:=Lib.hid (fun W (h:BoxS w5 0 [] W)=>(Q7.out.below h.B).cell 0 _ rfl)
 have HY9:=Lib.hid (fun W (h:BoxS w5 0 [] W)=>(Q9.out.below h.B).cell 0 _ rfl)
 go_loopw [108] (fun t wr=>ToR s.sno.n w5 t wr) (fun t _=>s.sno.n - (intOf t).toNat)
 case atStart=>exact ⟨0,by omega,rfl,⟨fun i cs hi=>by simp at hi,by simp,Below.refl _ _,by simp⟩⟩
 case round =>
  obtain ⟨k,hk,rfl,hs⟩:=hrel
  have HR:=Lib.hid hs
  clear hs
  have z7:=HY7.out _ HR.out
  have z9:=HY9.out _ HR.out
  by_cases hlt:k<s.sno.n
  rotate_left
  ·have hlt':¬ (k:Int)<(s.sno.n:Int):=by omega
   have q6:wr.cell? ⟨b6,o6+m * 13+4,none⟩=some (.int .i64 u):=by
    obtain ⟨p,h1,h2⟩:=HQT.out
    rw [← h2]
    have h3:=pass_at HP2.out (by simpa using h1)
    exact (HR.out.B.cell (p:=⟨b6,o6+m * 13+4,none⟩) h3.1).trans (h3.2 4 _ rfl)
   obtain ⟨l0,l1⟩:=HLH.out _ (HY.out _ HR.out)
   have hv:=HV.out
   have hb2:=Lib.hid (HY.out _ HR.out).B
   go_wp2_with fail
   go_ret
   exact ⟨ret_tt_to (by simp),hb2.out⟩
  have hlt':(k:Int)<(s.sno.n:Int):=by omega
  have hk0:(0:Int)≤(k:Int):=by omega
  have hg:IntKind.i64.wrap ((k:Int)+1)=(k:Int)+1:=IntWalk.i64_in _ (by omega)
  have hkn:k<s.no.length:=by have:=HNO.out;omega
  obtain ⟨p,q,hp1,hq1,f1,f2⟩:=HAL.out k hkn
  have hp5:=pass_at HP1.out hp1
  have hq5:=pass_at HP2.out hq1
  have hcp:=fun W (h:BoxS w5 0 [] W) j u hj=>(h.B.cell (p:=⟨b5,o5+k * 13+j,none⟩) hp5.1).trans (hp5.2 j u hj)
  have hcr:=fun j u hj=>(HR.out.B.cell (p:=⟨b6,o6+k * 13+j,none⟩) hq5.1).trans (hq5.2 j u hj)
  have p0:wr.cell? ⟨b6,o6+k * 13,none⟩=some (.int .i64 q.alt):=hcr 0 _ rfl
  have p1:wr.cell? ⟨b6,o6+k * 13+1,none⟩=some (.int .i64 q.cas):=hcr 1 _ rfl
  have p2:wr.cell? ⟨b6,o6+k * 13+2,none⟩=some (.int .i64 q.tas):=hcr 2 _ rfl
  have p3:wr.cell? ⟨b6,o6+k * 13+3,none⟩=some (.int .i64 q.ground):=hcr 3 _ rfl
  have p4:wr.cell? ⟨b6,o6+k * 13+4,none⟩=some (.int .i64 q.tick):=hcr 4 _ rfl
  have p5:wr.cell? ⟨b6,o6+k * 13+5,none⟩=some (.int .i64 q.fuel):=hcr 5 _ rfl
  have p6:wr.cell? ⟨b6,o6+k * 13+6,none⟩=some (.int .i64 q.gl):=hcr 6 _ rfl
  have p7:wr.cell? ⟨b6,o6+k * 13+7,none⟩=some (.int .i64 q.gh):=hcr 7 _ rfl
  have p8:wr.cell? ⟨b6,o6+k * 13+8,none⟩=some (.int .i64 q.tl):=hcr 8 _ rfl
  have p9:wr.cell? ⟨b6,o6+k * 13+9,none⟩=some (.int .i64 q.th):=hcr 9 _ rfl
  have p10:wr.cell? ⟨b6,o6+k * 13+10,none⟩=some (.int .i64 q.fl):=hcr 10 _ rfl
  have p11:wr.cell? ⟨b6,o6+k * 13+11,none⟩=some (.int .i64 q.fh):=hcr 11 _ rfl
  have p12:wr.cell? ⟨b6,o6+k * 13+12,none⟩=some (.int .u8 q.phase):=hcr 12 _ rfl
  have HC0:=Lib.hid (fun W (h:BoxS w5 0 [] W)=>show W.cell? ⟨b5,o5+k * 13,none⟩=some (.int .i64 q.alt) from by rw [f1];exact hcp W h 0 _ rfl)
  have HC1:=Lib.hid (fun W (h:BoxS w5 0 [] W)=>show W.cell? ⟨b5,o5+k * 13+1,none⟩=some (.int .i64 p.cas) from hcp W h 1 _ rfl)
  have d1:decide (p.cas<q.cas)=false:=decide_eq_false (by omega)
  generalize p.cas=pcas at *
  clear hcp hcr hp5 hq5 hp1 hq1 f1 f2 hkn HS Q7 Q9
  have HS:=HR
  clear HR
  have Q12:Hid (Has ((wr.alloc (.cells #[.int .i64 q.alt,.int .i64 q.cas,.int .i64 q.tas,.int .i64 q.ground,.int .i64 q.tick,.int .i64 q.fuel,.int .i64 q.gl,.int .i64 q.gh,.int .i64 q.tl,.int .i64 q.th,.int .i64 q.fl,.int .i64 q.fh,.int .u8 q.phase] 53))) wr.heap.size (lzp q.alt q.cas q.tas q.ground q.tick q.fuel q.gl q.gh q.tl q.th q.fl q.fh q.phase)):=Lib.hid (Has.new _ _ _)
  have r12:w5.heap.size+0≤wr.heap.size:=HS.out.sz
  replace HS:=Lib.hid ((HS.out.alloc (.cells #[.int .i64 q.alt,.int .i64 q.cas,.int .i64 q.tas,.int .i64 q.ground,.int .i64 q.tick,.int .i64 q.fuel,.int .i64 q.gl,.int .i64 q.gh,.int .i64 q.tl,.int .i64 q.th,.int .i64 q.fl,.int .i64 q.fh,.int .u8 q.phase] 53)))
  go_wp2_with fail
  clear p0 p1 p2 p3 p4 p5 p6 p7 p8 p9 p10 p11 p12 z7 z9
  generalize (wr.alloc (.cells #[.int .i64 q.alt,.int .i64 q.cas,.int .i64 q.tas,.int .i64 q.ground,.int .i64 q.tick,.int .i64 q.fuel,.int .i64 q.gl,.int .i64 q.gh,.int .i64 q.tl,.int .i64 q.th,.int .i64 q.fl,.int .i64 q.fh,.int .u8 q.phase] 53))=w6 at *
  generalize wr.heap.size=H12 at *
  refine held_start (S:=fun W=>BoxS w5 0 [] W∧Has W H12 (lzp q.alt q.cas q.tas q.ground q.tick q.fuel q.gl q.gh q.tl q.th q.fl q.fh q.phase)) 20 #[false,false,false,false,false,false,false,false,false,false,false,false,false,false,false,false,false,false,false,false] rfl rfl (by kernel_rfl) ((And.intro (HS.out.drew) (Q12.out.drew))) (fun hHeld=>?_)
  iterate 20 (refine hF (L:=_) (v:=?_) rfl rfl ?_ ?_;rotate_left;(intro W hW;have y0:=hW.2.cell 0 (.int .i64 q.alt) rfl;have y1:=HY7.out W hW.1;have y2:=HC0.out W hW.1;have y3:=hW.2.cell 1 (.int .i64 q.cas) rfl;have y4:=HC1.out W hW.1;clear hW;go_simp;try with_reducible rfl);try simp only [Act.put,pa,pb,pc,setF])
  refine wpAnyH_done (by kernel_rfl) ?_ _
  replace HS:=Lib.hid (hHeld.1)
  replace Q12:=Lib.hid (hHeld.2)
  clear hHeld
  go_wp2_with fail
  go_roundw
  case rel=>exact ⟨k+1,by omega,by go_num,HS.out⟩
  case measure=>simp only [intOf];omega
end Go.Proofs.YtgneijdjlahgbaaGreat
