
/- Layer 38: RtaExcludes, the walk. -/
import Derived.Test.YtgneijdjlahgbaaGreatM5
import Derived.Test.YtgneijdjlahgbaaGreatM21
import Derived.RegionTactic
namespace Go.Proofs.YtgneijdjlahgbaaGreat
set_option maxRecDepth 100000
set_option maxHeartbeats 16000000
set_option linter.unusedSimpArgs false
set_option linter.unusedVariables false
open Go.RowKit
theorem ret_tt_rx {v:Bool} (h:v=true):Ending.returned (.bool v)=.returned (.bool true):=by rw [h]
structure RxG (s:Stp) (node lo hi a b:Int):Prop where
 o:opE s node false=0
 n1:1≤node
 n2:node<s.no.length
 ab:a≤b
 a0:0≤a
 late:hi<lo→soE s node lo hi=1∧soV s node lo hi=0
 no:lo≤hi→soE s node lo hi≠0→soE s node lo hi=16∧hi<a
 yes:lo≤hi→soE s node lo hi=0→∃ t,(soL s node lo hi)[node.toNat]? = some t∧(a≤t.tick∧t.tick≤b∧t.tick≤hi)∧(b≤hi→t.tick=b)
theorem rx_good {s:Stp} (N:StN s) {node lo hi:Int} (h:wdE s node=0):RxG s node lo hi (fkT s (spn s) node.toNat) (fkT s 0 node.toNat):=by
 have ho:opE s node false=0:=by
  unfold wdE at h
  by_cases h0:opE s node false=0
  ·exact h0
  ·rw [if_pos h0] at h;exact absurd h h0
 obtain ⟨O,-⟩:=op_good N ho
 have h1:fkE s (spn s)=0∧fkE s 0=0:=by
  unfold wdE at h
  rw [if_neg (by rw [ho];decide)] at h
  by_cases h2:fkE s (spn s)=0
  ·rw [if_neg (by rw [h2];decide)] at h;exact ⟨h2,h⟩
  ·rw [if_pos h2] at h;exact absurd h h2
 have hm:node.toNat<s.no.length:=by have:=O.n1;have:=O.n2;omega
 have hs0:0≤spn s:=spV_0 _ _
 have hab:=fk_mono O N (Int.le_refl 0) hs0 h1.2 h1.1 hm
 have ha0:=(fk_psI O N hs0 h1.1 hm).tick.1
 refine ⟨ho,O.n1,O.n2,hab,ha0,fun hlt=>?_,fun hle hne=>?_,fun hle h0=>?_⟩
 ·have e:opE s node (decide (hi<lo))=1:=by
   rw [decide_eq_true hlt]
   exact opE_1 O.su (.inr (.inr rfl))
  have e2:soE s node lo hi=1:=(soE_o (by rw [e];decide)).trans e
  exact ⟨e2,if_neg (by rw [e2];decide)⟩
 ·have e:opE s node (decide (hi<lo))=0:=by rw [decide_eq_false (by omega)];exact ho
  obtain ⟨a1,a2⟩:=so_16 N e hne
  refine ⟨a1,?_⟩
  have:=a2 (spn s).toNat (by omega)
  rw [show (((spn s).toNat:Nat):Int)=spn s by omega] at this
  by_cases hh:fkT s (spn s) node.toNat≤hi
  ·exact absurd ⟨h1.1,hh⟩ this
  ·omega
 ·obtain ⟨k,F⟩:=so_good N h0
  refine ⟨psP s (altL s) (fam s k) node.toNat,by rw [F.soL];exact fkL_get hm,⟨fk_mono O N (by omega) F.ks F.e h1.1 hm,fk_mono O N (Int.le_refl 0) (by omega) h1.2 F.e hm,F.t⟩,fun hb=>?_⟩
  by_cases hk:k=0
  ·subst hk;rfl
  ·exact absurd ⟨h1.2,hb⟩ (F.first 0 (by omega))
theorem walk_RtaExcludes (s:Stp) (node lo hi:Int) (w:World) (hl:s.lies w) (hok:s.ok) (hsw:StpW s) (hn0:(Lit.int .i64 node).wf=true) (hlo0:(Lit.int .i64 lo).wf=true) (hhi0:(Lit.int .i64 hi).wf=true):Calls Tryz.prog 10 #[.agg s.cells.toArray,.int .i64 node,.agg #[.int .i64 lo,.int .i64 hi]] w (fun e w'=>e=.returned (.bool true)∧Below w.heap.size w w'):=by
 have HS:=Lib.hid (boxS2 w s.cells.toArray #[.int .i64 lo,.int .i64 hi] 35 58)
 have HAW:=Lib.hid awake38
 have hnode:I64 node:=wf_i64_bd hn0
 have hlo:I64 lo:=wf_i64_bd hlo0
 have hhi:I64 hi:=wf_i64_bd hhi0
 have HLH:=Lib.hid (fun W (h:BoxS w 2 [s.cells,(lz2 lo hi)] W)=>show W.cell? ⟨w.heap.size+1,0,none⟩=some (.int .i64 lo)∧W.cell? ⟨w.heap.size+1,1,none⟩=some (.int .i64 hi) from ⟨h.at 1 _ rfl 0 _ rfl,h.at 1 _ rfl 1 _ rfl⟩)
 have HWD:=Lib.hid (fun W (h:BoxS w 2 [s.cells,(lz2 lo hi)] W)=>xRtWindow s node W (hl.below h.B) hok hsw.cap hnode)
 have HSO:=Lib.hid (fun W (h:BoxS w 2 [s.cells,(lz2 lo hi)] W)=>xRtSolve s node lo hi W (hl.below h.B) hok hsw.cap hnode hlo hhi)
 unfold WdP at HWD
 unfold SoP at HSO
 have N:=StN.of hl
 by_cases hw:wdE s node=0
 rotate_left
 ·have hI:∀ i,okI (wdE s node) i=0:=fun i=>if_neg hw
  simp only [hI] at HWD
  have e1:=beq_of hw
  have e2:=bne_of e1
  generalize wdE s node=E at *
  generalize okN (soE s node lo hi) s.no.length=M at *
  generalize soV s node lo hi=V at *
  generalize soE s node lo hi=E2 at *
  clear hl hok hsw hn0 hlo0 hhi0 hnode hlo hhi hw hI N
  go_enter Tryz.func10,Tryz.ntmps10
  go_wp2_with fail
  refine (HAW.out _).mono ?_;rintro e' w1 ⟨rfl,hB⟩
  replace HS:=Lib.hid (HS.out.below hB)
  clear hB HAW
  go_wp2_with (refine at_stp (.tmp 3) rfl rfl rfl (HS.out.has 0 _ rfl) ?_)
  refine (HWD.out _ HS.out).mono ?_;rintro e' w2 ⟨rfl,hB⟩
  replace HS:=Lib.hid (HS.out.below hB)
  clear hB HWD
  have Q7:Hid (Has ((w2.alloc (.cells #[.int .i64 0,.int .i64 0] 58))) w2.heap.size (lz2 0 0)):=Lib.hid (Has.new _ _ _)
  have r7:w.heap.size+2≤w2.heap.size:=HS.out.sz
  replace HS:=Lib.hid ((HS.out.alloc (.cells #[.int .i64 0,.int .i64 0] 58)))
  obtain ⟨l0,l1⟩:=HLH.out _ HS.out
  go_wp2_with (refine at_stp (.tmp 3) rfl rfl rfl (HS.out.has 0 _ rfl) ?_)
  clear l0 l1
  generalize (w2.alloc (.cells #[.int .i64 0,.int .i64 0] 58))=w3 at *
  generalize w2.heap.size=H7 at *
  refine (HSO.out _ HS.out).mono ?_;rintro e' w4 ⟨A,c,rfl,-,-,hB⟩
  replace HS:=Lib.hid (HS.out.below hB)
  replace Q7:=Lib.hid (Q7.out.below hB)
  clear hB HSO
  have Q9:Hid (Has ((w4.alloc (.cells #[.slice A M c,.int .i64 0,.int .i64 0,.bool false] 42))) w4.heap.size [.slice A M c,.int .i64 0,.int .i64 0,.bool false]):=Lib.hid (Has.new _ _ _)
  have r9:w.heap.size+2≤w4.heap.size:=HS.out.sz
  have n7_9:H7≠w4.heap.size:=by have:=Q7.out.lt;omega
  replace HS:=Lib.hid ((HS.out.alloc (.cells #[.slice A M c,.int .i64 0,.int .i64 0,.bool false] 42)))
  replace Q7:=Lib.hid ((Q7.out.alloc (.cells #[.slice A M c,.int .i64 0,.int .i64 0,.bool false] 42)))
  have c7_0:=Q7.out.cell 0 (.int .i64 0) rfl
  have c7_1:=Q7.out.cell 1 (.int .i64 0) rfl
  go_wp2_with fail
  all_goals (go_ret;exact ⟨ret_tt_rx (by simp),HS.out.B⟩)
 have G:=rx_good N (lo:=lo) (hi:=hi) hw
 rw [hw] at HWD
 simp only [show ∀ i,okI 0 i=i from fun i=>if_pos rfl] at HWD
 generalize fkT s (spn s) node.toNat=a at *
 generalize fkT s 0 node.toNat=b at *
 have HNO:=Lib.hid N.no
 by_cases hlt:hi<lo
 ·obtain ⟨g1,g2⟩:=G.late hlt
  rw [g1,g2,show okN 1 s.no.length=0 from rfl] at HSO
  clear hl hok hsw hn0 hlo0 hhi0 hnode hlo hhi hw N G g1 g2
  go_enter Tryz.func10,Tryz.ntmps10
  go_wp2_with fail
  refine (HAW.out _).mono ?_;rintro e' w1 ⟨rfl,hB⟩
  replace HS:=Lib.hid (HS.out.below hB)
  clear hB HAW
  go_wp2_with (refine at_stp (.tmp 3) rfl rfl rfl (HS.out.has 0 _ rfl) ?_)
  refine (HWD.out _ HS.out).mono ?_;rintro e' w2 ⟨rfl,hB⟩
  replace HS:=Lib.hid (HS.out.below hB)
  clear hB HWD
  have Q7:Hid (Has ((w2.alloc (.cells #[.int .i64 a,.int .i64 b] 58))) w2.heap.size (lz2 a b)):=Lib.hid (Has.new _ _ _)
  have r7:w.heap.size+2≤w2.heap.size:=HS.out.sz
  replace HS:=Lib.hid ((HS.out.alloc (.cells #[.int .i64 a,.int .i64 b] 58)))
  obtain ⟨l0,l1⟩:=HLH.out _ HS.out
  go_wp2_with (refine at_stp (.tmp 3) rfl rfl rfl (HS.out.has 0 _ rfl) ?_)
  clear l0 l1
  generalize (w2.alloc (.cells #[.int .i64 a,.int .i64 b] 58))=w3 at *
  generalize w2.heap.size=H7 at *
  refine (HSO.out _ HS.out).mono ?_;rintro e' w4 ⟨A,c,rfl,-,-,hB⟩
  replace HS:=Lib.hid (HS.out.below hB)
  replace Q7:=Lib.hid (Q7.out.below hB)
  clear hB HSO
  have Q9:Hid (Has ((w4.alloc (.cells #[.slice A 0 c,.int .i64 0,.int .i64 0,.bool false] 42))) w4.heap.size [.slice A 0 c,.int .i64 0,.int .i64 0,.bool false]):=Lib.hid (Has.new _ _ _)
  have r9:w.heap.size+2≤w4.heap.size:=HS.out.sz
  have n7_9:H7≠w4.heap.size:=by have:=Q7.out.lt;omega
  replace HS:=Lib.hid ((HS.out.alloc (.cells #[.slice A 0 c,.int .i64 0,.int .i64 0,.bool false] 42)))
  replace Q7:=Lib.hid ((Q7.out.alloc (.cells #[.slice A 0 c,.int .i64 0,.int .i64 0,.bool false] 42)))
  have c7_0:=Q7.out.cell 0 (.int .i64 a) rfl
  have c7_1:=Q7.out.cell 1 (.int .i64 b) rfl
  obtain ⟨l0,l1⟩:=HLH.out _ HS.out
  go_wp2_with fail
  all_goals (go_ret;exact ⟨ret_tt_rx (by simp),HS.out.B⟩)
 have hle:lo≤hi:=by omega
 obtain ⟨g1,g2,g3⟩:1≤node∧node<(s.no.length:Int)∧a≤b:=⟨G.n1,G.n2,G.ab⟩
 have g4:=G.a0
 by_cases hz:soE s node lo hi=0
 rotate_left
 ·obtain ⟨k1,k2⟩:=G.no hle hz
  rw [k1,show okN 16 s.no.length=0 from rfl] at HSO
  generalize soV s node lo hi=V at *
  clear hl hok hsw hn0 hlo0 hhi0 hnode hlo hhi hw N G k1 hz
  go_enter Tryz.func10,Tryz.ntmps10
  go_wp2_with fail
  refine (HAW.out _).mono ?_;rintro e' w1 ⟨rfl,hB⟩
  replace HS:=Lib.hid (HS.out.below hB)
  clear hB HAW
  go_wp2_with (refine at_stp (.tmp 3) rfl rfl rfl (HS.out.has 0 _ rfl) ?_)
  refine (HWD.out _ HS.out).mono ?_;rintro e' w2 ⟨rfl,hB⟩
  replace HS:=Lib.hid (HS.out.below hB)
  clear hB HWD
  have Q7:Hid (Has ((w2.alloc (.cells #[.int .i64 a,.int .i64 b] 58))) w2.heap.size (lz2 a b)):=Lib.hid (Has.new _ _ _)
  have r7:w.heap.size+2≤w2.heap.size:=HS.out.sz
  replace HS:=Lib.hid ((HS.out.alloc (.cells #[.int .i64 a,.int .i64 b] 58)))
  obtain ⟨l0,l1⟩:=HLH.out _ HS.out
  go_wp2_with (refine at_stp (.tmp 3) rfl rfl rfl (HS.out.has 0 _ rfl) ?_)
  clear l0 l1
  generalize (w2.alloc (.cells #[.int .i64 a,.int .i64 b] 58))=w3 at *
  generalize w2.heap.size=H7 at *
  refine (HSO.out _ HS.out).mono ?_;rintro e' w4 ⟨A,c,rfl,-,-,hB⟩
  replace HS:=Lib.hid (HS.out.below hB)
  replace Q7:=Lib.hid (Q7.out.below hB)
  clear hB HSO
  have Q9:Hid (Has ((w4.alloc (.cells #[.slice A 0 c,.int .i64 0,.int .i64 0,.bool false] 42))) w4.heap.size [.slice A 0 c,.int .i64 0,.int .i64 0,.bool false]):=Lib.hid (Has.new _ _ _)
  have r9:w.heap.size+2≤w4.heap.size:=HS.out.sz
  have n7_9:H7≠w4.heap.size:=by have:=Q7.out.lt;omega
  replace HS:=Lib.hid ((HS.out.alloc (.cells #[.slice A 0 c,.int .i64 0,.int .i64 0,.bool false] 42)))
  replace Q7:=Lib.hid ((Q7.out.alloc (.cells #[.slice A 0 c,.int .i64 0,.int .i64 0,.bool false] 42)))
  have c7_0:=Q7.out.cell 0 (.int .i64 a) rfl
  have c7_1:=Q7.out.cell 1 (.int .i64 b) rfl
  obtain ⟨l0,l1⟩:=HLH.out _ HS.out
  go_wp2_with fail
  go_ret
  exact ⟨ret_tt_rx (by simp),HS.out.B⟩
 obtain ⟨t,ht1,⟨k1,k2,k3⟩,k4⟩:=G.yes hle hz
 rw [hz] at HSO
 simp only [okN_0] at HSO
 have g5:¬ hi<a:=by omega
 obtain ⟨m,rfl⟩:=Int.eq_ofNat_of_zero_le (show 0≤node by omega)
 have HT1:=Lib.hid ht1
 have HN1:=Lib.hid (show 0<s.no.length by omega)
 have HK4:=Lib.hid k4
 generalize soV s (m:Int) lo hi=V at *
 clear hl hok hsw hn0 hlo0 hhi0 hnode hlo hhi hw N G hz k4 ht1
 go_enter Tryz.func10,Tryz.ntmps10
 go_wp2_with fail
 refine (HAW.out _).mono ?_;rintro e' w1 ⟨rfl,hB⟩
 replace HS:=Lib.hid (HS.out.below hB)
 clear hB HAW
 go_wp2_with (refine at_stp (.tmp 3) rfl rfl rfl (HS.out.has 0 _ rfl) ?_)
 refine (HWD.out _ HS.out).mono ?_;rintro e' w2 ⟨rfl,hB⟩
 replace HS:=Lib.hid (HS.out.below hB)
 clear hB HWD
 have Q7:Hid (Has ((w2.alloc (.cells #[.int .i64 a,.int .i64 b] 58))) w2.heap.size (lz2 a b)):=Lib.hid (Has.new _ _ _)
 have r7:w.heap.size+2≤w2.heap.size:=HS.out.sz
 replace HS:=Lib.hid ((HS.out.alloc (.cells #[.int .i64 a,.int .i64 b] 58)))
 obtain ⟨l0,l1⟩:=HLH.out _ HS.out
 go_wp2_with (refine at_stp (.tmp 3) rfl rfl rfl (HS.out.has 0 _ rfl) ?_)
 clear l0 l1
 generalize (w2.alloc (.cells #[.int .i64 a,.int .i64 b] 58))=w3 at *
 generalize w2.heap.size=H7 at *
 refine (HSO.out _ HS.out).mono ?_;rintro e' w4 ⟨A,c,rfl,hP,-,hB⟩
 replace HS:=Lib.hid (HS.out.below hB)
 replace Q7:=Lib.hid (Q7.out.below hB)
 obtain ⟨b5,o5,rfl⟩:=pass_A hP HN1.out
 have hp5:=pass_at hP HT1.out
 have HP5:=Lib.hid (fun O=>show (w4.alloc O).cell? ⟨b5,o5+m * 13+4,none⟩=some (.int .i64 t.tick) from ((below_alloc1 w4 O).cell (p:=⟨b5,o5+m * 13+4,none⟩) hp5.1).trans (hp5.2 4 _ rfl))
 clear hB HSO hP hp5
 generalize t.tick=tk at *
 have Q9:Hid (Has ((w4.alloc (.cells #[.slice (some ⟨b5,o5,none⟩) s.no.length c,.int .i64 0,.int .i64 0,.bool false] 42))) w4.heap.size [.slice (some ⟨b5,o5,none⟩) s.no.length c,.int .i64 0,.int .i64 0,.bool false]):=Lib.hid (Has.new _ _ _)
 have r9:w.heap.size+2≤w4.heap.size:=HS.out.sz
 have n7_9:H7≠w4.heap.size:=by have:=Q7.out.lt;omega
 replace HS:=Lib.hid ((HS.out.alloc (.cells #[.slice (some ⟨b5,o5,none⟩) s.no.length c,.int .i64 0,.int .i64 0,.bool false] 42)))
 replace Q7:=Lib.hid ((Q7.out.alloc (.cells #[.slice (some ⟨b5,o5,none⟩) s.no.length c,.int .i64 0,.int .i64 0,.bool false] 42)))
 have q5:=HP5.out (.cells #[.slice (some ⟨b5,o5,none⟩) s.no.length c,.int .i64 0,.int .i64 0,.bool false] 42)
 have c7_0:=Q7.out.cell 0 (.int .i64 a) rfl
 have c7_1:=Q7.out.cell 1 (.int .i64 b) rfl
 have c9_0:=Q9.out.cell 0 (.slice (some ⟨b5,o5,none⟩) s.no.length c) rfl
 obtain ⟨l0,l1⟩:=HLH.out _ HS.out
 by_cases hb:b≤hi
 ·have k5:tk=b:=HK4.out hb
  subst k5
  go_wp2_with fail
  go_ret
  exact ⟨ret_tt_rx (by simp;try omega),HS.out.B⟩
 ·have hb':hi<b:=by omega
  go_wp2_with fail
  go_ret
  exact ⟨ret_tt_rx (by simp;try omega),HS.out.B⟩
end Go.Proofs.YtgneijdjlahgbaaGreat
