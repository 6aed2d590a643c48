
/- Layer 38: RtaMembers, the walk. -/
import Derived.Test.YtgneijdjlahgbaaGreatM5
import Derived.Test.YtgneijdjlahgbaaGreatM21
import Derived.Test.YtgneijdjlahgbaaGreatM36
import Derived.RegionTactic
import Derived.Test.YtgneijdjlahgbaaGreatM37
namespace Go.Proofs.YtgneijdjlahgbaaGreat
set_option maxRecDepth 100000
set_option maxHeartbeats 16000000
set_option linter.unusedSimpArgs false
set_option linter.unusedVariables false
open Go.RowKit
theorem ret_tt_mb {v:Bool} (h:v=true):Ending.returned (.bool v)=.returned (.bool true):=by rw [h]
def MbR1 (s:Stp) (K:Int) (B:World) (x t:Value) (wr:World):Prop:=∃ (k:Nat) (D:Int),k≤s.no.length∧t=.int .i64 (k:Int)∧x=.int .i64 D∧D=dfM s K k∧BoxS B 0 [] wr
theorem walk_RtaMembers (s:Stp) (node lo hi:Int) (w:World) (hl:s.lies w) (hok:s.ok) (hsw:StpW s) (hn0:(Lit.int .i64 node).wf=true) (hlo0:(Lit.int .i64 lo).wf=true) (hhi0:(Lit.int .i64 hi).wf=true):Calls Tryz.prog 11 #[.agg s.cells.toArray,.int .i64 node,.agg #[.int .i64 lo,.int .i64 hi]] w (fun e w'=>e=.returned (.bool true)∧Below w.heap.size w w'):=by
 have HS:=Lib.hid (boxS2 w s.cells.toArray #[.int .i64 lo,.int .i64 hi] 35 58)
 have HAW:=Lib.hid awake38
 have hnode:I64 node:=wf_i64_bd hn0
 have hlo:I64 lo:=wf_i64_bd hlo0
 have hhi:I64 hi:=wf_i64_bd hhi0
 have HLH:=Lib.hid (fun W (h:BoxS w 2 [s.cells,(lz2 lo hi)] W)=>show W.cell? ⟨w.heap.size+1,0,none⟩=some (.int .i64 lo)∧W.cell? ⟨w.heap.size+1,1,none⟩=some (.int .i64 hi) from ⟨h.at 1 _ rfl 0 _ rfl,h.at 1 _ rfl 1 _ rfl⟩)
 have HSO:=Lib.hid (fun W (h:BoxS w 2 [s.cells,(lz2 lo hi)] W)=>xRtSolve s node lo hi W (hl.below h.B) hok hsw.cap hnode hlo hhi)
 unfold SoP at HSO
 have N:=StN.of hl
 by_cases hz:soE s node lo hi=0
 rotate_left
 ·rw [show okN (soE s node lo hi) s.no.length=0 from if_neg hz] at HSO
  have e1:=beq_of hz
  have e2:=bne_of e1
  generalize soV s node lo hi=V at *
  generalize soE s node lo hi=E at *
  clear hl hok hsw hn0 hlo0 hhi0 hnode hlo hhi hz N
  go_enter Tryz.func11,Tryz.ntmps11
  go_wp2_with fail
  refine (HAW.out _).mono ?_;rintro e' w1 ⟨rfl,hB⟩
  replace HS:=Lib.hid (HS.out.below hB)
  clear hB HAW
  obtain ⟨l0,l1⟩:=HLH.out _ HS.out
  go_wp2_with (refine at_stp (.tmp 3) rfl rfl rfl (HS.out.has 0 _ rfl) ?_)
  clear l0 l1
  refine (HSO.out _ HS.out).mono ?_;rintro e' w4 ⟨A,c,rfl,-,-,hB⟩
  replace HS:=Lib.hid (HS.out.below hB)
  clear hB HSO
  have Q7:Hid (Has ((w4.alloc (.cells #[.slice A 0 c,.int .i64 0,.int .i64 0,.bool false] 42))) w4.heap.size [.slice A 0 c,.int .i64 0,.int .i64 0,.bool false]):=Lib.hid (Has.new _ _ _)
  have r7:w.heap.size+2≤w4.heap.size:=HS.out.sz
  replace HS:=Lib.hid ((HS.out.alloc (.cells #[.slice A 0 c,.int .i64 0,.int .i64 0,.bool false] 42)))
  have c7_0:=Q7.out.cell 0 (.slice A 0 c) rfl
  have c7_1:=Q7.out.cell 1 (.int .i64 0) rfl
  have c7_2:=Q7.out.cell 2 (.int .i64 0) rfl
  have c7_3:=Q7.out.cell 3 (.bool false) rfl
  go_wp2_with fail
  go_ret
  exact ⟨ret_tt_mb (by simp),HS.out.B⟩
 obtain ⟨ho,K,G⟩:=mb_good N hz
 obtain ⟨O,-⟩:=op_good N ho
 rw [hz] at HSO
 simp only [okN_0] at HSO
 have hn2:=no_len O.G N
 have hmx:s.no.length≤maxLen:=by unfold maxLen;omega
 have hmx':s.no.length - 1≤maxLen:=by unfold maxLen;omega
 have HA:=Lib.hid (fun W (h:BoxS w 2 [s.cells,(lz2 lo hi)] W)=>xPAltitudes s W (hl.below h.B) hok)
 unfold AltP at HA
 rw [O.alE] at HA
 simp only [okN_0,okL_0] at HA
 have HSP:=Lib.hid (fun W (h:BoxS w 2 [s.cells,(lz2 lo hi)] W) A c (ha:Ints W A s.no.length (altL s))=>xPSpeeds s A s.no.length c (altL s) W (hl.below h.B) hok ha hmx)
 rw [sd_0 O.G N O.su O.al] at HSP
 simp only [okN_0,okL_0] at HSP
 have HLG:=Lib.hid (fun W (h:BoxS w 2 [s.cells,(lz2 lo hi)] W)=>xLegs s W (hl.below h.B) hok (by omega) (by omega))
 unfold LgP at HLG
 have HST:=Lib.hid (fun W A c (hd:Ints W A (s.no.length - 1) (dstL s))=>xSpSteps A (s.no.length - 1) c (dstL s) s.acc s.dec W hd hmx')
 rw [stE_0s O.G N] at HST
 simp only [okN_0,okL_0] at HST
 have HF0:=Lib.hid (fun W A c A2 c2 (ha:Pairs W A s.no.length (sdA s)) (hb:Pairs W A2 (s.no.length - 1) (spS s)) (hc:CapOk A2 (s.no.length - 1) c2)=>xSpFamily A A2 s.no.length c (s.no.length - 1) c2 (sdA s) (spS s) 0 W ha hb hmx hmx' hc.le hc.mx)
 rw [fam_E O (show Sp.okV 0 by unfold Sp.okV;omega)] at HF0
 simp only [okN_0,okL_0] at HF0
 have HF0m:Hid (Sp.faL (sdA s) (spS s) 0=fam s 0):=Lib.hid rfl
 rw [HF0m.out] at HF0
 clear HF0m
 have HFK:=Lib.hid (fun W A c A2 c2 (ha:Pairs W A s.no.length (sdA s)) (hb:Pairs W A2 (s.no.length - 1) (spS s)) (hc:CapOk A2 (s.no.length - 1) c2)=>xSpFamily A A2 s.no.length c (s.no.length - 1) c2 (sdA s) (spS s) (K:Int) W ha hb hmx hmx' hc.le hc.mx)
 rw [fam_E O G.kb] at HFK
 simp only [okN_0,okL_0] at HFK
 have HFKm:Hid (Sp.faL (sdA s) (spS s) (K:Int)=fam s (K:Int)):=Lib.hid rfl
 rw [HFKm.out] at HFK
 clear HFKm
 have HWT:=Lib.hid (fun W (h:BoxS w 2 [s.cells,(lz2 lo hi)] W) A c A2 d (ha:Ints W A s.no.length (altL s)) (hb:Ints W A2 s.no.length (fam s ((K:Int) - 1)))=>xPWith s A A2 s.no.length c s.no.length d (altL s) (fam s ((K:Int) - 1)) W (hl.below h.B) hok ha hb hmx hmx)
 unfold WtRes at HWT
 have HSL:Hid (0<K→(∀ W A c A2 c2 (ha:Pairs W A s.no.length (sdA s)) (hb:Pairs W A2 (s.no.length - 1) (spS s)) (hc:CapOk A2 (s.no.length - 1) c2),Calls Tryz.prog 36 #[.slice A s.no.length c,.slice A2 (s.no.length - 1) c2,.int .i64 ((K:Int) - 1)] W (SlRes (fam s ((K:Int) - 1)) s.no.length 0 W))∧(wtE s (altL s) (fam s ((K:Int) - 1))=0→∃ p,(wtL s (altL s) (fam s ((K:Int) - 1)))[node.toNat]? = some p∧hi<p.tick)):=Lib.hid fun h0=>by
  refine ⟨fun W A c A2 c2 ha hb hc=>?_,(G.slow h0).2⟩
  have hh:=xSpFamily A A2 s.no.length c (s.no.length - 1) c2 (sdA s) (spS s) ((K:Int) - 1) W ha hb hmx hmx' hc.le hc.mx
  rw [fam_E O (G.slow h0).1] at hh
  simp only [okN_0,okL_0] at hh
  exact hh
 have HAC:=Lib.hid (fun W (h:BoxS w 2 [s.cells,(lz2 lo hi)] W)=>show W.cell? ⟨w.heap.size,32,none⟩=some (.int .i64 s.acc)∧W.cell? ⟨w.heap.size,33,none⟩=some (.int .i64 s.dec) from ⟨su_acc (h.has 0 _ rfl),su_dec (h.has 0 _ rfl)⟩)
 have n1:=G.n1
 have n2:=G.n2
 obtain ⟨i1,i2⟩:=hn2
 obtain ⟨m,rfl⟩:=Int.eq_ofNat_of_zero_le (show 0≤node by omega)
 have hk1:(K:Int)≤1000:=G.kb.2
 have HTOP:=Lib.hid G.top
 have HBD:=Lib.hid G.bd
 have HGT:=Lib.hid G.get
 have HVB:=Lib.hid G.vb
 generalize (altC s).1=x at *
 generalize (altC s).2=y at *
 generalize soV s (m:Int) lo hi=V at *
 generalize soL s (m:Int) lo hi=SL at *
 generalize hwE:wtE s (altL s) (fam s ((K:Int) - 1))=WE at *
 generalize hwL:wtL s (altL s) (fam s ((K:Int) - 1))=WL at *
 clear hl hok hsw hn0 hlo0 hhi0 hnode hlo hhi hz N G O ho hmx hmx' hwE hwL
 go_enter Tryz.func11,Tryz.ntmps11
 go_wp2_with fail
 refine (HAW.out _).mono ?_;rintro e' w1 ⟨rfl,hB⟩
 replace HS:=Lib.hid (HS.out.below hB)
 clear hB HAW
 obtain ⟨l0,l1⟩:=HLH.out _ HS.out
 go_wp2_with (refine at_stp (.tmp 3) rfl rfl rfl (HS.out.has 0 _ rfl) ?_)
 clear l0 l1
 refine (HSO.out _ HS.out).mono ?_;rintro e' w2 ⟨A,c,rfl,hP,-,hB⟩
 replace HS:=Lib.hid (HS.out.below hB)
 obtain ⟨b5,o5,rfl⟩:=pass_A hP (by omega)
 have P5:=Lib.hid hP
 clear hB HSO hP
 have Q7:Hid (Has ((w2.alloc (.cells #[.slice (some ⟨b5,o5,none⟩) s.no.length c,.int .i64 0,.int .i64 0,.bool false] 42))) w2.heap.size [.slice (some ⟨b5,o5,none⟩) s.no.length c,.int .i64 0,.int .i64 0,.bool false]):=Lib.hid (Has.new _ _ _)
 have r7:w.heap.size+2≤w2.heap.size:=HS.out.sz
 replace HS:=Lib.hid ((HS.out.alloc (.cells #[.slice (some ⟨b5,o5,none⟩) s.no.length c,.int .i64 0,.int .i64 0,.bool false] 42)))
 replace P5:=Lib.hid (P5.out.below (below_alloc1 w2 (.cells #[.slice (some ⟨b5,o5,none⟩) s.no.length c,.int .i64 0,.int .i64 0,.bool false] 42)))
 go_wp2_with (refine at_stp (.tmp 3) rfl rfl rfl (HS.out.has 0 _ rfl) ?_)
 generalize (w2.alloc (.cells #[.slice (some ⟨b5,o5,none⟩) s.no.length c,.int .i64 0,.int .i64 0,.bool false] 42))=w3 at *
 generalize w2.heap.size=H7 at *
 refine (HA.out _ HS.out).mono ?_;rintro e' w4 ⟨A1,c1,rfl,hI1,hB⟩
 replace HS:=Lib.hid (HS.out.below hB)
 replace Q7:=Lib.hid (Q7.out.below hB)
 replace P5:=Lib.hid (P5.out.below hB)
 obtain ⟨a1,o1,rfl⟩:=int_A hI1 (by omega)
 have I1:=Lib.hid hI1
 clear hB HA hI1
 replace HS:=Lib.hid (HS.out.alloc (.cells #[.int .i64 x,.int .i64 y] 40))
 replace Q7:=Lib.hid (Q7.out.alloc (.cells #[.int .i64 x,.int .i64 y] 40))
 replace I1:=Lib.hid (I1.out.below (below_alloc1 w4 (.cells #[.int .i64 x,.int .i64 y] 40)))
 replace P5:=Lib.hid (P5.out.below (below_alloc1 w4 (.cells #[.int .i64 x,.int .i64 y] 40)))
 go_wp2_with (refine at_stp (.tmp 3) rfl rfl rfl (HS.out.has 0 _ rfl) ?_)
 generalize w4.alloc (.cells #[.int .i64 x,.int .i64 y] 40)=w5 at *
 refine (HSP.out _ HS.out _ _ I1.out).mono ?_;rintro e' w6 ⟨A2,c2,rfl,hI2,-,hB⟩
 replace HS:=Lib.hid (HS.out.below hB)
 replace Q7:=Lib.hid (Q7.out.below hB)
 replace P5:=Lib.hid (P5.out.below hB)
 replace I1:=Lib.hid (I1.out.below hB)
 have I2:=Lib.hid hI2
 clear hB HSP hI2
 go_wp2_with fail
 have HYB:=Lib.hid (fun W (h:BoxS w6 0 [] W)=>HS.out.below h.B)
 refine held_start (S:=fun W=>BoxS w6 0 [] W) 12 #[false,false,false,false,false,false,false,false,false,false,false,false] rfl rfl (by kernel_rfl) ((boxS0i w6).drew) (fun hHeld=>?_)
 refine hT 0 56 (v:=_) rfl rfl (yi_stp (.tmp 3) rfl rfl rfl (fun W hW=>(HYB.out W hW).has 0 _ rfl)) ?_
 (try simp only [Act.put,pa,pb,pc])
 refine hL 2 58 (v:=?_) rfl rfl ?_ ?_
 rotate_left
 ·intro W hW
  go_simp;try with_reducible rfl
 (try simp only [Act.put,pa,pb,pc])
 refine hL 3 59 (v:=?_) rfl rfl ?_ ?_
 rotate_left
 ·intro W hW
  have kk:=(HAC.out W (HYB.out W hW)).1;clear hW;go_simp;try with_reducible rfl
 (try simp only [Act.put,pa,pb,pc])
 refine hL 4 60 (v:=?_) rfl rfl ?_ ?_
 rotate_left
 ·intro W hW
  go_simp;try with_reducible rfl
 (try simp only [Act.put,pa,pb,pc])
 refine hL 5 61 (v:=?_) rfl rfl ?_ ?_
 rotate_left
 ·intro W hW
  have kk:=(HAC.out W (HYB.out W hW)).2;clear hW;go_simp;try with_reducible rfl
 (try simp only [Act.put,pa,pb,pc])
 refine wpAnyH_ready (rs:=[1]) (by kernel_rfl) (by simp) ?_
 refine AllReadyH.cons (o:=_) rfl (fun K hK=>?_) AllReadyH.nil
 go_simp
 refine (HLG.out _ (HYB.out _ hHeld)).mono ?_;rintro e2 w7 ⟨A3,c3,rfl,hI3,hB⟩
 go_wp2_with fail
 have I3:=Lib.hid hI3
 have hNew:=hHeld.below hB
 clear hB hI3
 refine hK.out _ _ hNew (fun hHeld2=>?_)
 clear hK K hNew hHeld
 have hHeld:=hHeld2
 clear hHeld2
 (try simp only [Act.put,pa,pb,pc])
 refine wpAnyH_ready (rs:=[6]) (by kernel_rfl) (by simp) ?_
 refine AllReadyH.cons (o:=_) rfl (fun K hK=>?_) AllReadyH.nil
 go_simp
 refine (HST.out _ _ _ I3.out).mono ?_;rintro e2 w8 ⟨A4,c4,rfl,hI4,hK4,hB⟩
 go_wp2_with fail
 have I4:=Lib.hid hI4
 have K4:=Lib.hid hK4
 have hNew:=hHeld.below hB
 clear hB hI4 hK4
 refine hK.out _ _ hNew (fun hHeld2=>?_)
 clear hK K hNew hHeld
 have hHeld:=hHeld2
 clear hHeld2
 (try simp only [Act.put,pa,pb,pc])
 iterate 5 (refine hF (L:=_) (v:=?_) rfl rfl ?_ ?_;rotate_left;(intro W hW;go_simp;try with_reducible rfl);try simp only [Act.put,pa,pb,pc,setF])
 refine wpAnyH_done (by kernel_rfl) ?_ _
 have hBB:=hHeld.B
 replace HS:=Lib.hid (HS.out.below hBB)
 replace Q7:=Lib.hid (Q7.out.below hBB)
 replace P5:=Lib.hid (P5.out.below hBB)
 replace I1:=Lib.hid (I1.out.below hBB)
 replace I2:=Lib.hid (I2.out.below hBB)
 clear hHeld HYB HLG HST HAC I3 hBB
 go_wp2_with fail
 refine (HF0.out _ _ _ _ _ I2.out I4.out K4.out).mono ?_;rintro e' w9 ⟨A5,c5,rfl,hI5,hB⟩
 obtain ⟨a5,f5,rfl⟩:=int_A hI5 (by omega)
 have I5:=Lib.hid hI5
 replace HS:=Lib.hid (HS.out.below hB)
 replace Q7:=Lib.hid (Q7.out.below hB)
 replace P5:=Lib.hid (P5.out.below hB)
 replace I1:=Lib.hid (I1.out.below hB)
 replace I2:=Lib.hid (I2.out.below hB)
 replace I4:=Lib.hid (I4.out.below hB)
 clear hB HF0 hI5
 have HY:=Lib.hid (fun W (h:BoxS w9 0 [] W)=>HS.out.below h.B)
 have HY7:=Lib.hid (fun W (h:BoxS w9 0 [] W)=>(Q7.out.below h.B).cell 0 _ rfl)
 have z7:=HY7.out _ (boxS0i w9)
 have hn0:(0:Int)<(s.no.length:Int):=by omega
 go_wp2_with fail
 clear z7
 go_loopw [19,103] (fun x t wr=>MbR1 s (K:Int) w9 x t wr) (fun _ t _=>s.no.length - (intOf t).toNat)
 case atStart=>exact ⟨0,0,by omega,rfl,rfl,rfl,boxS0i _⟩
 case round =>
  obtain ⟨k,D,hk,rfl,rfl,hD,hs⟩:=hrel
  have HR:=Lib.hid hs
  clear hs
  by_cases hlt:k<s.no.length
  ·have hlt':(k:Int)<(s.no.length:Int):=by omega
   have hk0:(0:Int)≤(k:Int):=by omega
   have hg:IntKind.i64.wrap ((k:Int)+1)=(k:Int)+1:=IntWalk.i64_in _ (by omega)
   obtain ⟨p,hp1,hp2,hp3⟩:=HGT.out k hlt
   have hp5:=pass_at P5.out hp1
   have hcr:=fun j u hj=>(HR.out.B.cell (p:=⟨b5,o5+k * 13+j,none⟩) hp5.1).trans (hp5.2 j u hj)
   have p0:wr.cell? ⟨b5,o5+k * 13,none⟩=some (.int .i64 p.alt):=hcr 0 _ rfl
   have p1:wr.cell? ⟨b5,o5+k * 13+1,none⟩=some (.int .i64 p.cas):=hcr 1 _ rfl
   have p2:wr.cell? ⟨b5,o5+k * 13+2,none⟩=some (.int .i64 p.tas):=hcr 2 _ rfl
   have p3:wr.cell? ⟨b5,o5+k * 13+3,none⟩=some (.int .i64 p.ground):=hcr 3 _ rfl
   have p4:wr.cell? ⟨b5,o5+k * 13+4,none⟩=some (.int .i64 p.tick):=hcr 4 _ rfl
   have p5:wr.cell? ⟨b5,o5+k * 13+5,none⟩=some (.int .i64 p.fuel):=hcr 5 _ rfl
   have p6:wr.cell? ⟨b5,o5+k * 13+6,none⟩=some (.int .i64 p.gl):=hcr 6 _ rfl
   have p7:wr.cell? ⟨b5,o5+k * 13+7,none⟩=some (.int .i64 p.gh):=hcr 7 _ rfl
   have p8:wr.cell? ⟨b5,o5+k * 13+8,none⟩=some (.int .i64 p.tl):=hcr 8 _ rfl
   have p9:wr.cell? ⟨b5,o5+k * 13+9,none⟩=some (.int .i64 p.th):=hcr 9 _ rfl
   have p10:wr.cell? ⟨b5,o5+k * 13+10,none⟩=some (.int .i64 p.fl):=hcr 10 _ rfl
   have p11:wr.cell? ⟨b5,o5+k * 13+11,none⟩=some (.int .i64 p.fh):=hcr 11 _ rfl
   have p12:wr.cell? ⟨b5,o5+k * 13+12,none⟩=some (.int .u8 p.phase):=hcr 12 _ rfl
   have HA1:=Lib.hid (fun W (h:BoxS w9 0 [] W)=>show W.cell? ⟨a1,o1+k,none⟩=some (.int .i64 p.alt) from by
    have q:=int_at I1.out hlt
    rw [hp2]
    exact (h.B.cell (p:=⟨a1,o1+k,none⟩) q.1).trans q.2)
   have HA5:=Lib.hid (fun W (h:BoxS w9 0 [] W)=>show W.cell? ⟨a5,f5+k,none⟩=some (.int .i64 ((fam s 0).getD k 0)) from
    have q:=int_at I5.out hlt
    (h.B.cell (p:=⟨a5,f5+k,none⟩) q.1).trans q.2)
   have HDN:=Lib.hid (show dfM s K (k+1)=max D (p.cas - (fam s 0).getD k 0) from by rw [hD,hp3];rfl)
   have hvb:=HVB.out k hlt
   rw [← hp3] at hvb
   have hDB:=HBD.out k (by omega)
   rw [← hD] at hDB
   generalize (fam s 0).getD k 0=f0 at *
   have hw0:IntKind.i64.wrap (p.cas - f0)=p.cas - f0:=IntWalk.i64_in _ (by omega)
   clear hcr hp5 hp1 hp2 hp3 hD hvb HS Q7
   have HS:=HR
   clear HR
   have Q12:Hid (Has ((wr.alloc (.cells #[.int .i64 p.alt,.int .i64 p.cas,.int .i64 p.tas,.int .i64 p.ground,.int .i64 p.tick,.int .i64 p.fuel,.int .i64 p.gl,.int .i64 p.gh,.int .i64 p.tl,.int .i64 p.th,.int .i64 p.fl,.int .i64 p.fh,.int .u8 p.phase] 53))) wr.heap.size (lzp p.alt p.cas p.tas p.ground p.tick p.fuel p.gl p.gh p.tl p.th p.fl p.fh p.phase)):=Lib.hid (Has.new _ _ _)
   have r12:w9.heap.size+0≤wr.heap.size:=HS.out.sz
   replace HS:=Lib.hid ((HS.out.alloc (.cells #[.int .i64 p.alt,.int .i64 p.cas,.int .i64 p.tas,.int .i64 p.ground,.int .i64 p.tick,.int .i64 p.fuel,.int .i64 p.gl,.int .i64 p.gh,.int .i64 p.tl,.int .i64 p.th,.int .i64 p.fl,.int .i64 p.fh,.int .u8 p.phase] 53)))
   go_wp2_with fail
   clear p0 p1 p2 p3 p4 p5 p6 p7 p8 p9 p10 p11 p12
   generalize (wr.alloc (.cells #[.int .i64 p.alt,.int .i64 p.cas,.int .i64 p.tas,.int .i64 p.ground,.int .i64 p.tick,.int .i64 p.fuel,.int .i64 p.gl,.int .i64 p.gh,.int .i64 p.tl,.int .i64 p.th,.int .i64 p.fl,.int .i64 p.fh,.int .u8 p.phase] 53))=wa at *
   generalize wr.heap.size=H12 at *
   refine held_start (S:=fun W=>BoxS w9 0 [] W∧Has W H12 (lzp p.alt p.cas p.tas p.ground p.tick p.fuel p.gl p.gh p.tl p.th p.fl p.fh p.phase)) 7 #[false,false,false,false,false,false,false] rfl rfl (by kernel_rfl) ((And.intro (HS.out.drew) (Q12.out.drew))) (fun hHeld=>?_)
   iterate 7 (refine hF (L:=_) (v:=?_) rfl rfl ?_ ?_;rotate_left;(intro W hW;have y0:=hW.2.cell 0 (.int .i64 p.alt) rfl;have y1:=HA1.out W hW.1;clear hW;go_simp;try with_reducible rfl);try simp only [Act.put,pa,pb,pc,setF])
   refine wpAnyH_done (by kernel_rfl) ?_ _
   replace HS:=Lib.hid (hHeld.1)
   replace Q12:=Lib.hid (hHeld.2)
   clear hHeld
   go_wp2_with fail
   refine held_start (S:=fun W=>BoxS w9 0 [] W∧Has W H12 (lzp p.alt p.cas p.tas p.ground p.tick p.fuel p.gl p.gh p.tl p.th p.fl p.fh p.phase)) 10 #[false,false,false,false,false,false,false,false,false,false] rfl rfl (by kernel_rfl) ((And.intro (HS.out.drew) (Q12.out.drew))) (fun hHeld=>?_)
   iterate 10 (refine hF (L:=_) (v:=?_) rfl rfl ?_ ?_;rotate_left;(intro W hW;have y0:=hW.2.cell 1 (.int .i64 p.cas) rfl;have y1:=HA5.out W hW.1;clear hW;go_simp;try with_reducible rfl);try simp only [Act.put,pa,pb,pc,setF])
   refine wpAnyH_done (by kernel_rfl) ?_ _
   replace HS:=Lib.hid (hHeld.1)
   replace Q12:=Lib.hid (hHeld.2)
   clear hHeld
   go_wp2_with fail
   go_roundw
   case rel=>exact ⟨k+1,_,by omega,by go_num,rfl,HDN.out.symm,HS.out⟩
   case measure=>simp only [intOf];omega
  have hlt':¬ (k:Int)<(s.no.length:Int):=by omega
  obtain rfl:k=s.no.length:=by omega
  obtain rfl:D=(K:Int):=by rw [hD];exact HTOP.out
  replace HS:=Lib.hid (HY.out _ HR.out)
  replace I1:=Lib.hid (I1.out.below HR.out.B)
  replace I2:=Lib.hid (I2.out.below HR.out.B)
  replace I4:=Lib.hid (I4.out.below HR.out.B)
  replace P5:=Lib.hid (P5.out.below HR.out.B)
  replace Q7:=Lib.hid (Q7.out.below HR.out.B)
  clear HR HY HY7 I5 HBD HTOP hD hk hlt hlt'
  go_wp2_with fail
  refine (HFK.out _ _ _ _ _ I2.out I4.out K4.out).mono ?_;rintro e' w10 ⟨A6,c6,rfl,hI6,hB⟩
  obtain ⟨a6,f6,rfl⟩:=int_A hI6 (by omega)
  have I6:=Lib.hid hI6
  replace HS:=Lib.hid (HS.out.below hB)
  replace Q7:=Lib.hid (Q7.out.below hB)
  replace P5:=Lib.hid (P5.out.below hB)
  replace I1:=Lib.hid (I1.out.below hB)
  replace I2:=Lib.hid (I2.out.below hB)
  replace I4:=Lib.hid (I4.out.below hB)
  clear hB HFK hI6
  have HY:=Lib.hid (fun W (h:BoxS w10 0 [] W)=>HS.out.below h.B)
  have HY7:=Lib.hid (fun W (h:BoxS w10 0 [] W)=>(Q7.out.below h.B).cell 0 _ rfl)
  have z7:=HY7.out _ (boxS0i w10)
  go_wp2_with fail
  clear z7
  go_loopw [145] (fun t wr=>BiR s.no.length w10 t wr) (fun t _=>s.no.length - (intOf t).toNat)
  case atStart=>exact ⟨0,by omega,rfl,boxS0i _⟩
  case round =>
   obtain ⟨k,hk,rfl,hs⟩:=hrel
   have HR:=Lib.hid hs
   clear hs
   by_cases hlt:k<s.no.length
   ·have hlt':(k:Int)<(s.no.length:Int):=by omega
    have hk0:(0:Int)≤(k:Int):=by omega
    have hg:IntKind.i64.wrap ((k:Int)+1)=(k:Int)+1:=IntWalk.i64_in _ (by omega)
    obtain ⟨p,hp1,hp2,hp3⟩:=HGT.out k hlt
    have hp5:=pass_at P5.out hp1
    have hcr:=fun j u hj=>(HR.out.B.cell (p:=⟨b5,o5+k * 13+j,none⟩) hp5.1).trans (hp5.2 j u hj)
    have p0:wr.cell? ⟨b5,o5+k * 13,none⟩=some (.int .i64 p.alt):=hcr 0 _ rfl
    have p1:wr.cell? ⟨b5,o5+k * 13+1,none⟩=some (.int .i64 p.cas):=hcr 1 _ rfl
    have p2:wr.cell? ⟨b5,o5+k * 13+2,none⟩=some (.int .i64 p.tas):=hcr 2 _ rfl
    have p3:wr.cell? ⟨b5,o5+k * 13+3,none⟩=some (.int .i64 p.ground):=hcr 3 _ rfl
    have p4:wr.cell? ⟨b5,o5+k * 13+4,none⟩=some (.int .i64 p.tick):=hcr 4 _ rfl
    have p5:wr.cell? ⟨b5,o5+k * 13+5,none⟩=some (.int .i64 p.fuel):=hcr 5 _ rfl
    have p6:wr.cell? ⟨b5,o5+k * 13+6,none⟩=some (.int .i64 p.gl):=hcr 6 _ rfl
    have p7:wr.cell? ⟨b5,o5+k * 13+7,none⟩=some (.int .i64 p.gh):=hcr 7 _ rfl
    have p8:wr.cell? ⟨b5,o5+k * 13+8,none⟩=some (.int .i64 p.tl):=hcr 8 _ rfl
    have p9:wr.cell? ⟨b5,o5+k * 13+9,none⟩=some (.int .i64 p.th):=hcr 9 _ rfl
    have p10:wr.cell? ⟨b5,o5+k * 13+10,none⟩=some (.int .i64 p.fl):=hcr 10 _ rfl
    have p11:wr.cell? ⟨b5,o5+k * 13+11,none⟩=some (.int .i64 p.fh):=hcr 11 _ rfl
    have p12:wr.cell? ⟨b5,o5+k * 13+12,none⟩=some (.int .u8 p.phase):=hcr 12 _ rfl
    have HA6:=Lib.hid (fun W (h:BoxS w10 0 [] W)=>show W.cell? ⟨a6,f6+k,none⟩=some (.int .i64 p.cas) from by
     have q:=int_at I6.out hlt
     rw [hp3]
     exact (h.B.cell (p:=⟨a6,f6+k,none⟩) q.1).trans q.2)
    clear hcr hp5 hp1 hp2 hp3 HS Q7
    have HS:=HR
    clear HR
    have Q12:Hid (Has ((wr.alloc (.cells #[.int .i64 p.alt,.int .i64 p.cas,.int .i64 p.tas,.int .i64 p.ground,.int .i64 p.tick,.int .i64 p.fuel,.int .i64 p.gl,.int .i64 p.gh,.int .i64 p.tl,.int .i64 p.th,.int .i64 p.fl,.int .i64 p.fh,.int .u8 p.phase] 53))) wr.heap.size (lzp p.alt p.cas p.tas p.ground p.tick p.fuel p.gl p.gh p.tl p.th p.fl p.fh p.phase)):=Lib.hid (Has.new _ _ _)
    have r12:w10.heap.size+0≤wr.heap.size:=HS.out.sz
    replace HS:=Lib.hid ((HS.out.alloc (.cells #[.int .i64 p.alt,.int .i64 p.cas,.int .i64 p.tas,.int .i64 p.ground,.int .i64 p.tick,.int .i64 p.fuel,.int .i64 p.gl,.int .i64 p.gh,.int .i64 p.tl,.int .i64 p.th,.int .i64 p.fl,.int .i64 p.fh,.int .u8 p.phase] 53)))
    go_wp2_with fail
    clear p0 p1 p2 p3 p4 p5 p6 p7 p8 p9 p10 p11 p12
    generalize (wr.alloc (.cells #[.int .i64 p.alt,.int .i64 p.cas,.int .i64 p.tas,.int .i64 p.ground,.int .i64 p.tick,.int .i64 p.fuel,.int .i64 p.gl,.int .i64 p.gh,.int .i64 p.tl,.int .i64 p.th,.int .i64 p.fl,.int .i64 p.fh,.int .u8 p.phase] 53))=wa at *
    generalize wr.heap.size=H12 at *
    refine held_start (S:=fun W=>BoxS w10 0 [] W∧Has W H12 (lzp p.alt p.cas p.tas p.ground p.tick p.fuel p.gl p.gh p.tl p.th p.fl p.fh p.phase)) 7 #[false,false,false,false,false,false,false] rfl rfl (by kernel_rfl) ((And.intro (HS.out.drew) (Q12.out.drew))) (fun hHeld=>?_)
    iterate 7 (refine hF (L:=_) (v:=?_) rfl rfl ?_ ?_;rotate_left;(intro W hW;have y0:=HA6.out W hW.1;have y1:=hW.2.cell 1 (.int .i64 p.cas) rfl;clear hW;go_simp;try with_reducible rfl);try simp only [Act.put,pa,pb,pc,setF])
    refine wpAnyH_done (by kernel_rfl) ?_ _
    replace HS:=Lib.hid (hHeld.1)
    replace Q12:=Lib.hid (hHeld.2)
    clear hHeld
    go_wp2_with fail
    go_roundw
    case rel=>exact ⟨k+1,by omega,by go_num,HS.out⟩
    case measure=>simp only [intOf];omega
   have hlt':¬ (k:Int)<(s.no.length:Int):=by omega
   replace HS:=Lib.hid (HY.out _ HR.out)
   replace I1:=Lib.hid (I1.out.below HR.out.B)
   replace I2:=Lib.hid (I2.out.below HR.out.B)
   replace I4:=Lib.hid (I4.out.below HR.out.B)
   clear HR HY HY7 I6 Q7 P5 hk
   by_cases hK:K=0
   ·subst hK
    go_wp2_with fail
    go_ret
    exact ⟨rfl,HS.out.B⟩
   obtain ⟨HFS,hbad⟩:=HSL.out (by omega)
   have HFS:=Lib.hid HFS
   have HBAD:=Lib.hid hbad
   have e0:((K:Int) == 0)=false:=by simp;omega
   have w0:IntKind.i64.wrap ((K:Int) - 1)=(K:Int) - 1:=IntWalk.i64_in _ (by omega)
   clear hbad HSL
   go_wp2_with fail
   refine (HFS.out _ _ _ _ _ I2.out I4.out K4.out).mono ?_;rintro e' w11 ⟨A7,c7,rfl,hI7,hB⟩
   have I7:=Lib.hid hI7
   replace HS:=Lib.hid (HS.out.below hB)
   replace I1:=Lib.hid (I1.out.below hB)
   clear hB HFS hI7 w0 e0
   go_wp2_with (refine at_stp (.tmp 3) rfl rfl rfl (HS.out.has 0 _ rfl) ?_)
   by_cases hE:WE=0
   ·rw [hE] at HWT
    simp only [okN_0,okL_0] at HWT
    obtain ⟨p,hp1,hp2⟩:=HBAD.out hE
    refine (HWT.out _ HS.out _ _ _ _ I1.out I7.out).mono ?_;rintro e' w12 ⟨A8,c8,rfl,hP8,-,hB⟩
    replace HS:=Lib.hid (HS.out.below hB)
    obtain ⟨b8,o8,rfl⟩:=pass_A hP8 (by omega)
    have hp5:=pass_at hP8 (show _=some p by simpa using hp1)
    have HP5:=Lib.hid (fun W (h:BoxS w12 0 [] W)=>show W.cell? ⟨b8,o8+m * 13+4,none⟩=some (.int .i64 p.tick) from (h.B.cell (p:=⟨b8,o8+m * 13+4,none⟩) hp5.1).trans (hp5.2 4 _ rfl))
    have HYB:=Lib.hid (fun W (h:BoxS w12 0 [] W)=>HS.out.below h.B)
    have hmn:(m:Int)<(s.no.length:Int):=by omega
    generalize p.tick=pt at *
    clear hB hP8 hp5 hp1 HWT
    go_wp2_with fail
    refine held_start (S:=fun W=>BoxS w12 0 [] W) 19 #[false,false,false,false,false,false,false,false,false,false,false,false,false,false,false,false,false,false,false] rfl rfl (by kernel_rfl) ((boxS0i w12).drew) (fun hHeld=>?_)
    iterate 19 (refine hF (L:=_) (v:=?_) rfl rfl ?_ ?_;rotate_left;(intro W hW;have y0:=HP5.out W hW;have y1:=(HLH.out W (HYB.out W hW)).2;clear hW;go_simp;try with_reducible rfl);try simp only [Act.put,pa,pb,pc,setF])
    refine wpAnyH_done (by kernel_rfl) ?_ _
    have hb2:=Lib.hid (HYB.out _ hHeld).B
    clear hHeld
    go_wp2_with fail
    go_ret
    exact ⟨ret_tt_mb (by simp),hb2.out⟩
   rw [show okN WE s.no.length=0 from if_neg hE,show okL WE WL=[] from if_neg hE] at HWT
   have e1:=beq_of hE
   have e2:=bne_of e1
   refine (HWT.out _ HS.out _ _ _ _ I1.out I7.out).mono ?_;rintro e' w12 ⟨A8,c8,rfl,-,-,hB⟩
   replace HS:=Lib.hid (HS.out.below hB)
   have HYB:=Lib.hid (fun W (h:BoxS w12 0 [] W)=>HS.out.below h.B)
   clear hB HWT HBAD hE
   go_wp2_with fail
   refine held_start (S:=fun W=>BoxS w12 0 [] W) 19 #[false,false,false,false,false,false,false,false,false,false,false,false,false,false,false,false,false,false,false] rfl rfl (by kernel_rfl) ((boxS0i w12).drew) (fun hHeld=>?_)
   iterate 3 (refine hF (L:=_) (v:=?_) rfl rfl ?_ ?_;rotate_left;(intro W hW;go_simp;try with_reducible rfl);try simp only [Act.put,pa,pb,pc,setF])
   iterate 14 (refine hFu (L:=_) rfl rfl ?_;try simp only [Act.put,pa,pb,pc,setF])
   iterate 2 (refine hF (L:=_) (v:=?_) rfl rfl ?_ ?_;rotate_left;(intro W hW;go_simp;try with_reducible rfl);try simp only [Act.put,pa,pb,pc,setF])
   refine wpAnyH_done (by kernel_rfl) ?_ _
   have hb2:=Lib.hid (HYB.out _ hHeld).B
   clear hHeld
   go_wp2_with fail
   go_ret
   exact ⟨ret_tt_mb (by simp),hb2.out⟩
end Go.Proofs.YtgneijdjlahgbaaGreat
