
/- Layer 38: the flight that arrives in time. -/
import Derived.Test.YtgneijdjlahgbaaGreatRtW
import Derived.Test.YtgneijdjlahgbaaGreatM27
import Derived.RegionTactic
import Derived.Test.YtgneijdjlahgbaaGreatM37
namespace Go.Proofs.YtgneijdjlahgbaaGreat
set_option maxRecDepth 100000
set_option maxHeartbeats 16000000
set_option linter.unusedSimpArgs false
set_option linter.unusedVariables false
open Go.RowKit
def SoP (s:Stp) (node lo hi:Int) (w:World) (e:Ending) (w':World):Prop:=∃ A c,e=.returned (.tuple #[.agg #[.slice A (okN (soE s node lo hi) s.no.length) c,.int .i64 0,.int .i64 0,.bool false],.int .i64 (soV s node lo hi),.int .i64 (soE s node lo hi)])∧Passes w' A (okN (soE s node lo hi) s.no.length) (soL s node lo hi)∧CapOk A (okN (soE s node lo hi) s.no.length) c∧Below w.heap.size w w'
theorem so_err {s:Stp} {node lo hi:Int} {w w':World} {E:Int} (hE:(soE s node lo hi)=E) (h0:E≠0) (hb:Below w.heap.size w w'):SoP s node lo hi w (.returned (.tuple #[.agg #[.slice none 0 0,.int .i64 0,.int .i64 0,.bool false],.int .i64 0,.int .i64 E])) w':=by
 have h1:soL s node lo hi=[]:=if_neg (by rw [hE];exact h0)
 have h2:soV s node lo hi=0:=if_neg (by rw [hE];exact h0)
 unfold SoP
 rw [hE,h1,h2]
 unfold okN
 rw [if_neg h0]
 exact ⟨none,0,rfl,Recs.nil _ _ _,⟨Nat.le_refl _,Nat.zero_le _,fun _=>rfl⟩,hb⟩
theorem so_ok {s:Stp} {node lo hi:Int} {w w':World} {A:Option Addr} {c:Nat} {v:Int} {l:List Pass} (hE:(soE s node lo hi)=0) (hv:soV s node lo hi=v) (hl:soL s node lo hi=l) (hp:Passes w' A s.no.length l) (hc:CapOk A s.no.length c) (hb:Below w.heap.size w w'):SoP s node lo hi w (.returned (.tuple #[.agg #[.slice A s.no.length c,.int .i64 0,.int .i64 0,.bool false],.int .i64 v,.int .i64 0])) w':=by
 unfold SoP
 rw [hE,hv,hl]
 exact ⟨A,c,rfl,hp,hc,hb⟩
theorem soE_o {s:Stp} {node lo hi:Int} (h:(opE s node (decide (hi<lo)))≠0):(soE s node lo hi)=(opE s node (decide (hi<lo))):=if_pos h
theorem soE_t {s:Stp} {node lo hi:Int} (h:(opE s node (decide (hi<lo)))=0) (h1:fkE s (spn s)=0∧hi<fkT s (spn s) node.toNat):(soE s node lo hi)=16:=by unfold soE;rw [if_neg (by rw [h];decide),if_pos h1]
theorem soE_n {s:Stp} {node lo hi:Int} (h:(opE s node (decide (hi<lo)))=0) (h1:fnd s node.toNat hi=none):(soE s node lo hi)=16:=by unfold soE;rw [if_neg (by rw [h];decide)];split <;> rfl
theorem soE_0 {s:Stp} {node lo hi:Int} {k:Nat} (h:(opE s node (decide (hi<lo)))=0) (h1:¬ (fkE s (spn s)=0∧hi<fkT s (spn s) node.toNat)) (h2:fnd s node.toNat hi=some k):(soE s node lo hi)=0∧soL s node lo hi=fkL s k∧soV s node lo hi=max (lo - fkT s k node.toNat) 0:=by
 have e:(soE s node lo hi)=0:=by unfold soE;rw [if_neg (by rw [h];decide),if_neg h1,if_neg (by rw [h2];simp)]
 refine ⟨e,?_,?_⟩
 ·unfold soL;rw [if_pos e,h2];rfl
 ·unfold soV;rw [if_pos e,h2];rfl
theorem fnd_at {s:Stp} {node:Nat} {hi:Int}:∀ {n k j:Nat},k≤j→j<k+n→(∀ i:Nat,k≤i→i<j→¬ (fkE s i=0∧fkT s i node≤hi))→(fkE s j=0∧fkT s j node≤hi)→fndK s node hi k n=some j
 | 0,k,j,h1,h2,_,_=>by omega
 | n+1,k,j,h1,h2,h3,h4=>by
  unfold fndK
  by_cases e:k=j
  ·subst e;rw [if_pos h4]
  ·rw [if_neg (h3 k (Nat.le_refl _) (by omega))]
   exact fnd_at (by omega) (by omega) (fun i hi1 hi2=>h3 i (by omega) hi2) h4
theorem fnd_no {s:Stp} {node:Nat} {hi:Int}:∀ {n k:Nat},(∀ i:Nat,k≤i→i<k+n→¬ (fkE s i=0∧fkT s i node≤hi))→fndK s node hi k n=none
 | 0,k,_=>rfl
 | n+1,k,h=>by
  unfold fndK
  rw [if_neg (h k (Nat.le_refl _) (by omega))]
  exact fnd_no (fun i h1 h2=>h i (by omega) (by omega))
theorem fk_psI {s:Stp} {node:Int} (O:OpG s node) (N:StN s) {k:Int} (hk:0≤k) (h:fkE s k=0) {i:Nat} (hi:i<s.no.length):PsI (psP s (altL s) (fam s k) i):=by
 have hf:=fc_good (fam_fc O N hk)
 rw [fk_E O N hk] at h
 exact psI O.G N hf hi (psE_le (by omega) h)
def SvR (s:Stp) (m:Nat) (hi:Int) (B:World) (t:Value) (wr:World):Prop:=∃ k:Nat,(k:Int)≤spn s+1∧t=.int .i64 (k:Int)∧(∀ i:Nat,i<k→¬ (fkE s i=0∧fkT s i m≤hi))∧BoxS B 0 [] wr
theorem boxS0s (w:World):BoxS w 0 [] w:=⟨fun i cs hi=>by simp at hi,by simp,Below.refl _ _,by simp⟩
theorem xRtSolve (s:Stp) (node lo hi:Int) (w:World) (hl:s.lies w) (hok:s.ok) (hcap:CapOk s.sno.A s.sno.n s.sno.c) (hnode:I64 node) (hlo:I64 lo) (hhi:I64 hi):Calls Tryz.prog 33 #[.agg s.cells.toArray,.int .i64 node,.agg #[.int .i64 lo,.int .i64 hi]] w (SoP s node lo hi w):=by
 have HS:=Lib.hid (boxS3 w s.cells.toArray #[.int .i64 lo,.int .i64 hi] #[.slice none 0 0,.int .i64 0,.int .i64 0,.bool false] 35 58 42)
 have HLH:=Lib.hid (fun W (h:BoxS w 3 [s.cells,(lz2 lo hi),[.slice none 0 0,.int .i64 0,.int .i64 0,.bool false]] W)=>show W.cell? ⟨w.heap.size+1,0,none⟩=some (.int .i64 lo)∧W.cell? ⟨w.heap.size+1,1,none⟩=some (.int .i64 hi) from ⟨h.at 1 _ rfl 0 _ rfl,h.at 1 _ rfl 1 _ rfl⟩)
 have HO:=Lib.hid (fun W (h:BoxS w 3 [s.cells,(lz2 lo hi),[.slice none 0 0,.int .i64 0,.int .i64 0,.bool false]] W)=>xRtOpen s node (decide (hi<lo)) W (hl.below h.B) hok hcap hnode)
 unfold OpnP at HO
 by_cases h0:(opE s node (decide (hi<lo)))=0
 rotate_left
 ·have HX:=Lib.hid (soE_o h0)
  have HNE:=Lib.hid h0
  have hN:∀ n,okN (opE s node (decide (hi<lo))) n=0:=fun n=>if_neg h0
  have hI:∀ n,okI (opE s node (decide (hi<lo))) n=0:=fun n=>if_neg h0
  simp only [hN,hI] at HO
  have e1:=beq_of h0
  have e2:=bne_of e1
  generalize (opE s node (decide (hi<lo)))=E at *
  clear hl hok hcap hnode h0 hN hI
  go_enter Tryz.func33,Tryz.ntmps33
  obtain ⟨k0,k1⟩:=HLH.out _ HS.out
  go_wp2_with (refine at_stp (.tmp 3) rfl rfl rfl (HS.out.has 0 _ rfl) ?_)
  clear k0 k1
  refine (HO.out _ HS.out).mono ?_;rintro e' w1 ⟨A1,c1,A2,c2,A3,c3,rfl,-,-,-,-,-,hB⟩
  replace HS:=Lib.hid ((HS.out.below hB).alloc (.cells #[.slice A1 0 c1,.slice A2 0 c2,.slice A3 0 c3,.int .i64 0] 147))
  clear hB HO
  have r0:(w1.alloc (.cells #[.slice A1 0 c1,.slice A2 0 c2,.slice A3 0 c3,.int .i64 0] 147)).cell? ⟨w.heap.size+1+1,0,none⟩=some (.slice none 0 0):=HS.out.at 2 _ rfl 0 _ rfl
  have r1:(w1.alloc (.cells #[.slice A1 0 c1,.slice A2 0 c2,.slice A3 0 c3,.int .i64 0] 147)).cell? ⟨w.heap.size+1+1,1,none⟩=some (.int .i64 0):=HS.out.at 2 _ rfl 1 _ rfl
  have r2:(w1.alloc (.cells #[.slice A1 0 c1,.slice A2 0 c2,.slice A3 0 c3,.int .i64 0] 147)).cell? ⟨w.heap.size+1+1,2,none⟩=some (.int .i64 0):=HS.out.at 2 _ rfl 2 _ rfl
  have r3:(w1.alloc (.cells #[.slice A1 0 c1,.slice A2 0 c2,.slice A3 0 c3,.int .i64 0] 147)).cell? ⟨w.heap.size+1+1,3,none⟩=some (.bool false):=HS.out.at 2 _ rfl 3 _ rfl
  have rf:=fun o=>show (w1.alloc (.cells #[.slice A1 0 c1,.slice A2 0 c2,.slice A3 0 c3,.int .i64 0] 147)).frozen? ⟨w.heap.size+1+1,o,none⟩=false from HS.out.fr 2 _ rfl o
  go_wp2_with fail
  exact bodyPost_ret (v:=.tuple #[.agg #[.slice none 0 0,.int .i64 0,.int .i64 0,.bool false],.int .i64 0,.int .i64 E]) (by simp [results,Tryz.results33,go_sem,r0,r1,r2,r3]) rfl (so_err HX.out HNE.out (below_set (below_set (below_set (below_set (HS.out.B) _ _ (show w.heap.size≤w.heap.size+1+1 by omega) _) _ _ (show w.heap.size≤w.heap.size+1+1 by omega) _) _ _ (show w.heap.size≤w.heap.size+1+1 by omega) _) _ _ (show w.heap.size≤w.heap.size+1+1 by omega) _))
 have N:=StN.of hl
 obtain ⟨O,hlt⟩:=op_good N h0
 have HH0:=Lib.hid h0
 have hlh:¬ hi<lo:=by simpa using hlt
 rw [h0] at HO
 rw [hlt] at HO
 simp only [okN_0,okL_0,show ∀ i,okI 0 i=i from fun i=>if_pos rfl] at HO
 have hn2:=no_len O.G N
 obtain ⟨m,rfl⟩:=Int.eq_ofNat_of_zero_le (show 0≤node by have:=O.n1;omega)
 have hm:m<s.no.length:=by have:=O.n2;omega
 have hnm:s.no.length≤maxLen:=by unfold maxLen;omega
 have hnm':s.no.length - 1≤maxLen:=by unfold maxLen;omega
 have HFY:=Lib.hid (fun W (h:BoxS w 3 [s.cells,(lz2 lo hi),[.slice none 0 0,.int .i64 0,.int .i64 0,.bool false]] W) A1 c1 A2 c2 A3 c3 (ha:Ints W A1 s.no.length (altL s)) (h2:Pairs W A2 s.no.length (sdA s)) (h3:Pairs W A3 (s.no.length - 1) (spS s)) (k3:CapOk A3 (s.no.length - 1) c3) k (h0:0≤k) (h1:k≤spn s)=>xRtFly s A1 A2 A3 s.no.length c1 c2 (s.no.length - 1) c3 (spn s) k W (hl.below h.B) hok ha h2 h3 k3 hnm hnm' (fk_go O N h0 h1))
 have HSB:=Lib.hid (spn_bd O N)
 have HPS:=Lib.hid (fun k=>show (fkL s k)[m]? = some (psP s (altL s) (fam s k) m) from fkL_get hm)
 have HTT:=Lib.hid (fun k=>show (psP s (altL s) (fam s k) m).tick=fkT s k m from rfl)
 have HTB:=Lib.hid (fun k (hk:0≤k) (h:fkE s k=0)=>show 0≤fkT s k m∧fkT s k m≤1000000000 from (fk_psI O N hk h hm).tick)
 have HST:=Lib.hid (fun h=>soE_t (node:=(m:Int)) (lo:=lo) h0 h)
 have HSN:=Lib.hid (fun h=>soE_n (node:=(m:Int)) (lo:=lo) h0 h)
 have HSK:=Lib.hid (fun k h h2=>soE_0 (node:=(m:Int)) (lo:=lo) (k:=k) h0 h h2)
 simp only [Int.toNat_natCast] at HST HSN HSK
 have i1:(m:Int)<(s.no.length:Int):=by omega
 have i0:(0:Int)≤(m:Int):=by omega
 have HN1:=Lib.hid (show 1≤s.no.length from by omega)
 have HLH2:=Lib.hid (And.intro hlo hhi)
 clear hl hok hcap hnode h0 N O hn2 hm hnm hnm' hlt hlo hhi
 go_enter Tryz.func33,Tryz.ntmps33
 obtain ⟨k0,k1⟩:=HLH.out _ HS.out
 go_wp2_with (refine at_stp (.tmp 3) rfl rfl rfl (HS.out.has 0 _ rfl) ?_)
 clear k0 k1
 refine (HO.out _ HS.out).mono ?_;rintro e' w1 ⟨A1,c1,A2,c2,A3,c3,rfl,hI1,hI2,hI3,-,hK3,hB⟩
 have I1:=Lib.hid hI1
 have I2:=Lib.hid hI2
 have I3:=Lib.hid hI3
 have K3:=Lib.hid hK3
 replace HS:=Lib.hid (HS.out.below hB)
 clear hB hI1 hI2 hI3 hK3 HO
 have Q9:Hid (Has ((w1.alloc (.cells #[.slice A1 s.no.length c1,.slice A2 s.no.length c2,.slice A3 (s.no.length - 1) c3,.int .i64 (spn s)] 147))) w1.heap.size [.slice A1 s.no.length c1,.slice A2 s.no.length c2,.slice A3 (s.no.length - 1) c3,.int .i64 (spn s)]):=Lib.hid (Has.new _ _ _)
 have r9:w.heap.size+3≤w1.heap.size:=HS.out.sz
 replace HS:=Lib.hid ((HS.out.alloc (.cells #[.slice A1 s.no.length c1,.slice A2 s.no.length c2,.slice A3 (s.no.length - 1) c3,.int .i64 (spn s)] 147)))
 replace I1:=Lib.hid (I1.out.below (below_alloc1 w1 (.cells #[.slice A1 s.no.length c1,.slice A2 s.no.length c2,.slice A3 (s.no.length - 1) c3,.int .i64 (spn s)] 147)))
 replace I2:=Lib.hid (I2.out.below (below_alloc1 w1 (.cells #[.slice A1 s.no.length c1,.slice A2 s.no.length c2,.slice A3 (s.no.length - 1) c3,.int .i64 (spn s)] 147)))
 replace I3:=Lib.hid (I3.out.below (below_alloc1 w1 (.cells #[.slice A1 s.no.length c1,.slice A2 s.no.length c2,.slice A3 (s.no.length - 1) c3,.int .i64 (spn s)] 147)))
 have c9_0:=Q9.out.cell 0 (.slice A1 s.no.length c1) rfl
 have c9_1:=Q9.out.cell 1 (.slice A2 s.no.length c2) rfl
 have c9_2:=Q9.out.cell 2 (.slice A3 (s.no.length - 1) c3) rfl
 have c9_3:=Q9.out.cell 3 (.int .i64 (spn s)) rfl
 go_wp2_with (refine at_stp (.tmp 3) rfl rfl rfl (HS.out.has 0 _ rfl) ?_)
 clear c9_0 c9_1 c9_2 c9_3
 generalize (w1.alloc (.cells #[.slice A1 s.no.length c1,.slice A2 s.no.length c2,.slice A3 (s.no.length - 1) c3,.int .i64 (spn s)] 147))=w2 at *
 generalize w1.heap.size=H9 at *
 refine (HFY.out _ HS.out _ _ _ _ _ _ I1.out I2.out I3.out K3.out _ HSB.out.1 (Int.le_refl _)).mono ?_;rintro e' w3 ⟨A4,c4,rfl,hP4,-,hB⟩
 replace HS:=Lib.hid (HS.out.below hB)
 replace Q9:=Lib.hid (Q9.out.below hB)
 replace I1:=Lib.hid (I1.out.below hB)
 replace I2:=Lib.hid (I2.out.below hB)
 replace I3:=Lib.hid (I3.out.below hB)
 have P4:=Lib.hid hP4
 clear hB hP4
 have HS9:=Lib.hid HS.out
 go_upto_region 5 with fail
 go_cut [11,12,52] (fun s11 s12 s52 wx=>(s52=.bool (decide (fkE s (spn s)=0∧hi<fkT s (spn s) m)))∧BoxS w3 0 [] wx)
 case first =>
  by_cases h1:fkE s (spn s)=0
  ·rw [h1] at P4 ⊢
   simp only [okN_0,okL_0] at P4 ⊢
   obtain ⟨b4,o4,rfl⟩:=pass_A P4.out (by have:=HN1.out;omega)
   have hp4:=pass_at P4.out (HPS.out (spn s))
   have C4:=Lib.hid (fun W (h:BoxS w3 0 [] W)=>(h.B.cell (p:=⟨b4,o4+m * 13+4,none⟩) hp4.1).trans (hp4.2 4 _ rfl))
   simp only [HTT.out] at C4
   have HYW:=Lib.hid (fun W (h:BoxS w3 0 [] W)=>(HLH.out W (HS.out.below h.B)).2)
   have hdd:decide (fkE s (spn s)=0∧hi<fkT s (spn s) m)=decide (hi<fkT s (spn s) m):=by simp [h1]
   have HDD:=Lib.hid hdd
   clear hp4 h1 hdd
   refine held_start (S:=fun W=>BoxS w3 0 [] W) 12 #[false,false,false,false,false,false,false,false,false,false,false,false] rfl rfl (by kernel_rfl) ((boxS0s w3).drew) (fun hHeld=>?_)
   iterate 12 (refine hF (L:=_) (v:=?_) rfl rfl ?_ ?_;rotate_left;(intro W hW;have y0:=C4.out W hW;have y1:=HYW.out W hW;clear hW;go_simp;try with_reducible rfl);try simp only [Act.put,pa,pb,pc,setF])
   refine wpAnyH_done (by kernel_rfl) ?_ _
   go_wp2_with fail
   go_meet
   exact ⟨by rw [HDD.out],hHeld⟩
  ·rw [show okN (fkE s (spn s)) s.no.length=0 from if_neg h1]
   have e1:=beq_of h1
   have hdd:decide (fkE s (spn s)=0∧hi<fkT s (spn s) m)=false:=by simp [h1]
   have HDD:=Lib.hid hdd
   clear h1 hdd
   refine held_start (S:=fun W=>BoxS w3 0 [] W) 12 #[false,false,false,false,false,false,false,false,false,false,false,false] rfl rfl (by kernel_rfl) ((boxS0s w3).drew) (fun hHeld=>?_)
   iterate 3 (refine hF (L:=_) (v:=?_) rfl rfl ?_ ?_;rotate_left;(intro W hW;go_simp;try with_reducible rfl);try simp only [Act.put,pa,pb,pc,setF])
   iterate 8 (refine hFu (L:=_) rfl rfl ?_;try simp only [Act.put,pa,pb,pc,setF])
   refine hL 11 52 (v:=?_) rfl rfl ?_ ?_
   rotate_left
   ·intro W hW
    go_simp;try with_reducible rfl
   (try simp only [Act.put,pa,pb,pc])
   refine wpAnyH_done (by kernel_rfl) ?_ _
   go_wp2_with fail
   go_meet
   exact ⟨by rw [HDD.out],hHeld⟩
 case rest =>
  obtain ⟨rfl,hbx⟩:=hcut
  replace HS:=Lib.hid (HS.out.below hbx.B)
  replace Q9:=Lib.hid (Q9.out.below hbx.B)
  replace I1:=Lib.hid (I1.out.below hbx.B)
  replace I2:=Lib.hid (I2.out.below hbx.B)
  replace I3:=Lib.hid (I3.out.below hbx.B)
  clear hbx HS9 P4
  by_cases ht:fkE s (spn s)=0∧hi<fkT s (spn s) m
  ·have HX:=Lib.hid (HST.out ht)
   rw [decide_eq_true ht]
   clear ht
   have r0:wc.cell? ⟨w.heap.size+1+1,0,none⟩=some (.slice none 0 0):=HS.out.at 2 _ rfl 0 _ rfl
   have r1:wc.cell? ⟨w.heap.size+1+1,1,none⟩=some (.int .i64 0):=HS.out.at 2 _ rfl 1 _ rfl
   have r2:wc.cell? ⟨w.heap.size+1+1,2,none⟩=some (.int .i64 0):=HS.out.at 2 _ rfl 2 _ rfl
   have r3:wc.cell? ⟨w.heap.size+1+1,3,none⟩=some (.bool false):=HS.out.at 2 _ rfl 3 _ rfl
   have rf:=fun o=>show wc.frozen? ⟨w.heap.size+1+1,o,none⟩=false from HS.out.fr 2 _ rfl o
   go_wp2_with fail
   exact bodyPost_ret (v:=.tuple #[.agg #[.slice none 0 0,.int .i64 0,.int .i64 0,.bool false],.int .i64 0,.int .i64 16]) (by simp [results,Tryz.results33,go_sem,r0,r1,r2,r3]) rfl (so_err HX.out (by decide) (below_set (below_set (below_set (below_set (HS.out.B) _ _ (show w.heap.size≤w.heap.size+1+1 by omega) _) _ _ (show w.heap.size≤w.heap.size+1+1 by omega) _) _ _ (show w.heap.size≤w.heap.size+1+1 by omega) _) _ _ (show w.heap.size≤w.heap.size+1+1 by omega) _))
  rw [decide_eq_false ht]
  have HNT:=Lib.hid ht
  clear ht
  go_wp2_with fail
  have HY:=Lib.hid (fun W (h:BoxS wc 0 [] W)=>HS.out.below h.B)
  have HZ:=Lib.hid (fun W (h:BoxS wc 0 [] W)=>Q9.out.below h.B)
  go_loopw [13] (fun t wr=>SvR s m hi wc t wr) (fun t _=>(spn s+1 - intOf t).toNat)
  case atStart=>exact ⟨0,by have:=HSB.out;omega,rfl,fun i hi=>by omega,boxS0s _⟩
  case round =>
   clear HS Q9
   obtain ⟨k,hk,rfl,hall,hs⟩:=hrel
   have HA:=Lib.hid hall
   have HR:=Lib.hid hs
   have HS:=Lib.hid (HY.out _ HR.out)
   have Q9:=Lib.hid (HZ.out _ HR.out)
   clear hall hs
   by_cases hle:(k:Int)≤spn s
   rotate_left
   ·have HX:=Lib.hid (HSN.out (fnd_no (fun i _ hi=>HA.out i (by have:=HSB.out;omega))))
    have c9_3:=Q9.out.cell 3 (.int .i64 (spn s)) rfl
    have r0:wr.cell? ⟨w.heap.size+1+1,0,none⟩=some (.slice none 0 0):=HS.out.at 2 _ rfl 0 _ rfl
    have r1:wr.cell? ⟨w.heap.size+1+1,1,none⟩=some (.int .i64 0):=HS.out.at 2 _ rfl 1 _ rfl
    have r2:wr.cell? ⟨w.heap.size+1+1,2,none⟩=some (.int .i64 0):=HS.out.at 2 _ rfl 2 _ rfl
    have r3:wr.cell? ⟨w.heap.size+1+1,3,none⟩=some (.bool false):=HS.out.at 2 _ rfl 3 _ rfl
    have rf:=fun o=>show wr.frozen? ⟨w.heap.size+1+1,o,none⟩=false from HS.out.fr 2 _ rfl o
    go_wp2_with fail
    exact bodyPost_ret (v:=.tuple #[.agg #[.slice none 0 0,.int .i64 0,.int .i64 0,.bool false],.int .i64 0,.int .i64 16]) (by simp [results,Tryz.results33,go_sem,r0,r1,r2,r3]) rfl (so_err HX.out (by decide) (below_set (below_set (below_set (below_set (HS.out.B) _ _ (show w.heap.size≤w.heap.size+1+1 by omega) _) _ _ (show w.heap.size≤w.heap.size+1+1 by omega) _) _ _ (show w.heap.size≤w.heap.size+1+1 by omega) _) _ _ (show w.heap.size≤w.heap.size+1+1 by omega) _))
   have hk0:0≤(k:Int):=by omega
   have wk:IntKind.i64.wrap ((k:Int)+1)=(k:Int)+1:=IntWalk.i64_in _ (by have:=HSB.out;omega)
   have I1r:=Lib.hid (I1.out.below HR.out.B)
   have I2r:=Lib.hid (I2.out.below HR.out.B)
   have I3r:=Lib.hid (I3.out.below HR.out.B)
   have c9_0:=Q9.out.cell 0 (.slice A1 s.no.length c1) rfl
   have c9_1:=Q9.out.cell 1 (.slice A2 s.no.length c2) rfl
   have c9_2:=Q9.out.cell 2 (.slice A3 (s.no.length - 1) c3) rfl
   have c9_3:=Q9.out.cell 3 (.int .i64 (spn s)) rfl
   go_wp2_with (refine at_stp (.tmp 3) rfl rfl rfl (HS.out.has 0 _ rfl) ?_)
   clear c9_0 c9_1 c9_2 c9_3
   refine (HFY.out _ HS.out _ _ _ _ _ _ I1r.out I2r.out I3r.out K3.out _ hk0 hle).mono ?_;rintro e' w5 ⟨A5,c5,rfl,hP5,hK5,hB⟩
   replace HS:=Lib.hid (HS.out.below hB)
   replace HR:=Lib.hid (HR.out.below hB)
   have P5:=Lib.hid hP5
   have K5:=Lib.hid hK5
   have HKA:=Lib.hid (fun (h:¬ (fkE s k=0∧fkT s k m≤hi)) (i:Nat) (hi2:i<k+1)=>show ¬ (fkE s i=0∧fkT s i m≤hi) from by
    by_cases e:i=k
    ·subst e;exact h
    ·exact HA.out i (by omega))
   clear hB hP5 hK5 I1r I2r I3r Q9
   by_cases hE:fkE s k=0
   rotate_left
   ·have HKN:=Lib.hid (HKA.out (fun h=>hE h.1))
    rw [show okN (fkE s k) s.no.length=0 from if_neg hE]
    have e1:=bne_of (beq_of hE)
    have e2:=beq_of hE
    generalize fkE s k=E at *
    clear hE
    go_wp2_with fail
    refine held_start (S:=fun W=>BoxS w5 0 [] W) 12 #[false,false,false,false,false,false,false,false,false,false,false,false] rfl rfl (by kernel_rfl) ((boxS0s w5).drew) (fun hHeld=>?_)
    iterate 3 (refine hF (L:=_) (v:=?_) rfl rfl ?_ ?_;rotate_left;(intro W hW;go_simp;try with_reducible rfl);try simp only [Act.put,pa,pb,pc,setF])
    iterate 8 (refine hFu (L:=_) rfl rfl ?_;try simp only [Act.put,pa,pb,pc,setF])
    refine hL 11 78 (v:=?_) rfl rfl ?_ ?_
    rotate_left
    ·intro W hW
     go_simp;try with_reducible rfl
    (try simp only [Act.put,pa,pb,pc])
    refine wpAnyH_done (by kernel_rfl) ?_ _
    have HR5:=Lib.hid (HR.out.below hHeld.B)
    clear hHeld
    go_wp2_with fail
    go_roundw
    case rel=>exact ⟨k+1,by omega,by first | go_num | rfl | (rw [Int.natCast_add];rfl),HKN.out,HR5.out⟩
    case measure=>simp only [intOf];omega
   rw [hE] at P5 K5 ⊢
   simp only [okN_0,okL_0] at P5 K5 ⊢
   obtain ⟨b5,o5,rfl⟩:=pass_A P5.out (by have:=HN1.out;omega)
   have hp5:=pass_at P5.out (HPS.out (k:Int))
   have C5:=Lib.hid (fun W (h:BoxS w5 0 [] W)=>(h.B.cell (p:=⟨b5,o5+m * 13+4,none⟩) hp5.1).trans (hp5.2 4 _ rfl))
   simp only [HTT.out] at C5
   have HY5:=Lib.hid (fun W (h:BoxS w5 0 [] W)=>HLH.out W (HS.out.below h.B))
   have htb:=HTB.out k hk0 hE
   clear hp5
   by_cases hti:fkT s k m≤hi
   rotate_left
   ·have HKN:=Lib.hid (HKA.out (fun h=>hti h.2))
    have hti':hi<fkT s k m:=by omega
    clear hti
    generalize fkT s k m=ta at *
    go_wp2_with fail
    refine held_start (S:=fun W=>BoxS w5 0 [] W) 12 #[false,false,false,false,false,false,false,false,false,false,false,false] rfl rfl (by kernel_rfl) ((boxS0s w5).drew) (fun hHeld=>?_)
    iterate 12 (refine hF (L:=_) (v:=?_) rfl rfl ?_ ?_;rotate_left;(intro W hW;have y0:=C5.out W hW;have y1:=(HY5.out W hW).2;clear hW;go_simp;try with_reducible rfl);try simp only [Act.put,pa,pb,pc,setF])
    refine wpAnyH_done (by kernel_rfl) ?_ _
    have HR5:=Lib.hid (HR.out.below hHeld.B)
    clear hHeld
    go_wp2_with fail
    go_roundw
    case rel=>exact ⟨k+1,by omega,by first | go_num | rfl | (rw [Int.natCast_add];rfl),HKN.out,HR5.out⟩
    case measure=>simp only [intOf];omega
   have HF:=Lib.hid (HSK.out k HNT.out (fnd_at (Nat.zero_le _) (by have:=HSB.out;omega) (fun i _ hi2=>HA.out i hi2) ⟨hE,hti⟩))
   have hti':¬ hi<fkT s k m:=by omega
   generalize hta:fkT s k m=ta at *
   have HTA:=Lib.hid hta
   clear hta hti
   go_wp2_with fail
   refine held_start (S:=fun W=>BoxS w5 0 [] W) 12 #[false,false,false,false,false,false,false,false,false,false,false,false] rfl rfl (by kernel_rfl) ((boxS0s w5).drew) (fun hHeld=>?_)
   iterate 12 (refine hF (L:=_) (v:=?_) rfl rfl ?_ ?_;rotate_left;(intro W hW;have y0:=C5.out W hW;have y1:=(HY5.out W hW).2;clear hW;go_simp;try with_reducible rfl);try simp only [Act.put,pa,pb,pc,setF])
   refine wpAnyH_done (by kernel_rfl) ?_ _
   have C5f:=C5.out _ hHeld
   obtain ⟨l0,l1⟩:=HY5.out _ hHeld
   replace HS:=Lib.hid (HS.out.below hHeld.B)
   replace P5:=Lib.hid (P5.out.below hHeld.B)
   clear hHeld
   generalize w5.drew=w6 at *
   have hlo:=HLH2.out.1
   unfold I64 at hlo
   by_cases hlt:ta<lo
   ·have wl:IntKind.i64.wrap (lo - ta)=lo - ta:=IntWalk.i64_in _ (by omega)
    have r0:w6.cell? ⟨w.heap.size+1+1,0,none⟩=some (.slice none 0 0):=HS.out.at 2 _ rfl 0 _ rfl
    have r1:w6.cell? ⟨w.heap.size+1+1,1,none⟩=some (.int .i64 0):=HS.out.at 2 _ rfl 1 _ rfl
    have r2:w6.cell? ⟨w.heap.size+1+1,2,none⟩=some (.int .i64 0):=HS.out.at 2 _ rfl 2 _ rfl
    have r3:w6.cell? ⟨w.heap.size+1+1,3,none⟩=some (.bool false):=HS.out.at 2 _ rfl 3 _ rfl
    have rf:=fun o=>show w6.frozen? ⟨w.heap.size+1+1,o,none⟩=false from HS.out.fr 2 _ rfl o
    have HV:=Lib.hid (show soV s (m:Int) lo hi=lo - ta from by rw [HF.out.2.2];omega)
    skip
    go_wp2_with fail
    exact bodyPost_ret (v:=.tuple #[.agg #[.slice (some ⟨b5,o5,none⟩) s.no.length c5,.int .i64 0,.int .i64 0,.bool false],.int .i64 (lo - ta),.int .i64 0]) (by simp [results,Tryz.results33,go_sem,r0,r1,r2,r3]) rfl (so_ok HF.out.1 HV.out HF.out.2.1 (recs_pred P5.out r0 r1 r2 r3 pass_no) K5.out (below_set (below_set (below_set (below_set (HS.out.B) _ _ (show w.heap.size≤w.heap.size+1+1 by omega) _) _ _ (show w.heap.size≤w.heap.size+1+1 by omega) _) _ _ (show w.heap.size≤w.heap.size+1+1 by omega) _) _ _ (show w.heap.size≤w.heap.size+1+1 by omega) _))
   ·have r0:w6.cell? ⟨w.heap.size+1+1,0,none⟩=some (.slice none 0 0):=HS.out.at 2 _ rfl 0 _ rfl
    have r1:w6.cell? ⟨w.heap.size+1+1,1,none⟩=some (.int .i64 0):=HS.out.at 2 _ rfl 1 _ rfl
    have r2:w6.cell? ⟨w.heap.size+1+1,2,none⟩=some (.int .i64 0):=HS.out.at 2 _ rfl 2 _ rfl
    have r3:w6.cell? ⟨w.heap.size+1+1,3,none⟩=some (.bool false):=HS.out.at 2 _ rfl 3 _ rfl
    have rf:=fun o=>show w6.frozen? ⟨w.heap.size+1+1,o,none⟩=false from HS.out.fr 2 _ rfl o
    have HV:=Lib.hid (show soV s (m:Int) lo hi=0 from by rw [HF.out.2.2];omega)
    skip
    go_wp2_with fail
    exact bodyPost_ret (v:=.tuple #[.agg #[.slice (some ⟨b5,o5,none⟩) s.no.length c5,.int .i64 0,.int .i64 0,.bool false],.int .i64 (0),.int .i64 0]) (by simp [results,Tryz.results33,go_sem,r0,r1,r2,r3]) rfl (so_ok HF.out.1 HV.out HF.out.2.1 (recs_pred P5.out r0 r1 r2 r3 pass_no) K5.out (below_set (below_set (below_set (below_set (HS.out.B) _ _ (show w.heap.size≤w.heap.size+1+1 by omega) _) _ _ (show w.heap.size≤w.heap.size+1+1 by omega) _) _ _ (show w.heap.size≤w.heap.size+1+1 by omega) _) _ _ (show w.heap.size≤w.heap.size+1+1 by omega) _))
end Go.Proofs.YtgneijdjlahgbaaGreat
