
/- Layer 38: the window of arrival. -/
import Derived.Test.YtgneijdjlahgbaaGreatRtO
import Derived.Test.YtgneijdjlahgbaaGreatM30
import Derived.RegionTactic
import Derived.Test.YtgneijdjlahgbaaGreatM37
namespace Go.Proofs.YtgneijdjlahgbaaGreat
set_option maxRecDepth 100000
set_option maxHeartbeats 16000000
set_option linter.unusedSimpArgs false
set_option linter.unusedVariables false
open Go.RowKit
def WdP (s:Stp) (node:Int) (w:World) (e:Ending) (w':World):Prop:=e=.returned (.tuple #[.agg #[.int .i64 (okI (wdE s node) (fkT s (spn s) node.toNat)),.int .i64 (okI (wdE s node) (fkT s 0 node.toNat))],.int .i64 (wdE s node)])∧Below w.heap.size w w'
theorem wd_err {s:Stp} {node:Int} {w w':World} {E:Int} (hE:wdE s node=E) (h0:E≠0) (hb:Below w.heap.size w w'):WdP s node w (.returned (.tuple #[.agg #[.int .i64 0,.int .i64 0],.int .i64 E])) w':=by
 unfold WdP
 rw [hE]
 unfold okI
 rw [if_neg h0,if_neg h0]
 exact ⟨rfl,hb⟩
theorem wd_ok {s:Stp} {node:Int} {w w':World} {a b:Int} (hE:wdE s node=0) (h1:a=fkT s (spn s) node.toNat) (h2:b=fkT s 0 node.toNat) (hb:Below w.heap.size w w'):WdP s node w (.returned (.tuple #[.agg #[.int .i64 a,.int .i64 b],.int .i64 0])) w':=by
 unfold WdP
 rw [hE,h1,h2]
 exact ⟨rfl,hb⟩
theorem wdE_o {s:Stp} {node:Int} (h:(opE s node false)≠0):wdE s node=(opE s node false):=if_pos h
theorem wdE_1 {s:Stp} {node:Int} (h:(opE s node false)=0) (h1:fkE s (spn s)≠0):wdE s node=fkE s (spn s):=by unfold wdE;rw [if_neg (by rw [h];decide),if_pos h1]
theorem wdE_2 {s:Stp} {node:Int} (h:(opE s node false)=0) (h1:fkE s (spn s)=0):wdE s node=fkE s 0:=by unfold wdE;rw [if_neg (by rw [h];decide),if_neg (by rw [h1];decide)]
theorem spn_bd {s:Stp} {node:Int} (O:OpG s node) (N:StN s):0≤spn s∧spn s≤1000:=by
 refine ⟨spV_0 _ _,?_⟩
 rcases Int.lt_or_le (spn s) 1001 with h | h
 ·omega
 ·exfalso
  obtain ⟨i,hi,h2⟩:=(fa_rise (zs:=sdA s) (ys:=spS s) (k:=1000) (by omega)).2 (show (1000:Int)<Sp.spV (sdA s) (spS s) from by show (1000:Int)<spn s;omega)
  have hc:=(Sp.rdE_0 O.rd).1
  have hn:=Cs.confL_nil.1 (Cs.tgE_0 O.tg).2
  have h3:=(Cs.tH_win hn hi).2
  have h4:=(Cs.tL_win hn hi).1
  have hl:=sdA_len O.al
  have e:=sd_lo O.al.len (show i<s.no.length by omega)
  have b:=(sdF_bd O.G N (show i<s.no.length by omega) ((altL s).getD i 0)).1
  have e1:Cs.lo (sdA s) i=_:=e.1
  have e2:Cs.hi (sdA s) i=_:=e.2
  unfold Sp.okP Sp.okV at b
  omega
theorem fk_go {s:Stp} {node:Int} (O:OpG s node) (N:StN s) {k:Int} (h0:0≤k) (h1:k≤spn s):Sp.faE (sdA s) (spS s) k=0:=fk_fa O.rd O.tg (by have:=spn_bd O N;omega)
theorem pass_ne {W:World} {A:Option Addr} {n:Nat} {l:List Pass} {H:Nat} {x y:Value} (h:Passes W A n l) (hn:1≤n) (hx:Ex W H [x,y]):Ne A H:=by
 rintro b off rfl rfl
 obtain ⟨b',o',h1,h2,h3⟩:=h.cells (by omega)
 injection h1 with h1;injection h1 with h1 h4;subst h1;subst h4
 obtain ⟨p,hp⟩:=get_ex h.len (show 0<n by omega)
 have e:=h3 0 p hp 2 _ rfl
 rw [hx.all,List.getElem?_eq_none (by show 2≤_;omega)] at e
 exact absurd e (by simp)
theorem pass_A {W:World} {A:Option Addr} {n:Nat} {l:List Pass} (h:Passes W A n l) (hn:0<n):∃ b off,A=some ⟨b,off,none⟩:=by
 obtain ⟨b,off,h1,_,_⟩:=h.cells hn
 exact ⟨b,off,h1⟩
theorem pass_at {W:World} {b off n:Nat} {l:List Pass} (h:Passes W (some ⟨b,off,none⟩) n l) {k:Nat} {p:Pass} (hk:l[k]? = some p):b<W.heap.size∧∀ j u,p.cells[j]? = some u→W.cell? ⟨b,off+k * 13+j,none⟩=some u:=by
 obtain ⟨b',o',h1,h2,h3⟩:=h.cells (by have:=h.len;have:=(List.getElem?_eq_some_iff.1 hk).1;omega)
 injection h1 with h1;injection h1 with h1 h4;subst h1;subst h4
 exact ⟨h2,fun j u hj=>h3 k p hk j u hj⟩
theorem xRtWindow (s:Stp) (node:Int) (w:World) (hl:s.lies w) (hok:s.ok) (hcap:CapOk s.sno.A s.sno.n s.sno.c) (hnode:I64 node):Calls Tryz.prog 34 #[.agg s.cells.toArray,.int .i64 node] w (WdP s node w):=by
 have HS:=Lib.hid (boxS2 w s.cells.toArray #[.int .i64 0,.int .i64 0] 35 58)
 have HO:=Lib.hid (fun W (h:BoxS w 2 [s.cells,(lz2 0 0)] W)=>xRtOpen s node false W (hl.below h.B) hok hcap hnode)
 unfold OpnP at HO
 by_cases h0:(opE s node false)=0
 rotate_left
 ·have HX:=Lib.hid (wdE_o h0)
  have HNE:=Lib.hid h0
  have hN:∀ n,okN (opE s node false) n=0:=fun n=>if_neg h0
  have hI:∀ n,okI (opE s node false) n=0:=fun n=>if_neg h0
  simp only [hN,hI] at HO
  have e1:=beq_of h0
  have e2:=bne_of e1
  generalize (opE s node false)=E at *
  clear hl hok hcap hnode h0 hN hI
  go_enter Tryz.func34,Tryz.ntmps34
  go_wp2_with (refine at_stp (.tmp 2) rfl rfl rfl (HS.out.has 0 _ rfl) ?_)
  refine (HO.out _ HS.out).mono ?_;rintro e' w1 ⟨A1,c1,A2,c2,A3,c3,rfl,-,-,-,-,-,hB⟩
  replace HS:=Lib.hid ((HS.out.below hB).alloc (.cells #[.slice A1 0 c1,.slice A2 0 c2,.slice A3 0 c3,.int .i64 0] 147))
  clear hB HO
  have r0:(w1.alloc (.cells #[.slice A1 0 c1,.slice A2 0 c2,.slice A3 0 c3,.int .i64 0] 147)).cell? ⟨w.heap.size+1,0,none⟩=some (.int .i64 0):=HS.out.at 1 _ rfl 0 _ rfl
  have r1:(w1.alloc (.cells #[.slice A1 0 c1,.slice A2 0 c2,.slice A3 0 c3,.int .i64 0] 147)).cell? ⟨w.heap.size+1,1,none⟩=some (.int .i64 0):=HS.out.at 1 _ rfl 1 _ rfl
  have rf:=fun o=>show (w1.alloc (.cells #[.slice A1 0 c1,.slice A2 0 c2,.slice A3 0 c3,.int .i64 0] 147)).frozen? ⟨w.heap.size+1,o,none⟩=false from HS.out.fr 1 _ rfl o
  go_wp2_with fail
  exact bodyPost_ret (v:=.tuple #[.agg #[.int .i64 0,.int .i64 0],.int .i64 E]) (by simp [results,Tryz.results34,go_sem,r0,r1]) rfl (wd_err HX.out HNE.out (below_set (below_set HS.out.B _ _ (Nat.le_add_right _ _) _) _ _ (Nat.le_add_right _ _) _))
 rw [h0] at HO
 simp only [okN_0,okL_0,show ∀ i,okI 0 i=i from fun i=>if_pos rfl] at HO
 have N:=StN.of hl
 obtain ⟨O,-⟩:=op_good N h0
 have hn2:=no_len O.G N
 obtain ⟨m,rfl⟩:=Int.eq_ofNat_of_zero_le (show 0≤node by have:=O.n1;omega)
 have hm:m<s.no.length:=by have:=O.n2;omega
 have hnm:s.no.length≤maxLen:=by unfold maxLen;omega
 have hnm':s.no.length - 1≤maxLen:=by unfold maxLen;omega
 have HFY:=Lib.hid (fun W (h:BoxS w 2 [s.cells,(lz2 0 0)] W) A1 c1 A2 c2 A3 c3 (ha:Ints W A1 s.no.length (altL s)) (h2:Pairs W A2 s.no.length (sdA s)) (h3:Pairs W A3 (s.no.length - 1) (spS s)) (k3:CapOk A3 (s.no.length - 1) c3) k hf=>xRtFly s A1 A2 A3 s.no.length c1 c2 (s.no.length - 1) c3 (spn s) k W (hl.below h.B) hok ha h2 h3 k3 hnm hnm' hf)
 have HG1:=Lib.hid (fk_go (k:=spn s) O N (spV_0 _ _:0≤spn s) (Int.le_refl _))
 have HG0:=Lib.hid (fk_go (k:=0) O N (Int.le_refl 0) (spV_0 _ _:0≤spn s))
 have HW1:=Lib.hid (fun h=>wdE_1 (node:=(m:Int)) h0 h)
 have HW2:=Lib.hid (fun h=>wdE_2 (node:=(m:Int)) h0 h)
 have HPS:=Lib.hid (fun k=>show (fkL s k)[m]? = some (psP s (altL s) (fam s k) m) from fkL_get hm)
 have HTT:=Lib.hid (fun k=>show (psP s (altL s) (fam s k) m).tick=fkT s k ((m:Int)).toNat from by rw [Int.toNat_natCast];rfl)
 have X4:Hid (Ex ((w.alloc (.cells s.cells.toArray 35)).alloc (.cells #[.int .i64 0,.int .i64 0] 58)) (w.heap.size+1) (lz2 0 0)):=Lib.hid (Ex.new _ _ _ _ (by simp))
 have i1:(m:Int)<(s.no.length:Int):=by omega
 have i0:(0:Int)≤(m:Int):=by omega
 have HN1:=Lib.hid (show 1≤s.no.length from by omega)
 clear hl hok hcap hnode h0 N O hn2 hm hnm hnm'
 go_enter Tryz.func34,Tryz.ntmps34
 go_wp2_with (refine at_stp (.tmp 2) rfl rfl rfl (HS.out.has 0 _ rfl) ?_)
 refine (HO.out _ HS.out).mono ?_;rintro e' w1 ⟨A1,c1,A2,c2,A3,c3,rfl,hI1,hI2,hI3,-,hK3,hB⟩
 have I1:=Lib.hid hI1
 have I2:=Lib.hid hI2
 have I3:=Lib.hid hI3
 have K3:=Lib.hid hK3
 replace HS:=Lib.hid (HS.out.below hB)
 replace X4:=Lib.hid (X4.out.below hB)
 clear hB hI1 hI2 hI3 hK3 HO
 have Q6:Hid (Has ((w1.alloc (.cells #[.slice A1 s.no.length c1,.slice A2 s.no.length c2,.slice A3 (s.no.length - 1) c3,.int .i64 (spn s)] 147))) w1.heap.size [.slice A1 s.no.length c1,.slice A2 s.no.length c2,.slice A3 (s.no.length - 1) c3,.int .i64 (spn s)]):=Lib.hid (Has.new _ _ _)
 have r6:w.heap.size+2≤w1.heap.size:=HS.out.sz
 replace HS:=Lib.hid ((HS.out.alloc (.cells #[.slice A1 s.no.length c1,.slice A2 s.no.length c2,.slice A3 (s.no.length - 1) c3,.int .i64 (spn s)] 147)))
 replace I1:=Lib.hid (I1.out.below (below_alloc1 w1 (.cells #[.slice A1 s.no.length c1,.slice A2 s.no.length c2,.slice A3 (s.no.length - 1) c3,.int .i64 (spn s)] 147)))
 replace I2:=Lib.hid (I2.out.below (below_alloc1 w1 (.cells #[.slice A1 s.no.length c1,.slice A2 s.no.length c2,.slice A3 (s.no.length - 1) c3,.int .i64 (spn s)] 147)))
 replace I3:=Lib.hid (I3.out.below (below_alloc1 w1 (.cells #[.slice A1 s.no.length c1,.slice A2 s.no.length c2,.slice A3 (s.no.length - 1) c3,.int .i64 (spn s)] 147)))
 replace X4:=Lib.hid (X4.out.below (below_alloc1 w1 (.cells #[.slice A1 s.no.length c1,.slice A2 s.no.length c2,.slice A3 (s.no.length - 1) c3,.int .i64 (spn s)] 147)))
 have c6_0:=Q6.out.cell 0 (.slice A1 s.no.length c1) rfl
 have c6_1:=Q6.out.cell 1 (.slice A2 s.no.length c2) rfl
 have c6_2:=Q6.out.cell 2 (.slice A3 (s.no.length - 1) c3) rfl
 have c6_3:=Q6.out.cell 3 (.int .i64 (spn s)) rfl
 go_wp2_with (refine at_stp (.tmp 2) rfl rfl rfl (HS.out.has 0 _ rfl) ?_)
 clear c6_0 c6_1 c6_2 c6_3
 generalize (w1.alloc (.cells #[.slice A1 s.no.length c1,.slice A2 s.no.length c2,.slice A3 (s.no.length - 1) c3,.int .i64 (spn s)] 147))=w2 at *
 generalize w1.heap.size=H6 at *
 refine (HFY.out _ HS.out _ _ _ _ _ _ I1.out I2.out I3.out K3.out _ HG1.out).mono ?_;rintro e' w3 ⟨A4,c4,rfl,hP4,-,hB⟩
 replace HS:=Lib.hid (HS.out.below hB)
 replace Q6:=Lib.hid (Q6.out.below hB)
 replace I1:=Lib.hid (I1.out.below hB)
 replace I2:=Lib.hid (I2.out.below hB)
 replace I3:=Lib.hid (I3.out.below hB)
 replace X4:=Lib.hid (X4.out.below hB)
 have P4:=Lib.hid hP4
 clear hB hP4
 by_cases h1:fkE s (spn s)=0
 rotate_left
 ·have HX:=Lib.hid (HW1.out h1)
  have HNE:=Lib.hid h1
  generalize fkE s (spn s)=E at *
  have e1:=beq_of h1
  have e2:=bne_of e1
  clear h1
  have r0:w3.cell? ⟨w.heap.size+1,0,none⟩=some (.int .i64 0):=HS.out.at 1 _ rfl 0 _ rfl
  have r1:w3.cell? ⟨w.heap.size+1,1,none⟩=some (.int .i64 0):=HS.out.at 1 _ rfl 1 _ rfl
  have rf:=fun o=>show w3.frozen? ⟨w.heap.size+1,o,none⟩=false from HS.out.fr 1 _ rfl o
  go_wp2_with fail
  exact bodyPost_ret (v:=.tuple #[.agg #[.int .i64 0,.int .i64 0],.int .i64 E]) (by simp [results,Tryz.results34,go_sem,r0,r1]) rfl (wd_err HX.out HNE.out (below_set (below_set HS.out.B _ _ (Nat.le_add_right _ _) _) _ _ (Nat.le_add_right _ _) _))
 have HW3:=Lib.hid (HW2.out h1)
 rw [h1] at P4 ⊢
 simp only [okN_0,okL_0] at P4 ⊢
 clear h1 HW1 HW2
 have c6_0:=Q6.out.cell 0 (.slice A1 s.no.length c1) rfl
 have c6_1:=Q6.out.cell 1 (.slice A2 s.no.length c2) rfl
 have c6_2:=Q6.out.cell 2 (.slice A3 (s.no.length - 1) c3) rfl
 have c6_3:=Q6.out.cell 3 (.int .i64 (spn s)) rfl
 go_wp2_with (refine at_stp (.tmp 2) rfl rfl rfl (HS.out.has 0 _ rfl) ?_)
 clear c6_0 c6_1 c6_2 c6_3
 refine (HFY.out _ HS.out _ _ _ _ _ _ I1.out I2.out I3.out K3.out _ HG0.out).mono ?_;rintro e' w5 ⟨A5,c5,rfl,hP5,-,hB⟩
 replace HS:=Lib.hid (HS.out.below hB)
 replace Q6:=Lib.hid (Q6.out.below hB)
 replace I1:=Lib.hid (I1.out.below hB)
 replace I2:=Lib.hid (I2.out.below hB)
 replace I3:=Lib.hid (I3.out.below hB)
 replace X4:=Lib.hid (X4.out.below hB)
 replace P4:=Lib.hid (P4.out.below hB)
 have P5:=Lib.hid hP5
 clear hB hP5
 by_cases h1:fkE s 0=0
 rotate_left
 ·have HX:=Lib.hid (show wdE s (m:Int)=fkE s 0 from HW3.out)
  have HNE:=Lib.hid h1
  generalize fkE s 0=E at *
  have e1:=beq_of h1
  have e2:=bne_of e1
  clear h1
  have r0:w5.cell? ⟨w.heap.size+1,0,none⟩=some (.int .i64 0):=HS.out.at 1 _ rfl 0 _ rfl
  have r1:w5.cell? ⟨w.heap.size+1,1,none⟩=some (.int .i64 0):=HS.out.at 1 _ rfl 1 _ rfl
  have rf:=fun o=>show w5.frozen? ⟨w.heap.size+1,o,none⟩=false from HS.out.fr 1 _ rfl o
  go_wp2_with fail
  exact bodyPost_ret (v:=.tuple #[.agg #[.int .i64 0,.int .i64 0],.int .i64 E]) (by simp [results,Tryz.results34,go_sem,r0,r1]) rfl (wd_err HX.out HNE.out (below_set (below_set HS.out.B _ _ (Nat.le_add_right _ _) _) _ _ (Nat.le_add_right _ _) _))
 have HE:=Lib.hid (HW3.out.trans h1)
 rw [h1] at P5 ⊢
 simp only [okN_0,okL_0] at P5 ⊢
 obtain ⟨b4,o4,rfl⟩:=pass_A P4.out (by have:=HN1.out;omega)
 obtain ⟨b5,o5,rfl⟩:=pass_A P5.out (by have:=HN1.out;omega)
 have n4:b4≠w.heap.size+1:=pass_ne P4.out HN1.out X4.out b4 o4 rfl
 have n5:b5≠w.heap.size+1:=pass_ne P5.out HN1.out X4.out b5 o5 rfl
 have C4:=Lib.hid ((pass_at P4.out (HPS.out _)).2 4 _ rfl)
 have C5:=Lib.hid ((pass_at P5.out (HPS.out _)).2 4 _ rfl)
 rw [HTT.out] at C4 C5
 clear h1 HW3 HFY I1 I2 I3 P4 P5
 generalize hta:fkT s (spn s) ((m:Int)).toNat=ta at *
 have HTA:=Lib.hid hta
 clear hta
 generalize hta:fkT s 0 ((m:Int)).toNat=tb at *
 have HTB:=Lib.hid hta
 clear hta
 go_wp2_with fail
 have HS1:=Lib.hid (show BoxS w 1 [s.cells] w5 from ⟨fun i cs hi=>HS.out.has i cs (by match i,hi with | 0,hi=>exact hi | i+1,hi=>simp at hi),by simp,HS.out.B,by have:=HS.out.sz;omega⟩)
 have r0:w5.drew.cell? ⟨w.heap.size+1,0,none⟩=some (.int .i64 0):=HS.out.drew.at 1 _ rfl 0 _ rfl
 have r1:w5.drew.cell? ⟨w.heap.size+1,1,none⟩=some (.int .i64 0):=HS.out.drew.at 1 _ rfl 1 _ rfl
 have rf:=fun o=>show w5.drew.frozen? ⟨w.heap.size+1,o,none⟩=false from HS.out.drew.fr 1 _ rfl o
 have s0:w5.cell? ⟨w.heap.size+1,0,none⟩=some (.int .i64 0):=HS.out.at 1 _ rfl 0 _ rfl
 have s1:w5.cell? ⟨w.heap.size+1,1,none⟩=some (.int .i64 0):=HS.out.at 1 _ rfl 1 _ rfl
 have sf:=fun o=>show w5.frozen? ⟨w.heap.size+1,o,none⟩=false from HS.out.fr 1 _ rfl o
 refine held_start (S:=fun W=>BoxS w 1 [s.cells] W∧W.cell? ⟨b4,o4+m * 13+4,none⟩=some (.int .i64 ta)∧W.cell? ⟨b5,o5+m * 13+4,none⟩=some (.int .i64 tb)) 13 #[false,false,false,false,false,false,false,false,false,false,false,false,false] rfl rfl (by kernel_rfl) (⟨HS1.out.drew,(World.cell?_drew _ _).trans C4.out,(World.cell?_drew _ _).trans C5.out⟩) (fun hHeld=>?_)
 iterate 11 (refine hF (L:=_) (v:=?_) rfl rfl ?_ ?_;rotate_left;(intro W hW;have y0:=hW.2.1;have y1:=hW.2.2;clear hW;go_simp;try with_reducible rfl);try simp only [Act.put,pa,pb,pc,setF])
 refine wpAnyH_ready (rs:=[11]) (by kernel_rfl) (by simp) ?_
 refine AllReadyH.cons (o:=_) rfl (fun K hK=>?_) AllReadyH.nil
 go_simp
 have hNew:=And.intro ((hHeld.1.set (w.heap.size+1) 0 (Nat.le_refl _) (.int .i64 ta)).set (w.heap.size+1) 1 (Nat.le_refl _) (.int .i64 tb)) (And.intro ((World.cell?_setCell_other _ ⟨w.heap.size+1,1,none⟩ ⟨b4,_,none⟩ (.int .i64 tb) (by intro e;injection e with e _;omega)).trans ((World.cell?_setCell_other _ ⟨w.heap.size+1,0,none⟩ ⟨b4,_,none⟩ (.int .i64 ta) (by intro e;injection e with e _;omega)).trans hHeld.2.1)) ((World.cell?_setCell_other _ ⟨w.heap.size+1,1,none⟩ ⟨b5,_,none⟩ (.int .i64 tb) (by intro e;injection e with e _;omega)).trans ((World.cell?_setCell_other _ ⟨w.heap.size+1,0,none⟩ ⟨b5,_,none⟩ (.int .i64 ta) (by intro e;injection e with e _;omega)).trans hHeld.2.2)))
 refine hK.out _ _ hNew (fun hHeld2=>?_)
 clear hK K hNew hHeld
 have hHeld:=hHeld2
 clear hHeld2
 (try simp only [Act.put,pa,pb,pc])
 refine hL 12 5 (v:=?_) rfl rfl ?_ ?_
 rotate_left
 ·intro W hW
  go_simp;try with_reducible rfl
 (try simp only [Act.put,pa,pb,pc])
 refine wpAnyH_done (by kernel_rfl) ?_ _
 have hb:=hHeld.1.B
 clear hHeld
 go_wp2_with fail
 (try simp only [Act.put,pa,pb,pc])
 have q0:(w5.setCell ⟨w.heap.size+1,0,none⟩ (.int .i64 ta)).cell? ⟨w.heap.size+1,0,none⟩=some (.int .i64 ta):=World.cell?_setCell_same _ ⟨w.heap.size+1,0,none⟩ _ s0
 have q1:((w5.setCell ⟨w.heap.size+1,0,none⟩ (.int .i64 ta)).setCell ⟨w.heap.size+1,1,none⟩ (.int .i64 tb)).cell? ⟨w.heap.size+1,1,none⟩=some (.int .i64 tb):=World.cell?_setCell_same _ ⟨w.heap.size+1,1,none⟩ _ ((World.cell?_setCell_other _ ⟨w.heap.size+1,0,none⟩ ⟨w.heap.size+1,1,none⟩ _ (by intro e;injection e with _ e;omega)).trans s1)
 exact bodyPost_ret (v:=.tuple #[.agg #[.int .i64 ta,.int .i64 tb],.int .i64 0]) (by simp [results,Tryz.results34,go_sem,r0,r1,q0,q1]) rfl (wd_ok HE.out HTA.out.symm HTB.out.symm hb)
end Go.Proofs.YtgneijdjlahgbaaGreat
