
/- Layer 38: the node that binds. -/
import Derived.Test.YtgneijdjlahgbaaGreatRtW
import Derived.RegionTactic
import Derived.Test.YtgneijdjlahgbaaGreatM37
namespace Go.Proofs.YtgneijdjlahgbaaGreat
set_option maxRecDepth 100000
set_option maxHeartbeats 16000000
set_option linter.unusedSimpArgs false
set_option linter.unusedVariables false
open Go.RowKit
def BdP (s:Stp) (node:Int) (w:World) (e:Ending) (w':World):Prop:=e=.returned (.tuple #[.int .i64 (bdV s node),.int .i64 (opE s node false)])∧Below w.heap.size w w'
theorem bd_err {s:Stp} {node:Int} {w w':World} {E:Int} (hE:(opE s node false)=E) (h0:E≠0) (hb:Below w.heap.size w w'):BdP s node w (.returned (.tuple #[.int .i64 0,.int .i64 E])) w':=by
 have h1:bdV s node=0:=if_pos (by rw [hE];exact h0)
 unfold BdP
 rw [hE,h1]
 exact ⟨rfl,hb⟩
theorem bd_ok {s:Stp} {node:Int} {w w':World} {v:Int} (hE:(opE s node false)=0) (hv:bdF s node 0 s.no.length=v) (hb:Below w.heap.size w w'):BdP s node w (.returned (.tuple #[.int .i64 v,.int .i64 0])) w':=by
 have h1:bdV s node=v:=by unfold bdV;rw [if_neg (by rw [hE];decide),hv]
 unfold BdP
 rw [hE,h1]
 exact ⟨rfl,hb⟩
theorem bdF_s {s:Stp} {node:Int} {d k:Nat}:bdF s node d (k+1)=if tgt s (node - d)=true then node - d else if tgt s (node+d)=true then node+d else bdF s node (d+1) k:=rfl
theorem tgt_n {s:Stp} {x:Int} (h:¬ (0≤x∧x<s.no.length)):tgt s x=false:=by
 unfold tgt
 by_cases h1:0≤x
 ·rw [decide_eq_false (show ¬ x<((s.no.length:Nat):Int) by omega)];simp
 ·rw [decide_eq_false h1];rfl
theorem tgt_m {s:Stp} {m:Nat} (h:m<s.no.length):tgt s (m:Int)=decide (((Cs.tight (sdA s) (spS s)).getD m (0,0)).2=((sdA s).getD m (0,0)).2):=by
 unfold tgt
 rw [decide_eq_true (show 0≤(m:Int) by omega),decide_eq_true (show (m:Int)<((s.no.length:Nat):Int) by omega),Int.toNat_natCast];rfl
def BdR (s:Stp) (node:Int) (B:World) (t:Value) (wr:World):Prop:=∃ d:Nat,d≤s.no.length∧t=.int .i64 (d:Int)∧bdF s node 0 s.no.length=bdF s node d (s.no.length - d)∧BoxS B 0 [] wr
def BdJ (s:Stp) (x y:Int) (B:World) (t:Value) (wr:World):Prop:=∃ j:Nat,j≤2∧t=.int .i64 (j:Int)∧(1≤j→tgt s x=false)∧(2≤j→tgt s y=false)∧BoxS B 0 [] wr
theorem boxS0b (w:World):BoxS w 0 [] w:=⟨fun i cs hi=>by simp at hi,by simp,Below.refl _ _,by simp⟩
theorem pair_at {W:World} {b off n:Nat} {l:Cs.Wins} (h:Pairs W (some ⟨b,off,none⟩) n l) {k:Nat} (hk:k<n):b<W.heap.size∧W.cell? ⟨b,off+k * 2+1,none⟩=some (.int .i64 (l.getD k (0,0)).2):=by
 obtain ⟨x,hx⟩:=get_ex h.len hk
 obtain ⟨b',o',h1,h2,h3⟩:=h.cells (by omega)
 injection h1 with h1;injection h1 with h1 h4;subst h1;subst h4
 rw [getD_of_get hx]
 exact ⟨h2,h3 k x hx 1 _ rfl⟩
theorem pair_A {W:World} {A:Option Addr} {n:Nat} {l:Cs.Wins} (h:Pairs W A n l) (hn:0<n):∃ b off,A=some ⟨b,off,none⟩:=by
 obtain ⟨b,off,h1,_,_⟩:=h.cells hn
 exact ⟨b,off,h1⟩
theorem xRtBinding (s:Stp) (node:Int) (w:World) (hl:s.lies w) (hok:s.ok) (hcap:CapOk s.sno.A s.sno.n s.sno.c) (hnode:I64 node):Calls Tryz.prog 37 #[.agg s.cells.toArray,.int .i64 node] w (BdP s node w):=by
 have HS:=Lib.hid (boxS1 w s.cells.toArray 35)
 have HO:=Lib.hid (fun W (h:BoxS w 1 [s.cells] W)=>xRtOpen s node false W (hl.below h.B) hok hcap hnode)
 unfold OpnP at HO
 by_cases h0:(opE s node false)=0
 rotate_left
 ·have HX:=Lib.hid (show (opE s node false)=(opE s node false) from rfl)
  have HNE:=Lib.hid h0
  have hN:∀ n,okN (opE s node false) n=0:=fun n=>if_neg h0
  have hI:∀ n,okI (opE s node false) n=0:=fun n=>if_neg h0
  have HER:=Lib.hid (fun w' hb=>bd_err (w':=w') (w:=w) (rfl:(opE s node false)=(opE s node false)) h0 hb)
  simp only [hN,hI] at HO
  have e1:=beq_of h0
  have e2:=bne_of e1
  generalize (opE s node false)=E at *
  clear hl hok hcap hnode h0 hN hI
  go_enter Tryz.func37,Tryz.ntmps37
  go_wp2_with (refine at_stp (.tmp 2) rfl rfl rfl (HS.out.has 0 _ rfl) ?_)
  refine (HO.out _ HS.out).mono ?_;rintro e' w1 ⟨A1,c1,A2,c2,A3,c3,rfl,-,-,-,-,-,hB⟩
  replace HS:=Lib.hid ((HS.out.below hB).alloc (.cells #[.slice A1 0 c1,.slice A2 0 c2,.slice A3 0 c3,.int .i64 0] 147))
  clear hB HO
  go_wp2_with fail
  go_ret2
  exact HER.out _ HS.out.B
 rw [h0] at HO
 simp only [okN_0,okL_0,show ∀ i,okI 0 i=i from fun i=>if_pos rfl] at HO
 have N:=StN.of hl
 obtain ⟨O,-⟩:=op_good N h0
 have HH0:=Lib.hid h0
 have hn2:=no_len O.G N
 have hnd1:=O.n1
 have hnd2:=O.n2
 have hnm:s.no.length≤maxLen:=by unfold maxLen;omega
 have hnm':s.no.length - 1≤maxLen:=by unfold maxLen;omega
 have HTG:=Lib.hid (fun W A2 c2 A3 c3 (h2:Pairs W A2 s.no.length (sdA s)) (h3:Pairs W A3 (s.no.length - 1) (spS s)) (k3:CapOk A3 (s.no.length - 1) c3)=>(xTighten A2 A3 s.no.length c2 (s.no.length - 1) c3 (sdA s) (spS s) W h2 h3 hnm hnm' k3.le k3.mx).mono (R':=fun e w'=>∃ A c,e=.returned (.tuple #[.slice A s.no.length c,.int .i64 0])∧Pairs w' A s.no.length (Cs.tight (sdA s) (spS s))∧Below W.heap.size W w') fun e w' h=>by
  obtain ⟨A,c,a1,a2⟩:=h.1 O.tg
  exact ⟨A,c,a1,a2,h.2.2⟩)
 have HTM:=Lib.hid (fun m (hm:m<s.no.length)=>tgt_m (s:=s) hm)
 have i1:2≤s.no.length:=hn2.1
 have i2:s.no.length≤64:=hn2.2
 clear hl hok hcap hnode h0 N O hn2 hnm hnm'
 go_enter Tryz.func37,Tryz.ntmps37
 go_wp2_with (refine at_stp (.tmp 2) rfl rfl rfl (HS.out.has 0 _ rfl) ?_)
 refine (HO.out _ HS.out).mono ?_;rintro e' w1 ⟨A1,c1,A2,c2,A3,c3,rfl,-,hI2,hI3,-,hK3,hB⟩
 have I2:=Lib.hid hI2
 have I3:=Lib.hid hI3
 have K3:=Lib.hid hK3
 replace HS:=Lib.hid (HS.out.below hB)
 clear hB hI2 hI3 hK3 HO
 obtain ⟨b2,o2,rfl⟩:=pair_A I2.out (by omega)
 have Q6:Hid (Has ((w1.alloc (.cells #[.slice A1 s.no.length c1,.slice (some ⟨b2,o2,none⟩) s.no.length c2,.slice A3 (s.no.length - 1) c3,.int .i64 (spn s)] 147))) w1.heap.size [.slice A1 s.no.length c1,.slice (some ⟨b2,o2,none⟩) s.no.length c2,.slice A3 (s.no.length - 1) c3,.int .i64 (spn s)]):=Lib.hid (Has.new _ _ _)
 have r6:w.heap.size+1≤w1.heap.size:=HS.out.sz
 replace HS:=Lib.hid ((HS.out.alloc (.cells #[.slice A1 s.no.length c1,.slice (some ⟨b2,o2,none⟩) s.no.length c2,.slice A3 (s.no.length - 1) c3,.int .i64 (spn s)] 147)))
 replace I2:=Lib.hid (I2.out.below (below_alloc1 w1 (.cells #[.slice A1 s.no.length c1,.slice (some ⟨b2,o2,none⟩) s.no.length c2,.slice A3 (s.no.length - 1) c3,.int .i64 (spn s)] 147)))
 replace I3:=Lib.hid (I3.out.below (below_alloc1 w1 (.cells #[.slice A1 s.no.length c1,.slice (some ⟨b2,o2,none⟩) s.no.length c2,.slice A3 (s.no.length - 1) c3,.int .i64 (spn s)] 147)))
 have c6_0:=Q6.out.cell 0 (.slice A1 s.no.length c1) rfl
 have c6_1:=Q6.out.cell 1 (.slice (some ⟨b2,o2,none⟩) s.no.length c2) rfl
 have c6_2:=Q6.out.cell 2 (.slice A3 (s.no.length - 1) c3) rfl
 have c6_3:=Q6.out.cell 3 (.int .i64 (spn s)) rfl
 go_wp2_with fail
 clear c6_0 c6_1 c6_2 c6_3
 generalize (w1.alloc (.cells #[.slice A1 s.no.length c1,.slice (some ⟨b2,o2,none⟩) s.no.length c2,.slice A3 (s.no.length - 1) c3,.int .i64 (spn s)] 147))=w2 at *
 generalize w1.heap.size=H6 at *
 refine (HTG.out _ _ _ _ _ I2.out I3.out K3.out).mono ?_;rintro e' w3 ⟨A4,c4,rfl,hP4,hB⟩
 replace HS:=Lib.hid (HS.out.below hB)
 replace Q6:=Lib.hid (Q6.out.below hB)
 replace I2:=Lib.hid (I2.out.below hB)
 replace I3:=Lib.hid (I3.out.below hB)
 have P4:=Lib.hid hP4
 clear hB hP4 HTG I3 K3
 obtain ⟨b4,o4,rfl⟩:=pair_A P4.out (by omega)
 have HY:=Lib.hid (fun W (h:BoxS w3 0 [] W)=>HS.out.below h.B)
 have HZ:=Lib.hid (fun W (h:BoxS w3 0 [] W)=>Q6.out.below h.B)
 have HCC:=Lib.hid (fun W (h:BoxS w3 0 [] W) m (hm:m<s.no.length)=>show W.cell? ⟨b4,o4+m * 2+1,none⟩=some (.int .i64 ((Cs.tight (sdA s) (spS s)).getD m (0,0)).2)∧W.cell? ⟨b2,o2+m * 2+1,none⟩=some (.int .i64 ((sdA s).getD m (0,0)).2) from
  have q1:=pair_at P4.out hm
  have q2:=pair_at I2.out hm
  ⟨(h.B.cell (p:=⟨b4,o4+m * 2+1,none⟩) q1.1).trans q1.2,(h.B.cell (p:=⟨b2,o2+m * 2+1,none⟩) q2.1).trans q2.2⟩)
 clear P4 I2
 go_wp2_with fail
 go_loopw [9] (fun t wr=>BdR s node w3 t wr) (fun t _=>s.no.length - (intOf t).toNat)
 case atStart=>exact ⟨0,by omega,rfl,rfl,boxS0b _⟩
 case round =>
  clear HS Q6
  obtain ⟨d,hd,rfl,hbd,hs⟩:=hrel
  have HD:=Lib.hid hbd
  have HR:=Lib.hid hs
  clear hbd hs
  by_cases hlt:d<s.no.length
  rotate_left
  ·have hlt':¬ (d:Int)<(s.no.length:Int):=by omega
   have HV:=Lib.hid (show bdF s node 0 s.no.length = -1 from by rw [HD.out,show s.no.length - d=0 by omega];rfl)
   go_wp2_with fail
   go_ret2
   exact bd_ok HH0.out HV.out (HY.out _ HR.out).B
  have hlt':(d:Int)<(s.no.length:Int):=by omega
  have wa:IntKind.i64.wrap (node - (d:Int))=node - (d:Int):=IntWalk.i64_in _ (by omega)
  have wb:IntKind.i64.wrap (node+(d:Int))=node+(d:Int):=IntWalk.i64_in _ (by omega)
  have wd:IntKind.i64.wrap ((d:Int)+1)=(d:Int)+1:=IntWalk.i64_in _ (by omega)
  have HDS:=Lib.hid (show bdF s node 0 s.no.length=if tgt s (node - d)=true then node - d else if tgt s (node+d)=true then node+d else bdF s node (d+1) (s.no.length - (d+1)) from by rw [HD.out,show s.no.length - d=s.no.length - (d+1)+1 by omega];exact bdF_s)
  go_wp2_with fail
  clear wa wb
  generalize node - (d:Int)=x at *
  generalize node+(d:Int)=y at *
  have HXY:=Lib.hid (show Has (wr.alloc (.cells #[.int .i64 x,.int .i64 y] 3)) wr.heap.size (lz2 x y) from Has.new _ _ _)
  replace HR:=Lib.hid (HR.out.alloc (.cells #[.int .i64 x,.int .i64 y] 3))
  generalize wr.alloc (.cells #[.int .i64 x,.int .i64 y] 3)=w5 at *
  generalize wr.heap.size=H5 at *
  have HYX:=Lib.hid (fun W (h:BoxS w5 0 [] W)=>HXY.out.below h.B)
  go_loopw [46] (fun t wr=>BdJ s x y w5 t wr) (fun t _=>2 - (intOf t).toNat)
  case atStart=>exact ⟨0,by omega,rfl,fun h=>by omega,fun h=>by omega,boxS0b _⟩
  case round =>
   clear HXY
   obtain ⟨j,hj,rfl,ha,hb,hs⟩:=hrel
   have HA:=Lib.hid (And.intro ha hb)
   have HJ:=Lib.hid hs
   clear ha hb hs
   by_cases hj2:j<2
   rotate_left
   ·have hj2':¬ (j:Int)<2:=by omega
    have HV:=Lib.hid (show bdF s node 0 s.no.length=bdF s node (d+1) (s.no.length - (d+1)) from by rw [HDS.out,HA.out.1 (by omega),HA.out.2 (by omega)];rfl)
    go_wp2_with fail
    go_roundw
    case rel=>exact ⟨d+1,by omega,by first | go_num | rfl,HV.out,HR.out.below HJ.out.B⟩
    case measure=>simp only [intOf];omega
   have hj2':(j:Int)<2:=by omega
   have hj0:0≤(j:Int):=by omega
   obtain ⟨z,hz,HZ0,HZT⟩:∃ z:Int,Hid (∀ W,BoxS w5 0 [] W→W.cell? ⟨H5,j,none⟩=some (.int .i64 z))∧Hid (tgt s z=true→bdF s node 0 s.no.length=z)∧Hid (tgt s z=false→(1≤j+1→tgt s x=false)∧(2≤j+1→tgt s y=false)):=by
    by_cases e:j=0
    ·subst e
     refine ⟨x,Lib.hid fun W h=>(HYX.out W h).cell 0 _ rfl,Lib.hid fun h=>by rw [HDS.out,if_pos h],Lib.hid fun h=>⟨fun _=>h,fun h2=>by omega⟩⟩
    ·obtain rfl:j=1:=by omega
     have hx:=HA.out.1 (by omega)
     refine ⟨y,Lib.hid fun W h=>(HYX.out W h).cell 1 _ rfl,Lib.hid fun h=>by rw [HDS.out,if_neg (by rw [hx];decide),if_pos h],Lib.hid fun h=>⟨fun _=>hx,fun _=>h⟩⟩
   have z0:=hz.out _ HJ.out
   go_wp2_with fail
   clear z0
   by_cases h0:0≤z
   rotate_left
   ·have HF:=Lib.hid (HZT.out (tgt_n (by omega)))
    refine held_start (S:=fun W=>BoxS wr 0 [] W) 22 #[false,false,false,false,false,false,false,false,false,false,false,false,false,false,false,false,false,false,false,false,false,false] rfl rfl (by kernel_rfl) ((boxS0b wr).drew) (fun hHeld=>?_)
    iterate 3 (refine hF (L:=_) (v:=?_) rfl rfl ?_ ?_;rotate_left;(intro W hW;go_simp;try with_reducible rfl);try simp only [Act.put,pa,pb,pc,setF])
    iterate 4 (refine hFu (L:=_) rfl rfl ?_;try simp only [Act.put,pa,pb,pc,setF])
    iterate 2 (refine hF (L:=_) (v:=?_) rfl rfl ?_ ?_;rotate_left;(intro W hW;go_simp;try with_reducible rfl);try simp only [Act.put,pa,pb,pc,setF])
    iterate 12 (refine hFu (L:=_) rfl rfl ?_;try simp only [Act.put,pa,pb,pc,setF])
    refine hL 21 71 (v:=?_) rfl rfl ?_ ?_
    rotate_left
    ·intro W hW
     go_simp;try with_reducible rfl
    (try simp only [Act.put,pa,pb,pc])
    refine wpAnyH_done (by kernel_rfl) ?_ _
    have HH:=Lib.hid hHeld
    clear hHeld
    go_wp2_with fail
    go_roundw
    case rel=>exact ⟨j+1,by omega,by first | go_num | rfl,HF.out.1,HF.out.2,HJ.out.below HH.out.B⟩
    case measure=>simp only [intOf];omega
   by_cases h1:z<(s.no.length:Int)
   rotate_left
   ·have HF:=Lib.hid (HZT.out (tgt_n (by omega)))
    refine held_start (S:=fun W=>BoxS wr 0 [] W) 22 #[false,false,false,false,false,false,false,false,false,false,false,false,false,false,false,false,false,false,false,false,false,false] rfl rfl (by kernel_rfl) ((boxS0b wr).drew) (fun hHeld=>?_)
    iterate 9 (refine hF (L:=_) (v:=?_) rfl rfl ?_ ?_;rotate_left;(intro W hW;go_simp;try with_reducible rfl);try simp only [Act.put,pa,pb,pc,setF])
    iterate 12 (refine hFu (L:=_) rfl rfl ?_;try simp only [Act.put,pa,pb,pc,setF])
    refine hL 21 71 (v:=?_) rfl rfl ?_ ?_
    rotate_left
    ·intro W hW
     go_simp;try with_reducible rfl
    (try simp only [Act.put,pa,pb,pc])
    refine wpAnyH_done (by kernel_rfl) ?_ _
    have HH:=Lib.hid hHeld
    clear hHeld
    go_wp2_with fail
    go_roundw
    case rel=>exact ⟨j+1,by omega,by first | go_num | rfl,HF.out.1,HF.out.2,HJ.out.below HH.out.B⟩
    case measure=>simp only [intOf];omega
   obtain ⟨m,rfl⟩:=Int.eq_ofNat_of_zero_le h0
   have hm:m<s.no.length:=by omega
   have HC2:=Lib.hid (fun W (h:BoxS wr 0 [] W)=>HCC.out W (HR.out.below (HJ.out.below h.B).B) m hm)
   have HW2:=Lib.hid (fun W (h:BoxS wr 0 [] W)=>(HZ.out W (HR.out.below (HJ.out.below h.B).B)).cell 1 _ rfl)
   have hT:=HTM.out m hm
   clear hm
   generalize ((Cs.tight (sdA s) (spS s)).getD m (0,0)).2=th at *
   generalize ((sdA s).getD m (0,0)).2=wh at *
   by_cases he:th=wh
   rotate_left
   ·have HF:=Lib.hid (HZT.out (by rw [hT];exact decide_eq_false he))
    have e1:(th == wh)=false:=by simp [he]
    clear he hT
    refine held_start (S:=fun W=>BoxS wr 0 [] W) 22 #[false,false,false,false,false,false,false,false,false,false,false,false,false,false,false,false,false,false,false,false,false,false] rfl rfl (by kernel_rfl) ((boxS0b wr).drew) (fun hHeld=>?_)
    iterate 22 (refine hF (L:=_) (v:=?_) rfl rfl ?_ ?_;rotate_left;(intro W hW;have y0:=(HC2.out W hW).1;have y1:=HW2.out W hW;have y2:=(HC2.out W hW).2;clear hW;go_simp;try with_reducible rfl);try simp only [Act.put,pa,pb,pc,setF])
    refine wpAnyH_done (by kernel_rfl) ?_ _
    have HH:=Lib.hid hHeld
    clear hHeld
    go_wp2_with fail
    go_roundw
    case rel=>exact ⟨j+1,by omega,by first | go_num | rfl,HF.out.1,HF.out.2,HJ.out.below HH.out.B⟩
    case measure=>simp only [intOf];omega
   have HF:=Lib.hid (HZ0.out (by rw [hT];exact decide_eq_true he))
   have e1:(th == wh)=true:=by simp [he]
   clear he hT
   refine held_start (S:=fun W=>BoxS wr 0 [] W) 22 #[false,false,false,false,false,false,false,false,false,false,false,false,false,false,false,false,false,false,false,false,false,false] rfl rfl (by kernel_rfl) ((boxS0b wr).drew) (fun hHeld=>?_)
   iterate 22 (refine hF (L:=_) (v:=?_) rfl rfl ?_ ?_;rotate_left;(intro W hW;have y0:=(HC2.out W hW).1;have y1:=HW2.out W hW;have y2:=(HC2.out W hW).2;clear hW;go_simp;try with_reducible rfl);try simp only [Act.put,pa,pb,pc,setF])
   refine wpAnyH_done (by kernel_rfl) ?_ _
   have HH:=Lib.hid hHeld
   clear hHeld
   go_wp2_with fail
   go_ret2
   exact bd_ok HH0.out HF.out (HY.out _ (HR.out.below (HJ.out.below HH.out.B).B)).B
end Go.Proofs.YtgneijdjlahgbaaGreat
