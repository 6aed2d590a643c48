
/- Layer 38: RtaBinds, the walk. -/
import Derived.Test.YtgneijdjlahgbaaGreatM5
import Derived.Test.YtgneijdjlahgbaaGreatM21
import Derived.Test.YtgneijdjlahgbaaGreatBmP
import Derived.Test.YtgneijdjlahgbaaGreatLgL
import Derived.RegionTactic
import Derived.Test.YtgneijdjlahgbaaGreatRgF
namespace Go.Proofs.YtgneijdjlahgbaaGreat
set_option maxRecDepth 100000
set_option maxHeartbeats 16000000
set_option linter.unusedSimpArgs false
set_option linter.unusedVariables false
open Go.RowKit
theorem ret_tt_bi {v:Bool} (h:v=true):Ending.returned (.bool v)=.returned (.bool true):=by rw [h]
theorem walk_RtaBinds (s:Stp) (node:Int) (w:World) (hl:s.lies w) (hok:s.ok) (hsw:StpW s) (hn0:(Lit.int .i64 node).wf=true):Calls Tryz.prog 12 #[.agg s.cells.toArray,.int .i64 node] w (fun e w'=>e=.returned (.bool true)∧Below w.heap.size w w'):=by
 have HS:=Lib.hid (boxS1 w s.cells.toArray 35)
 have HAW:=Lib.hid awake38
 have hnode:I64 node:=wf_i64_bd hn0
 have HBD:=Lib.hid (fun W (h:BoxS w 1 [s.cells] W)=>xRtBinding s node W (hl.below h.B) hok hsw.cap hnode)
 unfold BdP at HBD
 have N:=StN.of hl
 by_cases hz:opE s node false=0
 rotate_left
 ·have hv:bdV s node=0:=if_pos hz
  rw [hv] at HBD
  have e1:=beq_of hz
  have e2:=bne_of e1
  generalize opE s node false=E at *
  clear hl hok hsw hn0 hnode hz hv N
  go_enter Tryz.func12,Tryz.ntmps12
  go_wp2_with fail
  refine (HAW.out _).mono ?_;rintro e' w1 ⟨rfl,hB⟩
  replace HS:=Lib.hid (HS.out.below hB)
  clear hB HAW
  go_wp2_with (refine at_stp (.tmp 2) rfl rfl rfl (HS.out.has 0 _ rfl) ?_)
  refine (HBD.out _ HS.out).mono ?_;rintro e' w2 ⟨rfl,hB⟩
  replace HS:=Lib.hid (HS.out.below hB)
  clear hB HBD
  go_wp2_with fail
  go_ret
  exact ⟨ret_tt_bi (by simp),HS.out.B⟩
 obtain ⟨b,hb,G⟩:=bi_gd N hz
 obtain ⟨O,-⟩:=op_good N hz
 rw [hz,hb] at HBD
 have hno:=N.no
 have hn2:=no_len O.G N
 have hmx:s.no.length≤maxLen:=by unfold maxLen;omega
 have hmx':s.no.length - 1≤maxLen:=by unfold maxLen;omega
 have HA:=Lib.hid (fun W (h:BoxS w 1 [s.cells] W)=>xPAltitudes s W (hl.below h.B) hok)
 unfold AltP at HA
 rw [O.alE] at HA
 simp only [okN_0,okL_0] at HA
 have HSP:=Lib.hid (fun W (h:BoxS w 1 [s.cells] W) A c (ha:Ints W A s.no.length (altL s))=>xPSpeeds s A s.no.length c (altL s) W (hl.below h.B) hok ha hmx)
 rw [sd_0 O.G N O.su O.al] at HSP
 simp only [okN_0,okL_0] at HSP
 have HLG:=Lib.hid (fun W (h:BoxS w 1 [s.cells] W)=>xLegs s W (hl.below h.B) hok (by omega) (by omega))
 unfold LgP at HLG
 have HST:=Lib.hid (fun W A c (hd:Ints W A (s.no.length - 1) (dstL s))=>xSpSteps A (s.no.length - 1) c (dstL s) s.acc s.dec W hd hmx')
 rw [stE_0s O.G N] at HST
 simp only [okN_0,okL_0] at HST
 have HSN:=Lib.hid (fun W A c A2 c2 (ha:Pairs W A s.no.length (sdA s)) (hb:Pairs W A2 (s.no.length - 1) (spS s)) (hc:CapOk A2 (s.no.length - 1) c2)=>xSpSpan A A2 s.no.length c (s.no.length - 1) c2 (sdA s) (spS s) W ha hb hmx hmx' hc.le hc.mx)
 unfold NumB at HSN
 rw [spn_E O,show okI 0 (Sp.spV (sdA s) (spS s))=spn s from if_pos rfl] at HSN
 have HFA:=Lib.hid (fun W A c A2 c2 (ha:Pairs W A s.no.length (sdA s)) (hb:Pairs W A2 (s.no.length - 1) (spS s)) (hc:CapOk A2 (s.no.length - 1) c2)=>xSpFamily A A2 s.no.length c (s.no.length - 1) c2 (sdA s) (spS s) (spn s) W ha hb hmx hmx' hc.le hc.mx)
 rw [fam_E O (spn_ok O)] at HFA
 simp only [okN_0,okL_0] at HFA
 have HAC:=Lib.hid (fun W (h:BoxS w 1 [s.cells] W)=>show W.cell? ⟨w.heap.size,32,none⟩=some (.int .i64 s.acc)∧W.cell? ⟨w.heap.size,33,none⟩=some (.int .i64 s.dec) from ⟨su_acc (h.has 0 _ rfl),su_dec (h.has 0 _ rfl)⟩)
 have n1:=O.n1
 have n2:=O.n2
 have b2:=G.b2
 obtain ⟨i1,i2⟩:=hn2
 have HNE:=Lib.hid G.near
 have HEQ:=Lib.hid G.eq
 have HFM:Hid (Sp.faL (sdA s) (spS s) (spn s)=fam s (spn s)):=Lib.hid rfl
 rw [HFM.out] at HFA
 generalize (altC s).1=x at *
 generalize (altC s).2=y at *
 clear hl hok hsw hn0 hnode hz hb N G O hno hmx hmx' HFM
 go_enter Tryz.func12,Tryz.ntmps12
 go_wp2_with fail
 refine (HAW.out _).mono ?_;rintro e' w1 ⟨rfl,hB⟩
 replace HS:=Lib.hid (HS.out.below hB)
 clear hB HAW
 go_wp2_with (refine at_stp (.tmp 2) rfl rfl rfl (HS.out.has 0 _ rfl) ?_)
 refine (HBD.out _ HS.out).mono ?_;rintro e' w2 ⟨rfl,hB⟩
 replace HS:=Lib.hid (HS.out.below hB)
 clear hB HBD
 go_wp2_with (refine at_stp (.tmp 2) rfl rfl rfl (HS.out.has 0 _ rfl) ?_)
 refine (HA.out _ HS.out).mono ?_;rintro e' w3 ⟨A1,c1,rfl,hI1,hB⟩
 replace HS:=Lib.hid (HS.out.below hB)
 have I1:=Lib.hid hI1
 clear hB HA hI1
 replace HS:=Lib.hid (HS.out.alloc (.cells #[.int .i64 x,.int .i64 y] 40))
 replace I1:=Lib.hid (I1.out.below (below_alloc1 w3 (.cells #[.int .i64 x,.int .i64 y] 40)))
 go_wp2_with (refine at_stp (.tmp 2) rfl rfl rfl (HS.out.has 0 _ rfl) ?_)
 generalize w3.alloc (.cells #[.int .i64 x,.int .i64 y] 40)=w4 at *
 refine (HSP.out _ HS.out _ _ I1.out).mono ?_;rintro e' w5 ⟨A2,c2,rfl,hI2,-,hB⟩
 replace HS:=Lib.hid (HS.out.below hB)
 obtain ⟨a2,o2,rfl⟩:=pair_A hI2 (by omega)
 have I2:=Lib.hid hI2
 clear hB HSP hI2 I1
 go_wp2_with fail
 have HYB:=Lib.hid (fun W (h:BoxS w5 0 [] W)=>HS.out.below h.B)
 refine held_start (S:=fun W=>BoxS w5 0 [] W) 12 #[false,false,false,false,false,false,false,false,false,false,false,false] rfl rfl (by kernel_rfl) ((boxS0i w5).drew) (fun hHeld=>?_)
 refine hT 0 44 (v:=_) rfl rfl (yi_stp (.tmp 2) rfl rfl rfl (fun W hW=>(HYB.out W hW).has 0 _ rfl)) ?_
 (try simp only [Act.put,pa,pb,pc])
 refine hL 2 46 (v:=?_) rfl rfl ?_ ?_
 rotate_left
 ·intro W hW
  go_simp;try with_reducible rfl
 (try simp only [Act.put,pa,pb,pc])
 refine hL 3 47 (v:=?_) rfl rfl ?_ ?_
 rotate_left
 ·intro W hW
  have kk:=(HAC.out W (HYB.out W hW)).1;clear hW;go_simp;try with_reducible rfl
 (try simp only [Act.put,pa,pb,pc])
 refine hL 4 48 (v:=?_) rfl rfl ?_ ?_
 rotate_left
 ·intro W hW
  go_simp;try with_reducible rfl
 (try simp only [Act.put,pa,pb,pc])
 refine hL 5 49 (v:=?_) rfl rfl ?_ ?_
 rotate_left
 ·intro W hW
  have kk:=(HAC.out W (HYB.out W hW)).2;clear hW;go_simp;try with_reducible rfl
 (try simp only [Act.put,pa,pb,pc])
 refine wpAnyH_ready (rs:=[1]) (by kernel_rfl) (by simp) ?_
 refine AllReadyH.cons (o:=_) rfl (fun K hK=>?_) AllReadyH.nil
 go_simp
 refine (HLG.out _ (HYB.out _ hHeld)).mono ?_;rintro e2 w6 ⟨A3,c3,rfl,hI3,hB⟩
 go_wp2_with fail
 have I3:=Lib.hid hI3
 have hNew:=hHeld.below hB
 clear hB hI3
 refine hK.out _ _ hNew (fun hHeld2=>?_)
 clear hK K hNew hHeld
 have hHeld:=hHeld2
 clear hHeld2
 (try simp only [Act.put,pa,pb,pc])
 refine wpAnyH_ready (rs:=[6]) (by kernel_rfl) (by simp) ?_
 refine AllReadyH.cons (o:=_) rfl (fun K hK=>?_) AllReadyH.nil
 go_simp
 refine (HST.out _ _ _ I3.out).mono ?_;rintro e2 w7 ⟨A4,c4,rfl,hI4,hK4,hB⟩
 go_wp2_with fail
 have I4:=Lib.hid hI4
 have K4:=Lib.hid hK4
 have hNew:=hHeld.below hB
 clear hB hI4 hK4
 refine hK.out _ _ hNew (fun hHeld2=>?_)
 clear hK K hNew hHeld
 have hHeld:=hHeld2
 clear hHeld2
 (try simp only [Act.put,pa,pb,pc])
 iterate 5 (refine hF (L:=_) (v:=?_) rfl rfl ?_ ?_;rotate_left;(intro W hW;go_simp;try with_reducible rfl);try simp only [Act.put,pa,pb,pc,setF])
 refine wpAnyH_done (by kernel_rfl) ?_ _
 have HH:=Lib.hid hHeld
 replace HS:=Lib.hid (HYB.out _ hHeld)
 replace I2:=Lib.hid (I2.out.below hHeld.B)
 clear hHeld HYB HLG HST HAC I3 HH
 go_wp2_with fail
 refine (HSN.out _ _ _ _ _ I2.out I4.out K4.out).mono ?_;rintro e' w8 ⟨rfl,hB⟩
 replace HS:=Lib.hid (HS.out.below hB)
 replace I2:=Lib.hid (I2.out.below hB)
 replace I4:=Lib.hid (I4.out.below hB)
 clear hB HSN
 go_wp2_with fail
 refine (HFA.out _ _ _ _ _ I2.out I4.out K4.out).mono ?_;rintro e' w9 ⟨A5,c5,rfl,hI5,hB⟩
 replace HS:=Lib.hid (HS.out.below hB)
 replace I2:=Lib.hid (I2.out.below hB)
 obtain ⟨a5,o5,rfl⟩:=int_A hI5 (by omega)
 have HC5:=Lib.hid (fun W (h:BoxS w9 0 [] W) k (hk:k<s.no.length)=>show W.cell? ⟨a5,o5+k,none⟩=some (.int .i64 ((fam s (spn s)).getD k 0)) from
  have q:=int_at hI5 hk
  (h.B.cell (p:=⟨a5,o5+k,none⟩) q.1).trans q.2)
 have HC2:=Lib.hid (fun W (h:BoxS w9 0 [] W) k (hk:k<s.no.length)=>show W.cell? ⟨a2,o2+k * 2+1,none⟩=some (.int .i64 ((sdA s).getD k (0,0)).2) from
  have q:=pair_at I2.out hk
  (h.B.cell (p:=⟨a2,o2+k * 2+1,none⟩) q.1).trans q.2)
 clear hB HFA hI5 I4 K4 I2
 have HYB:=Lib.hid (fun W (h:BoxS w9 0 [] W)=>HS.out.below h.B)
 generalize spn s=sp at *
 go_wp2_with fail
 have q1:=Lib.hid (fun W (h:BoxS w9 0 [] W)=>HC5.out W h b b2)
 have q2:=Lib.hid (fun W (h:BoxS w9 0 [] W)=>HC2.out W h b b2)
 rw [← HEQ.out] at q2
 have hb0:decide ((b:Int)<0)=false:=decide_eq_false (by omega)
 have hb1:decide ((s.no.length:Int)≤(b:Int))=false:=decide_eq_false (by omega)
 have hb1':decide (s.no.length≤b)=false:=decide_eq_false (by omega)
 have hb2:(b:Int)<(s.no.length:Int):=by omega
 have hb3:(0:Int)≤(b:Int):=by omega
 clear HEQ
 generalize (fam s sp).getD b 0=vb at q1 q2
 refine held_start (S:=fun W=>BoxS w9 0 [] W) 47 #[false,false,false,false,false,false,false,false,false,false,false,false,false,false,false,false,false,false,false,false,false,false,false,false,false,false,false,false,false,false,false,false,false,false,false,false,false,false,false,false,false,false,false,false,false,false,false] rfl rfl (by kernel_rfl) ((boxS0i w9).drew) (fun hHeld=>?_)
 iterate 47 (refine hF (L:=_) (v:=?_) rfl rfl ?_ ?_;rotate_left;(intro W hW;have y0:=q1.out W hW;have y1:=q2.out W hW;clear hW;go_simp;try with_reducible rfl);try simp only [Act.put,pa,pb,pc,setF])
 refine wpAnyH_done (by kernel_rfl) ?_ _
 have HH:=Lib.hid hHeld
 clear hHeld q1 q2
 go_wp2_with fail
 generalize w9.drew=wa at *
 go_loopw [115] (fun t wr=>BiR s.no.length w9 t wr) (fun t _=>s.no.length - (intOf t).toNat)
 case atStart=>exact ⟨0,by omega,rfl,HH.out⟩
 case round =>
  obtain ⟨k,hk,rfl,hs⟩:=hrel
  have HR:=Lib.hid hs
  clear hs
  by_cases hlt:k<s.no.length
  rotate_left
  ·have hlt':¬ (k:Int)<(s.no.length:Int):=by omega
   go_wp2_with fail
   go_ret
   exact ⟨rfl,(HYB.out _ HR.out).B⟩
  have hlt':(k:Int)<(s.no.length:Int):=by omega
  have hk0:(0:Int)≤(k:Int):=by omega
  have hg:IntKind.i64.wrap ((k:Int)+1)=(k:Int)+1:=IntWalk.i64_in _ (by omega)
  have HZ:=Lib.hid (fun W (h:BoxS wr 0 [] W)=>HR.out.below h.B)
  have q1:=Lib.hid (fun W (h:BoxS wr 0 [] W)=>HC5.out W (HZ.out W h) k hlt)
  have q2:=Lib.hid (fun W (h:BoxS wr 0 [] W)=>HC2.out W (HZ.out W h) k hlt)
  have hn:=HNE.out k hlt
  generalize (fam s sp).getD k 0=vk at *
  generalize ((sdA s).getD k (0,0)).2=hk2 at *
  go_wp2_with fail
  by_cases he:vk=hk2
  ·subst he
   have hn':decide (max ((k:Int) - node) (node - k)<max ((b:Int) - node) (node - b))=false:=decide_eq_false (by have:=hn rfl;omega)
   have w1:IntKind.i64.wrap ((k:Int) - node)=(k:Int) - node:=IntWalk.i64_in _ (by omega)
   have w2:IntKind.i64.wrap (node - (k:Int))=node - (k:Int):=IntWalk.i64_in _ (by omega)
   have w3:IntKind.i64.wrap ((b:Int) - node)=(b:Int) - node:=IntWalk.i64_in _ (by omega)
   have w4:IntKind.i64.wrap (node - (b:Int))=node - (b:Int):=IntWalk.i64_in _ (by omega)
   clear hn
   refine held_start (S:=fun W=>BoxS wr 0 [] W) 27 #[false,false,false,false,false,false,false,false,false,false,false,false,false,false,false,false,false,false,false,false,false,false,false,false,false,false,false] rfl rfl (by kernel_rfl) ((boxS0i wr).drew) (fun hHeld=>?_)
   iterate 27 (refine hF (L:=_) (v:=?_) rfl rfl ?_ ?_;rotate_left;(intro W hW;have y0:=q1.out W hW;have y1:=q2.out W hW;clear hW;go_simp;try with_reducible rfl);try simp only [Act.put,pa,pb,pc,setF])
   refine wpAnyH_done (by kernel_rfl) ?_ _
   have HH:=Lib.hid hHeld
   clear hHeld
   go_wp2_with fail
   go_roundw
   case rel=>exact ⟨k+1,by omega,by go_num,HZ.out _ HH.out⟩
   case measure=>simp only [intOf];omega
  ·have e1:(vk == hk2)=false:=by simp [he]
   clear he hn
   refine held_start (S:=fun W=>BoxS wr 0 [] W) 27 #[false,false,false,false,false,false,false,false,false,false,false,false,false,false,false,false,false,false,false,false,false,false,false,false,false,false,false] rfl rfl (by kernel_rfl) ((boxS0i wr).drew) (fun hHeld=>?_)
   iterate 11 (refine hF (L:=_) (v:=?_) rfl rfl ?_ ?_;rotate_left;(intro W hW;have y0:=q1.out W hW;have y1:=q2.out W hW;clear hW;go_simp;try with_reducible rfl);try simp only [Act.put,pa,pb,pc,setF])
   iterate 15 (refine hFu (L:=_) rfl rfl ?_;try simp only [Act.put,pa,pb,pc,setF])
   refine hL 26 144 (v:=?_) rfl rfl ?_ ?_
   rotate_left
   ·intro W hW
    go_simp;try with_reducible rfl
   (try simp only [Act.put,pa,pb,pc])
   refine wpAnyH_done (by kernel_rfl) ?_ _
   have HH:=Lib.hid hHeld
   clear hHeld
   go_wp2_with fail
   go_roundw
   case rel=>exact ⟨k+1,by omega,by go_num,HZ.out _ HH.out⟩
   case measure=>simp only [intOf];omega
end Go.Proofs.YtgneijdjlahgbaaGreat
