
/- Over the layers: TopFuel, the walk. -/
import Derived.Test.YtgneijdjlahgbaaGreatM35
import Derived.Test.YtgneijdjlahgbaaGreatM33
import Derived.Test.YtgneijdjlahgbaaGreatM21
import Derived.RegionTactic
import Derived.Test.YtgneijdjlahgbaaGreatM37
namespace Go.Proofs.YtgneijdjlahgbaaGreat
set_option maxRecDepth 100000
set_option maxHeartbeats 16000000
set_option linter.unusedSimpArgs false
set_option linter.unusedVariables false
open Go.RowKit
def TfR (s:Stp) (l:List Wea) (n:Nat) (B:World) (HA:Nat) (e t:Value) (wr:World):Prop:=∃ k:Nat,k≤n∧t=.int .i64 (k:Int)∧e=.int .i64 0∧BoxS B 0 [] wr∧Has wr HA (lz4 s.ac.em s.ac.ld s.ac.rs (s.ac.ld - (flLe s (altL s) (pnL s) (bwL s l) (k - 1))))
structure TfL (s:Stp) (l:List Wea) (j:Nat) (T F M:Int):Prop where
 ht:flTi s (altL s) (pnL s) (bwL s l) (j+1) - flTi s (altL s) (pnL s) (bwL s l) j=T
 hl:flLe s (altL s) (pnL s) (bwL s l) j - flLe s (altL s) (pnL s) (bwL s l) (j+1)=M
 tb:0≤T∧T≤8000000
 fb:0≤F∧F≤50000
 mb:0≤M
 m0:T=0→M=0
 md:M.tmod T=0
 dv:T≠0→M.tdiv T=F
 bn:∀ W,Calls Tryz.prog 20 #[.agg #[.int .i64 s.ac.em,.int .i64 s.ac.ld,.int .i64 s.ac.rs,.int .i64 (s.ac.ld - (flLe s (altL s) (pnL s) (bwL s l) j))],.int .i64 F,.int .i64 T] W fun e w'=>e=.returned (.tuple #[.agg #[.int .i64 s.ac.em,.int .i64 s.ac.ld,.int .i64 s.ac.rs,.int .i64 (s.ac.ld - (flLe s (altL s) (pnL s) (bwL s l) (j+1)))],.int .i64 0])∧Below W.heap.size W w'
theorem tf_l {s:Stp} (N:StN s) (R:RnG s) {l:List Wea} (hw:WsIn s (bwL s l)) {j:Nat} (hk:j+1<s.no.length):∃ T F M,TfL s l j T F M:=by
 obtain ⟨T,F,h⟩:=tf_leg N R hw hk
 have hb:=tf_burn N R hw hk h
 have h1:=h.t
 have h2:=h.l
 refine ⟨T,F,T * F,by omega,by omega,h.tb,h.fb,Int.mul_nonneg h.tb.1 h.fb.1,fun e=>by rw [e,Int.zero_mul],Int.mul_tmod_right T F,fun e=>Int.mul_tdiv_cancel_left F e,fun W=>?_⟩
 have hh:=xFuBurn (acK s (bwL s l) j) F T W hb.1
 rw [hb.2] at hh
 exact hh
theorem tf_left {s:Stp} (N:StN s) (R:RnG s) {l:List Wea} (hw:WsIn s (bwL s l)) {k:Nat} (hk:k<s.no.length) (W:World):Calls Tryz.prog 19 #[.agg #[.int .i64 s.ac.em,.int .i64 s.ac.ld,.int .i64 s.ac.rs,.int .i64 (s.ac.ld - (flLe s (altL s) (pnL s) (bwL s l) k))]] W fun e w'=>e=.returned (.int .i64 (flLe s (altL s) (pnL s) (bwL s l) k))∧Below W.heap.size W w':=by
 have hh:=xFuLeft (acK s (bwL s l) k) W
 rw [(acK_ok N R hw hk).2.1] at hh
 exact hh
theorem walk_TopFuel_err (s:Stp) (Lw:Option Addr) (nl cl:Nat) (l:List Wea) (w:World) (hl:s.lies w) (hok:s.ok) (hz:runE s≠0):Calls Tryz.prog 4 #[.agg s.cells.toArray,.slice Lw nl cl] w fun e w'=>e=.returned (.bool true)∧Below w.heap.size w w':=by
 have HS:=Lib.hid (boxS1 w s.cells.toArray 35)
 have HAW:=Lib.hid bFlight_ok
 have HR:=Lib.hid (fun W (h:BoxS w 1 [s.cells] W)=>xPRun s W (hl.below h.B) hok)
 have e1:=beq_of hz
 have e2:=bne_of e1
 unfold RunP at HR
 have hNN:∀ n,okN (runE s) n=0:=fun n=>if_neg hz
 simp only [hNN] at HR
 generalize runE s=E at *
 generalize (runC s).1=x at *
 generalize (runC s).2=y at *
 generalize runS s=bb at *
 clear hl hok hz hNN
 go_enter Tryz.func4,Tryz.ntmps4
 go_wp2_with fail
 refine (HAW.out _).mono ?_;rintro e' w1 ⟨rfl,hB⟩
 replace HS:=Lib.hid (HS.out.below hB)
 clear hB HAW
 go_wp2_with (refine at_stp (.tmp 2) rfl rfl rfl (HS.out.has 0 _ rfl) ?_)
 refine (HR.out _ HS.out).mono ?_;rintro e' w2 ⟨A,c,rfl,-,-,hB⟩
 replace HS:=Lib.hid (HS.out.below hB)
 clear hB HR
 have Q5:Hid (Has ((w2.alloc (.cells #[.slice A 0 c,.int .i64 x,.int .i64 y,.bool bb] 42))) w2.heap.size [.slice A 0 c,.int .i64 x,.int .i64 y,.bool bb]):=Lib.hid (Has.new _ _ _)
 have r5:w.heap.size+1≤w2.heap.size:=HS.out.sz
 replace HS:=Lib.hid ((HS.out.alloc (.cells #[.slice A 0 c,.int .i64 x,.int .i64 y,.bool bb] 42)))
 have c5_0:=Q5.out.cell 0 (.slice A 0 c) rfl
 go_wp2_with fail
 go_ret
 exact ⟨ret_tt_ta (by simp),HS.out.B⟩
theorem walk_TopFuel (s:Stp) (Lw:Option Addr) (nl cl:Nat) (l:List Wea) (w:World) (hl:s.lies w) (hok:s.ok) (hw:Recs Wea.cells 4 w Lw nl l) (hwo:∀ x ∈ l,x.ok) (hnl:nl≤maxLen) (_:nl * 24≤reachBytes):Calls Tryz.prog 4 #[.agg s.cells.toArray,.slice Lw nl cl] w fun e w'=>e=.returned (.bool true)∧Below w.heap.size w w':=by
 by_cases hz:runE s=0
 rotate_left
 ·exact walk_TopFuel_err s Lw nl cl l w hl hok hz
 have HS:=Lib.hid (boxS1 w s.cells.toArray 35)
 have HAW:=Lib.hid bFlight_ok
 have HW3:=Lib.hid (fun W (h:BoxS w 1 [s.cells] W)=>run_p (hl.below h.B) hok hz)
 have N:=StN.of hl
 obtain ⟨R,-⟩:=run_good N hz
 have hno:=N.no
 have hn2:=no_len R.G N
 have hWS:=bw_in R.G N l
 have HBW:=Lib.hid (fun W (h:BoxS w 1 [s.cells] W)=>xBWinds s Lw nl cl l W (hl.below h.B) hok R.su (hw.below h.B) hwo hnl)
 unfold BwPo at HBW
 have HFL:=Lib.hid (fl_ok N R (ws:=bwL s l) (by rw [bwL_len];omega) hWS)
 have HFY:=Lib.hid (fun W (h:BoxS w 1 [s.cells] W) bp op c A2 n2 c2 (hps:Passes W (some ⟨bp,op,none⟩) s.sno.n (wtL s (altL s) (pnL s))) (hws:Pairs W A2 n2 (bwL s l)) (hn2:n2≤maxLen)=>xPFly s (some ⟨bp,op,none⟩) A2 s.sno.n c n2 c2 0 0 false (wtL s (altL s) (pnL s)) (bwL s l) W (hl.below h.B) hok hps hws hok.no hn2)
 unfold FlyP at HFY
 rw [HFL.out.e] at HFY
 simp only [okN_0,okL_0] at HFY
 have HNO:=Lib.hid hno
 have i1:2≤s.sno.n:=by omega
 have i2:s.sno.n≤64:=by omega
 have hn1:s.no.length - 1≤maxLen:=by unfold maxLen;omega
 have HWT:=Lib.hid (fun k (hk:k<s.no.length)=>wtL_get (s:=s) (al:=altL s) (sp:=pnL s) hk)
 have HFG:=Lib.hid (fun k (hk:k<s.no.length)=>And.intro (HFL.out.get hk) (ta_n HFL.out hk))
 have HTL:=Lib.hid (fun j (hj:j+1<s.no.length)=>tf_l N R hWS hj)
 have HLF:=Lib.hid (fun k (hk:k<s.no.length) W=>tf_left N R hWS hk W)
 have HLB:=Lib.hid (fun k (hk:k<s.no.length)=>(acK_ok N R hWS hk).2.2)
 have HTB:=Lib.hid (fun k (hk:k<s.no.length)=>show 0≤flTi s (altL s) (pnL s) (bwL s l) k∧flTi s (altL s) (pnL s) (bwL s l) k≤8000000 * (k:Int) from by
  have h1:=(HFL.out.i k hk).t
  have h2:=(HFL.out.i k hk).t0
  omega)
 have HLL:=Lib.hid (fun W=>xFuLeft s.ac W)
 have hac:=acc_bd R.G.ac
 have HBU:=Lib.hid (show s.ac.bu=s.ac.ld - flLe s (altL s) (pnL s) (bwL s l) 0 from by
  have h1:s.ac.left=s.ac.ld - s.ac.bu:=if_pos R.G.ac
  show s.ac.bu=s.ac.ld - s.ac.left
  omega)
 have HAC:=Lib.hid (fun W (h:BoxS w 1 [s.cells] W)=>show W.cell? ⟨w.heap.size,25,none⟩=some (.int .i64 s.ac.em)∧W.cell? ⟨w.heap.size,26,none⟩=some (.int .i64 s.ac.ld)∧W.cell? ⟨w.heap.size,27,none⟩=some (.int .i64 s.ac.rs)∧W.cell? ⟨w.heap.size,28,none⟩=some (.int .i64 s.ac.bu) from ⟨su_em (h.has 0 _ rfl),(h.has 0 _ rfl).cell 26 _ (stp_ac s 1 _ rfl),(h.has 0 _ rfl).cell 27 _ (stp_ac s 2 _ rfl),(h.has 0 _ rfl).cell 28 _ (stp_ac s 3 _ rfl)⟩)
 clear hl hok hno hn2 hz hw hwo hnl hWS N R
 go_enter Tryz.func4,Tryz.ntmps4
 go_wp2_with fail
 refine (HAW.out _).mono ?_;rintro e' w1 ⟨rfl,hB⟩
 replace HS:=Lib.hid (HS.out.below hB)
 clear hB HAW
 go_wp2_with (refine at_stp (.tmp 2) rfl rfl rfl (HS.out.has 0 _ rfl) ?_)
 refine (HW3.out _ HS.out).mono ?_;rintro e' w2 ⟨bp,op,c,rfl,hC,hB⟩
 have HC:=Lib.hid hC
 replace HS:=Lib.hid (HS.out.below hB)
 clear hB hC HW3
 have Q5:Hid (Has ((w2.alloc (.cells #[.slice (some ⟨bp,op,none⟩) s.sno.n c,.int .i64 0,.int .i64 0,.bool false] 42))) w2.heap.size [.slice (some ⟨bp,op,none⟩) s.sno.n c,.int .i64 0,.int .i64 0,.bool false]):=Lib.hid (Has.new _ _ _)
 have r5:w.heap.size+1≤w2.heap.size:=HS.out.sz
 replace HS:=Lib.hid ((HS.out.alloc (.cells #[.slice (some ⟨bp,op,none⟩) s.sno.n c,.int .i64 0,.int .i64 0,.bool false] 42)))
 replace HC:=Lib.hid (HC.out.below (below_alloc1 w2 (.cells #[.slice (some ⟨bp,op,none⟩) s.sno.n c,.int .i64 0,.int .i64 0,.bool false] 42)))
 go_wp2_with (refine at_stp (.tmp 2) rfl rfl rfl (HS.out.has 0 _ rfl) ?_)
 generalize (w2.alloc (.cells #[.slice (some ⟨bp,op,none⟩) s.sno.n c,.int .i64 0,.int .i64 0,.bool false] 42))=w3 at *
 generalize w2.heap.size=H5 at *
 refine (HBW.out _ HS.out).mono ?_;rintro e' w4 ⟨A4,c4,rfl,hI4,hB⟩
 have I4:=Lib.hid hI4
 replace HC:=Lib.hid (HC.out.below hB)
 replace HS:=Lib.hid (HS.out.below hB)
 replace Q5:=Lib.hid (Q5.out.below hB)
 clear hB hI4 HBW
 have c5_0:=Q5.out.cell 0 (.slice (some ⟨bp,op,none⟩) s.sno.n c) rfl
 have c5_1:=Q5.out.cell 1 (.int .i64 0) rfl
 have c5_2:=Q5.out.cell 2 (.int .i64 0) rfl
 have c5_3:=Q5.out.cell 3 (.bool false) rfl
 go_wp2_with (refine at_stp (.tmp 2) rfl rfl rfl (HS.out.has 0 _ rfl) ?_)
 clear c5_0 c5_1 c5_2 c5_3
 refine (HFY.out _ HS.out _ _ _ _ _ _ HC.out I4.out hn1).mono ?_;rintro e' w6 ⟨A6,c6,A7,c7,rfl,hT,hLf,hB⟩
 replace HC:=Lib.hid (HC.out.below hB)
 replace HS:=Lib.hid (HS.out.below hB)
 replace Q5:=Lib.hid (Q5.out.below hB)
 obtain ⟨a6,f6,rfl⟩:=int_A7 hT (by have:=HNO.out;omega)
 obtain ⟨a7,f7,rfl⟩:=int_A7 hLf (by have:=HNO.out;omega)
 have HT:=Lib.hid hT
 have HF:=Lib.hid hLf
 clear hT hLf hB HFY I4 hn1
 rw [HNO.out] at HT HF
 have HY:=Lib.hid (fun W (h:BoxS w6 0 [] W)=>HS.out.below h.B)
 have HY5:=Lib.hid (fun W (h:BoxS w6 0 [] W)=>(Q5.out.below h.B).cell 0 _ rfl)
 have HC0:=Lib.hid (fun W (h:BoxS w6 0 [] W)=>show W.cell? ⟨a7,f7,none⟩=some (.int .i64 s.ac.left) from by
  have q:=int_at7 (k:=0) HF.out (HFG.out 0 (by have:=HNO.out;omega)).1.2
  exact (h.B.cell (p:=⟨a7,f7+0,none⟩) q.1).trans q.2)
 have hn0:(0:Int)<(s.sno.n:Int):=by omega
 have hn1:0<s.sno.n:=by omega
 have en0:((s.sno.n:Int) == 0)=false:=by simp;omega
 rw [HNO.out]
 go_wp2_with fail
 refine held_start (S:=fun W=>BoxS w6 0 [] W) 35 #[false,false,false,false,false,false,false,false,false,false,false,false,false,false,false,false,false,false,false,false,false,false,false,false,false,false,false,false,false,false,false,false,false,false,false] rfl rfl (by kernel_rfl) ((boxS0w w6).drew) (fun hHeld=>?_)
 iterate 31 (refine hF (L:=_) (v:=?_) rfl rfl ?_ ?_;rotate_left;(intro W hW;have y0:=HY5.out W hW;have y1:=HC0.out W hW;clear hW;go_simp;try with_reducible rfl);try simp only [Act.put,pa,pb,pc,setF])
 refine hL 31 75 (v:=?_) rfl rfl ?_ ?_
 rotate_left
 ·intro W hW
  obtain ⟨q0,q1,q2,q3⟩:=HAC.out W (HY.out W hW);clear hW;go_simp;try with_reducible rfl
 (try simp only [Act.put,pa,pb,pc])
 refine wpAnyH_ready (rs:=[32]) (by kernel_rfl) (by simp) ?_
 refine AllReadyH.cons (o:=_) rfl (fun K hK=>?_) AllReadyH.nil
 go_simp
 refine (HLL.out _).mono ?_;rintro e2 w7 ⟨rfl,hB⟩
 go_wp2_with fail
 have hNew:=hHeld.below hB
 clear hB
 refine hK.out _ _ hNew (fun hHeld2=>?_)
 clear hK K hNew hHeld
 have hHeld:=hHeld2
 clear hHeld2
 (try simp only [Act.put,pa,pb,pc])
 iterate 2 (refine hF (L:=_) (v:=?_) rfl rfl ?_ ?_;rotate_left;(intro W hW;go_simp;try with_reducible rfl);try simp only [Act.put,pa,pb,pc,setF])
 refine wpAnyH_done (by kernel_rfl) ?_ _
 have HH:=Lib.hid hHeld
 clear hHeld HC0 HLL
 obtain ⟨q0,q1,q2,q3⟩:=HAC.out _ (HY.out _ HH.out)
 rw [HBU.out] at q3
 have z5:=HY5.out _ (HH.out.alloc (.cells #[.int .i64 s.ac.em,.int .i64 s.ac.ld,.int .i64 s.ac.rs,.int .i64 (s.ac.ld - (flLe s (altL s) (pnL s) (bwL s l) 0))] 33))
 have QA:Hid (Has (w7.alloc (.cells #[.int .i64 s.ac.em,.int .i64 s.ac.ld,.int .i64 s.ac.rs,.int .i64 (s.ac.ld - (flLe s (altL s) (pnL s) (bwL s l) 0))] 33)) w7.heap.size (lz4 s.ac.em s.ac.ld s.ac.rs (s.ac.ld - (flLe s (altL s) (pnL s) (bwL s l) 0)))):=Lib.hid (Has.new _ _ _)
 have HHA:=Lib.hid (HH.out.alloc (.cells #[.int .i64 s.ac.em,.int .i64 s.ac.ld,.int .i64 s.ac.rs,.int .i64 (s.ac.ld - (flLe s (altL s) (pnL s) (bwL s l) 0))] 33))
 have rA:w6.heap.size+0≤w7.heap.size:=HH.out.sz
 clear HBU
 go_wp2_with fail
 clear q0 q1 q2 q3 z5
 generalize w7.alloc (.cells #[.int .i64 s.ac.em,.int .i64 s.ac.ld,.int .i64 s.ac.rs,.int .i64 (s.ac.ld - (flLe s (altL s) (pnL s) (bwL s l) 0))] 33)=w8 at *
 generalize w7.heap.size=HA at *
 go_loopw [6,84] (fun e t wr=>TfR s l s.sno.n w6 HA e t wr) (fun _ t _=>s.sno.n - (intOf t).toNat)
 case atStart=>exact ⟨0,by omega,rfl,rfl,HHA.out,QA.out⟩
 case round =>
  clear HHA QA
  obtain ⟨k,hk,rfl,rfl,hs,ha⟩:=hrel
  have HR:=Lib.hid hs
  have QA:=Lib.hid ha
  clear hs ha
  by_cases hlt:k<s.sno.n
  rotate_left
  ·have hlt':¬ (k:Int)<(s.sno.n:Int):=by omega
   go_wp2_with fail
   go_ret
   exact ⟨rfl,(HY.out _ HR.out).B⟩
  have hlt':(k:Int)<(s.sno.n:Int):=by omega
  have hk0:(0:Int)≤(k:Int):=by omega
  have hg:IntKind.i64.wrap ((k:Int)+1)=(k:Int)+1:=IntWalk.i64_in _ (by omega)
  have hkn:k<s.no.length:=by have:=HNO.out;omega
  obtain ⟨⟨gT,gL⟩,gN⟩:=HFG.out k hkn
  have hp1:=HWT.out k hkn
  have gl:=gN.l
  have qL:=int_at7 HF.out gL
  have HCL:=Lib.hid (fun W (h:BoxS w6 0 [] W)=>(h.B.cell (p:=⟨a7,f7+k,none⟩) qL.1).trans qL.2)
  have qT:=int_at7 HT.out gT
  have HCT:=Lib.hid (fun W (h:BoxS w6 0 [] W)=>(h.B.cell (p:=⟨a6,f6+k,none⟩) qT.1).trans qT.2)
  have HLK:=Lib.hid (fun W=>HLF.out k hkn W)
  have lb:=HLB.out k hkn
  have tb:=HTB.out k hkn
  generalize psP s (altL s) (pnL s) k=q at *
  have hp5:=Passes.at (s:=s) HC.out hp1
  have hcr:=fun j u hj=>(HR.out.B.cell (p:=⟨bp,op+k * 13+j,none⟩) hp5.1).trans (hp5.2 j u hj)
  have p0:wr.cell? ⟨bp,op+k * 13,none⟩=some (.int .i64 q.alt):=hcr 0 _ rfl
  have p1:wr.cell? ⟨bp,op+k * 13+1,none⟩=some (.int .i64 q.cas):=hcr 1 _ rfl
  have p2:wr.cell? ⟨bp,op+k * 13+2,none⟩=some (.int .i64 q.tas):=hcr 2 _ rfl
  have p3:wr.cell? ⟨bp,op+k * 13+3,none⟩=some (.int .i64 q.ground):=hcr 3 _ rfl
  have p4:wr.cell? ⟨bp,op+k * 13+4,none⟩=some (.int .i64 q.tick):=hcr 4 _ rfl
  have p5:wr.cell? ⟨bp,op+k * 13+5,none⟩=some (.int .i64 q.fuel):=hcr 5 _ rfl
  have p6:wr.cell? ⟨bp,op+k * 13+6,none⟩=some (.int .i64 q.gl):=hcr 6 _ rfl
  have p7:wr.cell? ⟨bp,op+k * 13+7,none⟩=some (.int .i64 q.gh):=hcr 7 _ rfl
  have p8:wr.cell? ⟨bp,op+k * 13+8,none⟩=some (.int .i64 q.tl):=hcr 8 _ rfl
  have p9:wr.cell? ⟨bp,op+k * 13+9,none⟩=some (.int .i64 q.th):=hcr 9 _ rfl
  have p10:wr.cell? ⟨bp,op+k * 13+10,none⟩=some (.int .i64 q.fl):=hcr 10 _ rfl
  have p11:wr.cell? ⟨bp,op+k * 13+11,none⟩=some (.int .i64 q.fh):=hcr 11 _ rfl
  have p12:wr.cell? ⟨bp,op+k * 13+12,none⟩=some (.int .u8 q.phase):=hcr 12 _ rfl
  have d1:decide (flLe s (altL s) (pnL s) (bwL s l) k<q.fl)=false:=decide_eq_false (by omega)
  have d2:decide (q.fh<flLe s (altL s) (pnL s) (bwL s l) k)=false:=decide_eq_false (by omega)
  have ws:IntKind.i64.wrap (s.ac.ld - flLe s (altL s) (pnL s) (bwL s l) k+flLe s (altL s) (pnL s) (bwL s l) k)=s.ac.ld:=by rw [show s.ac.ld - flLe s (altL s) (pnL s) (bwL s l) k+flLe s (altL s) (pnL s) (bwL s l) k=s.ac.ld by omega];exact IntWalk.i64_in _ (by omega)
  have ws2:IntKind.i64.wrap s.ac.ld=s.ac.ld:=IntWalk.i64_in _ (by omega)
  clear hcr hp5 hp1 gN gT gL qL qT gl HS Q5
  have HS:=HR
  clear HR
  rcases Nat.eq_zero_or_pos k with hz | hz
  ·have HZ:=Lib.hid hz
   have hgt:¬ (0:Int)<(k:Int):=by omega
   clear hz
   replace QA:Hid (Has wr HA (lz4 s.ac.em s.ac.ld s.ac.rs (s.ac.ld - (flLe s (altL s) (pnL s) (bwL s l) k)))):=Lib.hid (by have h:=QA.out;rwa [show k - 1=k from by have:=HZ.out;omega] at h)
   have Q14:Hid (Has (wr.alloc (.cells #[.int .i64 q.alt,.int .i64 q.cas,.int .i64 q.tas,.int .i64 q.ground,.int .i64 q.tick,.int .i64 q.fuel,.int .i64 q.gl,.int .i64 q.gh,.int .i64 q.tl,.int .i64 q.th,.int .i64 q.fl,.int .i64 q.fh,.int .u8 q.phase] 53)) wr.heap.size (lzp q.alt q.cas q.tas q.ground q.tick q.fuel q.gl q.gh q.tl q.th q.fl q.fh q.phase)):=Lib.hid (Has.new _ _ _)
   have n14:HA≠wr.heap.size:=by have:=QA.out.lt;omega
   replace HS:=Lib.hid (HS.out.alloc (.cells #[.int .i64 q.alt,.int .i64 q.cas,.int .i64 q.tas,.int .i64 q.ground,.int .i64 q.tick,.int .i64 q.fuel,.int .i64 q.gl,.int .i64 q.gh,.int .i64 q.tl,.int .i64 q.th,.int .i64 q.fl,.int .i64 q.fh,.int .u8 q.phase] 53))
   replace QA:=Lib.hid (QA.out.alloc (.cells #[.int .i64 q.alt,.int .i64 q.cas,.int .i64 q.tas,.int .i64 q.ground,.int .i64 q.tick,.int .i64 q.fuel,.int .i64 q.gl,.int .i64 q.gh,.int .i64 q.tl,.int .i64 q.th,.int .i64 q.fl,.int .i64 q.fh,.int .u8 q.phase] 53))
   go_wp2_with fail
   clear p0 p1 p2 p3 p4 p5 p6 p7 p8 p9 p10 p11 p12
   generalize wr.alloc (.cells #[.int .i64 q.alt,.int .i64 q.cas,.int .i64 q.tas,.int .i64 q.ground,.int .i64 q.tick,.int .i64 q.fuel,.int .i64 q.gl,.int .i64 q.gh,.int .i64 q.tl,.int .i64 q.th,.int .i64 q.fl,.int .i64 q.fh,.int .u8 q.phase] 53)=w9 at *
   generalize wr.heap.size=H14 at *
   refine held_start (S:=fun W=>BoxS w6 0 [] W∧Has W HA (lz4 s.ac.em s.ac.ld s.ac.rs (s.ac.ld - (flLe s (altL s) (pnL s) (bwL s l) k)))∧Has W H14 (lzp q.alt q.cas q.tas q.ground q.tick q.fuel q.gl q.gh q.tl q.th q.fl q.fh q.phase)) 43 #[false,false,false,false,false,false,false,false,false,false,false,false,false,false,false,false,false,false,false,false,false,false,false,false,false,false,false,false,false,false,false,false,false,false,false,false,false,false,false,false,false,false,false] rfl rfl (by kernel_rfl) (And.intro HS.out.drew (And.intro QA.out.drew Q14.out.drew)) (fun hHeld=>?_)
   iterate 4 (refine hF (L:=_) (v:=?_) rfl rfl ?_ ?_;rotate_left;(intro W hW;have y0:=hW.2.1.cell 0 (.int .i64 s.ac.em) rfl;have y1:=hW.2.1.cell 1 (.int .i64 s.ac.ld) rfl;have y2:=hW.2.1.cell 2 (.int .i64 s.ac.rs) rfl;have y3:=hW.2.1.cell 3 (.int .i64 (s.ac.ld - (flLe s (altL s) (pnL s) (bwL s l) k))) rfl;clear hW;go_simp;try with_reducible rfl);try simp only [Act.put,pa,pb,pc,setF])
   refine hL 5 151 (v:=?_) rfl rfl ?_ ?_
   rotate_left
   ·intro W hW
    go_simp;try with_reducible rfl
   (try simp only [Act.put,pa,pb,pc])
   refine hL 6 152 (v:=?_) rfl rfl ?_ ?_
   rotate_left
   ·intro W hW
    go_simp;try with_reducible rfl
   (try simp only [Act.put,pa,pb,pc])
   refine hL 7 153 (v:=?_) rfl rfl ?_ ?_
   rotate_left
   ·intro W hW
    go_simp;try with_reducible rfl
   (try simp only [Act.put,pa,pb,pc])
   refine hL 8 154 (v:=?_) rfl rfl ?_ ?_
   rotate_left
   ·intro W hW
    have kk:=HCL.out W hW.1;clear hW;go_simp;try with_reducible rfl
   (try simp only [Act.put,pa,pb,pc])
   refine wpAnyH_ready (rs:=[4]) (by kernel_rfl) (by simp) ?_
   refine AllReadyH.cons (o:=_) rfl (fun K hK=>?_) AllReadyH.nil
   go_simp
   refine (HLK.out _).mono ?_;rintro e2 w20 ⟨rfl,hB⟩
   go_wp2_with fail
   have hNew:=And.intro (hHeld.1.below hB) (And.intro (hHeld.2.1.below hB) (hHeld.2.2.below hB))
   clear hB
   refine hK.out _ _ hNew (fun hHeld2=>?_)
   clear hK K hNew hHeld
   have hHeld:=hHeld2
   clear hHeld2
   (try simp only [Act.put,pa,pb,pc])
   iterate 34 (refine hF (L:=_) (v:=?_) rfl rfl ?_ ?_;rotate_left;(intro W hW;have y0:=hW.2.1.cell 3 (.int .i64 (s.ac.ld - (flLe s (altL s) (pnL s) (bwL s l) k))) rfl;have y1:=HCL.out W hW.1;have y2:=hW.2.1.cell 1 (.int .i64 s.ac.ld) rfl;have y3:=hW.2.2.cell 10 (.int .i64 q.fl) rfl;have y4:=hW.2.2.cell 11 (.int .i64 q.fh) rfl;clear hW;go_simp;try with_reducible rfl);try simp only [Act.put,pa,pb,pc,setF])
   refine wpAnyH_done (by kernel_rfl) ?_ _
   have HH:=Lib.hid hHeld
   clear hHeld
   go_wp2_with fail
   go_roundw
   case rel=>exact ⟨k+1,by omega,by go_num,rfl,HH.out.1,HH.out.2.1⟩
   case measure=>simp only [intOf];omega
  obtain ⟨j,hj⟩:∃ j,j+1=k:=⟨k - 1,by omega⟩
  have hjk:j+1<s.no.length:=by omega
  obtain ⟨T,F,M,gt,gl,tb0,fb,mb,m0,md,dv,bn⟩:=HTL.out j hjk
  rw [hj] at gt gl bn
  obtain ⟨⟨gT,gL⟩,-⟩:=HFG.out j (by omega)
  have qL:=int_at7 HF.out gL
  have HJL:=Lib.hid (fun W (h:BoxS w6 0 [] W)=>(h.B.cell (p:=⟨a7,f7+j,none⟩) qL.1).trans qL.2)
  have qT:=int_at7 HT.out gT
  have HJT:=Lib.hid (fun W (h:BoxS w6 0 [] W)=>(h.B.cell (p:=⟨a6,f6+j,none⟩) qT.1).trans qT.2)
  have HBN:=Lib.hid bn
  have lbj:=HLB.out j (by omega)
  have tbj:=HTB.out j (by omega)
  replace QA:Hid (Has wr HA (lz4 s.ac.em s.ac.ld s.ac.rs (s.ac.ld - (flLe s (altL s) (pnL s) (bwL s l) j)))):=Lib.hid (by have h:=QA.out;rwa [show k - 1=j from by omega] at h)
  generalize hlk:flLe s (altL s) (pnL s) (bwL s l) k=lk at *
  have HLQ:=Lib.hid hlk
  clear hlk
  generalize flLe s (altL s) (pnL s) (bwL s l) j=lj at *
  generalize flTi s (altL s) (pnL s) (bwL s l) k=tk at *
  generalize flTi s (altL s) (pnL s) (bwL s l) j=tj at *
  have w1:IntKind.i64.wrap (tk - tj)=T:=by rw [gt];exact IntWalk.i64_in _ (by omega)
  have w2:IntKind.i64.wrap (lj - lk)=M:=by rw [gl];exact IntWalk.i64_in _ (by omega)
  have hjk2:(k:Int) - 1=(j:Int):=by omega
  have hji:IntKind.i64.wrap ((k:Int) - 1)=(j:Int):=by rw [hjk2];exact IntWalk.i64_in _ (by omega)
  have hj0:(0:Int)≤(j:Int):=by omega
  have hj1:(j:Int)<(s.sno.n:Int):=by omega
  have hi0:(0:Int)<(k:Int):=by omega
  have HLJ:=Lib.hid gl
  have t0:¬ T<0:=by omega
  have m1:¬ M<0:=by omega
  clear bn qL qT gL gT gt gl hj hjk hz hjk2
  have Q14:Hid (Has (wr.alloc (.cells #[.int .i64 q.alt,.int .i64 q.cas,.int .i64 q.tas,.int .i64 q.ground,.int .i64 q.tick,.int .i64 q.fuel,.int .i64 q.gl,.int .i64 q.gh,.int .i64 q.tl,.int .i64 q.th,.int .i64 q.fl,.int .i64 q.fh,.int .u8 q.phase] 53)) wr.heap.size (lzp q.alt q.cas q.tas q.ground q.tick q.fuel q.gl q.gh q.tl q.th q.fl q.fh q.phase)):=Lib.hid (Has.new _ _ _)
  have n14:HA≠wr.heap.size:=by have:=QA.out.lt;omega
  replace HS:=Lib.hid (HS.out.alloc (.cells #[.int .i64 q.alt,.int .i64 q.cas,.int .i64 q.tas,.int .i64 q.ground,.int .i64 q.tick,.int .i64 q.fuel,.int .i64 q.gl,.int .i64 q.gh,.int .i64 q.tl,.int .i64 q.th,.int .i64 q.fl,.int .i64 q.fh,.int .u8 q.phase] 53))
  replace QA:=Lib.hid (QA.out.alloc (.cells #[.int .i64 q.alt,.int .i64 q.cas,.int .i64 q.tas,.int .i64 q.ground,.int .i64 q.tick,.int .i64 q.fuel,.int .i64 q.gl,.int .i64 q.gh,.int .i64 q.tl,.int .i64 q.th,.int .i64 q.fl,.int .i64 q.fh,.int .u8 q.phase] 53))
  go_wp2_with fail
  clear p0 p1 p2 p3 p4 p5 p6 p7 p8 p9 p10 p11 p12
  generalize wr.alloc (.cells #[.int .i64 q.alt,.int .i64 q.cas,.int .i64 q.tas,.int .i64 q.ground,.int .i64 q.tick,.int .i64 q.fuel,.int .i64 q.gl,.int .i64 q.gh,.int .i64 q.tl,.int .i64 q.th,.int .i64 q.fl,.int .i64 q.fh,.int .u8 q.phase] 53)=w9 at *
  generalize wr.heap.size=H14 at *
  have HYP:=Lib.hid (And.intro QA.out Q14.out)
  refine held_start (S:=fun W=>BoxS w6 0 [] W∧Has W HA (lz4 s.ac.em s.ac.ld s.ac.rs (s.ac.ld - lj))∧Has W H14 (lzp q.alt q.cas q.tas q.ground q.tick q.fuel q.gl q.gh q.tl q.th q.fl q.fh q.phase)) 22 #[false,false,false,false,false,false,false,false,false,false,false,false,false,false,false,false,false,false,false,false,false,false] rfl rfl (by kernel_rfl) (And.intro HS.out.drew (And.intro QA.out.drew Q14.out.drew)) (fun hHeld=>?_)
  iterate 22 (refine hF (L:=_) (v:=?_) rfl rfl ?_ ?_;rotate_left;(intro W hW;have y0:=HCT.out W hW.1;have y1:=HJT.out W hW.1;have y2:=HJL.out W hW.1;have y3:=HCL.out W hW.1;clear hW;go_simp;try with_reducible rfl);try simp only [Act.put,pa,pb,pc,setF])
  refine wpAnyH_done (by kernel_rfl) ?_ _
  replace HS:=Lib.hid hHeld.1
  replace QA:=Lib.hid hHeld.2.1
  replace Q14:=Lib.hid hHeld.2.2
  clear hHeld HYP w1 w2
  generalize w9.drew=w10 at *
  by_cases hT:T=0
  ·have hM:M=0:=m0 hT
   have hLJ:lj=lk:=by have:=HLJ.out;omega
   replace QA:=Lib.hid (show Has w10 HA (lz4 s.ac.em s.ac.ld s.ac.rs (s.ac.ld - lk)) from by rw [← hLJ];exact QA.out)
   clear md dv m0 HLJ hLJ HBN lbj tbj t0 m1
   rw [hM,hT]
   go_wp2_with fail
   refine held_start (S:=fun W=>BoxS w6 0 [] W∧Has W HA (lz4 s.ac.em s.ac.ld s.ac.rs (s.ac.ld - lk))∧Has W H14 (lzp q.alt q.cas q.tas q.ground q.tick q.fuel q.gl q.gh q.tl q.th q.fl q.fh q.phase)) 43 #[false,false,false,false,false,false,false,false,false,false,false,false,false,false,false,false,false,false,false,false,false,false,false,false,false,false,false,false,false,false,false,false,false,false,false,false,false,false,false,false,false,false,false] rfl rfl (by kernel_rfl) (And.intro HS.out.drew (And.intro QA.out.drew Q14.out.drew)) (fun hHeld=>?_)
   iterate 4 (refine hF (L:=_) (v:=?_) rfl rfl ?_ ?_;rotate_left;(intro W hW;have y0:=hW.2.1.cell 0 (.int .i64 s.ac.em) rfl;have y1:=hW.2.1.cell 1 (.int .i64 s.ac.ld) rfl;have y2:=hW.2.1.cell 2 (.int .i64 s.ac.rs) rfl;have y3:=hW.2.1.cell 3 (.int .i64 (s.ac.ld - lk)) rfl;clear hW;go_simp;try with_reducible rfl);try simp only [Act.put,pa,pb,pc,setF])
   refine hL 5 151 (v:=?_) rfl rfl ?_ ?_
   rotate_left
   ·intro W hW
    go_simp;try with_reducible rfl
   (try simp only [Act.put,pa,pb,pc])
   refine hL 6 152 (v:=?_) rfl rfl ?_ ?_
   rotate_left
   ·intro W hW
    go_simp;try with_reducible rfl
   (try simp only [Act.put,pa,pb,pc])
   refine hL 7 153 (v:=?_) rfl rfl ?_ ?_
   rotate_left
   ·intro W hW
    go_simp;try with_reducible rfl
   (try simp only [Act.put,pa,pb,pc])
   refine hL 8 154 (v:=?_) rfl rfl ?_ ?_
   rotate_left
   ·intro W hW
    have kk:=HCL.out W hW.1;clear hW;go_simp;try with_reducible rfl
   (try simp only [Act.put,pa,pb,pc])
   refine wpAnyH_ready (rs:=[4]) (by kernel_rfl) (by simp) ?_
   refine AllReadyH.cons (o:=_) rfl (fun K hK=>?_) AllReadyH.nil
   go_simp
   refine (HLK.out _).mono ?_;rintro e2 w20 ⟨rfl,hB⟩
   go_wp2_with fail
   have hNew:=And.intro (hHeld.1.below hB) (And.intro (hHeld.2.1.below hB) (hHeld.2.2.below hB))
   clear hB
   refine hK.out _ _ hNew (fun hHeld2=>?_)
   clear hK K hNew hHeld
   have hHeld:=hHeld2
   clear hHeld2
   (try simp only [Act.put,pa,pb,pc])
   iterate 34 (refine hF (L:=_) (v:=?_) rfl rfl ?_ ?_;rotate_left;(intro W hW;have y0:=hW.2.1.cell 3 (.int .i64 (s.ac.ld - lk)) rfl;have y1:=HCL.out W hW.1;have y2:=hW.2.1.cell 1 (.int .i64 s.ac.ld) rfl;have y3:=hW.2.2.cell 10 (.int .i64 q.fl) rfl;have y4:=hW.2.2.cell 11 (.int .i64 q.fh) rfl;clear hW;go_simp;try with_reducible rfl);try simp only [Act.put,pa,pb,pc,setF])
   refine wpAnyH_done (by kernel_rfl) ?_ _
   have HH:=Lib.hid hHeld
   clear hHeld
   go_wp2_with fail
   go_roundw
   case rel=>exact ⟨k+1,by omega,by go_num,rfl,HH.out.1,by rw [show k+1 - 1=k from rfl,HLQ.out];exact HH.out.2.1⟩
   case measure=>simp only [intOf];omega
  have hTp:0<T:=by omega
  have eT:(T == 0)=false:=by simp;omega
  have hdv:=dv hT
  have wF:IntKind.i64.wrap F=F:=IntWalk.i64_in _ (by omega)
  clear dv m0 lbj tbj HLJ
  go_wp2_with fail
  clear md eT t0 m1
  have Q20:Hid (Has w10.drew HA (lz4 s.ac.em s.ac.ld s.ac.rs (s.ac.ld - lj))):=Lib.hid QA.out.drew
  refine held_start (S:=fun W=>BoxS w6 0 [] W∧Has W H14 (lzp q.alt q.cas q.tas q.ground q.tick q.fuel q.gl q.gh q.tl q.th q.fl q.fh q.phase)) 11 #[false,false,false,false,false,false,false,false,false,false,false] rfl rfl (by kernel_rfl) (And.intro HS.out.drew Q14.out.drew) (fun hHeld=>?_)
  refine hL 1 139 (v:=?_) rfl rfl ?_ ?_
  rotate_left
  ·intro W hW
   go_simp;try with_reducible rfl
  (try simp only [Act.put,pa,pb,pc])
  refine hL 2 140 (v:=?_) rfl rfl ?_ ?_
  rotate_left
  ·intro W hW
   go_simp;try with_reducible rfl
  (try simp only [Act.put,pa,pb,pc])
  refine hL 3 141 (v:=?_) rfl rfl ?_ ?_
  rotate_left
  ·intro W hW
   go_simp;try with_reducible rfl
  (try simp only [Act.put,pa,pb,pc])
  refine hL 4 142 (v:=?_) rfl rfl ?_ ?_
  rotate_left
  ·intro W hW
   go_simp;try with_reducible rfl
  (try simp only [Act.put,pa,pb,pc])
  have cz0:=Q20.out.cell 0 (.int .i64 s.ac.em) rfl
  have cz1:=Q20.out.cell 1 (.int .i64 s.ac.ld) rfl
  have cz2:=Q20.out.cell 2 (.int .i64 s.ac.rs) rfl
  have cz3:=Q20.out.cell 3 (.int .i64 (s.ac.ld - lj)) rfl
  refine wpAnyH_ready (rs:=[0]) (by kernel_rfl) (by simp) ?_
  refine AllReadyH.cons (o:=_) rfl (fun K hK=>?_) AllReadyH.nil
  go_simp
  refine hK.out _ _ hHeld (fun _=>?_)
  clear hK K
  (try simp only [Act.put,pa,pb,pc])
  clear cz0 cz1 cz2 cz3
  refine wpAnyH_ready (rs:=[5]) (by kernel_rfl) (by simp) ?_
  refine AllReadyH.cons (o:=_) rfl (fun K hK=>?_) AllReadyH.nil
  go_simp
  refine (HBN.out _).mono ?_;rintro e2 w12 ⟨rfl,hB⟩
  go_wp2_with fail
  have hNew:=And.intro (hHeld.1.below hB) (hHeld.2.below hB)
  replace Q20:=Lib.hid (Q20.out.below hB)
  clear hB
  refine hK.out _ _ hNew (fun hHeld2=>?_)
  clear hK K hNew hHeld
  have hHeld:=hHeld2
  clear hHeld2
  (try simp only [Act.put,pa,pb,pc])
  iterate 3 (refine hF (L:=_) (v:=?_) rfl rfl ?_ ?_;rotate_left;(intro W hW;go_simp;try with_reducible rfl);try simp only [Act.put,pa,pb,pc,setF])
  have fz:=Q20.out.fr
  have cz0:=Q20.out.cell 0 (.int .i64 s.ac.em) rfl
  have cz1:=Q20.out.cell 1 (.int .i64 s.ac.ld) rfl
  have cz2:=Q20.out.cell 2 (.int .i64 s.ac.rs) rfl
  have cz3:=Q20.out.cell 3 (.int .i64 (s.ac.ld - lj)) rfl
  refine wpAnyH_ready (rs:=[9]) (by kernel_rfl) (by simp) ?_
  refine AllReadyH.cons (o:=_) rfl (fun K hK=>?_) AllReadyH.nil
  go_simp
  have hNew:=And.intro ((((hHeld.1.set HA 0 rA (.int .i64 s.ac.em)).set HA 1 rA (.int .i64 s.ac.ld)).set HA 2 rA (.int .i64 s.ac.rs)).set HA 3 rA (.int .i64 (s.ac.ld - lk))) ((((hHeld.2.other HA 0 (.int .i64 s.ac.em) n14.symm).other HA 1 (.int .i64 s.ac.ld) n14.symm).other HA 2 (.int .i64 s.ac.rs) n14.symm).other HA 3 (.int .i64 (s.ac.ld - lk)) n14.symm)
  refine hK.out _ _ hNew (fun hHeld2=>?_)
  clear hK K hNew hHeld
  have hHeld:=hHeld2
  clear hHeld2
  (try simp only [Act.put,pa,pb,pc])
  refine hL 10 6 (v:=?_) rfl rfl ?_ ?_
  rotate_left
  ·intro W hW
   go_simp;try with_reducible rfl
  (try simp only [Act.put,pa,pb,pc])
  refine wpAnyH_done (by kernel_rfl) ?_ _
  clear fz cz0 cz1 cz2 cz3
  replace HS:=Lib.hid hHeld.1
  replace Q14:=Lib.hid hHeld.2
  replace QA:=Lib.hid (show Has ((((w12.setCell ⟨HA,0,none⟩ (.int .i64 s.ac.em)).setCell ⟨HA,1,none⟩ (.int .i64 s.ac.ld)).setCell ⟨HA,2,none⟩ (.int .i64 s.ac.rs)).setCell ⟨HA,3,none⟩ (.int .i64 (s.ac.ld - lk))) HA (lz4 s.ac.em s.ac.ld s.ac.rs (s.ac.ld - lk)) from ((((Q20.out.set 0 (.int .i64 s.ac.em) (by simp)).set 1 (.int .i64 s.ac.ld) (by simp)).set 2 (.int .i64 s.ac.rs) (by simp)).set 3 (.int .i64 (s.ac.ld - lk)) (by simp)))
  clear hHeld Q20
  generalize ((((w12.setCell ⟨HA,0,none⟩ (.int .i64 s.ac.em)).setCell ⟨HA,1,none⟩ (.int .i64 s.ac.ld)).setCell ⟨HA,2,none⟩ (.int .i64 s.ac.rs)).setCell ⟨HA,3,none⟩ (.int .i64 (s.ac.ld - lk)))=w13 at *
  go_wp2_with fail
  refine held_start (S:=fun W=>BoxS w6 0 [] W∧Has W HA (lz4 s.ac.em s.ac.ld s.ac.rs (s.ac.ld - lk))∧Has W H14 (lzp q.alt q.cas q.tas q.ground q.tick q.fuel q.gl q.gh q.tl q.th q.fl q.fh q.phase)) 43 #[false,false,false,false,false,false,false,false,false,false,false,false,false,false,false,false,false,false,false,false,false,false,false,false,false,false,false,false,false,false,false,false,false,false,false,false,false,false,false,false,false,false,false] rfl rfl (by kernel_rfl) (And.intro HS.out.drew (And.intro QA.out.drew Q14.out.drew)) (fun hHeld=>?_)
  iterate 4 (refine hF (L:=_) (v:=?_) rfl rfl ?_ ?_;rotate_left;(intro W hW;have y0:=hW.2.1.cell 0 (.int .i64 s.ac.em) rfl;have y1:=hW.2.1.cell 1 (.int .i64 s.ac.ld) rfl;have y2:=hW.2.1.cell 2 (.int .i64 s.ac.rs) rfl;have y3:=hW.2.1.cell 3 (.int .i64 (s.ac.ld - lk)) rfl;clear hW;go_simp;try with_reducible rfl);try simp only [Act.put,pa,pb,pc,setF])
  refine hL 5 151 (v:=?_) rfl rfl ?_ ?_
  rotate_left
  ·intro W hW
   go_simp;try with_reducible rfl
  (try simp only [Act.put,pa,pb,pc])
  refine hL 6 152 (v:=?_) rfl rfl ?_ ?_
  rotate_left
  ·intro W hW
   go_simp;try with_reducible rfl
  (try simp only [Act.put,pa,pb,pc])
  refine hL 7 153 (v:=?_) rfl rfl ?_ ?_
  rotate_left
  ·intro W hW
   go_simp;try with_reducible rfl
  (try simp only [Act.put,pa,pb,pc])
  refine hL 8 154 (v:=?_) rfl rfl ?_ ?_
  rotate_left
  ·intro W hW
   have kk:=HCL.out W hW.1;clear hW;go_simp;try with_reducible rfl
  (try simp only [Act.put,pa,pb,pc])
  refine wpAnyH_ready (rs:=[4]) (by kernel_rfl) (by simp) ?_
  refine AllReadyH.cons (o:=_) rfl (fun K hK=>?_) AllReadyH.nil
  go_simp
  refine (HLK.out _).mono ?_;rintro e2 w20 ⟨rfl,hB⟩
  go_wp2_with fail
  have hNew:=And.intro (hHeld.1.below hB) (And.intro (hHeld.2.1.below hB) (hHeld.2.2.below hB))
  clear hB
  refine hK.out _ _ hNew (fun hHeld2=>?_)
  clear hK K hNew hHeld
  have hHeld:=hHeld2
  clear hHeld2
  (try simp only [Act.put,pa,pb,pc])
  iterate 34 (refine hF (L:=_) (v:=?_) rfl rfl ?_ ?_;rotate_left;(intro W hW;have y0:=hW.2.1.cell 3 (.int .i64 (s.ac.ld - lk)) rfl;have y1:=HCL.out W hW.1;have y2:=hW.2.1.cell 1 (.int .i64 s.ac.ld) rfl;have y3:=hW.2.2.cell 10 (.int .i64 q.fl) rfl;have y4:=hW.2.2.cell 11 (.int .i64 q.fh) rfl;clear hW;go_simp;try with_reducible rfl);try simp only [Act.put,pa,pb,pc,setF])
  refine wpAnyH_done (by kernel_rfl) ?_ _
  have HH:=Lib.hid hHeld
  clear hHeld
  go_wp2_with fail
  go_roundw
  case rel=>exact ⟨k+1,by omega,by go_num,rfl,HH.out.1,by rw [show k+1 - 1=k from rfl,HLQ.out];exact HH.out.2.1⟩
  case measure=>simp only [intOf];omega
end Go.Proofs.YtgneijdjlahgbaaGreat
