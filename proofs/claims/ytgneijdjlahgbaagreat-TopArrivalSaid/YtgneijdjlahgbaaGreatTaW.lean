
/- Over the layers: TopArrival, the walk. -/
import Derived.Test.YtgneijdjlahgbaaGreatM35
import Derived.Test.YtgneijdjlahgbaaGreatM33
import Derived.Test.YtgneijdjlahgbaaGreatM21
import Derived.RegionTactic
import Derived.Test.YtgneijdjlahgbaaGreatM37
namespace Go.Proofs.YtgneijdjlahgbaaGreat
set_option maxRecDepth 100000
set_option maxHeartbeats 16000000
set_option linter.unusedSimpArgs false
set_option linter.unusedVariables false
open Go.RowKit
theorem walk_TopArrival_err (s:Stp) (Lw:Option Addr) (nl cl:Nat) (l:List Wea) (w:World) (hl:s.lies w) (hok:s.ok) (hz:runE s≠0):Calls Tryz.prog 3 #[.agg s.cells.toArray,.slice Lw nl cl] w fun e w'=>e=.returned (.bool true)∧Below w.heap.size w w':=by
 have HS:=Lib.hid (boxS1 w s.cells.toArray 35)
 have HAW:=Lib.hid bFlight_ok
 have HR:=Lib.hid (fun W (h:BoxS w 1 [s.cells] W)=>xPRun s W (hl.below h.B) hok)
 have e1:=beq_of hz
 have e2:=bne_of e1
 unfold RunP at HR
 have hNN:∀ n,okN (runE s) n=0:=fun n=>if_neg hz
 simp only [hNN] at HR
 generalize runE s=E at *
 generalize (runC s).1=x at *
 generalize (runC s).2=y at *
 generalize runS s=bb at *
 clear hl hok hz hNN
 go_enter Tryz.func3,Tryz.ntmps3
 go_wp2_with fail
 refine (HAW.out _).mono ?_;rintro e' w1 ⟨rfl,hB⟩
 replace HS:=Lib.hid (HS.out.below hB)
 clear hB HAW
 go_wp2_with (refine at_stp (.tmp 2) rfl rfl rfl (HS.out.has 0 _ rfl) ?_)
 refine (HR.out _ HS.out).mono ?_;rintro e' w2 ⟨A,c,rfl,-,-,hB⟩
 replace HS:=Lib.hid (HS.out.below hB)
 clear hB HR
 have Q5:Hid (Has ((w2.alloc (.cells #[.slice A 0 c,.int .i64 x,.int .i64 y,.bool bb] 42))) w2.heap.size [.slice A 0 c,.int .i64 x,.int .i64 y,.bool bb]):=Lib.hid (Has.new _ _ _)
 have r5:w.heap.size+1≤w2.heap.size:=HS.out.sz
 replace HS:=Lib.hid ((HS.out.alloc (.cells #[.slice A 0 c,.int .i64 x,.int .i64 y,.bool bb] 42)))
 have c5_0:=Q5.out.cell 0 (.slice A 0 c) rfl
 go_wp2_with fail
 go_ret
 exact ⟨ret_tt_ta (by simp),HS.out.B⟩
theorem walk_TopArrival (s:Stp) (Lw:Option Addr) (nl cl:Nat) (l:List Wea) (w:World) (hl:s.lies w) (hok:s.ok) (hw:Recs Wea.cells 4 w Lw nl l) (hwo:∀ x ∈ l,x.ok) (hnl:nl≤maxLen) (_:nl * 24≤reachBytes):Calls Tryz.prog 3 #[.agg s.cells.toArray,.slice Lw nl cl] w fun e w'=>e=.returned (.bool true)∧Below w.heap.size w w':=by
 by_cases hz:runE s=0
 rotate_left
 ·exact walk_TopArrival_err s Lw nl cl l w hl hok hz
 have HS:=Lib.hid (boxS1 w s.cells.toArray 35)
 have HAW:=Lib.hid bFlight_ok
 have HW3:=Lib.hid (fun W (h:BoxS w 1 [s.cells] W)=>run_p (hl.below h.B) hok hz)
 have N:=StN.of hl
 obtain ⟨R,-⟩:=run_good N hz
 have hno:=N.no
 have hn2:=no_len R.G N
 have hWS:=bw_in R.G N l
 have HBW:=Lib.hid (fun W (h:BoxS w 1 [s.cells] W)=>xBWinds s Lw nl cl l W (hl.below h.B) hok R.su (hw.below h.B) hwo hnl)
 unfold BwPo at HBW
 have HFL:=Lib.hid (fl_ok N R (ws:=bwL s l) (by rw [bwL_len];omega) hWS)
 have HFY:=Lib.hid (fun W (h:BoxS w 1 [s.cells] W) bp op c A2 n2 c2 (hps:Passes W (some ⟨bp,op,none⟩) s.sno.n (wtL s (altL s) (pnL s))) (hws:Pairs W A2 n2 (bwL s l)) (hn2:n2≤maxLen)=>xPFly s (some ⟨bp,op,none⟩) A2 s.sno.n c n2 c2 0 0 false (wtL s (altL s) (pnL s)) (bwL s l) W (hl.below h.B) hok hps hws hok.no hn2)
 unfold FlyP at HFY
 rw [HFL.out.e] at HFY
 simp only [okN_0,okL_0] at HFY
 have HNO:=Lib.hid hno
 have i1:2≤s.sno.n:=by omega
 have i2:s.sno.n≤64:=by omega
 have hn1:s.no.length - 1≤maxLen:=by unfold maxLen;omega
 have HWT:=Lib.hid (fun k (hk:k<s.no.length)=>wtL_get (s:=s) (al:=altL s) (sp:=pnL s) hk)
 have HFG:=Lib.hid (fun k (hk:k<s.no.length)=>And.intro (HFL.out.get hk).1 (ta_n HFL.out hk))
 clear hl hok hno hn2 hz hw hwo hnl hWS N R
 go_enter Tryz.func3,Tryz.ntmps3
 go_wp2_with fail
 refine (HAW.out _).mono ?_;rintro e' w1 ⟨rfl,hB⟩
 replace HS:=Lib.hid (HS.out.below hB)
 clear hB HAW
 go_wp2_with (refine at_stp (.tmp 2) rfl rfl rfl (HS.out.has 0 _ rfl) ?_)
 refine (HW3.out _ HS.out).mono ?_;rintro e' w2 ⟨bp,op,c,rfl,hC,hB⟩
 have HC:=Lib.hid hC
 replace HS:=Lib.hid (HS.out.below hB)
 clear hB hC HW3
 have Q5:Hid (Has ((w2.alloc (.cells #[.slice (some ⟨bp,op,none⟩) s.sno.n c,.int .i64 0,.int .i64 0,.bool false] 42))) w2.heap.size [.slice (some ⟨bp,op,none⟩) s.sno.n c,.int .i64 0,.int .i64 0,.bool false]):=Lib.hid (Has.new _ _ _)
 have r5:w.heap.size+1≤w2.heap.size:=HS.out.sz
 replace HS:=Lib.hid ((HS.out.alloc (.cells #[.slice (some ⟨bp,op,none⟩) s.sno.n c,.int .i64 0,.int .i64 0,.bool false] 42)))
 replace HC:=Lib.hid (HC.out.below (below_alloc1 w2 (.cells #[.slice (some ⟨bp,op,none⟩) s.sno.n c,.int .i64 0,.int .i64 0,.bool false] 42)))
 go_wp2_with (refine at_stp (.tmp 2) rfl rfl rfl (HS.out.has 0 _ rfl) ?_)
 generalize (w2.alloc (.cells #[.slice (some ⟨bp,op,none⟩) s.sno.n c,.int .i64 0,.int .i64 0,.bool false] 42))=w3 at *
 generalize w2.heap.size=H5 at *
 refine (HBW.out _ HS.out).mono ?_;rintro e' w4 ⟨A4,c4,rfl,hI4,hB⟩
 have I4:=Lib.hid hI4
 replace HC:=Lib.hid (HC.out.below hB)
 replace HS:=Lib.hid (HS.out.below hB)
 replace Q5:=Lib.hid (Q5.out.below hB)
 clear hB hI4 HBW
 have c5_0:=Q5.out.cell 0 (.slice (some ⟨bp,op,none⟩) s.sno.n c) rfl
 have c5_1:=Q5.out.cell 1 (.int .i64 0) rfl
 have c5_2:=Q5.out.cell 2 (.int .i64 0) rfl
 have c5_3:=Q5.out.cell 3 (.bool false) rfl
 go_wp2_with (refine at_stp (.tmp 2) rfl rfl rfl (HS.out.has 0 _ rfl) ?_)
 clear c5_0 c5_1 c5_2 c5_3
 refine (HFY.out _ HS.out _ _ _ _ _ _ HC.out I4.out hn1).mono ?_;rintro e' w6 ⟨A6,c6,A7,c7,rfl,hT,hLf,hB⟩
 replace HC:=Lib.hid (HC.out.below hB)
 replace HS:=Lib.hid (HS.out.below hB)
 replace Q5:=Lib.hid (Q5.out.below hB)
 obtain ⟨a6,f6,rfl⟩:=int_A7 hT (by have:=HNO.out;omega)
 obtain ⟨a7,f7,rfl⟩:=int_A7 hLf (by have:=HNO.out;omega)
 have HT:=Lib.hid hT
 have HF:=Lib.hid hLf
 clear hT hLf hB HFY I4 hn1
 rw [HNO.out] at HT HF
 have HY:=Lib.hid (fun W (h:BoxS w6 0 [] W)=>HS.out.below h.B)
 have HY5:=Lib.hid (fun W (h:BoxS w6 0 [] W)=>(Q5.out.below h.B).cell 0 _ rfl)
 have z5:=HY5.out _ (boxS0w w6)
 rw [HNO.out]
 go_wp2_with fail
 clear z5
 go_loopw [65] (fun t wr=>TaR s.sno.n w6 t wr) (fun t _=>s.sno.n - (intOf t).toNat)
 case atStart=>exact ⟨0,by omega,rfl,boxS0w _⟩
 case round =>
  obtain ⟨k,hk,rfl,hs⟩:=hrel
  have HR:=Lib.hid hs
  clear hs
  by_cases hlt:k<s.sno.n
  rotate_left
  ·have hlt':¬ (k:Int)<(s.sno.n:Int):=by omega
   go_wp2_with fail
   go_ret
   exact ⟨rfl,(HY.out _ HR.out).B⟩
  have hlt':(k:Int)<(s.sno.n:Int):=by omega
  have hk0:(0:Int)≤(k:Int):=by omega
  have hg:IntKind.i64.wrap ((k:Int)+1)=(k:Int)+1:=IntWalk.i64_in _ (by omega)
  have hkn:k<s.no.length:=by have:=HNO.out;omega
  obtain ⟨gT,gN⟩:=HFG.out k hkn
  have hp1:=HWT.out k hkn
  have gt:=gN.t
  have q6:=int_at7 HT.out gT
  have HC6:=Lib.hid (fun W (h:BoxS w6 0 [] W)=>(h.B.cell (p:=⟨a6,f6+k,none⟩) q6.1).trans q6.2)
  generalize flTi s (altL s) (pnL s) (bwL s l) k=ti at *
  generalize psP s (altL s) (pnL s) k=q at *
  have hp5:=Passes.at (s:=s) HC.out hp1
  have hcr:=fun j u hj=>(HR.out.B.cell (p:=⟨bp,op+k * 13+j,none⟩) hp5.1).trans (hp5.2 j u hj)
  have p0:wr.cell? ⟨bp,op+k * 13,none⟩=some (.int .i64 q.alt):=hcr 0 _ rfl
  have p1:wr.cell? ⟨bp,op+k * 13+1,none⟩=some (.int .i64 q.cas):=hcr 1 _ rfl
  have p2:wr.cell? ⟨bp,op+k * 13+2,none⟩=some (.int .i64 q.tas):=hcr 2 _ rfl
  have p3:wr.cell? ⟨bp,op+k * 13+3,none⟩=some (.int .i64 q.ground):=hcr 3 _ rfl
  have p4:wr.cell? ⟨bp,op+k * 13+4,none⟩=some (.int .i64 q.tick):=hcr 4 _ rfl
  have p5:wr.cell? ⟨bp,op+k * 13+5,none⟩=some (.int .i64 q.fuel):=hcr 5 _ rfl
  have p6:wr.cell? ⟨bp,op+k * 13+6,none⟩=some (.int .i64 q.gl):=hcr 6 _ rfl
  have p7:wr.cell? ⟨bp,op+k * 13+7,none⟩=some (.int .i64 q.gh):=hcr 7 _ rfl
  have p8:wr.cell? ⟨bp,op+k * 13+8,none⟩=some (.int .i64 q.tl):=hcr 8 _ rfl
  have p9:wr.cell? ⟨bp,op+k * 13+9,none⟩=some (.int .i64 q.th):=hcr 9 _ rfl
  have p10:wr.cell? ⟨bp,op+k * 13+10,none⟩=some (.int .i64 q.fl):=hcr 10 _ rfl
  have p11:wr.cell? ⟨bp,op+k * 13+11,none⟩=some (.int .i64 q.fh):=hcr 11 _ rfl
  have p12:wr.cell? ⟨bp,op+k * 13+12,none⟩=some (.int .u8 q.phase):=hcr 12 _ rfl
  have d1:decide (ti<q.tl)=false:=decide_eq_false (by omega)
  have d2:decide (q.th<ti)=false:=decide_eq_false (by omega)
  clear hcr hp5 hp1 gt gN gT q6 hkn HS Q5
  have HS:=HR
  clear HR
  have Q12:Hid (Has ((wr.alloc (.cells #[.int .i64 q.alt,.int .i64 q.cas,.int .i64 q.tas,.int .i64 q.ground,.int .i64 q.tick,.int .i64 q.fuel,.int .i64 q.gl,.int .i64 q.gh,.int .i64 q.tl,.int .i64 q.th,.int .i64 q.fl,.int .i64 q.fh,.int .u8 q.phase] 53))) wr.heap.size (lzp q.alt q.cas q.tas q.ground q.tick q.fuel q.gl q.gh q.tl q.th q.fl q.fh q.phase)):=Lib.hid (Has.new _ _ _)
  have r12:w6.heap.size+0≤wr.heap.size:=HS.out.sz
  replace HS:=Lib.hid ((HS.out.alloc (.cells #[.int .i64 q.alt,.int .i64 q.cas,.int .i64 q.tas,.int .i64 q.ground,.int .i64 q.tick,.int .i64 q.fuel,.int .i64 q.gl,.int .i64 q.gh,.int .i64 q.tl,.int .i64 q.th,.int .i64 q.fl,.int .i64 q.fh,.int .u8 q.phase] 53)))
  go_wp2_with fail
  clear p0 p1 p2 p3 p4 p5 p6 p7 p8 p9 p10 p11 p12
  generalize (wr.alloc (.cells #[.int .i64 q.alt,.int .i64 q.cas,.int .i64 q.tas,.int .i64 q.ground,.int .i64 q.tick,.int .i64 q.fuel,.int .i64 q.gl,.int .i64 q.gh,.int .i64 q.tl,.int .i64 q.th,.int .i64 q.fl,.int .i64 q.fh,.int .u8 q.phase] 53))=w7 at *
  generalize wr.heap.size=H12 at *
  refine held_start (S:=fun W=>BoxS w6 0 [] W∧Has W H12 (lzp q.alt q.cas q.tas q.ground q.tick q.fuel q.gl q.gh q.tl q.th q.fl q.fh q.phase)) 18 #[false,false,false,false,false,false,false,false,false,false,false,false,false,false,false,false,false,false] rfl rfl (by kernel_rfl) ((And.intro (HS.out.drew) (Q12.out.drew))) (fun hHeld=>?_)
  iterate 18 (refine hF (L:=_) (v:=?_) rfl rfl ?_ ?_;rotate_left;(intro W hW;have y0:=HC6.out W hW.1;have y1:=hW.2.cell 8 (.int .i64 q.tl) rfl;have y2:=hW.2.cell 9 (.int .i64 q.th) rfl;clear hW;go_simp;try with_reducible rfl);try simp only [Act.put,pa,pb,pc,setF])
  refine wpAnyH_done (by kernel_rfl) ?_ _
  replace HS:=Lib.hid (hHeld.1)
  replace Q12:=Lib.hid (hHeld.2)
  clear hHeld
  go_wp2_with fail
  go_roundw
  case rel=>exact ⟨k+1,by omega,by go_num,HS.out⟩
  case measure=>simp only [intOf];omega
end Go.Proofs.YtgneijdjlahgbaaGreat
