
/- Layer 37: PredictMeets, the walk. -/
import Derived.Test.YtgneijdjlahgbaaGreatRunN
import Derived.RegionTactic
namespace Go.Proofs.YtgneijdjlahgbaaGreat
set_option maxRecDepth 100000
set_option maxHeartbeats 16000000
set_option linter.unusedSimpArgs false
set_option linter.unusedVariables false
open Go.RowKit
def MeRel (n:Nat) (w3:World) (t:Value) (wr:World):Prop:=∃ k:Nat,k≤n∧t=.int .i64 (k:Int)∧BoxS w3 0 [] wr
structure MeF (s:Stp) (k:Nat) (p:Pass):Prop where
 lo:(nodA s k).a0≤p.alt
 hi:p.alt≤(nodA s k).a1
 lv:p.alt≤s.lv
 slo:(nodA s k).s0≤p.cas
 shi:p.cas≤(nodA s k).s1
 cas:p.cas≤s.cas
 lim:p.alt<s.la→p.cas≤s.ls
 pe:pcE s.pf p.alt 1=0
 mx:p.cas≤mxsV s.pf p.alt
 c0:0≤p.cas∧p.cas≤1000
theorem me_f {s:Stp} (N:StN s) (R:RnG s) {k:Nat} (hk:k<s.no.length):MeF s k (psP s (altL s) (pnL s) k):=by
 obtain ⟨e1,e2⟩:=psP_alt (s:=s) (altL s) (pnL s) k
 have a:=R.al.win k hk
 have b:=R.sp.bd R.G N hk
 have c:=R.al.bd R.G N hk
 have hp:=pcE_ok (mass:=1) R.G.pf c (by omega)
 constructor <;> (try rw [e1]) <;> (try rw [e2]) <;> first | omega | exact hp | exact b.2.2.2.2.2.2
structure MeS (s:Stp) (k:Nat) (p q:Pass):Prop where
 up:(q.cas - p.cas) * 6000≤s.acc * (nodA s (k+1)).di
 dn:(p.cas - q.cas) * 6000≤s.dec * (nodA s (k+1)).di
 ti:p.tick≤q.tick
 fu:q.fuel≤p.fuel
 f0:0≤q.fuel
theorem me_s {s:Stp} (N:StN s) (R:RnG s) {k:Nat} (hk:k+1<s.no.length):MeS s k (psP s (altL s) (pnL s) k) (psP s (altL s) (pnL s) (k+1)):=by
 obtain ⟨e1,e2⟩:=psP_alt (s:=s) (altL s) (pnL s) k
 obtain ⟨f1,f2⟩:=psP_alt (s:=s) (altL s) (pnL s) (k+1)
 have a:=sp_step R.G R.al.len R.sp hk
 have b:=ps_step R.G N hk (R.at hk)
 exact ⟨by rw [e2,f2];exact a.1,by rw [e2,f2];exact a.2,b.1,b.2.1,b.2.2.1⟩
theorem walk_PredictMeets (s:Stp) (w:World) (hl:s.lies w) (hok:s.ok):Calls Tryz.prog 5 #[.agg s.cells.toArray] w fun e w'=>e=.returned (.bool true)∧Below w.heap.size w w':=by
 have HS:=Lib.hid (boxS1 w s.cells.toArray 35)
 have HAW:=Lib.hid awake37
 have HR:=Lib.hid (fun W (h:BoxS w 1 [s.cells] W)=>xPRun s W (hl.below h.B) hok)
 have N:=StN.of hl
 by_cases hz:runE s=0
 rotate_left
 ·have e1:=beq_of hz
  have e2:=bne_of e1
  unfold RunP at HR
  have hNN:∀ n,okN (runE s) n=0:=fun n=>if_neg hz
  simp only [hNN] at HR
  generalize runE s=E at *
  generalize (runC s).1=x at *
  generalize (runC s).2=y at *
  generalize runS s=bb at *
  clear hl hok N hz hNN
  go_enter Tryz.func5,Tryz.ntmps5
  go_wp2_with fail
  refine (HAW.out _).mono ?_;rintro e' w1 ⟨rfl,hB⟩
  replace HS:=Lib.hid (HS.out.below hB)
  clear hB HAW
  go_wp2_with (refine at_stp (.tmp 1) rfl rfl rfl (HS.out.has 0 _ rfl) ?_)
  refine (HR.out _ HS.out).mono ?_;rintro e' w2 ⟨A,c,rfl,-,-,hB⟩
  have HB:=Lib.hid (bel_alloc1 (bel_trans HS.out.B hB) (.cells #[.slice A 0 c,.int .i64 x,.int .i64 y,.bool bb] 42))
  clear hB
  go_wp2_with fail
  go_ret
  exact ⟨rfl,HB.out⟩
 have HW3:=Lib.hid (fun W (h:BoxS w 1 [s.cells] W)=>run_n (hl.below h.B) hok hz)
 obtain ⟨R,-⟩:=run_good N hz
 have hno:=N.no
 have hn2:=no_len R.G N
 obtain ⟨b,off,hA⟩:=su_A hl (by omega)
 have HNS:=Lib.hid (fun W (h:BoxS w 1 [s.cells] W)=>show W.cell? ⟨w.heap.size,0,none⟩=some (.slice (some ⟨b,off,none⟩) s.sno.n s.sno.c) from su_sl (h.has 0 _ rfl) hA)
 have HND:=Lib.hid (fun W (h:BoxS w 1 [s.cells] W) k (hk:k<s.no.length)=>su_nd (hl.below h.B) hA hk)
 have HM:=Lib.hid (fun W (h:BoxS w 1 [s.cells] W) a (ha:pcE s.pf a 1=0)=>show Calls Tryz.prog 22 #[.agg s.pf.cells.toArray,.int .i64 a] W fun e w'=>e=.returned (.tuple #[.int .i64 (mxsV s.pf a),.int .i64 0])∧Below W.heap.size W w' from by
  have h1:=xMaxSpeed s.pf a W (hl.below h.B).pf hok.pf
  rwa [ha] at h1)
 have HF:=Lib.hid (fun k (hk:k<s.no.length)=>me_f N R hk)
 have HQ:=Lib.hid (fun k (hk:k+1<s.no.length)=>me_s N R hk)
 have HDI:=Lib.hid (fun k (hk:k<s.no.length)=>(nod_good R.G N hk).di)
 have HAD:=Lib.hid (And.intro R.G.acc R.G.dec)
 have HNO:=Lib.hid hno
 have hn0:s.sno.n≤64:=R.G.n2.2
 have hn1:2≤s.sno.n:=R.G.n2.1
 clear hl hok N R hA hno hn2 HR hz
 go_enter Tryz.func5,Tryz.ntmps5
 go_wp2_with fail
 refine (HAW.out _).mono ?_;rintro e' w1 ⟨rfl,hB⟩
 replace HS:=Lib.hid (HS.out.below hB)
 clear hB HAW
 go_wp2_with (refine at_stp (.tmp 1) rfl rfl rfl (HS.out.has 0 _ rfl) ?_)
 refine (HW3.out _ HS.out).mono ?_;rintro e' w2 ⟨bp,op,c,rfl,hC,hB⟩
 have HC:=Lib.hid hC
 replace HS:=Lib.hid (HS.out.below hB)
 clear hB hC HW3
 have Q3:Hid (Has ((w2.alloc (.cells #[.slice (some ⟨bp,op,none⟩) s.sno.n c,.int .i64 0,.int .i64 0,.bool false] 42))) w2.heap.size [.slice (some ⟨bp,op,none⟩) s.sno.n c,.int .i64 0,.int .i64 0,.bool false]):=Lib.hid (Has.new _ _ _)
 have r3:w.heap.size+1≤w2.heap.size:=HS.out.sz
 replace HS:=Lib.hid ((HS.out.alloc (.cells #[.slice (some ⟨bp,op,none⟩) s.sno.n c,.int .i64 0,.int .i64 0,.bool false] 42)))
 have HC3:=Lib.hid (fun W (h:Below (w2.alloc (.cells #[.slice (some ⟨bp,op,none⟩) s.sno.n c,.int .i64 0,.int .i64 0,.bool false] 42)).heap.size (w2.alloc (.cells #[.slice (some ⟨bp,op,none⟩) s.sno.n c,.int .i64 0,.int .i64 0,.bool false] 42)) W)=>HC.out W ((below_alloc1 w2 _).trans (h.mono (below_alloc1 w2 _).size)))
 clear HC
 have k0:=HNS.out _ HS.out
 have k1:=Q3.out.cell 0 _ rfl
 go_wp2_with fail
 clear k0 k1
 generalize (w2.alloc (.cells #[.slice (some ⟨bp,op,none⟩) s.sno.n c,.int .i64 0,.int .i64 0,.bool false] 42))=w3 at *
 generalize w2.heap.size=H3 at *
 have HY:=Lib.hid (fun W (h:BoxS w3 0 [] W)=>HS.out.below h.B)
 have HZ:=Lib.hid (fun W (h:BoxS w3 0 [] W)=>Q3.out.below h.B)
 go_loopw [35] (fun t wr=>MeRel s.sno.n w3 t wr) (fun t _=>s.sno.n - (intOf t).toNat)
 case atStart=>exact ⟨0,by omega,rfl,boxS0 _⟩
 case round =>
  clear HS Q3
  obtain ⟨k,hk,rfl,hs⟩:=hrel
  have HS:=Lib.hid hs
  clear hs
  by_cases hlt:k<s.sno.n
  rotate_left
  ·have hlt':¬ (k:Int)<(s.sno.n:Int):=by omega
   go_wp2_with fail
   go_ret
   exact ⟨rfl,(HY.out _ HS.out).B⟩
  have hlt':(k:Int)<(s.sno.n:Int):=by omega
  have hk64:(k:Int)<64:=by omega
  have hkk:k<s.no.length:=by have:=HNO.out;omega
  have hcp:=HC3.out _ HS.out.B k hkk
  have hf:=HF.out k hkk
  have HPV:=Lib.hid (fun m (hm:m+1=k) W (h:BoxS w3 0 [] W)=>HC3.out W h.B m (by omega))
  have HQV:=Lib.hid (fun m (hm:m+1=k)=>show MeS s m (psP s (altL s) (pnL s) m) (psP s (altL s) (pnL s) k) from hm ▸ HQ.out m (by omega))
  have hdi:=HDI.out k hkk
  have HNK:=Lib.hid (fun W (h:BoxS w3 0 [] W)=>HND.out W (HY.out W h) k hkk)
  generalize psP s (altL s) (pnL s) k=p at *
  obtain ⟨f1,f2,f3,f4,f5,f6,f7,f8,f9,f10,f11⟩:=hf
  have p0:wr.cell? ⟨bp,op+k * 13,none⟩=some (.int .i64 p.alt):=hcp 0 _ rfl
  have p1:wr.cell? ⟨bp,op+k * 13+1,none⟩=some (.int .i64 p.cas):=hcp 1 _ rfl
  have p2:wr.cell? ⟨bp,op+k * 13+2,none⟩=some (.int .i64 p.tas):=hcp 2 _ rfl
  have p3:wr.cell? ⟨bp,op+k * 13+3,none⟩=some (.int .i64 p.ground):=hcp 3 _ rfl
  have p4:wr.cell? ⟨bp,op+k * 13+4,none⟩=some (.int .i64 p.tick):=hcp 4 _ rfl
  have p5:wr.cell? ⟨bp,op+k * 13+5,none⟩=some (.int .i64 p.fuel):=hcp 5 _ rfl
  have p6:wr.cell? ⟨bp,op+k * 13+6,none⟩=some (.int .i64 p.gl):=hcp 6 _ rfl
  have p7:wr.cell? ⟨bp,op+k * 13+7,none⟩=some (.int .i64 p.gh):=hcp 7 _ rfl
  have p8:wr.cell? ⟨bp,op+k * 13+8,none⟩=some (.int .i64 p.tl):=hcp 8 _ rfl
  have p9:wr.cell? ⟨bp,op+k * 13+9,none⟩=some (.int .i64 p.th):=hcp 9 _ rfl
  have p10:wr.cell? ⟨bp,op+k * 13+10,none⟩=some (.int .i64 p.fl):=hcp 10 _ rfl
  have p11:wr.cell? ⟨bp,op+k * 13+11,none⟩=some (.int .i64 p.fh):=hcp 11 _ rfl
  have p12:wr.cell? ⟨bp,op+k * 13+12,none⟩=some (.int .u8 p.phase):=hcp 12 _ rfl
  clear hcp
  have n0:(wr.alloc (.cells #[.int .i64 p.alt,.int .i64 p.cas,.int .i64 p.tas,.int .i64 p.ground,.int .i64 p.tick,.int .i64 p.fuel,.int .i64 p.gl,.int .i64 p.gh,.int .i64 p.tl,.int .i64 p.th,.int .i64 p.fl,.int .i64 p.fh,.int .u8 p.phase] 53)).cell? ⟨w.heap.size,0,none⟩=some (.slice (some ⟨b,off,none⟩) s.sno.n s.sno.c):=HNS.out _ (HY.out _ (HS.out.alloc _))
  have HNV:=Lib.hid (HNK.out _ (HS.out.alloc (.cells #[.int .i64 p.alt,.int .i64 p.cas,.int .i64 p.tas,.int .i64 p.ground,.int .i64 p.tick,.int .i64 p.fuel,.int .i64 p.gl,.int .i64 p.gh,.int .i64 p.tl,.int .i64 p.th,.int .i64 p.fl,.int .i64 p.fh,.int .u8 p.phase] 53)))
  obtain ⟨n1,n2,n3,n4,n5,n6,n7⟩:=HNV.out
  clear HNV
  have Q6:Hid (Has ((wr.alloc (.cells #[.int .i64 p.alt,.int .i64 p.cas,.int .i64 p.tas,.int .i64 p.ground,.int .i64 p.tick,.int .i64 p.fuel,.int .i64 p.gl,.int .i64 p.gh,.int .i64 p.tl,.int .i64 p.th,.int .i64 p.fl,.int .i64 p.fh,.int .u8 p.phase] 53)).alloc (.cells #[.int .i64 (nodA s k).px,.int .i64 (nodA s k).py,.int .i64 (nodA s k).di,.int .i64 (nodA s k).a0,.int .i64 (nodA s k).a1,.int .i64 (nodA s k).s0,.int .i64 (nodA s k).s1] 60)) wr.heap.size (lzp p.alt p.cas p.tas p.ground p.tick p.fuel p.gl p.gh p.tl p.th p.fl p.fh p.phase)):=Lib.hid ((Has.new _ _ _).alloc (.cells #[.int .i64 (nodA s k).px,.int .i64 (nodA s k).py,.int .i64 (nodA s k).di,.int .i64 (nodA s k).a0,.int .i64 (nodA s k).a1,.int .i64 (nodA s k).s0,.int .i64 (nodA s k).s1] 60))
  have Q7:Hid (Has ((wr.alloc (.cells #[.int .i64 p.alt,.int .i64 p.cas,.int .i64 p.tas,.int .i64 p.ground,.int .i64 p.tick,.int .i64 p.fuel,.int .i64 p.gl,.int .i64 p.gh,.int .i64 p.tl,.int .i64 p.th,.int .i64 p.fl,.int .i64 p.fh,.int .u8 p.phase] 53)).alloc (.cells #[.int .i64 (nodA s k).px,.int .i64 (nodA s k).py,.int .i64 (nodA s k).di,.int .i64 (nodA s k).a0,.int .i64 (nodA s k).a1,.int .i64 (nodA s k).s0,.int .i64 (nodA s k).s1] 60)) (wr.heap.size+1) (lz7 ((nodA s k).px) ((nodA s k).py) ((nodA s k).di) ((nodA s k).a0) ((nodA s k).a1) ((nodA s k).s0) ((nodA s k).s1))):=Lib.hid (Has.newAt _ _ _ _ (by simp))
  have r6:w3.heap.size+0≤wr.heap.size:=HS.out.sz
  have r7:w3.heap.size+0≤wr.heap.size+1:=Nat.le_succ_of_le HS.out.sz
  have n6_7:wr.heap.size≠wr.heap.size+1:=by omega
  replace HS:=Lib.hid ((HS.out.alloc (.cells #[.int .i64 p.alt,.int .i64 p.cas,.int .i64 p.tas,.int .i64 p.ground,.int .i64 p.tick,.int .i64 p.fuel,.int .i64 p.gl,.int .i64 p.gh,.int .i64 p.tl,.int .i64 p.th,.int .i64 p.fl,.int .i64 p.fh,.int .u8 p.phase] 53)).alloc (.cells #[.int .i64 (nodA s k).px,.int .i64 (nodA s k).py,.int .i64 (nodA s k).di,.int .i64 (nodA s k).a0,.int .i64 (nodA s k).a1,.int .i64 (nodA s k).s0,.int .i64 (nodA s k).s1] 60))
  have s29:((wr.alloc (.cells #[.int .i64 p.alt,.int .i64 p.cas,.int .i64 p.tas,.int .i64 p.ground,.int .i64 p.tick,.int .i64 p.fuel,.int .i64 p.gl,.int .i64 p.gh,.int .i64 p.tl,.int .i64 p.th,.int .i64 p.fl,.int .i64 p.fh,.int .u8 p.phase] 53)).alloc (.cells #[.int .i64 (nodA s k).px,.int .i64 (nodA s k).py,.int .i64 (nodA s k).di,.int .i64 (nodA s k).a0,.int .i64 (nodA s k).a1,.int .i64 (nodA s k).s0,.int .i64 (nodA s k).s1] 60)).cell? ⟨w.heap.size,29,none⟩=some (.int .i64 s.lv):=su_lv ((HY.out _ HS.out).has 0 _ rfl)
  have s30:((wr.alloc (.cells #[.int .i64 p.alt,.int .i64 p.cas,.int .i64 p.tas,.int .i64 p.ground,.int .i64 p.tick,.int .i64 p.fuel,.int .i64 p.gl,.int .i64 p.gh,.int .i64 p.tl,.int .i64 p.th,.int .i64 p.fl,.int .i64 p.fh,.int .u8 p.phase] 53)).alloc (.cells #[.int .i64 (nodA s k).px,.int .i64 (nodA s k).py,.int .i64 (nodA s k).di,.int .i64 (nodA s k).a0,.int .i64 (nodA s k).a1,.int .i64 (nodA s k).s0,.int .i64 (nodA s k).s1] 60)).cell? ⟨w.heap.size,30,none⟩=some (.int .i64 s.cas):=su_cas ((HY.out _ HS.out).has 0 _ rfl)
  have s32:((wr.alloc (.cells #[.int .i64 p.alt,.int .i64 p.cas,.int .i64 p.tas,.int .i64 p.ground,.int .i64 p.tick,.int .i64 p.fuel,.int .i64 p.gl,.int .i64 p.gh,.int .i64 p.tl,.int .i64 p.th,.int .i64 p.fl,.int .i64 p.fh,.int .u8 p.phase] 53)).alloc (.cells #[.int .i64 (nodA s k).px,.int .i64 (nodA s k).py,.int .i64 (nodA s k).di,.int .i64 (nodA s k).a0,.int .i64 (nodA s k).a1,.int .i64 (nodA s k).s0,.int .i64 (nodA s k).s1] 60)).cell? ⟨w.heap.size,32,none⟩=some (.int .i64 s.acc):=su_acc ((HY.out _ HS.out).has 0 _ rfl)
  have s33:((wr.alloc (.cells #[.int .i64 p.alt,.int .i64 p.cas,.int .i64 p.tas,.int .i64 p.ground,.int .i64 p.tick,.int .i64 p.fuel,.int .i64 p.gl,.int .i64 p.gh,.int .i64 p.tl,.int .i64 p.th,.int .i64 p.fl,.int .i64 p.fh,.int .u8 p.phase] 53)).alloc (.cells #[.int .i64 (nodA s k).px,.int .i64 (nodA s k).py,.int .i64 (nodA s k).di,.int .i64 (nodA s k).a0,.int .i64 (nodA s k).a1,.int .i64 (nodA s k).s0,.int .i64 (nodA s k).s1] 60)).cell? ⟨w.heap.size,33,none⟩=some (.int .i64 s.dec):=su_dec ((HY.out _ HS.out).has 0 _ rfl)
  have s34:((wr.alloc (.cells #[.int .i64 p.alt,.int .i64 p.cas,.int .i64 p.tas,.int .i64 p.ground,.int .i64 p.tick,.int .i64 p.fuel,.int .i64 p.gl,.int .i64 p.gh,.int .i64 p.tl,.int .i64 p.th,.int .i64 p.fl,.int .i64 p.fh,.int .u8 p.phase] 53)).alloc (.cells #[.int .i64 (nodA s k).px,.int .i64 (nodA s k).py,.int .i64 (nodA s k).di,.int .i64 (nodA s k).a0,.int .i64 (nodA s k).a1,.int .i64 (nodA s k).s0,.int .i64 (nodA s k).s1] 60)).cell? ⟨w.heap.size,34,none⟩=some (.int .i64 s.la):=su_la ((HY.out _ HS.out).has 0 _ rfl)
  have s35:((wr.alloc (.cells #[.int .i64 p.alt,.int .i64 p.cas,.int .i64 p.tas,.int .i64 p.ground,.int .i64 p.tick,.int .i64 p.fuel,.int .i64 p.gl,.int .i64 p.gh,.int .i64 p.tl,.int .i64 p.th,.int .i64 p.fl,.int .i64 p.fh,.int .u8 p.phase] 53)).alloc (.cells #[.int .i64 (nodA s k).px,.int .i64 (nodA s k).py,.int .i64 (nodA s k).di,.int .i64 (nodA s k).a0,.int .i64 (nodA s k).a1,.int .i64 (nodA s k).s0,.int .i64 (nodA s k).s1] 60)).cell? ⟨w.heap.size,35,none⟩=some (.int .i64 s.ls):=su_ls ((HY.out _ HS.out).has 0 _ rfl)
  have c6_0:=Q6.out.cell 0 (.int .i64 p.alt) rfl
  have c6_1:=Q6.out.cell 1 (.int .i64 p.cas) rfl
  have c6_2:=Q6.out.cell 2 (.int .i64 p.tas) rfl
  have c6_3:=Q6.out.cell 3 (.int .i64 p.ground) rfl
  have c6_4:=Q6.out.cell 4 (.int .i64 p.tick) rfl
  have c6_5:=Q6.out.cell 5 (.int .i64 p.fuel) rfl
  have c6_6:=Q6.out.cell 6 (.int .i64 p.gl) rfl
  have c6_7:=Q6.out.cell 7 (.int .i64 p.gh) rfl
  have c6_8:=Q6.out.cell 8 (.int .i64 p.tl) rfl
  have c6_9:=Q6.out.cell 9 (.int .i64 p.th) rfl
  have c6_10:=Q6.out.cell 10 (.int .i64 p.fl) rfl
  have c6_11:=Q6.out.cell 11 (.int .i64 p.fh) rfl
  have c6_12:=Q6.out.cell 12 (.int .u8 p.phase) rfl
  have c7_0:=Q7.out.cell 0 (.int .i64 (nodA s k).px) rfl
  have c7_1:=Q7.out.cell 1 (.int .i64 (nodA s k).py) rfl
  have c7_2:=Q7.out.cell 2 (.int .i64 (nodA s k).di) rfl
  have c7_3:=Q7.out.cell 3 (.int .i64 (nodA s k).a0) rfl
  have c7_4:=Q7.out.cell 4 (.int .i64 (nodA s k).a1) rfl
  have c7_5:=Q7.out.cell 5 (.int .i64 (nodA s k).s0) rfl
  have c7_6:=Q7.out.cell 6 (.int .i64 (nodA s k).s1) rfl
  have HLIM:=Lib.hid f7
  have HMX:=Lib.hid (fun W (h:BoxS w3 0 [] W)=>HM.out W (HY.out W h) p.alt f8)
  clear f7 f8
  by_cases hla:p.alt<s.la
  ·have g1:=HLIM.out hla
   go_wp2_with (refine at_spf (.tmp 104) rfl rfl rfl ((HY.out _ HS.out).has 0 _ rfl) ?_)
   clear p0 p1 p2 p3 p4 p5 p6 p7 p8 p9 p10 p11 p12 n0 n1 n2 n3 n4 n5 n6 n7 s29 s30 s32 s33 s34 s35
   clear c6_0 c6_1 c6_2 c6_3 c6_4 c6_5 c6_6 c6_7 c6_8 c6_9 c6_10 c6_11 c6_12 c7_0 c7_1 c7_2 c7_3 c7_4 c7_5 c7_6
   generalize ((wr.alloc (.cells #[.int .i64 p.alt,.int .i64 p.cas,.int .i64 p.tas,.int .i64 p.ground,.int .i64 p.tick,.int .i64 p.fuel,.int .i64 p.gl,.int .i64 p.gh,.int .i64 p.tl,.int .i64 p.th,.int .i64 p.fl,.int .i64 p.fh,.int .u8 p.phase] 53)).alloc (.cells #[.int .i64 (nodA s k).px,.int .i64 (nodA s k).py,.int .i64 (nodA s k).di,.int .i64 (nodA s k).a0,.int .i64 (nodA s k).a1,.int .i64 (nodA s k).s0,.int .i64 (nodA s k).s1] 60))=w5 at *
   generalize wr.heap.size+1=H7 at *
   generalize wr.heap.size=H6 at *
   refine (HMX.out _ HS.out).mono ?_;rintro e' w6 ⟨rfl,hB⟩
   replace HS:=Lib.hid (HS.out.below hB)
   replace Q6:=Lib.hid (Q6.out.below hB)
   replace Q7:=Lib.hid (Q7.out.below hB)
   clear hB
   have c6_1:=Q6.out.cell 1 (.int .i64 p.cas) rfl
   by_cases hk0:k=0
   ·have i0:¬ (0:Int)<(k:Int):=by omega
    go_wp2_with fail
    go_roundw
    case rel=>exact ⟨k+1,by omega,by go_num,HS.out⟩
    case measure=>simp only [intOf];omega
   obtain ⟨m,hm⟩:∃ m,m+1=k:=⟨k - 1,by omega⟩
   have i0:(0:Int)<(k:Int):=by omega
   have i1:(0:Int)≤(m:Int):=by omega
   have i2:(m:Int)<(s.sno.n:Int):=by omega
   have w1:IntKind.i64.wrap ((k:Int) - 1)=(m:Int):=by rw [IntWalk.i64_in _ (by omega)];omega
   have hq:=HQV.out m hm
   have hfm:=(HF.out m (by have:=HNO.out;omega)).c0
   have HPM:=Lib.hid (fun W (h:BoxS w3 0 [] W)=>HPV.out m hm W h)
   generalize psP s (altL s) (pnL s) m=q at *
   obtain ⟨q1,q2,q3,q4,q5⟩:=hq
   rw [hm] at q1 q2
   have had:=HAD.out
   generalize hdi2:(nodA s k).di=di at *
   clear hdi2
   have wa:0≤s.acc * di∧s.acc * di≤1000 * 8000000:=⟨Int.mul_nonneg had.1.1 hdi.1,Int.mul_le_mul had.1.2 hdi.2 hdi.1 (by decide)⟩
   have wd:0≤s.dec * di∧s.dec * di≤1000 * 8000000:=⟨Int.mul_nonneg had.2.1 hdi.1,Int.mul_le_mul had.2.2 hdi.2 hdi.1 (by decide)⟩
   have v1:IntKind.i64.wrap (p.cas - q.cas)=p.cas - q.cas:=IntWalk.i64_in _ (by omega)
   have v2:IntKind.i64.wrap ((p.cas - q.cas) * 6000)=(p.cas - q.cas) * 6000:=IntWalk.i64_in _ (by omega)
   have v3:IntKind.i64.wrap (s.acc * di)=s.acc * di:=IntWalk.i64_in _ (by omega)
   have v4:IntKind.i64.wrap (q.cas - p.cas)=q.cas - p.cas:=IntWalk.i64_in _ (by omega)
   have v5:IntKind.i64.wrap ((q.cas - p.cas) * 6000)=(q.cas - p.cas) * 6000:=IntWalk.i64_in _ (by omega)
   have v6:IntKind.i64.wrap (s.dec * di)=s.dec * di:=IntWalk.i64_in _ (by omega)
   have HV:=Lib.hid (And.intro v1 (And.intro v2 (And.intro v3 (And.intro v4 (And.intro v5 (And.intro v6 (And.intro q1 (And.intro q2 (And.intro q3 (And.intro q4 q5))))))))))
   clear v1 v2 v3 v4 v5 v6 q1 q2 q3 q4 q5 wa wd hfm had hm
   go_wp2_with fail
   refine held_start (S:=fun W=>BoxS w3 0 [] W∧Has W H6 (lzp p.alt p.cas p.tas p.ground p.tick p.fuel p.gl p.gh p.tl p.th p.fl p.fh p.phase)∧Has W H7 (lz7 ((nodA s k).px) ((nodA s k).py) di ((nodA s k).a0) ((nodA s k).a1) ((nodA s k).s0) ((nodA s k).s1))) 11 #[false,false,false,false,false,false,false,false,false,false,false] rfl rfl (by kernel_rfl) ((And.intro (HS.out.drew) ((And.intro (Q6.out.drew) (Q7.out.drew))))) (fun hHeld=>?_)
   refine hL 0 121 (v:=?_) rfl rfl ?_ ?_
   rotate_left
   ·intro W hW
    go_simp;try with_reducible rfl
   (try simp only [Act.put,pa,pb,pc])
   refine hL 1 122 (v:=?_) rfl rfl ?_ ?_
   rotate_left
   ·intro W hW
    have kk0:=hW.2.2.cell 2 (.int .i64 di) rfl;clear hW;go_simp;try with_reducible rfl
   (try simp only [Act.put,pa,pb,pc])
   refine hL 2 123 (v:=?_) rfl rfl ?_ ?_
   rotate_left
   ·intro W hW
    go_simp;try with_reducible rfl
   (try simp only [Act.put,pa,pb,pc])
   refine hL 3 124 (v:=?_) rfl rfl ?_ ?_
   rotate_left
   ·intro W hW
    have kk:=(HZ.out W hW.1).cell 0 _ rfl;clear hW;go_simp;try with_reducible rfl
   (try simp only [Act.put,pa,pb,pc])
   refine hL 4 125 (v:=?_) rfl rfl ?_ ?_
   rotate_left
   ·intro W hW
    go_simp;try with_reducible rfl
   (try simp only [Act.put,pa,pb,pc])
   refine hL 5 126 (v:=?_) rfl rfl ?_ ?_
   rotate_left
   ·intro W hW
    go_simp;try with_reducible rfl
   (try simp only [Act.put,pa,pb,pc])
   refine hL 6 127 (v:=?_) rfl rfl ?_ ?_
   rotate_left
   ·intro W hW
    go_simp;try with_reducible rfl
   (try simp only [Act.put,pa,pb,pc])
   refine hL 7 128 (v:=?_) rfl rfl ?_ ?_
   rotate_left
   ·intro W hW
    have kk0:=show W.cell? ⟨bp,op+m * 13,none⟩=some (.int .i64 q.alt) from HPM.out W hW.1 0 (.int .i64 q.alt) rfl;have kk1:=show W.cell? ⟨bp,op+m * 13+1,none⟩=some (.int .i64 q.cas) from HPM.out W hW.1 1 (.int .i64 q.cas) rfl;have kk2:=show W.cell? ⟨bp,op+m * 13+2,none⟩=some (.int .i64 q.tas) from HPM.out W hW.1 2 (.int .i64 q.tas) rfl;have kk3:=show W.cell? ⟨bp,op+m * 13+3,none⟩=some (.int .i64 q.ground) from HPM.out W hW.1 3 (.int .i64 q.ground) rfl;have kk4:=show W.cell? ⟨bp,op+m * 13+4,none⟩=some (.int .i64 q.tick) from HPM.out W hW.1 4 (.int .i64 q.tick) rfl;have kk5:=show W.cell? ⟨bp,op+m * 13+5,none⟩=some (.int .i64 q.fuel) from HPM.out W hW.1 5 (.int .i64 q.fuel) rfl;have kk6:=show W.cell? ⟨bp,op+m * 13+6,none⟩=some (.int .i64 q.gl) from HPM.out W hW.1 6 (.int .i64 q.gl) rfl;have kk7:=show W.cell? ⟨bp,op+m * 13+7,none⟩=some (.int .i64 q.gh) from HPM.out W hW.1 7 (.int .i64 q.gh) rfl;have kk8:=show W.cell? ⟨bp,op+m * 13+8,none⟩=some (.int .i64 q.tl) from HPM.out W hW.1 8 (.int .i64 q.tl) rfl;have kk9:=show W.cell? ⟨bp,op+m * 13+9,none⟩=some (.int .i64 q.th) from HPM.out W hW.1 9 (.int .i64 q.th) rfl;have kk10:=show W.cell? ⟨bp,op+m * 13+10,none⟩=some (.int .i64 q.fl) from HPM.out W hW.1 10 (.int .i64 q.fl) rfl;have kk11:=show W.cell? ⟨bp,op+m * 13+11,none⟩=some (.int .i64 q.fh) from HPM.out W hW.1 11 (.int .i64 q.fh) rfl;have kk12:=show W.cell? ⟨bp,op+m * 13+12,none⟩=some (.int .u8 q.phase) from HPM.out W hW.1 12 (.int .u8 q.phase) rfl;clear hW;go_simp;try with_reducible rfl
   (try simp only [Act.put,pa,pb,pc])
   refine wpAnyH_ready (rs:=[8]) (by kernel_rfl) (by simp) ?_
   refine AllReadyH.cons (o:=_) rfl (fun K hK=>?_) AllReadyH.nil
   go_simp
   have hNew:=(And.intro (hHeld.1.alloc (.cells #[.int .i64 0,.int .i64 0,.int .i64 0,.int .i64 0,.int .i64 0,.int .i64 0,.int .i64 0,.int .i64 0,.int .i64 0,.int .i64 0,.int .i64 0,.int .i64 0,.int .u8 0] 53)) ((And.intro (hHeld.2.1.alloc (.cells #[.int .i64 0,.int .i64 0,.int .i64 0,.int .i64 0,.int .i64 0,.int .i64 0,.int .i64 0,.int .i64 0,.int .i64 0,.int .i64 0,.int .i64 0,.int .i64 0,.int .u8 0] 53)) (hHeld.2.2.alloc (.cells #[.int .i64 0,.int .i64 0,.int .i64 0,.int .i64 0,.int .i64 0,.int .i64 0,.int .i64 0,.int .i64 0,.int .i64 0,.int .i64 0,.int .i64 0,.int .i64 0,.int .u8 0] 53)))))
   refine hK.out _ _ hNew (fun hHeld2=>?_)
   clear hK K hNew hHeld
   have hHeld:=hHeld2
   clear hHeld2
   (try simp only [Act.put,pa,pb,pc])
   refine hL 9 10 (v:=?_) rfl rfl ?_ ?_
   rotate_left
   ·intro W hW
    go_simp;try with_reducible rfl
   (try simp only [Act.put,pa,pb,pc])
   refine wpAnyH_ready (rs:=[10]) (by kernel_rfl) (by simp) ?_
   refine AllReadyH.cons (o:=_) rfl (fun K hK=>?_) AllReadyH.nil
   go_simp
   have hNew:=(And.intro ((HS.out.alloc (.cells #[.int .i64 q.alt,.int .i64 q.cas,.int .i64 q.tas,.int .i64 q.ground,.int .i64 q.tick,.int .i64 q.fuel,.int .i64 q.gl,.int .i64 q.gh,.int .i64 q.tl,.int .i64 q.th,.int .i64 q.fl,.int .i64 q.fh,.int .u8 q.phase] 53)).drew) ((And.intro ((Q6.out.alloc (.cells #[.int .i64 q.alt,.int .i64 q.cas,.int .i64 q.tas,.int .i64 q.ground,.int .i64 q.tick,.int .i64 q.fuel,.int .i64 q.gl,.int .i64 q.gh,.int .i64 q.tl,.int .i64 q.th,.int .i64 q.fl,.int .i64 q.fh,.int .u8 q.phase] 53)).drew) ((Q7.out.alloc (.cells #[.int .i64 q.alt,.int .i64 q.cas,.int .i64 q.tas,.int .i64 q.ground,.int .i64 q.tick,.int .i64 q.fuel,.int .i64 q.gl,.int .i64 q.gh,.int .i64 q.tl,.int .i64 q.th,.int .i64 q.fl,.int .i64 q.fh,.int .u8 q.phase] 53)).drew))))
   refine hK.out _ _ hNew (fun hHeld2=>?_)
   clear hK K hNew hHeld
   have hHeld:=hHeld2
   clear hHeld2
   (try simp only [Act.put,pa,pb,pc])
   refine wpAnyH_done (by kernel_rfl) ?_ _
   clear hHeld
   have Q11:Hid (Has ((w6.alloc (.cells #[.int .i64 q.alt,.int .i64 q.cas,.int .i64 q.tas,.int .i64 q.ground,.int .i64 q.tick,.int .i64 q.fuel,.int .i64 q.gl,.int .i64 q.gh,.int .i64 q.tl,.int .i64 q.th,.int .i64 q.fl,.int .i64 q.fh,.int .u8 q.phase] 53)).drew) w6.heap.size (lzp q.alt q.cas q.tas q.ground q.tick q.fuel q.gl q.gh q.tl q.th q.fl q.fh q.phase)):=Lib.hid (Has.new _ _ _).drew
   have r11:w3.heap.size+0≤w6.heap.size:=HS.out.sz
   have n6_11:H6≠w6.heap.size:=by have:=Q6.out.lt;omega
   have n7_11:H7≠w6.heap.size:=by have:=Q7.out.lt;omega
   replace HS:=Lib.hid ((HS.out.alloc (.cells #[.int .i64 q.alt,.int .i64 q.cas,.int .i64 q.tas,.int .i64 q.ground,.int .i64 q.tick,.int .i64 q.fuel,.int .i64 q.gl,.int .i64 q.gh,.int .i64 q.tl,.int .i64 q.th,.int .i64 q.fl,.int .i64 q.fh,.int .u8 q.phase] 53)).drew)
   replace Q6:=Lib.hid ((Q6.out.alloc (.cells #[.int .i64 q.alt,.int .i64 q.cas,.int .i64 q.tas,.int .i64 q.ground,.int .i64 q.tick,.int .i64 q.fuel,.int .i64 q.gl,.int .i64 q.gh,.int .i64 q.tl,.int .i64 q.th,.int .i64 q.fl,.int .i64 q.fh,.int .u8 q.phase] 53)).drew)
   replace Q7:=Lib.hid ((Q7.out.alloc (.cells #[.int .i64 q.alt,.int .i64 q.cas,.int .i64 q.tas,.int .i64 q.ground,.int .i64 q.tick,.int .i64 q.fuel,.int .i64 q.gl,.int .i64 q.gh,.int .i64 q.tl,.int .i64 q.th,.int .i64 q.fl,.int .i64 q.fh,.int .u8 q.phase] 53)).drew)
   generalize (w6.alloc (.cells #[.int .i64 q.alt,.int .i64 q.cas,.int .i64 q.tas,.int .i64 q.ground,.int .i64 q.tick,.int .i64 q.fuel,.int .i64 q.gl,.int .i64 q.gh,.int .i64 q.tl,.int .i64 q.th,.int .i64 q.fl,.int .i64 q.fh,.int .u8 q.phase] 53)).drew=w7 at *
   generalize w6.heap.size=H11 at *
   obtain ⟨v1,v2,v3,v4,v5,v6,q1,q2,q3,q4,q5⟩:=HV.out
   clear c6_1
   have c6_1:=Q6.out.cell 1 (.int .i64 p.cas) rfl
   have c6_4:=Q6.out.cell 4 (.int .i64 p.tick) rfl
   have c6_5:=Q6.out.cell 5 (.int .i64 p.fuel) rfl
   have c11_1:=Q11.out.cell 1 (.int .i64 q.cas) rfl
   have c11_4:=Q11.out.cell 4 (.int .i64 q.tick) rfl
   have c11_5:=Q11.out.cell 5 (.int .i64 q.fuel) rfl
   have sa:w7.cell? ⟨w.heap.size,32,none⟩=some (.int .i64 s.acc):=su_acc ((HY.out _ HS.out).has 0 _ rfl)
   have sd:w7.cell? ⟨w.heap.size,33,none⟩=some (.int .i64 s.dec):=su_dec ((HY.out _ HS.out).has 0 _ rfl)
   go_wp2_with fail
   go_roundw
   case rel=>exact ⟨k+1,by omega,by go_num,HS.out⟩
   case measure=>simp only [intOf];omega
  ·go_wp2_with (refine at_spf (.tmp 104) rfl rfl rfl ((HY.out _ HS.out).has 0 _ rfl) ?_)
   clear p0 p1 p2 p3 p4 p5 p6 p7 p8 p9 p10 p11 p12 n0 n1 n2 n3 n4 n5 n6 n7 s29 s30 s32 s33 s34 s35
   clear c6_0 c6_1 c6_2 c6_3 c6_4 c6_5 c6_6 c6_7 c6_8 c6_9 c6_10 c6_11 c6_12 c7_0 c7_1 c7_2 c7_3 c7_4 c7_5 c7_6
   generalize ((wr.alloc (.cells #[.int .i64 p.alt,.int .i64 p.cas,.int .i64 p.tas,.int .i64 p.ground,.int .i64 p.tick,.int .i64 p.fuel,.int .i64 p.gl,.int .i64 p.gh,.int .i64 p.tl,.int .i64 p.th,.int .i64 p.fl,.int .i64 p.fh,.int .u8 p.phase] 53)).alloc (.cells #[.int .i64 (nodA s k).px,.int .i64 (nodA s k).py,.int .i64 (nodA s k).di,.int .i64 (nodA s k).a0,.int .i64 (nodA s k).a1,.int .i64 (nodA s k).s0,.int .i64 (nodA s k).s1] 60))=w5 at *
   generalize wr.heap.size+1=H7 at *
   generalize wr.heap.size=H6 at *
   refine (HMX.out _ HS.out).mono ?_;rintro e' w6 ⟨rfl,hB⟩
   replace HS:=Lib.hid (HS.out.below hB)
   replace Q6:=Lib.hid (Q6.out.below hB)
   replace Q7:=Lib.hid (Q7.out.below hB)
   clear hB
   have c6_1:=Q6.out.cell 1 (.int .i64 p.cas) rfl
   by_cases hk0:k=0
   ·have i0:¬ (0:Int)<(k:Int):=by omega
    go_wp2_with fail
    go_roundw
    case rel=>exact ⟨k+1,by omega,by go_num,HS.out⟩
    case measure=>simp only [intOf];omega
   obtain ⟨m,hm⟩:∃ m,m+1=k:=⟨k - 1,by omega⟩
   have i0:(0:Int)<(k:Int):=by omega
   have i1:(0:Int)≤(m:Int):=by omega
   have i2:(m:Int)<(s.sno.n:Int):=by omega
   have w1:IntKind.i64.wrap ((k:Int) - 1)=(m:Int):=by rw [IntWalk.i64_in _ (by omega)];omega
   have hq:=HQV.out m hm
   have hfm:=(HF.out m (by have:=HNO.out;omega)).c0
   have HPM:=Lib.hid (fun W (h:BoxS w3 0 [] W)=>HPV.out m hm W h)
   generalize psP s (altL s) (pnL s) m=q at *
   obtain ⟨q1,q2,q3,q4,q5⟩:=hq
   rw [hm] at q1 q2
   have had:=HAD.out
   generalize hdi2:(nodA s k).di=di at *
   clear hdi2
   have wa:0≤s.acc * di∧s.acc * di≤1000 * 8000000:=⟨Int.mul_nonneg had.1.1 hdi.1,Int.mul_le_mul had.1.2 hdi.2 hdi.1 (by decide)⟩
   have wd:0≤s.dec * di∧s.dec * di≤1000 * 8000000:=⟨Int.mul_nonneg had.2.1 hdi.1,Int.mul_le_mul had.2.2 hdi.2 hdi.1 (by decide)⟩
   have v1:IntKind.i64.wrap (p.cas - q.cas)=p.cas - q.cas:=IntWalk.i64_in _ (by omega)
   have v2:IntKind.i64.wrap ((p.cas - q.cas) * 6000)=(p.cas - q.cas) * 6000:=IntWalk.i64_in _ (by omega)
   have v3:IntKind.i64.wrap (s.acc * di)=s.acc * di:=IntWalk.i64_in _ (by omega)
   have v4:IntKind.i64.wrap (q.cas - p.cas)=q.cas - p.cas:=IntWalk.i64_in _ (by omega)
   have v5:IntKind.i64.wrap ((q.cas - p.cas) * 6000)=(q.cas - p.cas) * 6000:=IntWalk.i64_in _ (by omega)
   have v6:IntKind.i64.wrap (s.dec * di)=s.dec * di:=IntWalk.i64_in _ (by omega)
   have HV:=Lib.hid (And.intro v1 (And.intro v2 (And.intro v3 (And.intro v4 (And.intro v5 (And.intro v6 (And.intro q1 (And.intro q2 (And.intro q3 (And.intro q4 q5))))))))))
   clear v1 v2 v3 v4 v5 v6 q1 q2 q3 q4 q5 wa wd hfm had hm
   go_wp2_with fail
   refine held_start (S:=fun W=>BoxS w3 0 [] W∧Has W H6 (lzp p.alt p.cas p.tas p.ground p.tick p.fuel p.gl p.gh p.tl p.th p.fl p.fh p.phase)∧Has W H7 (lz7 ((nodA s k).px) ((nodA s k).py) di ((nodA s k).a0) ((nodA s k).a1) ((nodA s k).s0) ((nodA s k).s1))) 11 #[false,false,false,false,false,false,false,false,false,false,false] rfl rfl (by kernel_rfl) ((And.intro (HS.out.drew) ((And.intro (Q6.out.drew) (Q7.out.drew))))) (fun hHeld=>?_)
   refine hL 0 121 (v:=?_) rfl rfl ?_ ?_
   rotate_left
   ·intro W hW
    go_simp;try with_reducible rfl
   (try simp only [Act.put,pa,pb,pc])
   refine hL 1 122 (v:=?_) rfl rfl ?_ ?_
   rotate_left
   ·intro W hW
    have kk0:=hW.2.2.cell 2 (.int .i64 di) rfl;clear hW;go_simp;try with_reducible rfl
   (try simp only [Act.put,pa,pb,pc])
   refine hL 2 123 (v:=?_) rfl rfl ?_ ?_
   rotate_left
   ·intro W hW
    go_simp;try with_reducible rfl
   (try simp only [Act.put,pa,pb,pc])
   refine hL 3 124 (v:=?_) rfl rfl ?_ ?_
   rotate_left
   ·intro W hW
    have kk:=(HZ.out W hW.1).cell 0 _ rfl;clear hW;go_simp;try with_reducible rfl
   (try simp only [Act.put,pa,pb,pc])
   refine hL 4 125 (v:=?_) rfl rfl ?_ ?_
   rotate_left
   ·intro W hW
    go_simp;try with_reducible rfl
   (try simp only [Act.put,pa,pb,pc])
   refine hL 5 126 (v:=?_) rfl rfl ?_ ?_
   rotate_left
   ·intro W hW
    go_simp;try with_reducible rfl
   (try simp only [Act.put,pa,pb,pc])
   refine hL 6 127 (v:=?_) rfl rfl ?_ ?_
   rotate_left
   ·intro W hW
    go_simp;try with_reducible rfl
   (try simp only [Act.put,pa,pb,pc])
   refine hL 7 128 (v:=?_) rfl rfl ?_ ?_
   rotate_left
   ·intro W hW
    have kk0:=show W.cell? ⟨bp,op+m * 13,none⟩=some (.int .i64 q.alt) from HPM.out W hW.1 0 (.int .i64 q.alt) rfl;have kk1:=show W.cell? ⟨bp,op+m * 13+1,none⟩=some (.int .i64 q.cas) from HPM.out W hW.1 1 (.int .i64 q.cas) rfl;have kk2:=show W.cell? ⟨bp,op+m * 13+2,none⟩=some (.int .i64 q.tas) from HPM.out W hW.1 2 (.int .i64 q.tas) rfl;have kk3:=show W.cell? ⟨bp,op+m * 13+3,none⟩=some (.int .i64 q.ground) from HPM.out W hW.1 3 (.int .i64 q.ground) rfl;have kk4:=show W.cell? ⟨bp,op+m * 13+4,none⟩=some (.int .i64 q.tick) from HPM.out W hW.1 4 (.int .i64 q.tick) rfl;have kk5:=show W.cell? ⟨bp,op+m * 13+5,none⟩=some (.int .i64 q.fuel) from HPM.out W hW.1 5 (.int .i64 q.fuel) rfl;have kk6:=show W.cell? ⟨bp,op+m * 13+6,none⟩=some (.int .i64 q.gl) from HPM.out W hW.1 6 (.int .i64 q.gl) rfl;have kk7:=show W.cell? ⟨bp,op+m * 13+7,none⟩=some (.int .i64 q.gh) from HPM.out W hW.1 7 (.int .i64 q.gh) rfl;have kk8:=show W.cell? ⟨bp,op+m * 13+8,none⟩=some (.int .i64 q.tl) from HPM.out W hW.1 8 (.int .i64 q.tl) rfl;have kk9:=show W.cell? ⟨bp,op+m * 13+9,none⟩=some (.int .i64 q.th) from HPM.out W hW.1 9 (.int .i64 q.th) rfl;have kk10:=show W.cell? ⟨bp,op+m * 13+10,none⟩=some (.int .i64 q.fl) from HPM.out W hW.1 10 (.int .i64 q.fl) rfl;have kk11:=show W.cell? ⟨bp,op+m * 13+11,none⟩=some (.int .i64 q.fh) from HPM.out W hW.1 11 (.int .i64 q.fh) rfl;have kk12:=show W.cell? ⟨bp,op+m * 13+12,none⟩=some (.int .u8 q.phase) from HPM.out W hW.1 12 (.int .u8 q.phase) rfl;clear hW;go_simp;try with_reducible rfl
   (try simp only [Act.put,pa,pb,pc])
   refine wpAnyH_ready (rs:=[8]) (by kernel_rfl) (by simp) ?_
   refine AllReadyH.cons (o:=_) rfl (fun K hK=>?_) AllReadyH.nil
   go_simp
   have hNew:=(And.intro (hHeld.1.alloc (.cells #[.int .i64 0,.int .i64 0,.int .i64 0,.int .i64 0,.int .i64 0,.int .i64 0,.int .i64 0,.int .i64 0,.int .i64 0,.int .i64 0,.int .i64 0,.int .i64 0,.int .u8 0] 53)) ((And.intro (hHeld.2.1.alloc (.cells #[.int .i64 0,.int .i64 0,.int .i64 0,.int .i64 0,.int .i64 0,.int .i64 0,.int .i64 0,.int .i64 0,.int .i64 0,.int .i64 0,.int .i64 0,.int .i64 0,.int .u8 0] 53)) (hHeld.2.2.alloc (.cells #[.int .i64 0,.int .i64 0,.int .i64 0,.int .i64 0,.int .i64 0,.int .i64 0,.int .i64 0,.int .i64 0,.int .i64 0,.int .i64 0,.int .i64 0,.int .i64 0,.int .u8 0] 53)))))
   refine hK.out _ _ hNew (fun hHeld2=>?_)
   clear hK K hNew hHeld
   have hHeld:=hHeld2
   clear hHeld2
   (try simp only [Act.put,pa,pb,pc])
   refine hL 9 10 (v:=?_) rfl rfl ?_ ?_
   rotate_left
   ·intro W hW
    go_simp;try with_reducible rfl
   (try simp only [Act.put,pa,pb,pc])
   refine wpAnyH_ready (rs:=[10]) (by kernel_rfl) (by simp) ?_
   refine AllReadyH.cons (o:=_) rfl (fun K hK=>?_) AllReadyH.nil
   go_simp
   have hNew:=(And.intro ((HS.out.alloc (.cells #[.int .i64 q.alt,.int .i64 q.cas,.int .i64 q.tas,.int .i64 q.ground,.int .i64 q.tick,.int .i64 q.fuel,.int .i64 q.gl,.int .i64 q.gh,.int .i64 q.tl,.int .i64 q.th,.int .i64 q.fl,.int .i64 q.fh,.int .u8 q.phase] 53)).drew) ((And.intro ((Q6.out.alloc (.cells #[.int .i64 q.alt,.int .i64 q.cas,.int .i64 q.tas,.int .i64 q.ground,.int .i64 q.tick,.int .i64 q.fuel,.int .i64 q.gl,.int .i64 q.gh,.int .i64 q.tl,.int .i64 q.th,.int .i64 q.fl,.int .i64 q.fh,.int .u8 q.phase] 53)).drew) ((Q7.out.alloc (.cells #[.int .i64 q.alt,.int .i64 q.cas,.int .i64 q.tas,.int .i64 q.ground,.int .i64 q.tick,.int .i64 q.fuel,.int .i64 q.gl,.int .i64 q.gh,.int .i64 q.tl,.int .i64 q.th,.int .i64 q.fl,.int .i64 q.fh,.int .u8 q.phase] 53)).drew))))
   refine hK.out _ _ hNew (fun hHeld2=>?_)
   clear hK K hNew hHeld
   have hHeld:=hHeld2
   clear hHeld2
   (try simp only [Act.put,pa,pb,pc])
   refine wpAnyH_done (by kernel_rfl) ?_ _
   clear hHeld
   have Q11:Hid (Has ((w6.alloc (.cells #[.int .i64 q.alt,.int .i64 q.cas,.int .i64 q.tas,.int .i64 q.ground,.int .i64 q.tick,.int .i64 q.fuel,.int .i64 q.gl,.int .i64 q.gh,.int .i64 q.tl,.int .i64 q.th,.int .i64 q.fl,.int .i64 q.fh,.int .u8 q.phase] 53)).drew) w6.heap.size (lzp q.alt q.cas q.tas q.ground q.tick q.fuel q.gl q.gh q.tl q.th q.fl q.fh q.phase)):=Lib.hid (Has.new _ _ _).drew
   have r11:w3.heap.size+0≤w6.heap.size:=HS.out.sz
   have n6_11:H6≠w6.heap.size:=by have:=Q6.out.lt;omega
   have n7_11:H7≠w6.heap.size:=by have:=Q7.out.lt;omega
   replace HS:=Lib.hid ((HS.out.alloc (.cells #[.int .i64 q.alt,.int .i64 q.cas,.int .i64 q.tas,.int .i64 q.ground,.int .i64 q.tick,.int .i64 q.fuel,.int .i64 q.gl,.int .i64 q.gh,.int .i64 q.tl,.int .i64 q.th,.int .i64 q.fl,.int .i64 q.fh,.int .u8 q.phase] 53)).drew)
   replace Q6:=Lib.hid ((Q6.out.alloc (.cells #[.int .i64 q.alt,.int .i64 q.cas,.int .i64 q.tas,.int .i64 q.ground,.int .i64 q.tick,.int .i64 q.fuel,.int .i64 q.gl,.int .i64 q.gh,.int .i64 q.tl,.int .i64 q.th,.int .i64 q.fl,.int .i64 q.fh,.int .u8 q.phase] 53)).drew)
   replace Q7:=Lib.hid ((Q7.out.alloc (.cells #[.int .i64 q.alt,.int .i64 q.cas,.int .i64 q.tas,.int .i64 q.ground,.int .i64 q.tick,.int .i64 q.fuel,.int .i64 q.gl,.int .i64 q.gh,.int .i64 q.tl,.int .i64 q.th,.int .i64 q.fl,.int .i64 q.fh,.int .u8 q.phase] 53)).drew)
   generalize (w6.alloc (.cells #[.int .i64 q.alt,.int .i64 q.cas,.int .i64 q.tas,.int .i64 q.ground,.int .i64 q.tick,.int .i64 q.fuel,.int .i64 q.gl,.int .i64 q.gh,.int .i64 q.tl,.int .i64 q.th,.int .i64 q.fl,.int .i64 q.fh,.int .u8 q.phase] 53)).drew=w7 at *
   generalize w6.heap.size=H11 at *
   obtain ⟨v1,v2,v3,v4,v5,v6,q1,q2,q3,q4,q5⟩:=HV.out
   clear c6_1
   have c6_1:=Q6.out.cell 1 (.int .i64 p.cas) rfl
   have c6_4:=Q6.out.cell 4 (.int .i64 p.tick) rfl
   have c6_5:=Q6.out.cell 5 (.int .i64 p.fuel) rfl
   have c11_1:=Q11.out.cell 1 (.int .i64 q.cas) rfl
   have c11_4:=Q11.out.cell 4 (.int .i64 q.tick) rfl
   have c11_5:=Q11.out.cell 5 (.int .i64 q.fuel) rfl
   have sa:w7.cell? ⟨w.heap.size,32,none⟩=some (.int .i64 s.acc):=su_acc ((HY.out _ HS.out).has 0 _ rfl)
   have sd:w7.cell? ⟨w.heap.size,33,none⟩=some (.int .i64 s.dec):=su_dec ((HY.out _ HS.out).has 0 _ rfl)
   go_wp2_with fail
   go_roundw
   case rel=>exact ⟨k+1,by omega,by go_num,HS.out⟩
   case measure=>simp only [intOf];omega
end Go.Proofs.YtgneijdjlahgbaaGreat
