
/- Layer 37: PredictEncloses, the walk. -/
import Derived.Test.YtgneijdjlahgbaaGreatM15
import Derived.RegionTactic
namespace Go.Proofs.YtgneijdjlahgbaaGreat
set_option maxRecDepth 100000
set_option maxHeartbeats 16000000
set_option linter.unusedSimpArgs false
set_option linter.unusedVariables false
open Go.RowKit
theorem infoWind:(Tryz.prog.info? 87).map (fun i=>(i.zero,i.size,i.bytes))=some (some (.agg #[.int .i64 0,.int .i64 0]),2,16):=by kernel_rfl
def EnM (n:Nat) (w3:World) (t:Value) (wr:World):Prop:=∃ k:Nat,k≤n∧t=.int .i64 (k:Int)∧BoxS w3 0 [] wr
def EnR (s:Stp) (pk:List Int) (B:World) (v t:Value) (wr:World):Prop:=∃ k:Nat,k+1≤s.no.length∧t=.int .i64 (k:Int)∧BoxS B 0 [] wr∧Ow win 2 87 B.heap.size ((enL s pk).take k) v wr
theorem ret_tt_en {v:Bool} (h:v=true):Ending.returned (.bool v)=.returned (.bool true):=by rw [h]
structure EnN (s:Stp) (p:Pass) (t l:Int):Prop where
 t:p.tl≤t∧t≤p.th
 l:p.fl≤l∧l≤p.fh
 t':p.tl≤p.tick∧p.tick≤p.th
 l':p.fl≤p.fuel∧p.fuel≤p.fh
theorem fl_n {s:Stp} {ws:Cs.Wins} (h:FlO s ws) {k:Nat} (hk:k<s.no.length):EnN s (psP s (altL s) (pnL s) k) (flTi s (altL s) (pnL s) ws k) (flLe s (altL s) (pnL s) ws k) :=
 ⟨(h.i k hk).t,(h.i k hk).f,(h.i k hk).t',(h.i k hk).f'⟩
theorem walk_En_err (s:Stp) (Pk:Option Addr) (np cp:Nat) (pk:List Int) (w:World) (hl:s.lies w) (hok:s.ok) (hz:runE s≠0):Calls Tryz.prog 8 #[.agg s.cells.toArray,.slice Pk np cp] w fun e w'=>e=.returned (.bool true)∧Below w.heap.size w w':=by
 have HS:=Lib.hid (boxS1 w s.cells.toArray 35)
 have HAW:=Lib.hid awake37
 have HR:=Lib.hid (fun W (h:BoxS w 1 [s.cells] W)=>xPRun s W (hl.below h.B) hok)
 have HBO:=Lib.hid (fun W (h:BoxS w 1 [s.cells] W)=>xPBoxes s W (hl.below h.B) hok)
 have e1:=beq_of hz
 have e2:=bne_of e1
 unfold RunP at HR
 have hNN:∀ n,okN (runE s) n=0:=fun n=>if_neg hz
 simp only [hNN] at HR
 generalize runE s=E at *
 generalize (runC s).1=x at *
 generalize (runC s).2=y at *
 generalize runS s=bb at *
 clear hl hok hz hNN
 go_enter Tryz.func8,Tryz.ntmps8
 go_wp2_with fail
 refine (HAW.out _).mono ?_;rintro e' w1 ⟨rfl,hB⟩
 replace HS:=Lib.hid (HS.out.below hB)
 clear hB HAW
 go_wp2_with (refine at_stp (.tmp 2) rfl rfl rfl (HS.out.has 0 _ rfl) ?_)
 refine (HR.out _ HS.out).mono ?_;rintro e' w2 ⟨A,c,rfl,-,-,hB⟩
 replace HS:=Lib.hid (HS.out.below hB)
 clear hB HR
 have Q5:Hid (Has ((w2.alloc (.cells #[.slice A 0 c,.int .i64 x,.int .i64 y,.bool bb] 42))) w2.heap.size [.slice A 0 c,.int .i64 x,.int .i64 y,.bool bb]):=Lib.hid (Has.new _ _ _)
 have r5:w.heap.size+1≤w2.heap.size:=HS.out.sz
 replace HS:=Lib.hid ((HS.out.alloc (.cells #[.slice A 0 c,.int .i64 x,.int .i64 y,.bool bb] 42)))
 go_wp2_with (refine at_stp (.tmp 2) rfl rfl rfl (HS.out.has 0 _ rfl) ?_)
 generalize (w2.alloc (.cells #[.slice A 0 c,.int .i64 x,.int .i64 y,.bool bb] 42))=w3 at *
 generalize w2.heap.size=H5 at *
 refine (HBO.out _ HS.out).mono ?_;rintro e' w4 ⟨A2,c2,rfl,-,-,hB⟩
 replace HS:=Lib.hid (HS.out.below hB)
 replace Q5:=Lib.hid (Q5.out.below hB)
 have c5_0:=Q5.out.cell 0 (.slice A 0 c) rfl
 clear hB
 generalize okN (suE s) (s.no.length - 1)=n2 at *
 generalize suE s=E2 at *
 go_wp2_with fail
 all_goals (go_ret;exact ⟨ret_tt_en (by simp),HS.out.B⟩)
theorem walk_PredictEncloses (s:Stp) (Pk:Option Addr) (np cp:Nat) (pk:List Int) (w:World) (hl:s.lies w) (hok:s.ok) (hp:Recs u32 1 w Pk np pk) (hpk:∀ x ∈ pk,(Lit.int .u32 x).wf=true) (hnp:np≤maxLen) (_:np * 4≤reachBytes):Calls Tryz.prog 8 #[.agg s.cells.toArray,.slice Pk np cp] w fun e w'=>e=.returned (.bool true)∧Below w.heap.size w w':=by
 by_cases hz:runE s=0
 rotate_left
 ·exact walk_En_err s Pk np cp pk w hl hok hz
 obtain ⟨i0,hi,hz0,hz1,hz2⟩:=info_parts infoWind
 have HS:=Lib.hid (boxS1 w s.cells.toArray 35)
 have HAW:=Lib.hid awake37
 have HW3:=Lib.hid (fun W (h:BoxS w 1 [s.cells] W)=>run_p (hl.below h.B) hok hz)
 have N:=StN.of hl
 obtain ⟨R,-⟩:=run_good N hz
 have hno:=N.no
 have hn2:=no_len R.G N
 obtain ⟨b,off,hA⟩:=su_A hl (by omega)
 have HNS:=Lib.hid (fun W (h:BoxS w 1 [s.cells] W)=>show W.cell? ⟨w.heap.size,0,none⟩=some (.slice (some ⟨b,off,none⟩) s.sno.n s.sno.c) from su_sl (h.has 0 _ rfl) hA)
 have HBO:=Lib.hid (fun W (h:BoxS w 1 [s.cells] W)=>xPBoxes s W (hl.below h.B) hok)
 unfold RcRes at HBO
 rw [R.su] at HBO
 simp only [okN_0,okL_0] at HBO
 have HPI:=Lib.hid (fun lo hi k h1 h2 h3 hk W=>xPick lo hi k h1 h2 h3 hk W)
 have HPB:=Lib.hid (fun k (hk:k<np)=>show 0≤pk.getD k 0∧pk.getD k 0<4294967296 from by
  obtain ⟨x,hx⟩:=get_ex hp.len hk
  rw [getD_of_get hx]
  have h1:=bounds_u32 (hpk x (List.mem_of_getElem? hx))
  omega)
 have HPC:=Lib.hid (fun (h0:0<np)=>show ∃ bk ok,Pk=some ⟨bk,ok,none⟩∧∀ W,BoxS w 1 [s.cells] W→∀ k,k<np→W.cell? ⟨bk,ok+k,none⟩=some (.int .u32 (pk.getD k 0)) from by
  obtain ⟨bk,ok,h1,h2,h3⟩:=hp.cells h0
  refine ⟨bk,ok,h1,fun W h k hk=>(h.B.cell (p:=⟨bk,ok+k,none⟩) h2).trans ?_⟩
  have hx:=List.getElem?_eq_getElem (show k<pk.length by have:=hp.len;omega)
  have:=h3 k _ hx 0 _ rfl
  rw [getD_of_get hx]
  simpa using this)
 have HFL:=Lib.hid (fl_ok N R (ws:=enL s pk) (by rw [enL_len];omega) (en_in R.G pk))
 have HFY:=Lib.hid (fun W (h:BoxS w 1 [s.cells] W) bp op c A2 n2 c2 (hps:Passes W (some ⟨bp,op,none⟩) s.sno.n (wtL s (altL s) (pnL s))) (hws:Pairs W A2 n2 (enL s pk)) (hn2:n2≤maxLen)=>xPFly s (some ⟨bp,op,none⟩) A2 s.sno.n c n2 c2 0 0 false (wtL s (altL s) (pnL s)) (enL s pk) W (hl.below h.B) hok hps hws hok.no hn2)
 unfold FlyP at HFY
 rw [HFL.out.e] at HFY
 simp only [okN_0,okL_0] at HFY
 have HSO:=Lib.hid (fun k=>suH_ok R.G k)
 have HNO:=Lib.hid hno
 have HPL:=Lib.hid hp.len
 have i1:2≤s.sno.n:=by omega
 have i2:s.sno.n≤64:=by omega
 have g0:IntKind.i64.wrap ((s.sno.n:Int) - 1)=(s.sno.n:Int) - 1:=IntWalk.i64_in _ (by omega)
 have hc0:((s.no.length - 1:Nat):Int)=(s.sno.n:Int) - 1:=by omega
 have HWT:=Lib.hid (fun k (hk:k<s.no.length)=>wtL_get (s:=s) (al:=altL s) (sp:=pnL s) hk)
 have hmx:np≤9223372036854775807:=by unfold maxLen at hnp;omega
 clear hl hok N R hA hno hn2 hz hp hpk hnp
 go_enter Tryz.func8,Tryz.ntmps8
 go_wp2_with fail
 refine (HAW.out _).mono ?_;rintro e' w1 ⟨rfl,hB⟩
 replace HS:=Lib.hid (HS.out.below hB)
 clear hB HAW
 go_wp2_with (refine at_stp (.tmp 2) rfl rfl rfl (HS.out.has 0 _ rfl) ?_)
 refine (HW3.out _ HS.out).mono ?_;rintro e' w2 ⟨bp,op,c,rfl,hC,hB⟩
 have HC:=Lib.hid hC
 replace HS:=Lib.hid (HS.out.below hB)
 clear hB hC HW3
 have Q5:Hid (Has ((w2.alloc (.cells #[.slice (some ⟨bp,op,none⟩) s.sno.n c,.int .i64 0,.int .i64 0,.bool false] 42))) w2.heap.size [.slice (some ⟨bp,op,none⟩) s.sno.n c,.int .i64 0,.int .i64 0,.bool false]):=Lib.hid (Has.new _ _ _)
 have r5:w.heap.size+1≤w2.heap.size:=HS.out.sz
 replace HS:=Lib.hid ((HS.out.alloc (.cells #[.slice (some ⟨bp,op,none⟩) s.sno.n c,.int .i64 0,.int .i64 0,.bool false] 42)))
 replace HC:=Lib.hid (HC.out.below (below_alloc1 w2 (.cells #[.slice (some ⟨bp,op,none⟩) s.sno.n c,.int .i64 0,.int .i64 0,.bool false] 42)))
 go_wp2_with (refine at_stp (.tmp 2) rfl rfl rfl (HS.out.has 0 _ rfl) ?_)
 generalize (w2.alloc (.cells #[.slice (some ⟨bp,op,none⟩) s.sno.n c,.int .i64 0,.int .i64 0,.bool false] 42))=w3 at *
 generalize w2.heap.size=H5 at *
 refine (HBO.out _ HS.out).mono ?_;rintro e' w4 ⟨A2,c2,rfl,hbx,-,hB⟩
 have HBX:=Lib.hid hbx
 replace HC:=Lib.hid (HC.out.below hB)
 replace HS:=Lib.hid (HS.out.below hB)
 replace Q5:=Lib.hid (Q5.out.below hB)
 clear hB hbx HBO
 have k0:=HNS.out _ HS.out
 have c5_0:=Q5.out.cell 0 (.slice (some ⟨bp,op,none⟩) s.sno.n c) rfl
 go_wp2_with fail
 clear c5_0
 clear k0
 have HY:=Lib.hid (fun W (h:BoxS w4 0 [] W)=>HS.out.below h.B)
 have HZ:=Lib.hid (fun W (h:BoxS w4 0 [] W)=>Q5.out.below h.B)
 go_loopw [9,58] (fun v t wr=>EnR s pk w4 v t wr) (fun _ t _=>s.sno.n - (intOf t).toNat)
 case atStart=>exact ⟨0,by have:=HNO.out;omega,rfl,boxS0 _,Ow.start _ _ _ _ _⟩
 case round =>
  clear HS Q5
  obtain ⟨k,hk,rfl,hs,ho⟩:=hrel
  have HR:=Lib.hid hs
  have HO:=Lib.hid ho
  clear hs ho
  by_cases hlt:k+1<s.sno.n
  ·have hlt':(k:Int)<(s.sno.n:Int) - 1:=by omega
   have hkn:k+1<s.no.length:=by have:=HNO.out;omega
   have hso:=HSO.out k
   obtain ⟨bb,ob,rfl,hbb,hcb⟩:=HBX.out.cells (by omega)
   have hcx:=fun j v hj=>(HR.out.B.cell (p:=⟨bb,ob+k * 4+j,none⟩) hbb).trans (hcb k _ (bxsL_get hkn) j v hj)
   have HTK:=Lib.hid (enL_take (pk:=pk) hkn)
   have HEF:=Lib.hid (show (2 * k+1<np→enF s pk k=(pkV (suH s k).e0 (suH s k).e1 (pk.getD (2 * k) 0),pkV (suH s k).n0 (suH s k).n1 (pk.getD (2 * k+1) 0)))∧(¬ 2 * k+1<np→enF s pk k=((suH s k).e0,(suH s k).n1)) from ⟨fun h=>if_pos (by rw [HPL.out];exact h),fun h=>if_neg (by rw [HPL.out];exact h)⟩)
   have hlen:((enL s pk).take k).length≤64:=by rw [List.length_take];omega
   generalize suH s k=h at *
   generalize enF s pk k=ef at *
   generalize (enL s pk).take k=LL at *
   have b0:wr.cell? ⟨bb,ob+k * 4,none⟩=some (.int .i64 h.e0):=hcx 0 _ rfl
   have b1:wr.cell? ⟨bb,ob+k * 4+1,none⟩=some (.int .i64 h.e1):=hcx 1 _ rfl
   have b2:wr.cell? ⟨bb,ob+k * 4+2,none⟩=some (.int .i64 h.n0):=hcx 2 _ rfl
   have b3:wr.cell? ⟨bb,ob+k * 4+3,none⟩=some (.int .i64 h.n1):=hcx 3 _ rfl
   clear hcx hcb hbb hkn
   have HS:=Lib.hid (boxS0 wr)
   have HYW:=Lib.hid (fun W (h:BoxS wr 0 [] W)=>show BoxS w4 0 [] W from HR.out.below h.B)
   have Q11:Hid (Has ((wr.alloc (.cells #[.int .i64 h.e0,.int .i64 h.e1,.int .i64 h.n0,.int .i64 h.n1] 85)).alloc (.cells #[.int .i64 h.e0,.int .i64 h.n1] 87)) wr.heap.size (lz4 h.e0 h.e1 h.n0 h.n1)):=Lib.hid ((Has.new _ _ _).alloc (.cells #[.int .i64 h.e0,.int .i64 h.n1] 87))
   have Q12:Hid (Has ((wr.alloc (.cells #[.int .i64 h.e0,.int .i64 h.e1,.int .i64 h.n0,.int .i64 h.n1] 85)).alloc (.cells #[.int .i64 h.e0,.int .i64 h.n1] 87)) (wr.heap.size+1) (lz2 h.e0 h.n1)):=Lib.hid (Has.newAt _ _ _ _ (by simp))
   have r11:wr.heap.size+0≤wr.heap.size:=HS.out.sz
   have r12:wr.heap.size+0≤wr.heap.size+1:=Nat.le_succ_of_le HS.out.sz
   have n11_12:wr.heap.size≠wr.heap.size+1:=by omega
   replace HS:=Lib.hid ((HS.out.alloc (.cells #[.int .i64 h.e0,.int .i64 h.e1,.int .i64 h.n0,.int .i64 h.n1] 85)).alloc (.cells #[.int .i64 h.e0,.int .i64 h.n1] 87))
   have HCE:=Lib.hid (show Has (wr.alloc (.cells #[.int .i64 h.e0,.int .i64 h.e1,.int .i64 h.n0,.int .i64 h.n1] 85)) wr.heap.size (lz4 h.e0 h.e1 h.n0 h.n1) from Has.new _ _ _)
   have y0:=HCE.out.cell 0 (.int .i64 h.e0) rfl
   have y1:=HCE.out.cell 1 (.int .i64 h.e1) rfl
   have y2:=HCE.out.cell 2 (.int .i64 h.n0) rfl
   have y3:=HCE.out.cell 3 (.int .i64 h.n1) rfl
   have c11_0:=Q11.out.cell 0 (.int .i64 h.e0) rfl
   have c11_1:=Q11.out.cell 1 (.int .i64 h.e1) rfl
   have c11_2:=Q11.out.cell 2 (.int .i64 h.n0) rfl
   have c11_3:=Q11.out.cell 3 (.int .i64 h.n1) rfl
   have c1:¬ h.e1<h.e0:=by omega
   have c2':¬ h.n1<h.n0:=by omega
   have w1':IntKind.i64.wrap (2 * (k:Int))=2 * (k:Int):=IntWalk.i64_in _ (by omega)
   have w2':IntKind.i64.wrap (2 * (k:Int)+1)=2 * (k:Int)+1:=IntWalk.i64_in _ (by omega)
   by_cases hpk:2 * k+1<np
   rotate_left
   ·have i3:¬ 2 * (k:Int)+1<(np:Int):=by omega
    have HEK:=Lib.hid (HEF.out.2 hpk)
    have c12_0:=Q12.out.cell 0 (.int .i64 h.e0) rfl
    have c12_1:=Q12.out.cell 1 (.int .i64 h.n1) rfl
    have HO6:=Lib.hid ((HO.out.below HS.out.B).alloc (.cells #[.int .i64 h.e0,.int .i64 h.n1] 87))
    go_wp2_with (at_builtin;refine wpList_append_own_at _ rfl _ _ 29 rfl w4.heap.size 87 i0 (.agg #[.int .i64 0,.int .i64 0]) 2 16 Tryz.underlying29 hi hz0 hz1 hz2 rfl (by decide) _ _ _ rfl (HO6.out.own) ⟨(wr.heap.size+1+1),0,none⟩ 1 1 (lz2 h.e0 h.n1) rfl rfl (news_new _ _ (by first | rfl | simp) _ _ _ rfl) (by intro u hu;simp at hu;rcases hu with rfl | rfl <;> rfl) (by unfold maxLen;omega) (by omega) (by have:=(HYW.out _ HS.out).B.size;simp at this;simp;omega) ?_;intro v1 w7 hown hgrow hnil hblk)
    have HS7:=Lib.hid (((HYW.out _ HS.out).alloc _).grown hgrow (fun k hk=>(HO.out.lt hk).1))
    have HO7:=Lib.hid (Ow.next (l:=LL) (f:=win) (x:=ef) (by rw [HEK.out];exact hown))
    clear hown hgrow hnil hblk
    go_roundw
    case rel=>exact ⟨k+1,by have:=HNO.out;omega,by go_num,HS7.out,by rw [HTK.out];exact HO7.out⟩
    case measure=>simp only [intOf];omega
   have i3:2 * (k:Int)+1<(np:Int):=by omega
   have i4:2 * (k:Int)<(np:Int):=by omega
   have i5:0≤2 * (k:Int):=by omega
   have i8:0≤2 * (k:Int)+1:=by omega
   have i6:(2 * (k:Int)).toNat=2 * k:=by omega
   have i7:(2 * (k:Int)+1).toNat=2 * k+1:=by omega
   have HEK:=Lib.hid (HEF.out.1 hpk)
   obtain ⟨bk,ok,rfl,hpc⟩:=HPC.out (by omega)
   have HPW:=Lib.hid (fun W (h:BoxS wr 0 [] W)=>show W.cell? ⟨bk,ok+2 * k,none⟩=some (.int .u32 (pk.getD (2 * k) 0))∧W.cell? ⟨bk,ok+(2 * k+1),none⟩=some (.int .u32 (pk.getD (2 * k+1) 0)) from ⟨hpc W (HY.out W (HYW.out W h)) (2 * k) (by omega),hpc W (HY.out W (HYW.out W h)) (2 * k+1) hpk⟩)
   have HP1:=Lib.hid (fun W=>HPI.out h.e0 h.e1 (pk.getD (2 * k) 0) (by omega) (by omega) (by omega) (HPB.out _ (by omega)) W)
   have HP2:=Lib.hid (fun W=>HPI.out h.n0 h.n1 (pk.getD (2 * k+1) 0) (by omega) (by omega) (by omega) (HPB.out _ hpk) W)
   clear hpc
   generalize pkV h.e0 h.e1 (pk.getD (2 * k) 0)=E0 at *
   generalize pkV h.n0 h.n1 (pk.getD (2 * k+1) 0)=N0 at *
   generalize pk.getD (2 * k) 0=K0 at *
   generalize pk.getD (2 * k+1) 0=K1 at *
   go_wp2_with fail
   clear c11_0 c11_1 c11_2 c11_3
   clear y0 y1 y2 y3 b0 b1 b2 b3 HCE
   generalize hW5:((wr.alloc (.cells #[.int .i64 h.e0,.int .i64 h.e1,.int .i64 h.n0,.int .i64 h.n1] 85)).alloc (.cells #[.int .i64 h.e0,.int .i64 h.n1] 87))=w5 at *
   clear hW5
   generalize hH12:wr.heap.size+1=H12 at *
   clear hH12
   generalize hH11:wr.heap.size=H11 at Q11 n11_12 ⊢
   clear hH11 r11
   refine held_start (S:=fun W=>BoxS wr 0 [] W∧Has W H11 (lz4 h.e0 h.e1 h.n0 h.n1)) 19 #[false,false,false,false,false,false,false,false,false,false,false,false,false,false,false,false,false,false,false] rfl rfl (by kernel_rfl) ((And.intro (HS.out.drew) (Q11.out.drew))) (fun hHeld=>?_)
   replace Q12:=Lib.hid Q12.out.drew
   refine hL 0 92 (v:=?_) rfl rfl ?_ ?_
   rotate_left
   ·intro W hW
    go_simp;try with_reducible rfl
   (try simp only [Act.put,pa,pb,pc])
   refine hL 1 93 (v:=?_) rfl rfl ?_ ?_
   rotate_left
   ·intro W hW
    have kk0:=hW.2.cell 0 (.int .i64 h.e0) rfl;have kk1:=hW.2.cell 1 (.int .i64 h.e1) rfl;clear hW;go_simp;try with_reducible rfl
   (try simp only [Act.put,pa,pb,pc])
   refine hL 2 94 (v:=?_) rfl rfl ?_ ?_
   rotate_left
   ·intro W hW
    go_simp;try with_reducible rfl
   (try simp only [Act.put,pa,pb,pc])
   refine hL 3 95 (v:=?_) rfl rfl ?_ ?_
   rotate_left
   ·intro W hW
    go_simp;try with_reducible rfl
   (try simp only [Act.put,pa,pb,pc])
   refine hL 4 96 (v:=?_) rfl rfl ?_ ?_
   rotate_left
   ·intro W hW
    go_simp;try with_reducible rfl
   (try simp only [Act.put,pa,pb,pc])
   refine hL 5 97 (v:=?_) rfl rfl ?_ ?_
   rotate_left
   ·intro W hW
    go_simp;try with_reducible rfl
   (try simp only [Act.put,pa,pb,pc])
   refine hL 6 98 (v:=?_) rfl rfl ?_ ?_
   rotate_left
   ·intro W hW
    have kk:=HPW.out W hW.1;clear hW;go_simp;try with_reducible rfl
   (try simp only [Act.put,pa,pb,pc])
   refine hL 8 100 (v:=?_) rfl rfl ?_ ?_
   rotate_left
   ·intro W hW
    go_simp;try with_reducible rfl
   (try simp only [Act.put,pa,pb,pc])
   refine hL 9 101 (v:=?_) rfl rfl ?_ ?_
   rotate_left
   ·intro W hW
    have kk0:=hW.2.cell 2 (.int .i64 h.n0) rfl;have kk1:=hW.2.cell 3 (.int .i64 h.n1) rfl;clear hW;go_simp;try with_reducible rfl
   (try simp only [Act.put,pa,pb,pc])
   refine hL 10 102 (v:=?_) rfl rfl ?_ ?_
   rotate_left
   ·intro W hW
    go_simp;try with_reducible rfl
   (try simp only [Act.put,pa,pb,pc])
   refine hL 11 103 (v:=?_) rfl rfl ?_ ?_
   rotate_left
   ·intro W hW
    go_simp;try with_reducible rfl
   (try simp only [Act.put,pa,pb,pc])
   refine hL 12 104 (v:=?_) rfl rfl ?_ ?_
   rotate_left
   ·intro W hW
    go_simp;try with_reducible rfl
   (try simp only [Act.put,pa,pb,pc])
   refine hL 13 105 (v:=?_) rfl rfl ?_ ?_
   rotate_left
   ·intro W hW
    go_simp;try with_reducible rfl
   (try simp only [Act.put,pa,pb,pc])
   refine hL 14 106 (v:=?_) rfl rfl ?_ ?_
   rotate_left
   ·intro W hW
    go_simp;try with_reducible rfl
   (try simp only [Act.put,pa,pb,pc])
   refine hL 15 107 (v:=?_) rfl rfl ?_ ?_
   rotate_left
   ·intro W hW
    have kk:=HPW.out W hW.1;clear hW;go_simp;try with_reducible rfl
   (try simp only [Act.put,pa,pb,pc])
   refine wpAnyH_ready (rs:=[7]) (by kernel_rfl) (by simp) ?_
   refine AllReadyH.cons (o:=_) rfl (fun K hK=>?_) AllReadyH.nil
   go_simp
   refine (HP1.out _).mono ?_;rintro e2 w17 ⟨rfl,hB⟩
   go_wp2_with fail
   have hNew:=(And.intro (hHeld.1.below hB) (hHeld.2.below hB))
   replace Q12:=Lib.hid (Q12.out.below hB)
   clear hB
   refine hK.out _ _ hNew (fun hHeld2=>?_)
   clear hK K hNew hHeld
   have hHeld:=hHeld2
   clear hHeld2
   (try simp only [Act.put,pa,pb,pc])
   refine wpAnyH_ready (rs:=[16]) (by kernel_rfl) (by simp) ?_
   refine AllReadyH.cons (o:=_) rfl (fun K hK=>?_) AllReadyH.nil
   go_simp
   refine (HP2.out _).mono ?_;rintro e2 w17 ⟨rfl,hB⟩
   go_wp2_with fail
   have hNew:=(And.intro (hHeld.1.below hB) (hHeld.2.below hB))
   replace Q12:=Lib.hid (Q12.out.below hB)
   clear hB
   refine hK.out _ _ hNew (fun hHeld2=>?_)
   clear hK K hNew hHeld
   have hHeld:=hHeld2
   clear hHeld2
   (try simp only [Act.put,pa,pb,pc])
   refine hL 17 109 (v:=?_) rfl rfl ?_ ?_
   rotate_left
   ·intro W hW
    go_simp;try with_reducible rfl
   (try simp only [Act.put,pa,pb,pc])
   have fz:=Q12.out.fr
   have cz0:=Q12.out.cell 0 (.int .i64 h.e0) rfl
   have cz1:=Q12.out.cell 1 (.int .i64 h.n1) rfl
   refine wpAnyH_ready (rs:=[18]) (by kernel_rfl) (by simp) ?_
   refine AllReadyH.cons (o:=_) rfl (fun K hK=>?_) AllReadyH.nil
   go_simp
   have hNew:=(And.intro (((hHeld.1.set H12 0 r12 (.int .i64 E0)).set H12 1 r12 (.int .i64 N0))) (((hHeld.2.other H12 0 (.int .i64 E0) n11_12).other H12 1 (.int .i64 N0) n11_12)))
   refine hK.out _ _ hNew (fun hHeld2=>?_)
   clear hK K hNew hHeld
   have hHeld:=hHeld2
   clear hHeld2
   (try simp only [Act.put,pa,pb,pc])
   refine wpAnyH_done (by kernel_rfl) ?_ _
   clear fz cz0 cz1
   replace HS:=Lib.hid (hHeld.1)
   replace Q11:=Lib.hid (hHeld.2)
   clear hHeld
   replace Q12:=Lib.hid (show Has ((w17.setCell ⟨H12,0,none⟩ (.int .i64 E0)).setCell ⟨H12,1,none⟩ (.int .i64 N0)) H12 (lz2 E0 N0) from (Q12.out.set 0 (.int .i64 E0) (by simp)).set 1 (.int .i64 N0) (by simp))
   generalize (w17.setCell ⟨H12,0,none⟩ (.int .i64 E0)).setCell ⟨H12,1,none⟩ (.int .i64 N0)=w6 at *
   have c12_0:=Q12.out.cell 0 (.int .i64 E0) rfl
   have c12_1:=Q12.out.cell 1 (.int .i64 N0) rfl
   have HO6:=Lib.hid ((HO.out.below HS.out.B).alloc (.cells #[.int .i64 E0,.int .i64 N0] 87))
   go_wp2_with (at_builtin;refine wpList_append_own_at _ rfl _ _ 29 rfl w4.heap.size 87 i0 (.agg #[.int .i64 0,.int .i64 0]) 2 16 Tryz.underlying29 hi hz0 hz1 hz2 rfl (by decide) _ _ _ rfl (HO6.out.own) ⟨w6.heap.size,0,none⟩ 1 1 (lz2 E0 N0) rfl rfl (news_new _ _ (by first | rfl | simp) _ _ _ rfl) (by intro u hu;simp at hu;rcases hu with rfl | rfl <;> rfl) (by unfold maxLen;omega) (by omega) (by have:=(HYW.out _ HS.out).B.size;simp;omega) ?_;intro v1 w7 hown hgrow hnil hblk)
   have HS7:=Lib.hid (((HYW.out _ HS.out).alloc _).grown hgrow (fun k hk=>(HO.out.lt hk).1))
   have HO7:=Lib.hid (Ow.next (l:=LL) (f:=win) (x:=ef) (by rw [HEK.out];exact hown))
   clear hown hgrow hnil hblk
   go_roundw
   case rel=>exact ⟨k+1,by have:=HNO.out;omega,by go_num,HS7.out,by rw [HTK.out];exact HO7.out⟩
   case measure=>simp only [intOf];omega
  ·have hlt':¬ (k:Int)<(s.sno.n:Int) - 1:=by omega
   have hkn:k+1=s.no.length:=by have:=HNO.out;omega
   have HO2:=Lib.hid (show Ow win 2 87 w4.heap.size (enL s pk) _ wr from by have h:=HO.out;rwa [List.take_of_length_le (by rw [enL_len];omega)] at h)
   obtain ⟨A3,c3,hv,hws,-⟩:=HO2.out.res (n:=s.no.length - 1) (show ∀ x:Int × Int,(win x).length=2 from fun _=>rfl) (enL_len s pk)
   have HWS:=Lib.hid hws
   replace HC:=Lib.hid (HC.out.below HR.out.B)
   have HS:=Lib.hid (HY.out _ HR.out)
   have Q5:=Lib.hid (HZ.out _ HR.out)
   have hn1:s.no.length - 1≤maxLen:=by have:=HNO.out;unfold maxLen;omega
   clear hws HO HO2 HR HY HZ hkn hlt hk
   subst hv
   have c5_0:=Q5.out.cell 0 (.slice (some ⟨bp,op,none⟩) s.sno.n c) rfl
   have c5_1:=Q5.out.cell 1 (.int .i64 0) rfl
   have c5_2:=Q5.out.cell 2 (.int .i64 0) rfl
   have c5_3:=Q5.out.cell 3 (.bool false) rfl
   go_wp2_with (refine at_stp (.tmp 2) rfl rfl rfl (HS.out.has 0 _ rfl) ?_)
   clear c5_0 c5_1 c5_2 c5_3
   clear hlt'
   refine (HFY.out _ HS.out _ _ _ _ _ _ HC.out HWS.out hn1).mono ?_;rintro e' w8 ⟨A6,c6,A7,c7,rfl,hT,hLf,hB⟩
   have HT:=Lib.hid hT
   have HLf:=Lib.hid hLf
   replace HC:=Lib.hid (HC.out.below hB)
   replace HS:=Lib.hid (HS.out.below hB)
   replace Q5:=Lib.hid (Q5.out.below hB)
   clear hT hLf hB HFY HWS hn1
   rw [HNO.out] at HT HLf ⊢
   have k0:=HNS.out _ HS.out
   have c5_0:=Q5.out.cell 0 (.slice (some ⟨bp,op,none⟩) s.sno.n c) rfl
   have c5_1:=Q5.out.cell 1 (.int .i64 0) rfl
   have c5_2:=Q5.out.cell 2 (.int .i64 0) rfl
   have c5_3:=Q5.out.cell 3 (.bool false) rfl
   go_wp2_with fail
   clear c5_0 c5_1 c5_2 c5_3
   clear k0
   have HY:=Lib.hid (fun W (h:BoxS w8 0 [] W)=>HS.out.below h.B)
   go_loopw [144] (fun t wr=>EnM s.sno.n w8 t wr) (fun t _=>s.sno.n - (intOf t).toNat)
   case atStart=>exact ⟨0,by omega,rfl,boxS0 _⟩
   case round =>
    obtain ⟨k,hk,rfl,hs⟩:=hrel
    have HR:=Lib.hid hs
    clear hs
    by_cases hlt:k<s.sno.n
    rotate_left
    ·have hlt':¬ (k:Int)<(s.sno.n:Int):=by omega
     go_wp2_with fail
     go_ret
     exact ⟨rfl,(HY.out _ HR.out).B⟩
    have hlt':(k:Int)<(s.sno.n:Int):=by omega
    have hkn:k<s.no.length:=by have:=HNO.out;omega
    have hfn:=fl_n HFL.out hkn
    have hcp:=HC.out.at (s:=s) (HWT.out k hkn)
    obtain ⟨b6,o6,rfl⟩:=ints_A HT.out (by omega)
    obtain ⟨b7,o7,rfl⟩:=ints_A HLf.out (by omega)
    have q6:=Int_getD HT.out hlt
    have q7:=Int_getD HLf.out hlt
    rw [getD_of_get (HFL.out.get hkn).1] at q6
    rw [getD_of_get (HFL.out.get hkn).2] at q7
    have HC6:=Lib.hid (fun W (h:BoxS w8 0 [] W)=>(h.B.cell (p:=⟨b6,o6+k,none⟩) q6.1).trans q6.2)
    have HC7:=Lib.hid (fun W (h:BoxS w8 0 [] W)=>(h.B.cell (p:=⟨b7,o7+k,none⟩) q7.1).trans q7.2)
    have hcr:=fun j u hj=>(HR.out.B.cell (p:=⟨bp,op+k * 13+j,none⟩) hcp.1).trans (hcp.2 j u hj)
    generalize psP s (altL s) (pnL s) k=p at *
    generalize flTi s (altL s) (pnL s) (enL s pk) k=ti at *
    generalize flLe s (altL s) (pnL s) (enL s pk) k=le at *
    obtain ⟨⟨f1,f2⟩,⟨f3,f4⟩,⟨f5,f6⟩,f7,f8⟩:=hfn
    have d1:decide (ti<p.tl)=false:=decide_eq_false (by omega)
    have d2:decide (p.th<ti)=false:=decide_eq_false (by omega)
    have d3:decide (le<p.fl)=false:=decide_eq_false (by omega)
    have d4:decide (p.fh<le)=false:=decide_eq_false (by omega)
    have HF5:=Lib.hid (And.intro f5 (And.intro f6 (And.intro f7 f8)))
    clear f1 f2 f3 f4 f5 f6 f7 f8 q6 q7 hcp
    have p0:wr.cell? ⟨bp,op+k * 13,none⟩=some (.int .i64 p.alt):=hcr 0 _ rfl
    have p1:wr.cell? ⟨bp,op+k * 13+1,none⟩=some (.int .i64 p.cas):=hcr 1 _ rfl
    have p2:wr.cell? ⟨bp,op+k * 13+2,none⟩=some (.int .i64 p.tas):=hcr 2 _ rfl
    have p3:wr.cell? ⟨bp,op+k * 13+3,none⟩=some (.int .i64 p.ground):=hcr 3 _ rfl
    have p4:wr.cell? ⟨bp,op+k * 13+4,none⟩=some (.int .i64 p.tick):=hcr 4 _ rfl
    have p5:wr.cell? ⟨bp,op+k * 13+5,none⟩=some (.int .i64 p.fuel):=hcr 5 _ rfl
    have p6:wr.cell? ⟨bp,op+k * 13+6,none⟩=some (.int .i64 p.gl):=hcr 6 _ rfl
    have p7:wr.cell? ⟨bp,op+k * 13+7,none⟩=some (.int .i64 p.gh):=hcr 7 _ rfl
    have p8:wr.cell? ⟨bp,op+k * 13+8,none⟩=some (.int .i64 p.tl):=hcr 8 _ rfl
    have p9:wr.cell? ⟨bp,op+k * 13+9,none⟩=some (.int .i64 p.th):=hcr 9 _ rfl
    have p10:wr.cell? ⟨bp,op+k * 13+10,none⟩=some (.int .i64 p.fl):=hcr 10 _ rfl
    have p11:wr.cell? ⟨bp,op+k * 13+11,none⟩=some (.int .i64 p.fh):=hcr 11 _ rfl
    have p12:wr.cell? ⟨bp,op+k * 13+12,none⟩=some (.int .u8 p.phase):=hcr 12 _ rfl
    clear hcr hkn
    have i0':(0:Int)≤(k:Int):=by omega
    clear HS
    have HS:=HR
    clear HR
    have Q17:Hid (Has ((wr.alloc (.cells #[.int .i64 p.alt,.int .i64 p.cas,.int .i64 p.tas,.int .i64 p.ground,.int .i64 p.tick,.int .i64 p.fuel,.int .i64 p.gl,.int .i64 p.gh,.int .i64 p.tl,.int .i64 p.th,.int .i64 p.fl,.int .i64 p.fh,.int .u8 p.phase] 53))) wr.heap.size (lzp p.alt p.cas p.tas p.ground p.tick p.fuel p.gl p.gh p.tl p.th p.fl p.fh p.phase)):=Lib.hid (Has.new _ _ _)
    have r17:w8.heap.size+0≤wr.heap.size:=HS.out.sz
    replace HS:=Lib.hid ((HS.out.alloc (.cells #[.int .i64 p.alt,.int .i64 p.cas,.int .i64 p.tas,.int .i64 p.ground,.int .i64 p.tick,.int .i64 p.fuel,.int .i64 p.gl,.int .i64 p.gh,.int .i64 p.tl,.int .i64 p.th,.int .i64 p.fl,.int .i64 p.fh,.int .u8 p.phase] 53)))
    go_wp2_with fail
    clear p0 p1 p2 p3 p4 p5 p6 p7 p8 p9 p10 p11 p12
    generalize (wr.alloc (.cells #[.int .i64 p.alt,.int .i64 p.cas,.int .i64 p.tas,.int .i64 p.ground,.int .i64 p.tick,.int .i64 p.fuel,.int .i64 p.gl,.int .i64 p.gh,.int .i64 p.tl,.int .i64 p.th,.int .i64 p.fl,.int .i64 p.fh,.int .u8 p.phase] 53))=w9 at *
    generalize wr.heap.size=H17 at *
    refine held_start (S:=fun W=>BoxS w8 0 [] W∧Has W H17 (lzp p.alt p.cas p.tas p.ground p.tick p.fuel p.gl p.gh p.tl p.th p.fl p.fh p.phase)) 38 #[false,false,false,false,false,false,false,false,false,false,false,false,false,false,false,false,false,false,false,false,false,false,false,false,false,false,false,false,false,false,false,false,false,false,false,false,false,false] rfl rfl (by kernel_rfl) ((And.intro (HS.out.drew) (Q17.out.drew))) (fun hHeld=>?_)
    refine hL 0 149 (v:=?_) rfl rfl ?_ ?_
    rotate_left
    ·intro W hW
     go_simp;try with_reducible rfl
    (try simp only [Act.put,pa,pb,pc])
    refine hL 1 150 (v:=?_) rfl rfl ?_ ?_
    rotate_left
    ·intro W hW
     go_simp;try with_reducible rfl
    (try simp only [Act.put,pa,pb,pc])
    refine hL 2 151 (v:=?_) rfl rfl ?_ ?_
    rotate_left
    ·intro W hW
     go_simp;try with_reducible rfl
    (try simp only [Act.put,pa,pb,pc])
    refine hL 3 152 (v:=?_) rfl rfl ?_ ?_
    rotate_left
    ·intro W hW
     have kk:=HC6.out W hW.1;clear hW;go_simp;try with_reducible rfl
    (try simp only [Act.put,pa,pb,pc])
    refine hL 4 153 (v:=?_) rfl rfl ?_ ?_
    rotate_left
    ·intro W hW
     go_simp;try with_reducible rfl
    (try simp only [Act.put,pa,pb,pc])
    refine hL 5 154 (v:=?_) rfl rfl ?_ ?_
    rotate_left
    ·intro W hW
     go_simp;try with_reducible rfl
    (try simp only [Act.put,pa,pb,pc])
    refine hL 6 155 (v:=?_) rfl rfl ?_ ?_
    rotate_left
    ·intro W hW
     have kk0:=hW.2.cell 8 (.int .i64 p.tl) rfl;clear hW;go_simp;try with_reducible rfl
    (try simp only [Act.put,pa,pb,pc])
    refine hL 7 156 (v:=?_) rfl rfl ?_ ?_
    rotate_left
    ·intro W hW
     go_simp;try with_reducible rfl
    (try simp only [Act.put,pa,pb,pc])
    refine hL 8 157 (v:=?_) rfl rfl ?_ ?_
    rotate_left
    ·intro W hW
     go_simp;try with_reducible rfl
    (try simp only [Act.put,pa,pb,pc])
    refine hL 9 158 (v:=?_) rfl rfl ?_ ?_
    rotate_left
    ·intro W hW
     go_simp;try with_reducible rfl
    (try simp only [Act.put,pa,pb,pc])
    refine hL 10 159 (v:=?_) rfl rfl ?_ ?_
    rotate_left
    ·intro W hW
     go_simp;try with_reducible rfl
    (try simp only [Act.put,pa,pb,pc])
    refine hL 11 160 (v:=?_) rfl rfl ?_ ?_
    rotate_left
    ·intro W hW
     go_simp;try with_reducible rfl
    (try simp only [Act.put,pa,pb,pc])
    refine hL 12 161 (v:=?_) rfl rfl ?_ ?_
    rotate_left
    ·intro W hW
     have kk:=HC6.out W hW.1;clear hW;go_simp;try with_reducible rfl
    (try simp only [Act.put,pa,pb,pc])
    refine hL 13 162 (v:=?_) rfl rfl ?_ ?_
    rotate_left
    ·intro W hW
     go_simp;try with_reducible rfl
    (try simp only [Act.put,pa,pb,pc])
    refine hL 14 163 (v:=?_) rfl rfl ?_ ?_
    rotate_left
    ·intro W hW
     go_simp;try with_reducible rfl
    (try simp only [Act.put,pa,pb,pc])
    refine hL 15 164 (v:=?_) rfl rfl ?_ ?_
    rotate_left
    ·intro W hW
     have kk0:=hW.2.cell 9 (.int .i64 p.th) rfl;clear hW;go_simp;try with_reducible rfl
    (try simp only [Act.put,pa,pb,pc])
    refine hL 16 165 (v:=?_) rfl rfl ?_ ?_
    rotate_left
    ·intro W hW
     go_simp;try with_reducible rfl
    (try simp only [Act.put,pa,pb,pc])
    refine hL 17 166 (v:=?_) rfl rfl ?_ ?_
    rotate_left
    ·intro W hW
     go_simp;try with_reducible rfl
    (try simp only [Act.put,pa,pb,pc])
    refine hL 18 167 (v:=?_) rfl rfl ?_ ?_
    rotate_left
    ·intro W hW
     go_simp;try with_reducible rfl
    (try simp only [Act.put,pa,pb,pc])
    refine hL 19 168 (v:=?_) rfl rfl ?_ ?_
    rotate_left
    ·intro W hW
     go_simp;try with_reducible rfl
    (try simp only [Act.put,pa,pb,pc])
    refine hL 20 169 (v:=?_) rfl rfl ?_ ?_
    rotate_left
    ·intro W hW
     go_simp;try with_reducible rfl
    (try simp only [Act.put,pa,pb,pc])
    refine hL 21 170 (v:=?_) rfl rfl ?_ ?_
    rotate_left
    ·intro W hW
     go_simp;try with_reducible rfl
    (try simp only [Act.put,pa,pb,pc])
    refine hL 22 171 (v:=?_) rfl rfl ?_ ?_
    rotate_left
    ·intro W hW
     have kk:=HC7.out W hW.1;clear hW;go_simp;try with_reducible rfl
    (try simp only [Act.put,pa,pb,pc])
    refine hL 23 172 (v:=?_) rfl rfl ?_ ?_
    rotate_left
    ·intro W hW
     go_simp;try with_reducible rfl
    (try simp only [Act.put,pa,pb,pc])
    refine hL 24 173 (v:=?_) rfl rfl ?_ ?_
    rotate_left
    ·intro W hW
     go_simp;try with_reducible rfl
    (try simp only [Act.put,pa,pb,pc])
    refine hL 25 174 (v:=?_) rfl rfl ?_ ?_
    rotate_left
    ·intro W hW
     have kk0:=hW.2.cell 10 (.int .i64 p.fl) rfl;clear hW;go_simp;try with_reducible rfl
    (try simp only [Act.put,pa,pb,pc])
    refine hL 26 175 (v:=?_) rfl rfl ?_ ?_
    rotate_left
    ·intro W hW
     go_simp;try with_reducible rfl
    (try simp only [Act.put,pa,pb,pc])
    refine hL 27 176 (v:=?_) rfl rfl ?_ ?_
    rotate_left
    ·intro W hW
     go_simp;try with_reducible rfl
    (try simp only [Act.put,pa,pb,pc])
    refine hL 28 177 (v:=?_) rfl rfl ?_ ?_
    rotate_left
    ·intro W hW
     go_simp;try with_reducible rfl
    (try simp only [Act.put,pa,pb,pc])
    refine hL 29 178 (v:=?_) rfl rfl ?_ ?_
    rotate_left
    ·intro W hW
     go_simp;try with_reducible rfl
    (try simp only [Act.put,pa,pb,pc])
    refine hL 30 179 (v:=?_) rfl rfl ?_ ?_
    rotate_left
    ·intro W hW
     go_simp;try with_reducible rfl
    (try simp only [Act.put,pa,pb,pc])
    refine hL 31 180 (v:=?_) rfl rfl ?_ ?_
    rotate_left
    ·intro W hW
     go_simp;try with_reducible rfl
    (try simp only [Act.put,pa,pb,pc])
    refine hL 32 181 (v:=?_) rfl rfl ?_ ?_
    rotate_left
    ·intro W hW
     have kk:=HC7.out W hW.1;clear hW;go_simp;try with_reducible rfl
    (try simp only [Act.put,pa,pb,pc])
    refine hL 33 182 (v:=?_) rfl rfl ?_ ?_
    rotate_left
    ·intro W hW
     go_simp;try with_reducible rfl
    (try simp only [Act.put,pa,pb,pc])
    refine hL 34 183 (v:=?_) rfl rfl ?_ ?_
    rotate_left
    ·intro W hW
     go_simp;try with_reducible rfl
    (try simp only [Act.put,pa,pb,pc])
    refine hL 35 184 (v:=?_) rfl rfl ?_ ?_
    rotate_left
    ·intro W hW
     have kk0:=hW.2.cell 11 (.int .i64 p.fh) rfl;clear hW;go_simp;try with_reducible rfl
    (try simp only [Act.put,pa,pb,pc])
    refine hL 36 185 (v:=?_) rfl rfl ?_ ?_
    rotate_left
    ·intro W hW
     go_simp;try with_reducible rfl
    (try simp only [Act.put,pa,pb,pc])
    refine hL 37 186 (v:=?_) rfl rfl ?_ ?_
    rotate_left
    ·intro W hW
     go_simp;try with_reducible rfl
    (try simp only [Act.put,pa,pb,pc])
    refine wpAnyH_done (by kernel_rfl) ?_ _
    replace HS:=Lib.hid (hHeld.1)
    replace Q17:=Lib.hid (hHeld.2)
    clear hHeld
    clear d1 d2 d3 d4
    obtain ⟨f5,f6,f7,f8⟩:=HF5.out
    have c17_4:=Q17.out.cell 4 (.int .i64 p.tick) rfl
    have c17_5:=Q17.out.cell 5 (.int .i64 p.fuel) rfl
    have c17_8:=Q17.out.cell 8 (.int .i64 p.tl) rfl
    have c17_9:=Q17.out.cell 9 (.int .i64 p.th) rfl
    have c17_10:=Q17.out.cell 10 (.int .i64 p.fl) rfl
    have c17_11:=Q17.out.cell 11 (.int .i64 p.fh) rfl
    go_wp2_with fail
    go_roundw
    case rel=>exact ⟨k+1,by omega,by go_num,HS.out⟩
    case measure=>simp only [intOf];omega
end Go.Proofs.YtgneijdjlahgbaaGreat
