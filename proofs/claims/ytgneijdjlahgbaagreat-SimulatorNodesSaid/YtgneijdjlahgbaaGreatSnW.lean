
/- Layer 59: SimulatorNodes, the walk. -/
import Derived.Test.YtgneijdjlahgbaaGreatSnP
import Derived.Test.YtgneijdjlahgbaaGreatLaBase59
import Derived.Test.YtgneijdjlahgbaaGreatM20
import Derived.Test.YtgneijdjlahgbaaGreatM21
import Derived.RegionTactic
import Derived.Test.YtgneijdjlahgbaaGreatM37
namespace Go.Proofs.YtgneijdjlahgbaaGreat
set_option maxRecDepth 100000
set_option maxHeartbeats 16000000
set_option linter.unusedSimpArgs false
set_option linter.unusedVariables false
open Go.RowKit
theorem ret_tt_sn {v:Bool} (h:v=true):Ending.returned (.bool v)=.returned (.bool true):=by rw [h]
theorem boxS0m (w:World):BoxS w 0 [] w:=⟨fun i cs hi=>by simp at hi,by simp,Below.refl _ _,by simp⟩
def SnL (s:Stp) (B:World) (v t:Value) (wr:World):Prop:=∃ k:Nat,k≤s.no.length∧t=.int .i64 (k:Int)∧BoxS B 0 [] wr∧Ow oneI 1 2 B.heap.size ((dstL s).take (k - 1)) v wr
def SnR (s:Stp) (B:World) (x t:Value) (wr:World):Prop:=∃ (k:Nat) (S:Int),k≤s.no.length∧t=.int .i64 (k:Int)∧x=.int .i64 S∧S=sumD s (k - 1)∧BoxS B 0 [] wr
theorem sn_run {s:Stp} {w:World} (hl:s.lies w) (hok:s.ok) (h:runE s=0):Calls Tryz.prog 16 #[.agg s.cells.toArray] w fun e w'=>∃ b off c,e=.returned (.tuple #[.agg #[.slice (some ⟨b,off,none⟩) s.no.length c,.int .i64 0,.int .i64 0,.bool false],.int .i64 0])∧Passes w' (some ⟨b,off,none⟩) s.no.length (wtL s (altL s) (pnL s))∧Below w.heap.size w w':=by
 have N:=StN.of hl
 obtain ⟨R,hL⟩:=run_good N h
 refine (run_ok hl hok h hL (wtL_len _ _ _).symm).mono ?_
 rintro e w' ⟨A,c,rfl,hP,-,hB⟩
 rw [wtL_len] at *
 have hn:=no_len R.G N
 obtain ⟨b,off,rfl,hb,hc⟩:=hP.cells (by omega)
 exact ⟨b,off,c,rfl,hP,hB⟩
theorem sn_at {W:World} {b off n:Nat} {l:List Pass} (h:Passes W (some ⟨b,off,none⟩) n l) {k:Nat} {p:Pass} (hk:l[k]? = some p):b<W.heap.size∧∀ j u,p.cells[j]? = some u→W.cell? ⟨b,off+k * 13+j,none⟩=some u:=by
 obtain ⟨b',o',h1,h2,h3⟩:=h.cells (by have:=h.len;have:=(List.getElem?_eq_some_iff.1 hk).1;omega)
 injection h1 with h1;injection h1 with h1 h4;subst h1;subst h4
 exact ⟨h2,fun j u hj=>h3 k p hk j u hj⟩
theorem sn_int {W:World} {b off n:Nat} {l:List Int} (h:Ints W (some ⟨b,off,none⟩) n l) {k:Nat} {x:Int} (hx:l[k]? = some x):b<W.heap.size∧W.cell? ⟨b,off+k,none⟩=some (.int .i64 x):=by
 have hk:k<n:=by have:=h.len;have:=(List.getElem?_eq_some_iff.1 hx).1;omega
 obtain ⟨b',o',h1,h2,h3⟩:=h.cells (by omega)
 injection h1 with h1;injection h1 with h1 h4;subst h1;subst h4
 exact ⟨h2,h3 k x hx⟩
theorem sn_i64 {s:Stp} (N:StN s) (R:RnG s):(∀ q ∈ wtL s (altL s) (pnL s),I64 q.ground∧I64 q.tick)∧∀ q ∈ dstL s,I64 q:=by
 have h64:=no_len R.G N
 constructor
 ·intro q hq
  obtain ⟨k,hk⟩:=List.getElem?_of_mem hq
  have hkn:k<s.no.length:=by have:=(List.getElem?_eq_some_iff.1 hk).1;rwa [wtL_len] at this
  rw [wt_pK hkn] at hk
  obtain rfl:=Option.some.inj hk
  have hb:=tick_bd N R k hkn
  refine ⟨?_,by unfold I64;omega⟩
  cases k with
  | zero=>show I64 0;unfold I64;decide
  | succ k=>have:=(sn_step N R hkn).g;unfold I64;omega
 ·intro x hx
  have:=(dst_bd R.G N).1 x hx
  unfold Pf.okD at this
  unfold I64;omega
theorem walk_SimulatorNodes (s:Stp) (w:World) (hl:s.lies w) (hok:s.ok):Calls Tryz.prog 13 #[.agg s.cells.toArray] w fun e w'=>e=.returned (.bool true)∧Below w.heap.size w w':=by
 have HS:=Lib.hid (boxS1 w s.cells.toArray 35)
 have HAW:=Lib.hid awake_any
 by_cases hz:runE s=0
 rotate_left
 ·have HR:=Lib.hid (fun W (h:BoxS w 1 [s.cells] W)=>xPRun s W (hl.below h.B) hok)
  have e1:=beq_of hz
  have e2:=bne_of e1
  unfold RunP at HR
  generalize okN (runE s) s.no.length=M at *
  generalize runE s=E at *
  generalize (runC s).1=x at *
  generalize (runC s).2=y at *
  generalize runS s=bb at *
  clear hl hok hz
  go_enter Tryz.func13,Tryz.ntmps13
  go_wp2_with fail
  refine (HAW.out _).mono ?_;rintro e' w1 ⟨rfl,hB⟩
  replace HS:=Lib.hid (HS.out.below hB)
  clear hB HAW
  go_wp2_with (refine at_stp (.tmp 1) rfl rfl rfl (HS.out.has 0 _ rfl) ?_)
  refine (HR.out _ HS.out).mono ?_;rintro e' w2 ⟨A,c,rfl,-,-,hB⟩
  replace HS:=Lib.hid (HS.out.below hB)
  clear hB HR
  have Q3:Hid (Has ((w2.alloc (.cells #[.slice A M c,.int .i64 x,.int .i64 y,.bool bb] 42))) w2.heap.size [.slice A M c,.int .i64 x,.int .i64 y,.bool bb]):=Lib.hid (Has.new _ _ _)
  have r3:w.heap.size+1≤w2.heap.size:=HS.out.sz
  replace HS:=Lib.hid ((HS.out.alloc (.cells #[.slice A M c,.int .i64 x,.int .i64 y,.bool bb] 42)))
  go_wp2_with fail
  go_ret
  exact ⟨ret_tt_sn (by simp),HS.out.B⟩
 obtain ⟨i0,hi,hz0,hz1,hz2⟩:=info_parts infoI64
 have HR:=Lib.hid (fun W (h:BoxS w 1 [s.cells] W)=>sn_run (hl.below h.B) hok hz)
 have N:=StN.of hl
 obtain ⟨R,-⟩:=run_good N hz
 have hno:=N.no
 have hn2:=no_len R.G N
 obtain ⟨b,off,hA⟩:=su_A hl (by omega)
 have HNS:=Lib.hid (fun W (h:BoxS w 1 [s.cells] W)=>show W.cell? ⟨w.heap.size,0,none⟩=some (.slice (some ⟨b,off,none⟩) s.sno.n s.sno.c) from su_sl (h.has 0 _ rfl) hA)
 have HNV:=Lib.hid (fun W (h:BoxS w 1 [s.cells] W) k (hk:k<s.no.length)=>su_nd (hl.below h.B) hA hk)
 have HTK:=Lib.hid (fun k (h0:0<k) (hk:k<s.no.length)=>dstL_take R.G N h0 hk)
 have HDL:=Lib.hid (dst_bd R.G N).2
 have HNO:=Lib.hid hno
 have HG:=Lib.hid (fun i (hi:i<s.no.length)=>sn_good N R hi)
 have HWT:=Lib.hid (fun k (hk:k<s.no.length)=>wt_pK (s:=s) hk)
 have HDG:=Lib.hid (fun k (hk:k+1<s.no.length)=>dstL_get R.G N hk)
 have HTB:=Lib.hid (fun k (hk:k<s.no.length)=>tick_bd N R k hk)
 have HRA:=Lib.hid (fun A B c d t W (hp:Passes W A s.no.length (wtL s (altL s) (pnL s))) (hd:Ints W B (s.no.length - 1) (dstL s)) (ht:I64 t)=>xRails A B s.no.length c (s.no.length - 1) d (wtL s (altL s) (pnL s)) (dstL s) t (.int .i64 0) (.int .i64 0) (.bool false) W hp hd (by omega) (by omega) ht (sn_i64 N R).1 (sn_i64 N R).2)
 obtain ⟨i1,i2⟩:=hn2
 clear hl hok N R hno hz hA
 go_enter Tryz.func13,Tryz.ntmps13
 go_wp2_with fail
 refine (HAW.out _).mono ?_;rintro e' w1 ⟨rfl,hB⟩
 replace HS:=Lib.hid (HS.out.below hB)
 clear hB HAW
 go_wp2_with (refine at_stp (.tmp 1) rfl rfl rfl (HS.out.has 0 _ rfl) ?_)
 refine (HR.out _ HS.out).mono ?_;rintro e' w2 ⟨bp,op,c,rfl,hC,hB⟩
 have HC:=Lib.hid hC
 replace HS:=Lib.hid (HS.out.below hB)
 clear hB hC HR
 have Q3:Hid (Has ((w2.alloc (.cells #[.slice (some ⟨bp,op,none⟩) s.no.length c,.int .i64 0,.int .i64 0,.bool false] 42))) w2.heap.size [.slice (some ⟨bp,op,none⟩) s.no.length c,.int .i64 0,.int .i64 0,.bool false]):=Lib.hid (Has.new _ _ _)
 have r3:w.heap.size+1≤w2.heap.size:=HS.out.sz
 replace HS:=Lib.hid ((HS.out.alloc (.cells #[.slice (some ⟨bp,op,none⟩) s.no.length c,.int .i64 0,.int .i64 0,.bool false] 42)))
 replace HC:=Lib.hid (HC.out.below (below_alloc1 w2 (.cells #[.slice (some ⟨bp,op,none⟩) s.no.length c,.int .i64 0,.int .i64 0,.bool false] 42)))
 have k0:=HNS.out _ HS.out
 go_wp2_with fail
 clear k0
 generalize (w2.alloc (.cells #[.slice (some ⟨bp,op,none⟩) s.no.length c,.int .i64 0,.int .i64 0,.bool false] 42))=w3 at *
 generalize w2.heap.size=H3 at *
 have HY:=Lib.hid (fun W (h:BoxS w3 0 [] W)=>HS.out.below h.B)
 have HY3:=Lib.hid (fun W (h:BoxS w3 0 [] W)=>Q3.out.below h.B)
 go_loopw [5,25] (fun v t wr=>SnL s w3 v t wr) (fun _ t _=>s.sno.n - (intOf t).toNat)
 case atStart=>exact ⟨0,by omega,rfl,boxS0m _,Ow.start _ _ _ _ _⟩
 case round =>
  obtain ⟨k,hk,rfl,hs,ho⟩:=hrel
  have HW:=Lib.hid hs
  have HO:=Lib.hid ho
  clear hs ho
  by_cases hlt:k<s.sno.n
  ·have hlt':(k:Int)<(s.sno.n:Int):=by omega
   have hk0:(0:Int)≤(k:Int):=by omega
   have hg:IntKind.i64.wrap ((k:Int)+1)=(k:Int)+1:=IntWalk.i64_in _ (by have:=HNO.out;omega)
   obtain ⟨n0,n1,n2,n3,n4,n5,n6⟩:=HNV.out _ (HY.out _ HW.out) k (by have:=HNO.out;omega)
   clear HS Q3
   rcases Nat.eq_zero_or_pos k with hz | hz
   ·have HZ:=Lib.hid hz
    have hgt:¬ (0:Int)<(k:Int):=by omega
    clear hz
    go_wp2_with fail
    go_roundw
    case rel=>exact ⟨k+1,by have:=HNO.out;omega,by go_num,HW.out.alloc _,by have h:=HO.out.alloc (.cells #[.int .i64 (nodA s k).px,.int .i64 (nodA s k).py,.int .i64 (nodA s k).di,.int .i64 (nodA s k).a0,.int .i64 (nodA s k).a1,.int .i64 (nodA s k).s0,.int .i64 (nodA s k).s1] 60);rw [HZ.out] at h ⊢;exact h⟩
    case measure=>simp only [intOf];omega
   ·have hgt:(0:Int)<(k:Int):=by omega
    have HTQ:=Lib.hid (HTK.out k hz (by have:=HNO.out;omega))
    have hlen:((dstL s).take (k - 1)).length≤64:=by rw [List.length_take];omega
    generalize (dstL s).take (k - 1)=LL at *
    go_wp2_with (at_builtin;refine wpList_append_own_at _ rfl _ _ 23 rfl w3.heap.size 2 i0 (.int .i64 0) 1 8 Tryz.underlying23 hi hz0 hz1 hz2 rfl (by decide) _ _ _ rfl (((HO.out.alloc _).alloc _).own) ⟨(wr.heap.size+1),0,none⟩ 1 1 [.int .i64 (nodA s k).di] rfl rfl (news_new _ _ (by first | rfl | simp) _ _ _ rfl) (by intro u hu;simp at hu;subst hu;rfl) (by unfold maxLen;omega) (by omega) (by have:=HW.out.B.size;simp;omega) ?_;intro v1 w7 hown hgrow hnil hblk)
    have HS7:=Lib.hid (((HW.out.alloc _).alloc _).grown hgrow (fun k hk=>(HO.out.lt hk).1))
    have HO7:=Lib.hid (Ow.next (l:=LL) (f:=oneI) (x:=(nodA s k).di) hown)
    clear hown hgrow hnil hblk
    go_roundw
    case rel=>exact ⟨k+1,by have:=HNO.out;omega,by go_num,HS7.out,by rw [HTQ.out];exact HO7.out⟩
    case measure=>simp only [intOf];omega
  have hlt':¬ (k:Int)<(s.sno.n:Int):=by omega
  have HL:=Lib.hid (show Ow oneI 1 2 w3.heap.size (dstL s) _ wr from by have h:=HO.out;rwa [List.take_of_length_le (by have:=HDL.out;have:=HNO.out;omega)] at h)
  obtain ⟨A',c',hv,hD,-⟩:=HL.out.ints HDL.out
  subst hv
  obtain ⟨b8,f8,rfl⟩:∃ b off,A'=some ⟨b,off,none⟩:=by
   obtain ⟨b,off,h1,_,_⟩:=hD.cells (by omega)
   exact ⟨b,off,h1⟩
  have HD:=Lib.hid hD
  replace HS:=Lib.hid (HY.out _ HW.out)
  replace Q3:=Lib.hid (HY3.out _ HW.out)
  replace HC:=Lib.hid (HC.out.below HW.out.B)
  clear HL hD HO HW HY HY3 hk HTK
  have c3_0:=Q3.out.cell 0 (.slice (some ⟨bp,op,none⟩) s.no.length c) rfl
  obtain ⟨B0,rfl⟩:∃ B0:World,B0=wr:=⟨_,rfl⟩
  go_wp2_with fail
  clear c3_0
  have HY:=Lib.hid (fun W (h:BoxS B0 0 [] W)=>HS.out.below h.B)
  have HY3:=Lib.hid (fun W (h:BoxS B0 0 [] W)=>Q3.out.below h.B)
  have HCT:=Lib.hid (fun W (h:BoxS B0 0 [] W) k (hk:k<s.no.length)=>show W.cell? ⟨bp,op+k * 13+4,none⟩=some (.int .i64 (pK s k).tick) from
   have q:=sn_at HC.out (HWT.out k hk)
   (h.B.cell (p:=⟨bp,op+k * 13+4,none⟩) q.1).trans (q.2 4 _ rfl))
  have HCD:=Lib.hid (fun W (h:BoxS B0 0 [] W) k (hk:k+1<s.no.length)=>show W.cell? ⟨b8,f8+k,none⟩=some (.int .i64 (nodA s (k+1)).di) from
   have q:=sn_int HD.out (HDG.out k hk)
   (h.B.cell (p:=⟨b8,f8+k,none⟩) q.1).trans q.2)
  have HCP:=Lib.hid (fun W (h:BoxS B0 0 [] W)=>HC.out.below h.B)
  have HDP:=Lib.hid (fun W (h:BoxS B0 0 [] W)=>HD.out.below h.B)
  go_loopw [8,41] (fun x t wr=>SnR s B0 x t wr) (fun _ t _=>s.no.length - (intOf t).toNat)
  case atStart=>exact ⟨0,0,by omega,rfl,rfl,rfl,boxS0m _⟩
  case round =>
   obtain ⟨k,S,hk,rfl,rfl,hS,hs⟩:=hrel
   have HW:=Lib.hid hs
   clear hs
   by_cases hlt2:k<s.no.length
   rotate_left
   ·have hlt3:¬ (k:Int)<(s.no.length:Int):=by omega
    go_wp2_with fail
    go_ret
    exact ⟨rfl,(HY.out _ HW.out).B⟩
   have hlt3:(k:Int)<(s.no.length:Int):=by omega
   have hk0:(0:Int)≤(k:Int):=by omega
   have hg:IntKind.i64.wrap ((k:Int)+1)=(k:Int)+1:=IntWalk.i64_in _ (by omega)
   have G:=HG.out k hlt2
   have TB:=HTB.out k hlt2
   have hp1:=HWT.out k hlt2
   have hp5:=sn_at HC.out hp1
   have hcr:=fun j u hj=>(HW.out.B.cell (p:=⟨bp,op+k * 13+j,none⟩) hp5.1).trans (hp5.2 j u hj)
   have HTS:=Lib.hid (fun W (h:BoxS B0 0 [] W) k (hk:k<s.no.length)=>HCT.out W h k hk)
   have HEQ:=Lib.hid G.eq
   have ge:=G.e
   have gl:=G.le
   have HRB:=Lib.hid (fun W (h:BoxS B0 0 [] W)=>HRA.out (some ⟨bp,op,none⟩) (some ⟨b8,f8,none⟩) c c' (pK s k).tick W (HCP.out W h) (HDP.out W h) (show I64 (pK s k).tick from by unfold I64;omega))
   rw [ge] at HRB
   have HPT:=Lib.hid (show (pK s k).tick=(pK s k).tick from rfl)
   generalize raV (wtL s (altL s) (pnL s)) (dstL s) (pK s k).tick=V at *
   obtain ⟨q,hq⟩:∃ q,q=pK s k:=⟨_,rfl⟩
   rw [← hq] at hcr HRB TB
   have p0:wr.cell? ⟨bp,op+k * 13,none⟩=some (.int .i64 q.alt):=hcr 0 _ rfl
   have p1:wr.cell? ⟨bp,op+k * 13+1,none⟩=some (.int .i64 q.cas):=hcr 1 _ rfl
   have p2:wr.cell? ⟨bp,op+k * 13+2,none⟩=some (.int .i64 q.tas):=hcr 2 _ rfl
   have p3:wr.cell? ⟨bp,op+k * 13+3,none⟩=some (.int .i64 q.ground):=hcr 3 _ rfl
   have p4:wr.cell? ⟨bp,op+k * 13+4,none⟩=some (.int .i64 q.tick):=hcr 4 _ rfl
   have p5:wr.cell? ⟨bp,op+k * 13+5,none⟩=some (.int .i64 q.fuel):=hcr 5 _ rfl
   have p6:wr.cell? ⟨bp,op+k * 13+6,none⟩=some (.int .i64 q.gl):=hcr 6 _ rfl
   have p7:wr.cell? ⟨bp,op+k * 13+7,none⟩=some (.int .i64 q.gh):=hcr 7 _ rfl
   have p8:wr.cell? ⟨bp,op+k * 13+8,none⟩=some (.int .i64 q.tl):=hcr 8 _ rfl
   have p9:wr.cell? ⟨bp,op+k * 13+9,none⟩=some (.int .i64 q.th):=hcr 9 _ rfl
   have p10:wr.cell? ⟨bp,op+k * 13+10,none⟩=some (.int .i64 q.fl):=hcr 10 _ rfl
   have p11:wr.cell? ⟨bp,op+k * 13+11,none⟩=some (.int .i64 q.fh):=hcr 11 _ rfl
   have p12:wr.cell? ⟨bp,op+k * 13+12,none⟩=some (.int .u8 q.phase):=hcr 12 _ rfl
   have HQ:=Lib.hid hq
   have HSK:=Lib.hid hS
   clear hcr hp5 hp1 G ge HPT hq hS
   have Q10:Hid (Has (wr.alloc (.cells #[.int .i64 q.alt,.int .i64 q.cas,.int .i64 q.tas,.int .i64 q.ground,.int .i64 q.tick,.int .i64 q.fuel,.int .i64 q.gl,.int .i64 q.gh,.int .i64 q.tl,.int .i64 q.th,.int .i64 q.fl,.int .i64 q.fh,.int .u8 q.phase] 53)) wr.heap.size (lzp q.alt q.cas q.tas q.ground q.tick q.fuel q.gl q.gh q.tl q.th q.fl q.fh q.phase)):=Lib.hid (Has.new _ _ _)
   replace HW:=Lib.hid (HW.out.alloc (.cells #[.int .i64 q.alt,.int .i64 q.cas,.int .i64 q.tas,.int .i64 q.ground,.int .i64 q.tick,.int .i64 q.fuel,.int .i64 q.gl,.int .i64 q.gh,.int .i64 q.tl,.int .i64 q.th,.int .i64 q.fl,.int .i64 q.fh,.int .u8 q.phase] 53))
   rcases Nat.eq_zero_or_pos k with hz | hz
   ·have HZ:=Lib.hid hz
    have HSS:=Lib.hid (show S=sumD s k from by rw [HSK.out,show k - 1=k by omega])
    obtain ⟨SK,hSK⟩:∃ SK,SK=S:=⟨_,rfl⟩
    rw [← hSK] at HSS ⊢
    clear hSK HSK
    have gl2:¬ SK<V:=by rw [HSS.out];omega
    have hkz:((k:Int) == 0)=true:=by simp;omega
    have hgt:¬ (0:Int)<(k:Int):=by omega
    have hk1:(k:Int)+1<(s.no.length:Int):=by omega
    have hk11:k+1<s.no.length:=by omega
    have hk1p:(0:Int)≤(k:Int)+1:=by omega
    have htn:((k:Int)+1).toNat=k+1:=by omega
    have HC1:=Lib.hid (fun W (h:BoxS B0 0 [] W)=>HTS.out W h (k+1) (by omega))
    clear hz
    go_wp2_with fail
    clear p0 p1 p2 p3 p4 p5 p6 p7 p8 p9 p10 p11 p12
    generalize wr.alloc (.cells #[.int .i64 q.alt,.int .i64 q.cas,.int .i64 q.tas,.int .i64 q.ground,.int .i64 q.tick,.int .i64 q.fuel,.int .i64 q.gl,.int .i64 q.gh,.int .i64 q.tl,.int .i64 q.th,.int .i64 q.fl,.int .i64 q.fh,.int .u8 q.phase] 53)=w5 at *
    generalize wr.heap.size=H10 at *
    by_cases ht:(pK s (k+1)).tick=q.tick
    ·have et:((pK s (k+1)).tick == q.tick)=true:=by simp [ht]
     generalize (pK s (k+1)).tick=t1 at *
     refine held_start (S:=fun W=>BoxS B0 0 [] W∧Has W H10 (lzp q.alt q.cas q.tas q.ground q.tick q.fuel q.gl q.gh q.tl q.th q.fl q.fh q.phase)) 18 #[false,false,false,false,false,false,false,false,false,false,false,false,false,false,false,false,false,false] rfl rfl (by kernel_rfl) (And.intro HW.out.drew Q10.out.drew) (fun hHeld=>?_)
     iterate 18 (refine hF (L:=_) (v:=?_) rfl rfl ?_ ?_;rotate_left;(intro W hW;have y0:=(HY3.out W hW.1).cell 0 (.slice (some ⟨bp,op,none⟩) s.no.length c) rfl;have y1:=HC1.out W hW.1;have y2:=hW.2.cell 4 (.int .i64 q.tick) rfl;clear hW;go_simp;try with_reducible rfl);try simp only [Act.put,pa,pb,pc,setF])
     refine wpAnyH_done (by kernel_rfl) ?_ _
     replace HW:=Lib.hid hHeld.1
     replace Q10:=Lib.hid hHeld.2
     clear hHeld
     go_wp2_with fail
     go_roundw
     case rel=>exact ⟨k+1,_,by omega,by go_num,rfl,(show SK=sumD s (k+1 - 1) from HSS.out),HW.out⟩
     case measure=>simp only [intOf];omega
    have et:((pK s (k+1)).tick == q.tick)=false:=by simp [ht]
    generalize (pK s (k+1)).tick=t1 at *
    refine held_start (S:=fun W=>BoxS B0 0 [] W∧Has W H10 (lzp q.alt q.cas q.tas q.ground q.tick q.fuel q.gl q.gh q.tl q.th q.fl q.fh q.phase)) 18 #[false,false,false,false,false,false,false,false,false,false,false,false,false,false,false,false,false,false] rfl rfl (by kernel_rfl) (And.intro HW.out.drew Q10.out.drew) (fun hHeld=>?_)
    iterate 18 (refine hF (L:=_) (v:=?_) rfl rfl ?_ ?_;rotate_left;(intro W hW;have y0:=(HY3.out W hW.1).cell 0 (.slice (some ⟨bp,op,none⟩) s.no.length c) rfl;have y1:=HC1.out W hW.1;have y2:=hW.2.cell 4 (.int .i64 q.tick) rfl;clear hW;go_simp;try with_reducible rfl);try simp only [Act.put,pa,pb,pc,setF])
    refine wpAnyH_done (by kernel_rfl) ?_ _
    replace HW:=Lib.hid hHeld.1
    replace Q10:=Lib.hid hHeld.2
    clear hHeld
    have z0:=(HY3.out _ HW.out).cell 0 (.slice (some ⟨bp,op,none⟩) s.no.length c) rfl
    have z1:=(HY3.out _ HW.out).cell 1 (.int .i64 0) rfl
    have z2:=(HY3.out _ HW.out).cell 2 (.int .i64 0) rfl
    have z3:=(HY3.out _ HW.out).cell 3 (.bool false) rfl
    have zt:=Q10.out.cell 4 (.int .i64 q.tick) rfl
    go_wp2_with fail
    clear z0 z1 z2 z3 zt
    refine (HRB.out _ HW.out).mono ?_;rintro e2 w6 ⟨rfl,hB⟩
    replace HW:=Lib.hid (HW.out.below hB)
    replace Q10:=Lib.hid (Q10.out.below hB)
    clear hB
    go_wp2_with fail
    have HVS:=Lib.hid (show V=SK from by rw [HSS.out];exact HEQ.out (.inl HZ.out))
    have ev:=beq_iff_eq.2 HVS.out
    have ev2:(V != SK)=false:=by rw [bne,ev];rfl
    refine held_start (S:=fun W=>BoxS B0 0 [] W∧Has W H10 (lzp q.alt q.cas q.tas q.ground q.tick q.fuel q.gl q.gh q.tl q.th q.fl q.fh q.phase)) 14 #[false,false,false,false,false,false,false,false,false,false,false,false,false,false] rfl rfl (by kernel_rfl) (And.intro HW.out.drew Q10.out.drew) (fun hHeld=>?_)
    iterate 3 (refine hF (L:=_) (v:=?_) rfl rfl ?_ ?_;rotate_left;(intro W hW;go_simp;try with_reducible rfl);try simp only [Act.put,pa,pb,pc,setF])
    iterate 10 (refine hFu (L:=_) rfl rfl ?_;try simp only [Act.put,pa,pb,pc,setF])
    refine hL 13 101 (v:=?_) rfl rfl ?_ ?_
    rotate_left
    ·intro W hW
     go_simp;try with_reducible rfl
    (try simp only [Act.put,pa,pb,pc])
    refine wpAnyH_done (by kernel_rfl) ?_ _
    replace HW:=Lib.hid hHeld.1
    replace Q10:=Lib.hid hHeld.2
    clear hHeld
    go_wp2_with fail
    go_roundw
    case rel=>exact ⟨k+1,_,by omega,by go_num,rfl,(show SK=sumD s (k+1 - 1) from HSS.out),HW.out⟩
    case measure=>simp only [intOf];omega
   obtain ⟨j,hj⟩:∃ j,j+1=k:=⟨k - 1,by omega⟩
   have HJK:=Lib.hid (show k - 1=j by omega)
   have HSS:=Lib.hid (show S+(nodA s k).di=sumD s k from by rw [HSK.out,HJK.out,← hj];rfl)
   have HCJ:=Lib.hid (fun W (h:BoxS B0 0 [] W)=>HTS.out W h j (by omega))
   have cd:=HCD.out _ HW.out j (by omega)
   rw [hj] at cd
   obtain ⟨SK,hSK⟩:∃ SK,SK=S+(nodA s k).di:=⟨_,rfl⟩
   have hsum:IntKind.i64.wrap (S+(nodA s k).di)=SK:=by rw [hSK,HSS.out];exact IntWalk.i64_in _ (by omega)
   rw [← hSK] at HSS
   have gl2:¬ SK<V:=by rw [HSS.out];omega
   have hkz:((k:Int) == 0)=false:=by simp;omega
   have hgt:(0:Int)<(k:Int):=by omega
   have hji:IntKind.i64.wrap ((k:Int) - 1)=(j:Int):=by rw [show (k:Int) - 1=(j:Int) by omega];exact IntWalk.i64_in _ (by omega)
   have hj0:(0:Int)≤(j:Int):=by omega
   have hj1:(j:Int)<(s.no.length:Int):=by omega
   have hj3:(j:Int)<((s.no.length - 1:Nat):Int):=by omega
   have hj4:j<s.no.length - 1:=by omega
   have hj5:j<s.no.length:=by omega
   clear hSK HSK hz hj
   go_wp2_with fail
   clear cd
   clear p0 p1 p2 p3 p4 p5 p6 p7 p8 p9 p10 p11 p12
   generalize wr.alloc (.cells #[.int .i64 q.alt,.int .i64 q.cas,.int .i64 q.tas,.int .i64 q.ground,.int .i64 q.tick,.int .i64 q.fuel,.int .i64 q.gl,.int .i64 q.gh,.int .i64 q.tl,.int .i64 q.th,.int .i64 q.fl,.int .i64 q.fh,.int .u8 q.phase] 53)=w5 at *
   generalize wr.heap.size=H10 at *
   by_cases hl:k+1<s.no.length
   rotate_left
   ·have hk1:¬ (k:Int)+1<(s.no.length:Int):=by omega
    refine held_start (S:=fun W=>BoxS B0 0 [] W∧Has W H10 (lzp q.alt q.cas q.tas q.ground q.tick q.fuel q.gl q.gh q.tl q.th q.fl q.fh q.phase)) 18 #[false,false,false,false,false,false,false,false,false,false,false,false,false,false,false,false,false,false] rfl rfl (by kernel_rfl) (And.intro HW.out.drew Q10.out.drew) (fun hHeld=>?_)
    iterate 7 (refine hF (L:=_) (v:=?_) rfl rfl ?_ ?_;rotate_left;(intro W hW;have y0:=(HY3.out W hW.1).cell 0 (.slice (some ⟨bp,op,none⟩) s.no.length c) rfl;clear hW;go_simp;try with_reducible rfl);try simp only [Act.put,pa,pb,pc,setF])
    iterate 10 (refine hFu (L:=_) rfl rfl ?_;try simp only [Act.put,pa,pb,pc,setF])
    refine hL 17 72 (v:=?_) rfl rfl ?_ ?_
    rotate_left
    ·intro W hW
     go_simp;try with_reducible rfl
    (try simp only [Act.put,pa,pb,pc])
    refine wpAnyH_done (by kernel_rfl) ?_ _
    replace HW:=Lib.hid hHeld.1
    replace Q10:=Lib.hid hHeld.2
    clear hHeld
    have z0:=(HY3.out _ HW.out).cell 0 (.slice (some ⟨bp,op,none⟩) s.no.length c) rfl
    have z1:=(HY3.out _ HW.out).cell 1 (.int .i64 0) rfl
    have z2:=(HY3.out _ HW.out).cell 2 (.int .i64 0) rfl
    have z3:=(HY3.out _ HW.out).cell 3 (.bool false) rfl
    have zt:=Q10.out.cell 4 (.int .i64 q.tick) rfl
    go_wp2_with fail
    clear z0 z1 z2 z3 zt
    refine (HRB.out _ HW.out).mono ?_;rintro e2 w6 ⟨rfl,hB⟩
    replace HW:=Lib.hid (HW.out.below hB)
    replace Q10:=Lib.hid (Q10.out.below hB)
    clear hB
    go_wp2_with fail
    by_cases hj2:(pK s j).tick=q.tick
    ·have ej:((pK s j).tick == q.tick)=true:=by simp [hj2]
     have ej2:((pK s j).tick != q.tick)=false:=by rw [bne,ej];rfl
     generalize (pK s j).tick=t2 at *
     refine held_start (S:=fun W=>BoxS B0 0 [] W∧Has W H10 (lzp q.alt q.cas q.tas q.ground q.tick q.fuel q.gl q.gh q.tl q.th q.fl q.fh q.phase)) 14 #[false,false,false,false,false,false,false,false,false,false,false,false,false,false] rfl rfl (by kernel_rfl) (And.intro HW.out.drew Q10.out.drew) (fun hHeld=>?_)
     iterate 14 (refine hF (L:=_) (v:=?_) rfl rfl ?_ ?_;rotate_left;(intro W hW;have y0:=(HY3.out W hW.1).cell 0 (.slice (some ⟨bp,op,none⟩) s.no.length c) rfl;have y1:=HCJ.out W hW.1;have y2:=hW.2.cell 4 (.int .i64 q.tick) rfl;clear hW;go_simp;try with_reducible rfl);try simp only [Act.put,pa,pb,pc,setF])
     refine wpAnyH_done (by kernel_rfl) ?_ _
     replace HW:=Lib.hid hHeld.1
     replace Q10:=Lib.hid hHeld.2
     clear hHeld
     go_wp2_with fail
     go_roundw
     case rel=>exact ⟨k+1,_,by omega,by go_num,rfl,(show SK=sumD s (k+1 - 1) from HSS.out),HW.out⟩
     case measure=>simp only [intOf];omega
    have HVS:=Lib.hid (show V=SK from by rw [HSS.out];exact HEQ.out (.inr (by rw [HJK.out];rwa [← HQ.out])))
    have ev:=beq_iff_eq.2 HVS.out
    have ev2:(V != SK)=false:=by rw [bne,ev];rfl
    have ej:((pK s j).tick == q.tick)=false:=by simp [hj2]
    have ej2:((pK s j).tick != q.tick)=true:=by rw [bne,ej];rfl
    generalize (pK s j).tick=t2 at *
    refine held_start (S:=fun W=>BoxS B0 0 [] W∧Has W H10 (lzp q.alt q.cas q.tas q.ground q.tick q.fuel q.gl q.gh q.tl q.th q.fl q.fh q.phase)) 14 #[false,false,false,false,false,false,false,false,false,false,false,false,false,false] rfl rfl (by kernel_rfl) (And.intro HW.out.drew Q10.out.drew) (fun hHeld=>?_)
    iterate 14 (refine hF (L:=_) (v:=?_) rfl rfl ?_ ?_;rotate_left;(intro W hW;have y0:=(HY3.out W hW.1).cell 0 (.slice (some ⟨bp,op,none⟩) s.no.length c) rfl;have y1:=HCJ.out W hW.1;have y2:=hW.2.cell 4 (.int .i64 q.tick) rfl;clear hW;go_simp;try with_reducible rfl);try simp only [Act.put,pa,pb,pc,setF])
    refine wpAnyH_done (by kernel_rfl) ?_ _
    replace HW:=Lib.hid hHeld.1
    replace Q10:=Lib.hid hHeld.2
    clear hHeld
    go_wp2_with fail
    go_roundw
    case rel=>exact ⟨k+1,_,by omega,by go_num,rfl,(show SK=sumD s (k+1 - 1) from HSS.out),HW.out⟩
    case measure=>simp only [intOf];omega
   have hk1:(k:Int)+1<(s.no.length:Int):=by omega
   have hk1p:(0:Int)≤(k:Int)+1:=by omega
   have htn:((k:Int)+1).toNat=k+1:=by omega
   have HC1:=Lib.hid (fun W (h:BoxS B0 0 [] W)=>HTS.out W h (k+1) hl)
   by_cases ht:(pK s (k+1)).tick=q.tick
   ·have et:((pK s (k+1)).tick == q.tick)=true:=by simp [ht]
    generalize (pK s (k+1)).tick=t1 at *
    refine held_start (S:=fun W=>BoxS B0 0 [] W∧Has W H10 (lzp q.alt q.cas q.tas q.ground q.tick q.fuel q.gl q.gh q.tl q.th q.fl q.fh q.phase)) 18 #[false,false,false,false,false,false,false,false,false,false,false,false,false,false,false,false,false,false] rfl rfl (by kernel_rfl) (And.intro HW.out.drew Q10.out.drew) (fun hHeld=>?_)
    iterate 18 (refine hF (L:=_) (v:=?_) rfl rfl ?_ ?_;rotate_left;(intro W hW;have y0:=(HY3.out W hW.1).cell 0 (.slice (some ⟨bp,op,none⟩) s.no.length c) rfl;have y1:=HC1.out W hW.1;have y2:=hW.2.cell 4 (.int .i64 q.tick) rfl;clear hW;go_simp;try with_reducible rfl);try simp only [Act.put,pa,pb,pc,setF])
    refine wpAnyH_done (by kernel_rfl) ?_ _
    replace HW:=Lib.hid hHeld.1
    replace Q10:=Lib.hid hHeld.2
    clear hHeld
    go_wp2_with fail
    go_roundw
    case rel=>exact ⟨k+1,_,by omega,by go_num,rfl,(show SK=sumD s (k+1 - 1) from HSS.out),HW.out⟩
    case measure=>simp only [intOf];omega
   have et:((pK s (k+1)).tick == q.tick)=false:=by simp [ht]
   generalize (pK s (k+1)).tick=t1 at *
   refine held_start (S:=fun W=>BoxS B0 0 [] W∧Has W H10 (lzp q.alt q.cas q.tas q.ground q.tick q.fuel q.gl q.gh q.tl q.th q.fl q.fh q.phase)) 18 #[false,false,false,false,false,false,false,false,false,false,false,false,false,false,false,false,false,false] rfl rfl (by kernel_rfl) (And.intro HW.out.drew Q10.out.drew) (fun hHeld=>?_)
   iterate 18 (refine hF (L:=_) (v:=?_) rfl rfl ?_ ?_;rotate_left;(intro W hW;have y0:=(HY3.out W hW.1).cell 0 (.slice (some ⟨bp,op,none⟩) s.no.length c) rfl;have y1:=HC1.out W hW.1;have y2:=hW.2.cell 4 (.int .i64 q.tick) rfl;clear hW;go_simp;try with_reducible rfl);try simp only [Act.put,pa,pb,pc,setF])
   refine wpAnyH_done (by kernel_rfl) ?_ _
   replace HW:=Lib.hid hHeld.1
   replace Q10:=Lib.hid hHeld.2
   clear hHeld
   have z0:=(HY3.out _ HW.out).cell 0 (.slice (some ⟨bp,op,none⟩) s.no.length c) rfl
   have z1:=(HY3.out _ HW.out).cell 1 (.int .i64 0) rfl
   have z2:=(HY3.out _ HW.out).cell 2 (.int .i64 0) rfl
   have z3:=(HY3.out _ HW.out).cell 3 (.bool false) rfl
   have zt:=Q10.out.cell 4 (.int .i64 q.tick) rfl
   go_wp2_with fail
   clear z0 z1 z2 z3 zt
   refine (HRB.out _ HW.out).mono ?_;rintro e2 w6 ⟨rfl,hB⟩
   replace HW:=Lib.hid (HW.out.below hB)
   replace Q10:=Lib.hid (Q10.out.below hB)
   clear hB
   go_wp2_with fail
   by_cases hj2:(pK s j).tick=q.tick
   ·have ej:((pK s j).tick == q.tick)=true:=by simp [hj2]
    have ej2:((pK s j).tick != q.tick)=false:=by rw [bne,ej];rfl
    generalize (pK s j).tick=t2 at *
    refine held_start (S:=fun W=>BoxS B0 0 [] W∧Has W H10 (lzp q.alt q.cas q.tas q.ground q.tick q.fuel q.gl q.gh q.tl q.th q.fl q.fh q.phase)) 14 #[false,false,false,false,false,false,false,false,false,false,false,false,false,false] rfl rfl (by kernel_rfl) (And.intro HW.out.drew Q10.out.drew) (fun hHeld=>?_)
    iterate 14 (refine hF (L:=_) (v:=?_) rfl rfl ?_ ?_;rotate_left;(intro W hW;have y0:=(HY3.out W hW.1).cell 0 (.slice (some ⟨bp,op,none⟩) s.no.length c) rfl;have y1:=HCJ.out W hW.1;have y2:=hW.2.cell 4 (.int .i64 q.tick) rfl;clear hW;go_simp;try with_reducible rfl);try simp only [Act.put,pa,pb,pc,setF])
    refine wpAnyH_done (by kernel_rfl) ?_ _
    replace HW:=Lib.hid hHeld.1
    replace Q10:=Lib.hid hHeld.2
    clear hHeld
    go_wp2_with fail
    go_roundw
    case rel=>exact ⟨k+1,_,by omega,by go_num,rfl,(show SK=sumD s (k+1 - 1) from HSS.out),HW.out⟩
    case measure=>simp only [intOf];omega
   have HVS:=Lib.hid (show V=SK from by rw [HSS.out];exact HEQ.out (.inr (by rw [HJK.out];rwa [← HQ.out])))
   have ev:=beq_iff_eq.2 HVS.out
   have ev2:(V != SK)=false:=by rw [bne,ev];rfl
   have ej:((pK s j).tick == q.tick)=false:=by simp [hj2]
   have ej2:((pK s j).tick != q.tick)=true:=by rw [bne,ej];rfl
   generalize (pK s j).tick=t2 at *
   refine held_start (S:=fun W=>BoxS B0 0 [] W∧Has W H10 (lzp q.alt q.cas q.tas q.ground q.tick q.fuel q.gl q.gh q.tl q.th q.fl q.fh q.phase)) 14 #[false,false,false,false,false,false,false,false,false,false,false,false,false,false] rfl rfl (by kernel_rfl) (And.intro HW.out.drew Q10.out.drew) (fun hHeld=>?_)
   iterate 14 (refine hF (L:=_) (v:=?_) rfl rfl ?_ ?_;rotate_left;(intro W hW;have y0:=(HY3.out W hW.1).cell 0 (.slice (some ⟨bp,op,none⟩) s.no.length c) rfl;have y1:=HCJ.out W hW.1;have y2:=hW.2.cell 4 (.int .i64 q.tick) rfl;clear hW;go_simp;try with_reducible rfl);try simp only [Act.put,pa,pb,pc,setF])
   refine wpAnyH_done (by kernel_rfl) ?_ _
   replace HW:=Lib.hid hHeld.1
   replace Q10:=Lib.hid hHeld.2
   clear hHeld
   go_wp2_with fail
   go_roundw
   case rel=>exact ⟨k+1,_,by omega,by go_num,rfl,(show SK=sumD s (k+1 - 1) from HSS.out),HW.out⟩
   case measure=>simp only [intOf];omega
end Go.Proofs.YtgneijdjlahgbaaGreat
