/- M15: FlyL, Pr12, RunN, RunP, TaP in one text. -/
import Derived.Test.YtgneijdjlahgbaaGreatM14
import Derived.Test.YtgneijdjlahgbaaGreatPr15
import Derived.Test.YtgneijdjlahgbaaGreatM28
import Derived.RegionTactic
import Derived.Test.YtgneijdjlahgbaaGreatM20
import Derived.Test.YtgneijdjlahgbaaGreatM3
namespace Go.Proofs.YtgneijdjlahgbaaGreat
set_option linter.unusedSimpArgs false
set_option linter.unusedVariables false
open Go.RowKit
theorem xPFly (s:Stp) (A C:Option Addr) (np cp nw cw:Nat) (x y:Int) (bb:Bool) (ps:List Pass) (ws:Cs.Wins) (w:World) (hl:s.lies w) (hok:s.ok) (hp:Passes w A np ps) (hw:Pairs w C nw ws) (hnp:np≤maxLen) (hnw:nw≤maxLen):Calls Tryz.prog 18 #[.agg s.cells.toArray,.agg #[.slice A np cp,.int .i64 x,.int .i64 y,.bool bb],.slice C nw cw] w (FlyP s ps ws w):=by
 by_cases hE:suE s=0
 rotate_left
 ·exact xPFly_su s A C np cp nw cw x y bb ps ws w hl hok hp hw hnp hnw hE
 by_cases h0:np=s.sno.n
 rotate_left
 ·exact xPFly_1 s A C np cp nw cw x y bb ps ws w hl hok hp hw hnp hnw hE h0
 by_cases h1:nw+1=s.sno.n
 ·exact xPFly_0 s A C np cp nw cw x y bb ps ws w hl hok hp hw hnp hnw hE h0 h1
 ·exact xPFly_2 s A C np cp nw cw x y bb ps ws w hl hok hp hw hnp hnw hE h0 h1
section
variable {s:Stp}
theorem wtL_al {al sp:List Int} (h:al.length=s.no.length):(wtL s al sp).map Pass.alt=al:=by
 apply List.ext_getElem?
 intro k
 by_cases hk:k<s.no.length
 ·rw [List.getElem?_map,wtL_get hk,List.getElem?_eq_getElem (show k<al.length by omega)]
  show some (psP s al sp k).alt=_
  rw [(psP_alt al sp k).1,getD_of_get (List.getElem?_eq_getElem (show k<al.length by omega))]
 ·rw [List.getElem?_eq_none (by rw [List.length_map,wtL_len];omega),List.getElem?_eq_none (by omega)]
theorem wtL_sp {al sp:List Int} (h:sp.length=s.no.length):(wtL s al sp).map Pass.cas=sp:=by
 apply List.ext_getElem?
 intro k
 by_cases hk:k<s.no.length
 ·rw [List.getElem?_map,wtL_get hk,List.getElem?_eq_getElem (show k<sp.length by omega)]
  show some (psP s al sp k).cas=_
  rw [(psP_alt al sp k).2,getD_of_get (List.getElem?_eq_getElem (show k<sp.length by omega))]
 ·rw [List.getElem?_eq_none (by rw [List.length_map,wtL_len];omega),List.getElem?_eq_none (by omega)]
theorem wn_in (G:StG s) {ws:Cs.Wins} (hw:WsIn s ws) {k:Nat} (hk:k+1<s.no.length):wnB (suH s k).e0 (suH s k).e1 (suH s k).n0 (suH s k).n1 (ws.getD k (0,0)).1 (ws.getD k (0,0)).2=true:=by
 have h:=hw k hk
 have g:=suH_ok G k
 unfold wnB bxB
 simp only [Bool.and_eq_true,inB_iff,decide_eq_true_eq]
 omega
structure FlO (s:Stp) (ws:Cs.Wins):Prop where
 e:flyE s (wtL s (altL s) (pnL s)) ws=0
 t:flyT s (wtL s (altL s) (pnL s)) ws=(List.range s.no.length).map (flTi s (altL s) (pnL s) ws)
 l:flyL s (wtL s (altL s) (pnL s)) ws=(List.range s.no.length).map (flLe s (altL s) (pnL s) ws)
 i:∀ k,k<s.no.length→FlI s (altL s) (pnL s) ws k
theorem fl_ok (N:StN s) (R:RnG s) {ws:Cs.Wins} (hl:ws.length+1=s.no.length) (hw:WsIn s ws):FlO s ws:=by
 have ha:=wtL_al (s:=s) (sp:=pnL s) R.al.len
 have hs:=wtL_sp (s:=s) (al:=altL s) R.sp.len
 have hi:∀ k,k<s.no.length→FlI s (altL s) (pnL s) ws k:=fun k hk=>flown R.G N R.fc hw k hk (R.at hk)
 refine ⟨?_,by unfold flyT;rw [ha,hs],by unfold flyL;rw [ha,hs],hi⟩
 have h3:fcE s ((wtL s (altL s) (pnL s)).map Pass.alt) ((wtL s (altL s) (pnL s)).map Pass.cas)=0:=by rw [ha,hs];exact fc_0 R.G N R.al R.sp
 rw [flyE_f R.su (wtL_len _ _ _) (by omega) h3 (fun k hk=>wn_in R.G hw (by omega)),ha,hs]
 exact (hi ws.length (by omega)).e
theorem FlO.get {ws:Cs.Wins} (h:FlO s ws) {k:Nat} (hk:k<s.no.length):(flyT s (wtL s (altL s) (pnL s)) ws)[k]? = some (flTi s (altL s) (pnL s) ws k)∧(flyL s (wtL s (altL s) (pnL s)) ws)[k]? = some (flLe s (altL s) (pnL s) ws k):=by
 rw [h.t,h.l,List.getElem?_map,List.getElem?_map,List.getElem?_range hk]
 exact ⟨rfl,rfl⟩
end
end Go.Proofs.YtgneijdjlahgbaaGreat

namespace Go.Proofs.YtgneijdjlahgbaaGreat
set_option maxRecDepth 100000
set_option maxHeartbeats 8000000
set_option linter.unusedSimpArgs false
set_option linter.unusedVariables false
open Go.RowKit
theorem infoBox37:(Tryz.prog.info? 85).map (fun i=>(i.zero,i.size,i.bytes))=some (some (.agg #[.int .i64 0,.int .i64 0,.int .i64 0,.int .i64 0]),4,32):=by kernel_rfl
def Hul.bx (h:Hul):List Value:=(lz4 h.e0 h.e1 h.n0 h.n1)
instance:Inhabited Hul:=⟨⟨0,0,0,0,0,0⟩⟩
def bxsL (s:Stp):List Hul:=(List.range (s.no.length - 1)).map (suH s)
theorem bxsL_len (s:Stp):(bxsL s).length=s.no.length - 1:=by unfold bxsL;simp
theorem bxsL_get {s:Stp} {k:Nat} (hk:k+1<s.no.length):(bxsL s)[k]? = some (suH s k):=by
 unfold bxsL
 rw [List.getElem?_map,List.getElem?_range (by omega)];rfl
theorem bxsL_take {s:Stp} {k:Nat} (hk:k+1<s.no.length):(bxsL s).take (k+1)=(bxsL s).take k ++ [suH s k]:=take_succ_get _ k _ (bxsL_get hk)
def RcRes {α:Type} (f:α→List Value) (sz:Nat) (l:List α) (n:Nat) (E:Int) (w:World) (e:Ending) (w':World):Prop:=∃ A c,e=.returned (.tuple #[.slice A n c,.int .i64 E])∧Recs f sz w' A n l∧CapOk A n c∧Below w.heap.size w w'
theorem rcRes_err {α:Type} {f:α→List Value} {sz:Nat} {l:List α} {n:Nat} {E E':Int} {w w':World} (hE:E=E') (h0:E'≠0) (hb:Below w.heap.size w w'):RcRes f sz (okL E l) (okN E n) E w (.returned (.tuple #[.slice none 0 0,.int .i64 E'])) w':=by
 subst hE
 unfold okL okN
 rw [if_neg h0,if_neg h0]
 exact ⟨none,0,rfl,Recs.nil _ _ _,⟨Nat.le_refl _,Nat.zero_le _,fun _=>rfl⟩,hb⟩
theorem rcRes_ok {α:Type} {f:α→List Value} {sz:Nat} {l:List α} {n:Nat} {E:Int} {w w':World} {e:Ending} (hE:E=0) (h:∃ A c,e=.returned (.tuple #[.slice A n c,.int .i64 0])∧Recs f sz w' A n l∧CapOk A n c) (hb:Below w.heap.size w w'):RcRes f sz (okL E l) (okN E n) E w e w':=by
 subst hE
 unfold okL okN
 rw [if_pos rfl,if_pos rfl]
 obtain ⟨A,c,h1,h2,h3⟩:=h
 exact ⟨A,c,h1,h2,h3,hb⟩
def BxsRel (s:Stp) (w:World) (v t:Value) (wr:World):Prop:=∃ k:Nat,k+1≤s.no.length∧t=.int .i64 ((k+1:Nat):Int)∧BoxS w 1 [s.cells] wr∧Ow Hul.bx 4 85 (w.heap.size+1) ((bxsL s).take k) v wr
theorem xPBoxes (s:Stp) (w:World) (hl:s.lies w) (hok:s.ok):Calls Tryz.prog 30 #[.agg s.cells.toArray] w (RcRes Hul.bx 4 (okL (suE s) (bxsL s)) (okN (suE s) (s.no.length - 1)) (suE s) w):=by
 obtain ⟨i0,hi,hz0,hz1,hz2⟩:=info_parts infoBox37
 have HS:=Lib.hid (boxS1 w s.cells.toArray 35)
 have HC:=Lib.hid (fun W (h:BoxS w 1 [s.cells] W)=>xPrCheck s W (hl.below h.B) hok)
 by_cases hE:suE s=0
 rotate_left
 ·generalize suE s=E at *
  have e1:=beq_of hE
  have e2:=bne_of e1
  have HE:=Lib.hid hE
  clear hl hok hE
  go_enter Tryz.func30,Tryz.ntmps30
  go_wp2_with (refine at_stp (.tmp 1) rfl rfl rfl (HS.out.has 0 _ rfl) ?_)
  refine (HC.out _ HS.out).mono ?_;rintro e' w1 ⟨rfl,hB⟩
  have HB:=Lib.hid (bel_trans HS.out.B hB)
  clear hB
  go_wp2_with fail
  go_ret2
  exact rcRes_err rfl HE.out HB.out
 have G:=su_good hE
 have N:=StN.of hl
 have hno:=N.no
 have hn2:=no_len G N
 rw [hE] at HC
 have HEE:=Lib.hid hE
 obtain ⟨b,off,hA⟩:=su_A hl (by omega)
 have HNS:=Lib.hid (fun W (h:BoxS w 1 [s.cells] W)=>show W.cell? ⟨w.heap.size,0,none⟩=some (.slice (some ⟨b,off,none⟩) s.sno.n s.sno.c) from su_sl (h.has 0 _ rfl) hA)
 have HT:=Lib.hid (fun W (h:BoxS w 1 [s.cells] W) k m (hm:m=k+1) (hk:m<s.no.length)=>xPhull s k m hm W (hl.below h.B) hok G hk)
 have HNO:=Lib.hid hno
 clear hl hok hE G N hA hno
 go_enter Tryz.func30,Tryz.ntmps30
 go_wp2_with (refine at_stp (.tmp 1) rfl rfl rfl (HS.out.has 0 _ rfl) ?_)
 refine (HC.out _ HS.out).mono ?_;rintro e' w1 ⟨rfl,hB⟩
 replace HS:=Lib.hid (HS.out.below hB)
 clear hB HC
 go_wp2_with fail
 go_loopw [5,6] (fun v t wr=>BxsRel s w v t wr) (fun _ t _=>s.no.length - (intOf t).toNat)
 case atStart=>exact ⟨0,by omega,rfl,HS.out,Ow.start _ _ _ _ _⟩
 case round =>
  obtain ⟨k,hk,rfl,hs,ho⟩:=hrel
  replace HS:=Lib.hid hs
  have HO:=Lib.hid ho
  clear hs ho
  have k0:=HNS.out _ HS.out
  obtain ⟨m,hm⟩:∃ m,k+1=m:=⟨_,rfl⟩
  rw [hm]
  by_cases hlt:m<s.no.length
  ·have i2:(m:Int)<(s.sno.n:Int):=by have:=HNO.out;omega
   have HTK:=Lib.hid (bxsL_take (s:=s) (k:=k) (by omega))
   have hlen:((bxsL s).take k).length≤64:=by rw [List.length_take];omega
   have HT1:=Lib.hid (HT.out _ HS.out k m hm.symm hlt)
   have Hm:=Lib.hid hm
   clear hm
   generalize suH s k=h at *
   generalize hLL:(bxsL s).take k=LL at *
   have HLL:=Lib.hid hLL
   clear hLL
   go_wp2_with (refine at_stp (.tmp 1) rfl rfl rfl (HS.out.has 0 _ rfl) ?_)
   refine HT1.out.mono ?_;rintro e' w6 ⟨rfl,hB⟩
   replace HS:=Lib.hid (HS.out.below hB)
   replace HO:=Lib.hid (HO.out.below hB)
   clear hB HT1 k0
   go_wp2_with (at_builtin;refine wpList_append_own_at _ rfl _ _ 81 rfl (w.heap.size+1) 85 i0 (.agg #[.int .i64 0,.int .i64 0,.int .i64 0,.int .i64 0]) 4 32 Tryz.underlying81 hi hz0 hz1 hz2 rfl (by decide) _ _ _ rfl ((((HO.out.alloc _).alloc _).alloc _).own) ⟨w6.heap.size+1+1,0,none⟩ 1 1 (lz4 h.e0 h.e1 h.n0 h.n1) rfl rfl (news_new _ _ (by first | rfl | simp) _ _ _ rfl) (by intro u hu;simp at hu;rcases hu with rfl | rfl | rfl | rfl <;> rfl) (by unfold maxLen;omega) (by omega) (by have:=HS.out.sz;simp;omega) ?_;intro v1 w7 hown hgrow hnil hblk)
   have HS7:=Lib.hid ((((HS.out.alloc _).alloc _).alloc _).grown hgrow (fun k hk=>(HO.out.lt hk).1))
   have HO7:=Lib.hid (Ow.next (l:=LL) (f:=Hul.bx) (x:=h) hown)
   clear hown hgrow hnil hblk HS HO
   go_roundw
   case rel=>exact ⟨m,by omega,by go_num,HS7.out,by rw [← Hm.out,HTK.out];exact HO7.out⟩
   case measure=>simp only [intOf];omega
  ·have HKN:=Lib.hid (show k=s.no.length - 1 by omega)
   have HO2:=Lib.hid (show Ow Hul.bx 4 85 (w.heap.size+1) (bxsL s) _ wr from by have h:=HO.out;rwa [List.take_of_length_le (by rw [bxsL_len];omega)] at h)
   obtain ⟨A',c',hv,hP,hcap⟩:=HO2.out.res (show ∀ x:Hul,(Hul.bx x).length=4 from fun _=>rfl) (show (bxsL s).length=s.no.length - 1 from bxsL_len s)
   have HP:=Lib.hid hP
   have HCAP:=Lib.hid hcap
   have i2:¬ (m:Int)<(s.sno.n:Int):=by have:=HNO.out;omega
   subst hv
   clear hP hcap HO HO2
   go_wp2_with fail
   go_ret2
   exact rcRes_ok HEE.out ⟨A',c',rfl,HP.out,HCAP.out⟩ HS.out.B
end Go.Proofs.YtgneijdjlahgbaaGreat

namespace Go.Proofs.YtgneijdjlahgbaaGreat
set_option linter.unusedSimpArgs false
set_option linter.unusedVariables false
open Go.RowKit
theorem boxS0 (w:World):BoxS w 0 [] w:=⟨fun i cs hi=>by simp at hi,by simp,Below.refl _ _,by simp⟩
theorem run_n {s:Stp} {w:World} (hl:s.lies w) (hok:s.ok) (h:runE s=0):Calls Tryz.prog 16 #[.agg s.cells.toArray] w fun e w'=>∃ b off c,e=.returned (.tuple #[.agg #[.slice (some ⟨b,off,none⟩) s.sno.n c,.int .i64 0,.int .i64 0,.bool false],.int .i64 0])∧(∀ W,Below w'.heap.size w' W→∀ k,k<s.no.length→∀ j u,(psP s (altL s) (pnL s) k).cells[j]? = some u→W.cell? ⟨b,off+k * 13+j,none⟩=some u)∧Below w.heap.size w w':=by
 have N:=StN.of hl
 obtain ⟨R,hL⟩:=run_good N h
 refine (run_ok hl hok h hL (wtL_len _ _ _).symm).mono ?_
 rintro e w' ⟨A,c,rfl,hP,-,hB⟩
 rw [wtL_len,N.no] at *
 have hn:=no_len R.G N
 obtain ⟨b,off,rfl,hb,hc⟩:=hP.cells (by have:=N.no;omega)
 exact ⟨b,off,c,rfl,fun W hW k hk j u hj=>(hW.cell (p:=⟨b,off+k * 13+j,none⟩) hb).trans (hc k _ (wtL_get (by have:=N.no;omega)) j u hj),hB⟩
end Go.Proofs.YtgneijdjlahgbaaGreat

namespace Go.Proofs.YtgneijdjlahgbaaGreat
set_option linter.unusedSimpArgs false
set_option linter.unusedVariables false
open Go.RowKit
theorem run_p {s:Stp} {w:World} (hl:s.lies w) (hok:s.ok) (h:runE s=0):Calls Tryz.prog 16 #[.agg s.cells.toArray] w fun e w'=>∃ b off c,e=.returned (.tuple #[.agg #[.slice (some ⟨b,off,none⟩) s.sno.n c,.int .i64 0,.int .i64 0,.bool false],.int .i64 0])∧Passes w' (some ⟨b,off,none⟩) s.sno.n (wtL s (altL s) (pnL s))∧Below w.heap.size w w':=by
 have N:=StN.of hl
 obtain ⟨R,hL⟩:=run_good N h
 refine (run_ok hl hok h hL (wtL_len _ _ _).symm).mono ?_
 rintro e w' ⟨A,c,rfl,hP,-,hB⟩
 rw [wtL_len,N.no] at *
 have hn:=no_len R.G N
 obtain ⟨b,off,rfl,hb,hc⟩:=hP.cells (by have:=N.no;omega)
 exact ⟨b,off,c,rfl,hP,hB⟩
theorem Passes.at {s:Stp} {W:World} {b off:Nat} {l:List Pass} {n:Nat} (h:Passes W (some ⟨b,off,none⟩) n l) {k:Nat} {p:Pass} (hk:l[k]? = some p):b<W.heap.size∧∀ j u,p.cells[j]? = some u→W.cell? ⟨b,off+k * 13+j,none⟩=some u:=by
 obtain ⟨b',o',h1,h2,h3⟩:=h.cells (by have:=h.len;have:=(List.getElem?_eq_some_iff.1 hk).1;omega)
 injection h1 with h1;injection h1 with h1 h4;subst h1;subst h4
 exact ⟨h2,fun j u hj=>h3 k p hk j u hj⟩
end Go.Proofs.YtgneijdjlahgbaaGreat

namespace Go.Proofs.YtgneijdjlahgbaaGreat
set_option linter.unusedSimpArgs false
set_option linter.unusedVariables false
open Go.RowKit
section
variable {s:Stp}
structure TaN (p:Pass) (t l:Int):Prop where
 t:p.tl≤t∧t≤p.th
 l:p.fl≤l∧l≤p.fh
theorem ta_n {ws:Cs.Wins} (h:FlO s ws) {k:Nat} (hk:k<s.no.length):TaN (psP s (altL s) (pnL s) k) (flTi s (altL s) (pnL s) ws k) (flLe s (altL s) (pnL s) ws k):=⟨(h.i k hk).t,(h.i k hk).f⟩
noncomputable def acK (s:Stp) (ws:Cs.Wins) (k:Nat):Acc:=⟨s.ac.em,s.ac.ld,s.ac.rs,s.ac.ld - flLe s (altL s) (pnL s) ws k⟩
structure TfG (s:Stp) (ws:Cs.Wins) (k:Nat) (T F:Int):Prop where
 t:flTi s (altL s) (pnL s) ws (k+1)=flTi s (altL s) (pnL s) ws k+T
 l:flLe s (altL s) (pnL s) ws (k+1)=flLe s (altL s) (pnL s) ws k - T * F
 tb:0≤T∧T≤8000000
 fb:0≤F∧F≤50000
 lb:0≤flLe s (altL s) (pnL s) ws (k+1)
theorem tf_leg (N:StN s) (R:RnG s) {ws:Cs.Wins} (hw:WsIn s ws) {k:Nat} (hk:k+1<s.no.length):∃ T F,TfG s ws k T F:=by
 have ih:=flown R.G N R.fc hw k (by omega) (R.at (by omega))
 have i2:=flown R.G N R.fc hw (k+1) hk (R.at hk)
 have hE:=psE_nx (R.at hk)
 obtain ⟨a1,a2,a3,a4,a5⟩:=nx_flown R.G N R.fc hk hE ih.fu (hw k hk).1 (hw k hk).2 ih.f
 have f0:=flw_bd R.G N (lgV s (altL s) (pnL s) k) (flLe s (altL s) (pnL s) ws k) (lgV s (altL s) (pnL s) k).ta
 have h1:=i2.f
 have h2:=i2.fu.lo
 exact ⟨flT s (altL s) (pnL s) ws k,flw s (lgV s (altL s) (pnL s) k) (flLe s (altL s) (pnL s) ws k) (lgV s (altL s) (pnL s) k).ta,rfl,rfl,⟨Int.le_trans a3.1 a3.2.1,Int.le_trans a3.2.2.1 a3.2.2.2⟩,f0,Int.le_trans h2 h1.1⟩
theorem tf_le (N:StN s) (R:RnG s) {ws:Cs.Wins} (hw:WsIn s ws):∀ k,k<s.no.length→0≤flLe s (altL s) (pnL s) ws k∧flLe s (altL s) (pnL s) ws k≤s.ac.left
 | 0,hk=>⟨(left_bd s.ac).1,Int.le_refl _⟩
 | k+1,hk=>by
  obtain ⟨T,F,h⟩:=tf_leg N R hw hk
  have ih:=tf_le N R hw k (by omega)
  have hp:=Int.mul_nonneg h.tb.1 h.fb.1
  have:=h.l
  exact ⟨h.lb,by omega⟩
theorem acK_ok (N:StN s) (R:RnG s) {ws:Cs.Wins} (hw:WsIn s ws) {k:Nat} (hk:k<s.no.length):(acK s ws k).B=true∧(acK s ws k).left=flLe s (altL s) (pnL s) ws k∧(0≤flLe s (altL s) (pnL s) ws k∧flLe s (altL s) (pnL s) ws k≤3000000000):=by
 have h:=tf_le N R hw k hk
 have hb:=acc_bd R.G.ac
 have hl:s.ac.left=s.ac.ld - s.ac.bu:=if_pos R.G.ac
 have hB:(acK s ws k).B=true:=by
  unfold Acc.B acK
  simp only [Bool.and_eq_true,inB_iff]
  omega
 refine ⟨hB,?_,by omega⟩
 unfold Acc.left
 rw [if_pos hB]
 show s.ac.ld - (s.ac.ld - flLe s (altL s) (pnL s) ws k)=_
 omega
theorem acK_0 (R:RnG s) (ws:Cs.Wins):acK s ws 0=s.ac:=by
 have hl:s.ac.left=s.ac.ld - s.ac.bu:=if_pos R.G.ac
 unfold acK
 rw [show flLe s (altL s) (pnL s) ws 0=s.ac.left from rfl,hl,show s.ac.ld - (s.ac.ld - s.ac.bu)=s.ac.bu by omega]
theorem tf_burn (N:StN s) (R:RnG s) {ws:Cs.Wins} (hw:WsIn s ws) {k:Nat} (hk:k+1<s.no.length) {T F:Int} (h:TfG s ws k T F):burnE (acK s ws k) F T=0∧(acK s ws k).bu+F * T=(acK s ws (k+1)).bu:=by
 obtain ⟨h1,h2,h3⟩:=acK_ok N R hw (show k<s.no.length by omega)
 have h4:=h.l
 have h5:=h.lb
 have h6:=h.tb
 have h7:=h.fb
 have hc:F * T=T * F:=Int.mul_comm _ _
 constructor
 ·unfold burnE
  rw [if_neg (by rw [h1];decide),inB_iff.2 h7,inB_iff.2 (show 0≤T∧T≤1099511627776 by omega),if_neg (by decide),if_neg (by rw [h2];omega)]
 ·show s.ac.ld - flLe s (altL s) (pnL s) ws k+F * T=s.ac.ld - flLe s (altL s) (pnL s) ws (k+1)
  omega
end
end Go.Proofs.YtgneijdjlahgbaaGreat

