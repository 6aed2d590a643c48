
/- Layer 38: the schedules of a setup: open. -/
import Derived.Test.YtgneijdjlahgbaaGreatM30
import Derived.Test.YtgneijdjlahgbaaGreatM29
import Derived.Test.YtgneijdjlahgbaaGreatM21
import Derived.Test.YtgneijdjlahgbaaGreatHap
import Derived.Test.YtgneijdjlahgbaaGreatM2
import Derived.Test.YtgneijdjlahgbaaGreatSpF
import Derived.RegionTactic
namespace Go.Proofs.YtgneijdjlahgbaaGreat
set_option maxRecDepth 100000
set_option maxHeartbeats 16000000
set_option linter.unusedSimpArgs false
set_option linter.unusedVariables false
open Go.RowKit
def OpnP (s:Stp) (node:Int) (late:Bool) (w:World) (e:Ending) (w':World):Prop:=∃ A c A2 c2 A3 c3,e=.returned (.tuple #[.agg #[.slice A (okN (opE s node late) s.no.length) c,.slice A2 (okN (opE s node late) s.no.length) c2,.slice A3 (okN (opE s node late) (s.no.length - 1)) c3,.int .i64 (okI (opE s node late) (spn s))],.int .i64 (opE s node late)])∧Ints w' A (okN (opE s node late) s.no.length) (okL (opE s node late) (altL s))∧Pairs w' A2 (okN (opE s node late) s.no.length) (okL (opE s node late) (sdA s))∧Pairs w' A3 (okN (opE s node late) (s.no.length - 1)) (okL (opE s node late) (spS s))∧CapOk A2 (okN (opE s node late) s.no.length) c2∧CapOk A3 (okN (opE s node late) (s.no.length - 1)) c3∧Below w.heap.size w w'
theorem opn_err {s:Stp} {node:Int} {late:Bool} {w w':World} {E:Int} (hE:opE s node late=E) (h0:E≠0) (hb:Below w.heap.size w w'):OpnP s node late w (.returned (.tuple #[.agg #[.slice none 0 0,.slice none 0 0,.slice none 0 0,.int .i64 0],.int .i64 E])) w':=by
 unfold OpnP
 rw [hE]
 unfold okN okL okI
 simp only [if_neg h0]
 have hc:CapOk none 0 0:=⟨Nat.le_refl _,Nat.zero_le _,fun _=>rfl⟩
 exact ⟨none,0,none,0,none,0,rfl,Ints.nil _,Recs.nil _ _ _,Recs.nil _ _ _,hc,hc,hb⟩
theorem opn_ok {s:Stp} {node:Int} {late:Bool} {w w':World} {A A2 A3:Option Addr} {n c c2 m c3:Nat} {k:Int} (hE:opE s node late=0) (hn:n=s.no.length) (hm:m=s.no.length - 1) (hk:k=spn s) (h1:Ints w' A n (altL s)) (h2:Pairs w' A2 n (sdA s)) (h3:Pairs w' A3 m (spS s)) (k2:CapOk A2 n c2) (k3:CapOk A3 m c3) (hb:Below w.heap.size w w'):OpnP s node late w (.returned (.tuple #[.agg #[.slice A n c,.slice A2 n c2,.slice A3 m c3,.int .i64 k],.int .i64 0])) w':=by
 unfold OpnP
 subst hn hm hk
 rw [hE]
 exact ⟨A,c,A2,c2,A3,c3,rfl,h1,h2,h3,k2,k3,hb⟩
theorem opE_su {s:Stp} {node:Int} {late:Bool} (h:suE s≠0):opE s node late=suE s:=if_pos h
theorem opE_1 {s:Stp} {node:Int} {late:Bool} (h:suE s=0) (h1:node<1∨(s.no.length:Int)≤node∨late=true):opE s node late=1:=by unfold opE;rw [if_neg (by rw [h];decide),if_pos h1]
theorem opE_a {s:Stp} {node:Int} {late:Bool} (h:suE s=0) (h1:¬ (node<1∨(s.no.length:Int)≤node∨late=true)) (h2:altE s≠0):opE s node late=altE s:=by unfold opE;rw [if_neg (by rw [h];decide),if_neg h1,if_pos h2]
theorem opE_s {s:Stp} {node:Int} {late:Bool} (h:suE s=0) (h1:¬ (node<1∨(s.no.length:Int)≤node∨late=true)) (h2:altE s=0):opE s node late=Sp.spE (sdA s) (spS s):=by unfold opE;rw [if_neg (by rw [h];decide),if_neg h1,if_neg (by rw [h2];decide)]
def DiR (s:Stp) (B:World) (v t:Value) (wr:World):Prop:=∃ k:Nat,k+1≤s.no.length∧t=.int .i64 (k:Int)∧BoxS B 0 [] wr∧Ow oneI 1 2 B.heap.size ((dstL s).take k) v wr
structure Ex (W:World) (b:Nat) (cs:List Value):Prop where
 lt:b<W.heap.size
 all:∀ i,W.cell? ⟨b,i,none⟩=cs[i]?
theorem Ex.new (w:World) (X:Array Value) (t:TypeId) (b:Nat) (hb:w.heap.size=b):Ex (w.alloc (.cells X t)) b X.toList :=
 ⟨by simp;omega,fun i=>by subst hb;rw [World.cell?_alloc_new,← Array.getElem?_toList]⟩
theorem Ex.below {W W1:World} {b:Nat} {cs:List Value} (h:Ex W b cs) (hb:Below W.heap.size W W1):Ex W1 b cs:=⟨Nat.lt_of_lt_of_le h.lt hb.size,fun i=>(hb.cell (p:=⟨b,i,none⟩) h.lt).trans (h.all i)⟩
theorem Ex.set {W:World} {b:Nat} {cs:List Value} (h:Ex W b cs) (i:Nat) (v:Value) (hi:i<cs.length):Ex (W.setCell ⟨b,i,none⟩ v) b (cs.set i v):=by
 refine ⟨by simpa [World.setCell] using h.lt,fun j=>?_⟩
 by_cases hj:i=j
 ·subst hj
  rw [List.getElem?_set_self hi]
  exact World.cell?_setCell_same _ ⟨b,i,none⟩ _ ((h.all i).trans (List.getElem?_eq_getElem hi))
 ·rw [List.getElem?_set_ne hj,World.cell?_setCell_other _ ⟨b,i,none⟩ ⟨b,j,none⟩ _ (by intro e;injection e with _ e;omega)]
  exact h.all j
theorem Ex.other {W:World} {b:Nat} {cs:List Value} (h:Ex W b cs) (c i:Nat) (v:Value) (hc:b≠c):Ex (W.setCell ⟨c,i,none⟩ v) b cs :=
 ⟨by simpa [World.setCell] using h.lt,fun j=>by
  rw [World.cell?_setCell_other _ ⟨c,i,none⟩ ⟨b,j,none⟩ _ (by intro e;injection e with e _;omega)]
  exact h.all j⟩
def Ne (A:Option Addr) (H:Nat):Prop:=∀ b off,A=some ⟨b,off,none⟩→b≠H
theorem fam_int {x y z:Value} {k:Int} {a b c:Int} (hx:∀ v,x≠.int .i64 v) (hy:∀ v,y≠.int .i64 v) (hz:∀ v,z≠.int .i64 v):∀ i:Nat,[x,y,z,.int .i64 k][i]? = some (.int .i64 a)→[x,y,z,.int .i64 k][i+1]? = some (.int .i64 b)→False
 | 0,h,_=>hx _ (by simpa using h)
 | 1,h,_=>hy _ (by simpa using h)
 | 2,h,_=>hz _ (by simpa using h)
 | 3,_,h=>by simp at h
 | i+4,h,_=>by simp at h
theorem ints_ne {W:World} {A:Option Addr} {n:Nat} {l:List Int} {H:Nat} {A1 A2 A3:Option Addr} {n1 c1 n2 c2 n3 c3:Nat} {k:Int} (h:Ints W A n l) (hn:2≤n) (hx:Ex W H [.slice A1 n1 c1,.slice A2 n2 c2,.slice A3 n3 c3,.int .i64 k]):Ne A H:=by
 rintro b off rfl rfl
 obtain ⟨b',o',h1,h2,h3⟩:=h.cells (by omega)
 injection h1 with h1;injection h1 with h1 h4;subst h1;subst h4
 obtain ⟨x,hx0⟩:=get_ex h.len (show 0<n by omega)
 obtain ⟨y,hx1⟩:=get_ex h.len (show 1<n by omega)
 have e0:=h3 0 x hx0
 have e1:=h3 1 y hx1
 rw [hx.all] at e0 e1
 exact fam_int (c:=0) (fun v=>by simp) (fun v=>by simp) (fun v=>by simp) off e0 e1
theorem pairs_ne {W:World} {A:Option Addr} {n:Nat} {l:Cs.Wins} {H:Nat} {A1 A2 A3:Option Addr} {n1 c1 n2 c2 n3 c3:Nat} {k:Int} (h:Pairs W A n l) (hn:1≤n) (hx:Ex W H [.slice A1 n1 c1,.slice A2 n2 c2,.slice A3 n3 c3,.int .i64 k]):Ne A H:=by
 rintro b off rfl rfl
 obtain ⟨b',o',h1,h2,h3⟩:=h.cells (by omega)
 injection h1 with h1;injection h1 with h1 h4;subst h1;subst h4
 obtain ⟨x,hx0⟩:=get_ex h.len (show 0<n by omega)
 have e0:=h3 0 x hx0 0 _ rfl
 have e1:=h3 0 x hx0 1 _ rfl
 rw [hx.all] at e0 e1
 simp only [Nat.zero_mul,Nat.add_zero] at e0 e1
 exact fam_int (c:=0) (fun v=>by simp) (fun v=>by simp) (fun v=>by simp) off e0 e1
theorem Recs.set_ne {α:Type} {f:α→List Value} {sz:Nat} {W:World} {A:Option Addr} {n:Nat} {l:List α} {H:Nat} (h:Recs f sz W A n l) (hne:Ne A H) (j:Nat) (v:Value):Recs f sz (W.setCell ⟨H,j,none⟩ v) A n l :=
 ⟨h.len,fun hn=>by
  obtain ⟨b,off,h1,h2,h3⟩:=h.cells hn
  refine ⟨b,off,h1,by simpa [World.setCell] using h2,fun k x hk i y hy=>?_⟩
  rw [World.cell?_setCell_other _ ⟨H,j,none⟩ ⟨b,_,none⟩ v (by intro e;injection e with e _;exact hne b off h1 e.symm)]
  exact h3 k x hk i y hy⟩
theorem Ints.set_ne {W:World} {A:Option Addr} {n:Nat} {l:List Int} {H:Nat} (h:Ints W A n l) (hne:Ne A H) (j:Nat) (v:Value):Ints (W.setCell ⟨H,j,none⟩ v) A n l :=
 ⟨h.len,fun hn=>by
  obtain ⟨b,off,h1,h2,h3⟩:=h.cells hn
  refine ⟨b,off,h1,by simpa [World.setCell] using h2,fun k x hk=>?_⟩
  rw [World.cell?_setCell_other _ ⟨H,j,none⟩ ⟨b,_,none⟩ v (by intro e;injection e with e _;exact hne b off h1 e.symm)]
  exact h3 k x hk⟩
theorem boxS0'' (w:World):BoxS w 0 [] w:=⟨fun i cs hi=>by simp at hi,by simp,Below.refl _ _,by simp⟩
theorem dst_take {s:Stp} {k:Nat} (hk:k+1<s.no.length):(dstL s).take (k+1)=(dstL s).take k ++ [(nodA s (k+1)).di]:=take_succ_get _ k _ (by
 have h2:=List.getElem?_eq_getElem hk
 unfold dstL
 rw [List.getElem?_map,List.getElem?_drop,Nat.add_comm 1 k,h2,nodA_of h2];rfl)
theorem xRtOpen (s:Stp) (node:Int) (late:Bool) (w:World) (hl:s.lies w) (hok:s.ok) (hcap:CapOk s.sno.A s.sno.n s.sno.c) (hnode:I64 node):Calls Tryz.prog 76 #[.agg s.cells.toArray,.int .i64 node,.bool late] w (OpnP s node late w):=by
 have HS:=Lib.hid (boxS2 w s.cells.toArray #[.slice none 0 0,.slice none 0 0,.slice none 0 0,.int .i64 0] 35 147)
 have HC:=Lib.hid (fun W (h:BoxS w 2 [s.cells,[.slice none 0 0,.slice none 0 0,.slice none 0 0,.int .i64 0]] W)=>xPrCheck s W (hl.below h.B) hok)
 by_cases hE:suE s=0
 rotate_left
 ·have HX:=Lib.hid (opE_su (node:=node) (late:=late) hE)
  generalize suE s=E at *
  have e1:=beq_of hE
  have e2:=bne_of e1
  have HE:=Lib.hid hE
  clear hl hok hE hcap
  go_enter Tryz.func76,Tryz.ntmps76
  go_wp2_with (refine at_stp (.tmp 3) rfl rfl rfl (HS.out.has 0 _ rfl) ?_)
  refine (HC.out _ HS.out).mono ?_;rintro e' w1 ⟨rfl,hB⟩
  replace HS:=Lib.hid (HS.out.below hB)
  clear hB
  have r0:w1.cell? ⟨w.heap.size+1,0,none⟩=some (.slice none 0 0):=HS.out.at 1 _ rfl 0 _ rfl
  have r1:w1.cell? ⟨w.heap.size+1,1,none⟩=some (.slice none 0 0):=HS.out.at 1 _ rfl 1 _ rfl
  have r2:w1.cell? ⟨w.heap.size+1,2,none⟩=some (.slice none 0 0):=HS.out.at 1 _ rfl 2 _ rfl
  have r3:w1.cell? ⟨w.heap.size+1,3,none⟩=some (.int .i64 0):=HS.out.at 1 _ rfl 3 _ rfl
  have rf:=fun o=>show w1.frozen? ⟨w.heap.size+1,o,none⟩=false from HS.out.fr 1 _ rfl o
  go_wp2_with fail
  exact bodyPost_ret (v:=.tuple #[.agg #[.slice none 0 0,.slice none 0 0,.slice none 0 0,.int .i64 0],.int .i64 E]) (by simp [results,Tryz.results76,go_sem,r0,r1,r2,r3]) rfl (opn_err HX.out HE.out (below_set (below_set (below_set (below_set (HS.out.B) _ _ (Nat.le_add_right _ _) _) _ _ (Nat.le_add_right _ _) _) _ _ (Nat.le_add_right _ _) _) _ _ (Nat.le_add_right _ _) _))
 rw [hE] at HC
 have G:=su_good hE
 have N:=StN.of hl
 have hno:=N.no
 have hn2:=no_len G N
 obtain ⟨b,off,hA⟩:=su_A hl (by omega)
 have HNS:=Lib.hid (fun W (h:BoxS w 2 [s.cells,[.slice none 0 0,.slice none 0 0,.slice none 0 0,.int .i64 0]] W)=>show W.cell? ⟨w.heap.size,0,none⟩=some (.slice (some ⟨b,off,none⟩) s.sno.n s.sno.c) from su_sl (h.has 0 _ rfl) hA)
 by_cases h1:node<1∨(s.no.length:Int)≤node∨late=true
 ·have HX:=Lib.hid (opE_1 hE h1)
  rw [hno] at h1
  clear hl hok hE hcap G N hno hn2 hA
  go_enter Tryz.func76,Tryz.ntmps76
  go_wp2_with (refine at_stp (.tmp 3) rfl rfl rfl (HS.out.has 0 _ rfl) ?_)
  refine (HC.out _ HS.out).mono ?_;rintro e' w1 ⟨rfl,hB⟩
  replace HS:=Lib.hid (HS.out.below hB)
  clear hB HC
  have k0:=HNS.out _ HS.out
  by_cases a1:node<1
  ·clear h1
   have r0:w1.cell? ⟨w.heap.size+1,0,none⟩=some (.slice none 0 0):=HS.out.at 1 _ rfl 0 _ rfl
   have r1:w1.cell? ⟨w.heap.size+1,1,none⟩=some (.slice none 0 0):=HS.out.at 1 _ rfl 1 _ rfl
   have r2:w1.cell? ⟨w.heap.size+1,2,none⟩=some (.slice none 0 0):=HS.out.at 1 _ rfl 2 _ rfl
   have r3:w1.cell? ⟨w.heap.size+1,3,none⟩=some (.int .i64 0):=HS.out.at 1 _ rfl 3 _ rfl
   have rf:=fun o=>show w1.frozen? ⟨w.heap.size+1,o,none⟩=false from HS.out.fr 1 _ rfl o
   go_wp2_with fail
   exact bodyPost_ret (v:=.tuple #[.agg #[.slice none 0 0,.slice none 0 0,.slice none 0 0,.int .i64 0],.int .i64 1]) (by simp [results,Tryz.results76,go_sem,r0,r1,r2,r3]) rfl (opn_err HX.out (by decide) (below_set (below_set (below_set (below_set (HS.out.B) _ _ (Nat.le_add_right _ _) _) _ _ (Nat.le_add_right _ _) _) _ _ (Nat.le_add_right _ _) _) _ _ (Nat.le_add_right _ _) _))
  by_cases a2:(s.sno.n:Int)≤node
  ·clear h1
   have r0:w1.cell? ⟨w.heap.size+1,0,none⟩=some (.slice none 0 0):=HS.out.at 1 _ rfl 0 _ rfl
   have r1:w1.cell? ⟨w.heap.size+1,1,none⟩=some (.slice none 0 0):=HS.out.at 1 _ rfl 1 _ rfl
   have r2:w1.cell? ⟨w.heap.size+1,2,none⟩=some (.slice none 0 0):=HS.out.at 1 _ rfl 2 _ rfl
   have r3:w1.cell? ⟨w.heap.size+1,3,none⟩=some (.int .i64 0):=HS.out.at 1 _ rfl 3 _ rfl
   have rf:=fun o=>show w1.frozen? ⟨w.heap.size+1,o,none⟩=false from HS.out.fr 1 _ rfl o
   go_wp2_with fail
   exact bodyPost_ret (v:=.tuple #[.agg #[.slice none 0 0,.slice none 0 0,.slice none 0 0,.int .i64 0],.int .i64 1]) (by simp [results,Tryz.results76,go_sem,r0,r1,r2,r3]) rfl (opn_err HX.out (by decide) (below_set (below_set (below_set (below_set (HS.out.B) _ _ (Nat.le_add_right _ _) _) _ _ (Nat.le_add_right _ _) _) _ _ (Nat.le_add_right _ _) _) _ _ (Nat.le_add_right _ _) _))
  obtain rfl:late=true:=by rcases h1 with h | h | h <;> first | exact h | omega
  have r0:w1.cell? ⟨w.heap.size+1,0,none⟩=some (.slice none 0 0):=HS.out.at 1 _ rfl 0 _ rfl
  have r1:w1.cell? ⟨w.heap.size+1,1,none⟩=some (.slice none 0 0):=HS.out.at 1 _ rfl 1 _ rfl
  have r2:w1.cell? ⟨w.heap.size+1,2,none⟩=some (.slice none 0 0):=HS.out.at 1 _ rfl 2 _ rfl
  have r3:w1.cell? ⟨w.heap.size+1,3,none⟩=some (.int .i64 0):=HS.out.at 1 _ rfl 3 _ rfl
  have rf:=fun o=>show w1.frozen? ⟨w.heap.size+1,o,none⟩=false from HS.out.fr 1 _ rfl o
  go_wp2_with fail
  exact bodyPost_ret (v:=.tuple #[.agg #[.slice none 0 0,.slice none 0 0,.slice none 0 0,.int .i64 0],.int .i64 1]) (by simp [results,Tryz.results76,go_sem,r0,r1,r2,r3]) rfl (opn_err HX.out (by decide) (below_set (below_set (below_set (below_set (HS.out.B) _ _ (Nat.le_add_right _ _) _) _ _ (Nat.le_add_right _ _) _) _ _ (Nat.le_add_right _ _) _) _ _ (Nat.le_add_right _ _) _))
 have HA:=Lib.hid (fun W (h:BoxS w 2 [s.cells,[.slice none 0 0,.slice none 0 0,.slice none 0 0,.int .i64 0]] W)=>xPAltitudes s W (hl.below h.B) hok)
 have a1:¬ node<1:=by omega
 have a2:¬ (s.sno.n:Int)≤node:=by omega
 obtain rfl:late=false:=by cases late <;> simp_all
 by_cases h2:altE s=0
 rotate_left
 ·have HX:=Lib.hid (opE_a hE h1 h2)
  have HNE:=Lib.hid h2
  unfold AltP at HA
  have hR:∀ {α:Type} (l:List α),okL (altE s) l=[]:=fun l=>if_neg h2
  have hNN:∀ n,okN (altE s) n=0:=fun n=>if_neg h2
  simp only [hNN,hR] at HA
  have e1:=beq_of h2
  have e2:=bne_of e1
  generalize altE s=E at *
  generalize (altC s).1=x at *
  generalize (altC s).2=y at *
  clear hl hok hE hcap G N hno hn2 hA h1 h2 hNN hR
  go_enter Tryz.func76,Tryz.ntmps76
  go_wp2_with (refine at_stp (.tmp 3) rfl rfl rfl (HS.out.has 0 _ rfl) ?_)
  refine (HC.out _ HS.out).mono ?_;rintro e' w1 ⟨rfl,hB⟩
  replace HS:=Lib.hid (HS.out.below hB)
  clear hB HC
  have k0:=HNS.out _ HS.out
  have Q9:Hid (Has ((w1.alloc (.cells #[.slice none 0 0,.slice none 0 0,.slice none 0 0,.int .i64 0] 147))) w1.heap.size [.slice none 0 0,.slice none 0 0,.slice none 0 0,.int .i64 0]):=Lib.hid (Has.new _ _ _)
  have r9:w.heap.size+2≤w1.heap.size:=HS.out.sz
  replace HS:=Lib.hid ((HS.out.alloc (.cells #[.slice none 0 0,.slice none 0 0,.slice none 0 0,.int .i64 0] 147)))
  go_wp2_with (refine at_stp (.tmp 3) rfl rfl rfl (HS.out.has 0 _ rfl) ?_)
  clear k0
  generalize (w1.alloc (.cells #[.slice none 0 0,.slice none 0 0,.slice none 0 0,.int .i64 0] 147))=w2 at *
  generalize w1.heap.size=H9 at *
  refine (HA.out _ HS.out).mono ?_;rintro e' w3 ⟨A1,c1,rfl,-,hB⟩
  replace HS:=Lib.hid (HS.out.below hB)
  replace Q9:=Lib.hid (Q9.out.below hB)
  clear hB
  have c9_0:=Q9.out.cell 0 (.slice none 0 0) rfl
  have c9_1:=Q9.out.cell 1 (.slice none 0 0) rfl
  have c9_2:=Q9.out.cell 2 (.slice none 0 0) rfl
  have c9_3:=Q9.out.cell 3 (.int .i64 0) rfl
  have fr9:=Q9.out.fr
  replace HS:=Lib.hid (HS.out.set H9 0 r9 (.slice A1 0 c1))
  have r0:(w3.setCell ⟨H9,0,none⟩ (.slice A1 0 c1)).cell? ⟨w.heap.size+1,0,none⟩=some (.slice none 0 0):=HS.out.at 1 _ rfl 0 _ rfl
  have r1:(w3.setCell ⟨H9,0,none⟩ (.slice A1 0 c1)).cell? ⟨w.heap.size+1,1,none⟩=some (.slice none 0 0):=HS.out.at 1 _ rfl 1 _ rfl
  have r2:(w3.setCell ⟨H9,0,none⟩ (.slice A1 0 c1)).cell? ⟨w.heap.size+1,2,none⟩=some (.slice none 0 0):=HS.out.at 1 _ rfl 2 _ rfl
  have r3:(w3.setCell ⟨H9,0,none⟩ (.slice A1 0 c1)).cell? ⟨w.heap.size+1,3,none⟩=some (.int .i64 0):=HS.out.at 1 _ rfl 3 _ rfl
  have rf:=fun o=>show (w3.setCell ⟨H9,0,none⟩ (.slice A1 0 c1)).frozen? ⟨w.heap.size+1,o,none⟩=false from HS.out.fr 1 _ rfl o
  go_wp2_with fail
  exact bodyPost_ret (v:=.tuple #[.agg #[.slice none 0 0,.slice none 0 0,.slice none 0 0,.int .i64 0],.int .i64 E]) (by simp [results,Tryz.results76,go_sem,r0,r1,r2,r3]) rfl (opn_err HX.out HNE.out (below_set (below_set (below_set (below_set (HS.out.B) _ _ (Nat.le_add_right _ _) _) _ _ (Nat.le_add_right _ _) _) _ _ (Nat.le_add_right _ _) _) _ _ (Nat.le_add_right _ _) _))
 unfold AltP at HA
 rw [h2] at HA
 simp only [okN_0,okL_0] at HA
 have A:=alt_good N h2
 have hs0:sdE s (altL s)=0:=sd_0 G N hE A
 have hmx:s.no.length≤maxLen:=by unfold maxLen;omega
 have HSP:=Lib.hid (fun W (h:BoxS w 2 [s.cells,[.slice none 0 0,.slice none 0 0,.slice none 0 0,.int .i64 0]] W) A c (ha:Ints W A s.no.length (altL s))=>xPSpeeds s A s.no.length c (altL s) W (hl.below h.B) hok ha hmx)
 rw [hs0] at HSP
 simp only [okN_0,okL_0] at HSP
 have hd0:=stE_0s G N
 have hdl:(dstL s).length=s.no.length - 1:=(dst_bd G N).2
 have HST:=Lib.hid (fun W A m c (hm:m=s.no.length - 1) (hd:Ints W A m (dstL s))=>xSpSteps A m c (dstL s) s.acc s.dec W hd (by unfold maxLen;omega))
 rw [hd0] at HST
 simp only [okN_0,okL_0] at HST
 have HSN:=Lib.hid (fun W A c A2 c2 m (hm:m=s.no.length - 1) (ha:Pairs W A s.no.length (sdA s)) (hb:Pairs W A2 m (spS s)) (hc:CapOk A2 m c2)=>xSpSpan A A2 s.no.length c m c2 (sdA s) (spS s) W ha hb hmx (by unfold maxLen;omega) hc.le hc.mx)
 have HX:=Lib.hid (opE_s hE h1 h2)
 have HNV:=Lib.hid (fun W (h:BoxS w 2 [s.cells,[.slice none 0 0,.slice none 0 0,.slice none 0 0,.int .i64 0]] W) k (hk:k<s.no.length)=>su_nd (hl.below h.B) hA hk)
 have HAC:=Lib.hid (fun W (h:BoxS w 2 [s.cells,[.slice none 0 0,.slice none 0 0,.slice none 0 0,.int .i64 0]] W)=>show W.cell? ⟨w.heap.size,32,none⟩=some (.int .i64 s.acc)∧W.cell? ⟨w.heap.size,33,none⟩=some (.int .i64 s.dec) from ⟨su_acc (h.has 0 _ rfl),su_dec (h.has 0 _ rfl)⟩)
 have HDL:=Lib.hid hdl
 have HNO:=Lib.hid hno
 have i1:2≤s.sno.n:=by omega
 have i2:s.sno.n≤64:=by omega
 have i3:s.sno.n≤s.sno.c:=hcap.le
 have i4:s.sno.c≤maxLen:=hcap.mx
 have HN2:=Lib.hid (show 2≤s.no.length from by omega)
 have HN1:=Lib.hid (show 1≤s.no.length from by omega)
 have HN3:=Lib.hid (show 1≤s.no.length - 1 from by omega)
 have HIN:=Lib.hid (info_parts infoI64)
 obtain ⟨i0,hi,hz0,hz1,hz2⟩:=HIN.out
 unfold NumB at HSN
 have HKV:=Lib.hid (show Sp.spE (sdA s) (spS s)=0→okI (Sp.spE (sdA s) (spS s)) (Sp.spV (sdA s) (spS s))=spn s from fun h=>if_pos h)
 generalize okI (Sp.spE (sdA s) (spS s)) (Sp.spV (sdA s) (spS s))=KV at *
 generalize Sp.spE (sdA s) (spS s)=EE at *
 clear hl hok hE hcap G N hno hn2 hA h1 h2 hs0 hd0 hdl hmx A
 unfold maxLen at i4
 have HX6:Hid (Ex ((w.alloc (.cells s.cells.toArray 35)).alloc (.cells #[.slice none 0 0,.slice none 0 0,.slice none 0 0,.int .i64 0] 147)) (w.heap.size+1) [.slice none 0 0,.slice none 0 0,.slice none 0 0,.int .i64 0]):=Lib.hid (Ex.new _ _ _ _ (by simp))
 go_enter Tryz.func76,Tryz.ntmps76
 go_wp2_with (refine at_stp (.tmp 3) rfl rfl rfl (HS.out.has 0 _ rfl) ?_)
 refine (HC.out _ HS.out).mono ?_;rintro e' w1 ⟨rfl,hB⟩
 replace HS:=Lib.hid (HS.out.below hB)
 have HBX:=Lib.hid hB
 clear hB HC
 have k0:=HNS.out _ HS.out
 have X6:=Lib.hid (HX6.out.below HBX.out)
 have Q9:Hid (Has ((w1.alloc (.cells #[.slice none 0 0,.slice none 0 0,.slice none 0 0,.int .i64 0] 147))) w1.heap.size [.slice none 0 0,.slice none 0 0,.slice none 0 0,.int .i64 0]):=Lib.hid (Has.new _ _ _)
 have r9:w.heap.size+2≤w1.heap.size:=HS.out.sz
 replace HS:=Lib.hid ((HS.out.alloc (.cells #[.slice none 0 0,.slice none 0 0,.slice none 0 0,.int .i64 0] 147)))
 have X9:Hid (Ex (w1.alloc (.cells #[.slice none 0 0,.slice none 0 0,.slice none 0 0,.int .i64 0] 147)) w1.heap.size [.slice none 0 0,.slice none 0 0,.slice none 0 0,.int .i64 0]):=Lib.hid (Ex.new _ _ _ _ rfl)
 replace X6:=Lib.hid (X6.out.below (below_alloc1 w1 (.cells #[.slice none 0 0,.slice none 0 0,.slice none 0 0,.int .i64 0] 147)))
 go_wp2_with (refine at_stp (.tmp 3) rfl rfl rfl (HS.out.has 0 _ rfl) ?_)
 clear k0
 generalize (w1.alloc (.cells #[.slice none 0 0,.slice none 0 0,.slice none 0 0,.int .i64 0] 147))=w2 at *
 generalize w1.heap.size=H9 at *
 have ne69:w.heap.size+1≠H9:=by omega
 refine (HA.out _ HS.out).mono ?_;rintro e' w3 ⟨A1,c1,rfl,hI1,hB⟩
 replace HS:=Lib.hid (HS.out.below hB)
 replace Q9:=Lib.hid (Q9.out.below hB)
 replace X6:=Lib.hid (X6.out.below hB)
 replace X9:=Lib.hid (X9.out.below hB)
 clear hB HA
 have I1:=Lib.hid hI1
 have I1n9:=Lib.hid (ints_ne hI1 HN2.out X9.out)
 have I1n6:=Lib.hid (ints_ne hI1 HN2.out X6.out)
 clear hI1
 have c9_0:=Q9.out.cell 0 (.slice none 0 0) rfl
 have c9_1:=Q9.out.cell 1 (.slice none 0 0) rfl
 have c9_2:=Q9.out.cell 2 (.slice none 0 0) rfl
 have c9_3:=Q9.out.cell 3 (.int .i64 0) rfl
 have fr9:=Q9.out.fr
 replace I1:=Lib.hid (I1.out.set_ne I1n9.out 0 (.slice A1 s.no.length c1))
 replace X6:=Lib.hid (X6.out.other H9 0 (.slice A1 s.no.length c1) ne69)
 replace X9:=Lib.hid (show Ex (w3.setCell ⟨H9,0,none⟩ (.slice A1 s.no.length c1)) H9 [.slice A1 s.no.length c1,.slice none 0 0,.slice none 0 0,.int .i64 0] from X9.out.set 0 (.slice A1 s.no.length c1) (by simp))
 replace HS:=Lib.hid ((HS.out.set H9 0 r9 (.slice A1 s.no.length c1)))
 replace Q9:=Lib.hid (show Has (w3.setCell ⟨H9,0,none⟩ (.slice A1 s.no.length c1)) H9 [.slice A1 s.no.length c1,.slice none 0 0,.slice none 0 0,.int .i64 0] from (Q9.out.set 0 (.slice A1 s.no.length c1) (by simp)))
 have d9_0:=Q9.out.cell 0 (.slice A1 s.no.length c1) rfl
 go_wp2_with (refine at_stp (.tmp 3) rfl rfl rfl (HS.out.has 0 _ rfl) ?_)
 clear c9_0 c9_1 c9_2 c9_3 fr9 d9_0
 generalize (w3.setCell ⟨H9,0,none⟩ (.slice A1 s.no.length c1))=w4 at *
 refine (HSP.out _ HS.out _ _ I1.out).mono ?_;rintro e' w5 ⟨A2,c2,rfl,hI2,hK2,hB⟩
 replace HS:=Lib.hid (HS.out.below hB)
 replace Q9:=Lib.hid (Q9.out.below hB)
 replace X6:=Lib.hid (X6.out.below hB)
 replace X9:=Lib.hid (X9.out.below hB)
 replace I1:=Lib.hid (I1.out.below hB)
 have I2:=Lib.hid hI2
 have I2n9:=Lib.hid (pairs_ne hI2 HN1.out X9.out)
 have I2n6:=Lib.hid (pairs_ne hI2 HN1.out X6.out)
 clear hI2
 have K2:=Lib.hid hK2
 clear hB hK2 HSP
 have c9_0:=Q9.out.cell 0 (.slice A1 s.no.length c1) rfl
 have c9_1:=Q9.out.cell 1 (.slice none 0 0) rfl
 have c9_2:=Q9.out.cell 2 (.slice none 0 0) rfl
 have c9_3:=Q9.out.cell 3 (.int .i64 0) rfl
 have fr9:=Q9.out.fr
 replace I1:=Lib.hid (I1.out.set_ne I1n9.out 1 (.slice A2 s.no.length c2))
 replace I2:=Lib.hid (I2.out.set_ne I2n9.out 1 (.slice A2 s.no.length c2))
 replace X6:=Lib.hid (X6.out.other H9 1 (.slice A2 s.no.length c2) ne69)
 replace X9:=Lib.hid (show Ex (w5.setCell ⟨H9,1,none⟩ (.slice A2 s.no.length c2)) H9 [.slice A1 s.no.length c1,.slice A2 s.no.length c2,.slice none 0 0,.int .i64 0] from X9.out.set 1 (.slice A2 s.no.length c2) (by simp))
 replace HS:=Lib.hid ((HS.out.set H9 1 r9 (.slice A2 s.no.length c2)))
 replace Q9:=Lib.hid (show Has (w5.setCell ⟨H9,1,none⟩ (.slice A2 s.no.length c2)) H9 [.slice A1 s.no.length c1,.slice A2 s.no.length c2,.slice none 0 0,.int .i64 0] from (Q9.out.set 1 (.slice A2 s.no.length c2) (by simp)))
 have k0:=HNS.out _ HS.out
 go_wp2_with fail
 clear c9_0 c9_1 c9_2 c9_3 fr9
 clear k0
 generalize (w5.setCell ⟨H9,1,none⟩ (.slice A2 s.no.length c2))=w6 at *
 have HYB:=Lib.hid (fun W (h:BoxS w6 0 [] W)=>HS.out.below h.B)
 have HNK:=Lib.hid (fun W (h:BoxS w6 0 [] W) k (hk:k<s.no.length)=>HNV.out W (HYB.out W h) k hk)
 go_loopw [11,60] (fun v t wr=>DiR s w6 v t wr) (fun _ t _=>s.sno.n - (intOf t).toNat)
 case atStart=>exact ⟨0,by have:=HNO.out;omega,rfl,boxS0'' _,Ow.start _ _ _ _ _⟩
 case round =>
  obtain ⟨k,hk,rfl,hs,ho⟩:=hrel
  have HW:=Lib.hid hs
  have HO:=Lib.hid ho
  clear hs ho
  obtain ⟨m,hm⟩:∃ m,k+1=m:=⟨_,rfl⟩
  have Hm:=Lib.hid hm
  by_cases hlt:m<s.sno.n
  ·have hlt':(k:Int)<(s.sno.n:Int) - 1:=by omega
   have hlk:k<s.sno.n - 1:=by omega
   have hg:IntKind.i64.wrap ((k:Int)+1)=(k:Int)+1:=IntWalk.i64_in _ (by omega)
   have hnk:=HNK.out _ HW.out m (by have:=HNO.out;omega)
   have HTK:=Lib.hid (show (dstL s).take (k+1)=(dstL s).take k ++ [(nodA s m).di] from hm ▸ dst_take (by have:=HNO.out;omega))
   have hlen:((dstL s).take k).length≤64:=by rw [List.length_take];omega
   rw [show off+m * 7=off+7+k * 7 from by omega] at hnk
   obtain ⟨n0,n1,n2,n3,n4,n5,n6⟩:=hnk
   generalize (dstL s).take k=LL at *
   have HSW:=HW
   clear hm
   go_wp2_with (at_builtin;refine wpList_append_own_at _ rfl _ _ 23 rfl w6.heap.size 2 i0 (.int .i64 0) 1 8 Tryz.underlying23 hi hz0 hz1 hz2 rfl (by decide) _ _ _ rfl (((HO.out.alloc _).alloc _).own) ⟨(wr.heap.size+1),0,none⟩ 1 1 [.int .i64 (nodA s m).di] rfl rfl (news_new _ _ (by first | rfl | simp) _ _ _ rfl) (by intro u hu;simp at hu;subst hu;rfl) (by unfold maxLen;omega) (by omega) (by have:=HW.out.B.size;simp;omega) ?_;intro v1 w7 hown hgrow hnil hblk)
   have HS7:=Lib.hid (((HW.out.alloc _).alloc _).grown hgrow (fun k hk=>(HO.out.lt hk).1))
   have HO7:=Lib.hid (Ow.next (l:=LL) (f:=oneI) (x:=(nodA s m).di) hown)
   clear hown hgrow hnil hblk
   go_roundw
   case rel=>exact ⟨k+1,by have:=HNO.out;have:=Hm.out;omega,by go_num,HS7.out,by rw [HTK.out];exact HO7.out⟩
   case measure=>simp only [intOf];omega
  ·have hlt':¬ (k:Int)<(s.sno.n:Int) - 1:=by omega
   have hlk:¬ k<s.sno.n - 1:=by omega
   have HL:=Lib.hid (show Ow oneI 1 2 w6.heap.size (dstL s) _ wr from by have h:=HO.out;rwa [List.take_of_length_le (by have:=HDL.out;have:=HNO.out;omega)] at h)
   obtain ⟨A',c',hv,hD,-⟩:=HL.out.ints HDL.out
   have HD:=Lib.hid hD
   subst hv
   replace HS:=Lib.hid (HYB.out _ HW.out)
   replace Q9:=Lib.hid (Q9.out.below HW.out.B)
   replace X6:=Lib.hid (X6.out.below HW.out.B)
   replace X9:=Lib.hid (X9.out.below HW.out.B)
   replace I1:=Lib.hid (I1.out.below HW.out.B)
   replace I2:=Lib.hid (I2.out.below HW.out.B)
   clear hD HO HL HYB HNK HW
   obtain ⟨k1,k2⟩:=HAC.out _ HS.out
   go_wp2_with fail
   clear k1 k2
   refine (HST.out _ _ _ _ rfl HD.out).mono ?_;rintro e' w8 ⟨A3,c3,rfl,hI3,hK3,hB⟩
   replace HS:=Lib.hid (HS.out.below hB)
   replace Q9:=Lib.hid (Q9.out.below hB)
   replace X6:=Lib.hid (X6.out.below hB)
   replace X9:=Lib.hid (X9.out.below hB)
   replace I1:=Lib.hid (I1.out.below hB)
   replace I2:=Lib.hid (I2.out.below hB)
   have I3:=Lib.hid hI3
   have I3n9:=Lib.hid (pairs_ne hI3 HN3.out X9.out)
   have I3n6:=Lib.hid (pairs_ne hI3 HN3.out X6.out)
   clear hI3
   have K3:=Lib.hid hK3
   clear hB hK3 HST HD
   have c9_0:=Q9.out.cell 0 (.slice A1 s.no.length c1) rfl
   have c9_1:=Q9.out.cell 1 (.slice A2 s.no.length c2) rfl
   have c9_2:=Q9.out.cell 2 (.slice none 0 0) rfl
   have c9_3:=Q9.out.cell 3 (.int .i64 0) rfl
   have fr9:=Q9.out.fr
   replace I1:=Lib.hid (I1.out.set_ne I1n9.out 2 (.slice A3 (s.no.length - 1) c3))
   replace I2:=Lib.hid (I2.out.set_ne I2n9.out 2 (.slice A3 (s.no.length - 1) c3))
   replace I3:=Lib.hid (I3.out.set_ne I3n9.out 2 (.slice A3 (s.no.length - 1) c3))
   replace X6:=Lib.hid (X6.out.other H9 2 (.slice A3 (s.no.length - 1) c3) ne69)
   replace X9:=Lib.hid (show Ex (w8.setCell ⟨H9,2,none⟩ (.slice A3 (s.no.length - 1) c3)) H9 [.slice A1 s.no.length c1,.slice A2 s.no.length c2,.slice A3 (s.no.length - 1) c3,.int .i64 0] from X9.out.set 2 (.slice A3 (s.no.length - 1) c3) (by simp))
   replace HS:=Lib.hid ((HS.out.set H9 2 r9 (.slice A3 (s.no.length - 1) c3)))
   replace Q9:=Lib.hid (show Has (w8.setCell ⟨H9,2,none⟩ (.slice A3 (s.no.length - 1) c3)) H9 [.slice A1 s.no.length c1,.slice A2 s.no.length c2,.slice A3 (s.no.length - 1) c3,.int .i64 0] from (Q9.out.set 2 (.slice A3 (s.no.length - 1) c3) (by simp)))
   have d9_1:=Q9.out.cell 1 (.slice A2 s.no.length c2) rfl
   have d9_2:=Q9.out.cell 2 (.slice A3 (s.no.length - 1) c3) rfl
   go_wp2_with fail
   clear c9_0 c9_1 c9_2 c9_3 fr9 d9_1 d9_2
   generalize (w8.setCell ⟨H9,2,none⟩ (.slice A3 (s.no.length - 1) c3))=w9 at *
   refine (HSN.out _ _ _ _ _ _ rfl I2.out I3.out K3.out).mono ?_;rintro e' w10 ⟨rfl,hB⟩
   replace HS:=Lib.hid (HS.out.below hB)
   replace Q9:=Lib.hid (Q9.out.below hB)
   replace X6:=Lib.hid (X6.out.below hB)
   replace X9:=Lib.hid (X9.out.below hB)
   replace I1:=Lib.hid (I1.out.below hB)
   replace I2:=Lib.hid (I2.out.below hB)
   replace I3:=Lib.hid (I3.out.below hB)
   clear hB HSN
   have c9_0:=Q9.out.cell 0 (.slice A1 s.no.length c1) rfl
   have c9_1:=Q9.out.cell 1 (.slice A2 s.no.length c2) rfl
   have c9_2:=Q9.out.cell 2 (.slice A3 (s.no.length - 1) c3) rfl
   have c9_3:=Q9.out.cell 3 (.int .i64 0) rfl
   have fr9:=Q9.out.fr
   have Q10:=Q9
   replace I1:=Lib.hid (I1.out.set_ne I1n9.out 3 (.int .i64 KV))
   replace I2:=Lib.hid (I2.out.set_ne I2n9.out 3 (.int .i64 KV))
   replace I3:=Lib.hid (I3.out.set_ne I3n9.out 3 (.int .i64 KV))
   replace X6:=Lib.hid (X6.out.other H9 3 (.int .i64 KV) ne69)
   replace X9:=Lib.hid (show Ex (w10.setCell ⟨H9,3,none⟩ (.int .i64 KV)) H9 [.slice A1 s.no.length c1,.slice A2 s.no.length c2,.slice A3 (s.no.length - 1) c3,.int .i64 KV] from X9.out.set 3 (.int .i64 KV) (by simp))
   replace HS:=Lib.hid ((HS.out.set H9 3 r9 (.int .i64 KV)))
   replace Q9:=Lib.hid (show Has (w10.setCell ⟨H9,3,none⟩ (.int .i64 KV)) H9 [.slice A1 s.no.length c1,.slice A2 s.no.length c2,.slice A3 (s.no.length - 1) c3,.int .i64 KV] from (Q9.out.set 3 (.int .i64 KV) (by simp)))
   by_cases hz:EE=0
   rotate_left
   ·have e1:=beq_of hz
    have e2:=bne_of e1
    have HNE:=Lib.hid hz
    clear hz
    have r0:(w10.setCell ⟨H9,3,none⟩ (.int .i64 KV)).cell? ⟨w.heap.size+1,0,none⟩=some (.slice none 0 0):=HS.out.at 1 _ rfl 0 _ rfl
    have r1:(w10.setCell ⟨H9,3,none⟩ (.int .i64 KV)).cell? ⟨w.heap.size+1,1,none⟩=some (.slice none 0 0):=HS.out.at 1 _ rfl 1 _ rfl
    have r2:(w10.setCell ⟨H9,3,none⟩ (.int .i64 KV)).cell? ⟨w.heap.size+1,2,none⟩=some (.slice none 0 0):=HS.out.at 1 _ rfl 2 _ rfl
    have r3:(w10.setCell ⟨H9,3,none⟩ (.int .i64 KV)).cell? ⟨w.heap.size+1,3,none⟩=some (.int .i64 0):=HS.out.at 1 _ rfl 3 _ rfl
    have rf:=fun o=>show (w10.setCell ⟨H9,3,none⟩ (.int .i64 KV)).frozen? ⟨w.heap.size+1,o,none⟩=false from HS.out.fr 1 _ rfl o
    go_wp2_with fail
    exact bodyPost_ret (v:=.tuple #[.agg #[.slice none 0 0,.slice none 0 0,.slice none 0 0,.int .i64 0],.int .i64 EE]) (by simp [results,Tryz.results76,go_sem,r0,r1,r2,r3]) rfl (opn_err HX.out HNE.out (below_set (below_set (below_set (below_set (HS.out.B) _ _ (Nat.le_add_right _ _) _) _ _ (Nat.le_add_right _ _) _) _ _ (Nat.le_add_right _ _) _) _ _ (Nat.le_add_right _ _) _))
   subst hz
   clear c9_0 c9_1 c9_2 c9_3 fr9
   have d9_0:=Q9.out.cell 0 (.slice A1 s.no.length c1) rfl
   have d9_1:=Q9.out.cell 1 (.slice A2 s.no.length c2) rfl
   have d9_2:=Q9.out.cell 2 (.slice A3 (s.no.length - 1) c3) rfl
   have d9_3:=Q9.out.cell 3 (.int .i64 KV) rfl
   have c9f:=X9.out
   clear c9f
   have c9_0:w10.cell? ⟨H9,0,none⟩=some (.slice A1 s.no.length c1):=Q10.out.cell 0 _ rfl
   have c9_1:w10.cell? ⟨H9,1,none⟩=some (.slice A2 s.no.length c2):=Q10.out.cell 1 _ rfl
   have c9_2:w10.cell? ⟨H9,2,none⟩=some (.slice A3 (s.no.length - 1) c3):=Q10.out.cell 2 _ rfl
   have c9_3:w10.cell? ⟨H9,3,none⟩=some (.int .i64 0):=Q10.out.cell 3 _ rfl
   have fr9:=Q10.out.fr
   have r0:(w10.setCell ⟨H9,3,none⟩ (.int .i64 KV)).cell? ⟨w.heap.size+1,0,none⟩=some (.slice none 0 0):=HS.out.at 1 _ rfl 0 _ rfl
   have r1:(w10.setCell ⟨H9,3,none⟩ (.int .i64 KV)).cell? ⟨w.heap.size+1,1,none⟩=some (.slice none 0 0):=HS.out.at 1 _ rfl 1 _ rfl
   have r2:(w10.setCell ⟨H9,3,none⟩ (.int .i64 KV)).cell? ⟨w.heap.size+1,2,none⟩=some (.slice none 0 0):=HS.out.at 1 _ rfl 2 _ rfl
   have r3:(w10.setCell ⟨H9,3,none⟩ (.int .i64 KV)).cell? ⟨w.heap.size+1,3,none⟩=some (.int .i64 0):=HS.out.at 1 _ rfl 3 _ rfl
   have rf:=fun o=>show (w10.setCell ⟨H9,3,none⟩ (.int .i64 KV)).frozen? ⟨w.heap.size+1,o,none⟩=false from HS.out.fr 1 _ rfl o
   go_wp2_with fail
   exact bodyPost_ret (v:=.tuple #[.agg #[.slice A1 s.no.length c1,.slice A2 s.no.length c2,.slice A3 (s.no.length - 1) c3,.int .i64 KV],.int .i64 0]) (by simp [results,Tryz.results76,go_sem,r0,r1,r2,r3]) rfl (opn_ok HX.out rfl rfl (HKV.out (by simp)) (((((I1.out.set_ne I1n6.out 0 _).set_ne I1n6.out 1 _).set_ne I1n6.out 2 _)).set_ne I1n6.out 3 _) (((((I2.out.set_ne I2n6.out 0 _).set_ne I2n6.out 1 _).set_ne I2n6.out 2 _)).set_ne I2n6.out 3 _) (((((I3.out.set_ne I3n6.out 0 _).set_ne I3n6.out 1 _).set_ne I3n6.out 2 _)).set_ne I3n6.out 3 _) K2.out K3.out (below_set (below_set (below_set (below_set (HS.out.B) _ _ (Nat.le_add_right _ _) _) _ _ (Nat.le_add_right _ _) _) _ _ (Nat.le_add_right _ _) _) _ _ (Nat.le_add_right _ _) _))
end Go.Proofs.YtgneijdjlahgbaaGreat
