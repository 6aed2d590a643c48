
/- Layer 37: predictions, the program's functions: Fly. -/
import Derived.Test.YtgneijdjlahgbaaGreatM29
import Derived.Test.YtgneijdjlahgbaaGreatM21
import Derived.Test.YtgneijdjlahgbaaGreatHap
import Derived.Test.YtgneijdjlahgbaaGreatM14
import Derived.RegionTactic
import Derived.Test.YtgneijdjlahgbaaGreatM37
namespace Go.Proofs.YtgneijdjlahgbaaGreat
set_option maxRecDepth 100000
set_option maxHeartbeats 16000000
set_option linter.unusedSimpArgs false
set_option linter.unusedVariables false
open Go.RowKit
def FlyP (s:Stp) (ps:List Pass) (ws:Cs.Wins) (w:World) (e:Ending) (w':World):Prop:=∃ A1 c1 A2 c2,e=.returned (.tuple #[.slice A1 (okN (flyE s ps ws) s.no.length) c1,.slice A2 (okN (flyE s ps ws) s.no.length) c2,.int .i64 (flyE s ps ws)])∧Ints w' A1 (okN (flyE s ps ws) s.no.length) (okL (flyE s ps ws) (flyT s ps ws))∧Ints w' A2 (okN (flyE s ps ws) s.no.length) (okL (flyE s ps ws) (flyL s ps ws))∧Below w.heap.size w w'
theorem flyP_err {s:Stp} {ps:List Pass} {ws:Cs.Wins} {w w':World} {E:Int} (hE:flyE s ps ws=E) (h0:E≠0) (hb:Below w.heap.size w w'):FlyP s ps ws w (.returned (.tuple #[.slice none 0 0,.slice none 0 0,.int .i64 E])) w':=by
 unfold FlyP
 rw [hE]
 unfold okL okN
 rw [if_neg h0,if_neg h0,if_neg h0]
 exact ⟨none,0,none,0,rfl,Ints.nil _,Ints.nil _,hb⟩
theorem flyP_ok {s:Stp} {ps:List Pass} {ws:Cs.Wins} {w w':World} {A1 A2:Option Addr} {c1 c2 n:Nat} (hE:flyE s ps ws=0) (hn:n=s.no.length) (h1:Ints w' A1 n (flyT s ps ws)) (h2:Ints w' A2 n (flyL s ps ws)) (hb:Below w.heap.size w w'):FlyP s ps ws w (.returned (.tuple #[.slice A1 n c1,.slice A2 n c2,.int .i64 0])) w':=by
 unfold FlyP
 subst hn
 rw [hE]
 exact ⟨A1,c1,A2,c2,rfl,h1,h2,hb⟩
theorem flyE_su {s:Stp} {ps:List Pass} {ws:Cs.Wins} (h:suE s≠0):flyE s ps ws=suE s:=if_pos h
theorem flyE_1 {s:Stp} {ps:List Pass} {ws:Cs.Wins} (h:suE s=0) (h1:ps.length≠s.no.length∨ws.length≠s.no.length - 1):flyE s ps ws=1:=by unfold flyE;rw [if_neg (by rw [h];decide),if_pos h1]
theorem flyE_fc {s:Stp} {ps:List Pass} {ws:Cs.Wins} (h:suE s=0) (h1:ps.length=s.no.length) (h2:ws.length=s.no.length - 1) (h3:fcE s (ps.map Pass.alt) (ps.map Pass.cas)≠0):flyE s ps ws=fcE s (ps.map Pass.alt) (ps.map Pass.cas):=by
 unfold flyE;rw [if_neg (by rw [h];decide),if_neg (by simp [h1,h2]),if_pos h3]
theorem flyE_2 {s:Stp} {ps:List Pass} {ws:Cs.Wins} (h:suE s=0) (h1:ps.length=s.no.length) (h2:ws.length=s.no.length - 1) (h3:fcE s (ps.map Pass.alt) (ps.map Pass.cas)=0) {k:Nat} (hk:k<ws.length) (h4:wnB (suH s k).e0 (suH s k).e1 (suH s k).n0 (suH s k).n1 (ws.getD k (0,0)).1 (ws.getD k (0,0)).2=false):flyE s ps ws=2:=by
 have hB:flB s ws=false:=by
  unfold flB
  refine decide_eq_false fun hh=>?_
  rw [hh k hk] at h4
  exact absurd h4 (by decide)
 unfold flyE;rw [if_neg (by rw [h];decide),if_neg (by simp [h1,h2]),if_neg (by rw [h3];decide),if_pos hB]
theorem flyE_f {s:Stp} {ps:List Pass} {ws:Cs.Wins} (h:suE s=0) (h1:ps.length=s.no.length) (h2:ws.length=s.no.length - 1) (h3:fcE s (ps.map Pass.alt) (ps.map Pass.cas)=0) (h4:∀ k,k<ws.length→wnB (suH s k).e0 (suH s k).e1 (suH s k).n0 (suH s k).n1 (ws.getD k (0,0)).1 (ws.getD k (0,0)).2=true):flyE s ps ws=flyF s (ps.map Pass.alt) (ps.map Pass.cas) ws ws.length:=by
 have hB:flB s ws=true:=decide_eq_true h4
 unfold flyE;rw [if_neg (by rw [h];decide),if_neg (by simp [h1,h2]),if_neg (by rw [h3];decide),if_neg (by rw [hB];decide)]
theorem flyF_at {s:Stp} {al sp:List Int} {ws:Cs.Wins}:∀ {n k:Nat},k+1≤n→flyF s al sp ws k=0→flyK s al sp ws k≠0→flyF s al sp ws n=flyK s al sp ws k
 | 0,k,hk,_,_=>by omega
 | n+1,k,hk,h0,h1=>by
  by_cases e:k=n
  ·subst e
   exact if_neg (by rw [h0];decide)
  ·have ih:=flyF_at (n:=n) (k:=k) (by omega) h0 h1
   have:flyF s al sp ws (n+1)=flyF s al sp ws n:=if_pos (by rw [ih];exact h1)
   rw [this,ih]
theorem flyF_s {s:Stp} {al sp:List Int} {ws:Cs.Wins} {k:Nat} (h0:flyF s al sp ws k=0) (h1:flyK s al sp ws k=0):flyF s al sp ws (k+1)=0:=by
 have:flyF s al sp ws (k+1)=flyK s al sp ws k:=if_neg (by rw [h0];decide)
 rw [this,h1]
theorem flyF_p {s:Stp} {al sp:List Int} {ws:Cs.Wins} {k:Nat} (h:flyF s al sp ws (k+1)=0):flyF s al sp ws k=0∧flyK s al sp ws k=0:=by
 by_cases h0:flyF s al sp ws k=0
 ·have:flyF s al sp ws (k+1)=flyK s al sp ws k:=if_neg (by rw [h0];decide)
  rw [this] at h
  exact ⟨h0,h⟩
 ·have:flyF s al sp ws (k+1)=flyF s al sp ws k:=if_pos h0
  rw [this] at h
  exact absurd h h0
theorem flyK_10 {s:Stp} {al sp:List Int} {ws:Cs.Wins} {k:Nat} (h:(lgV s al sp k).ta=0):flyK s al sp ws k=10:=if_pos h
theorem flyK_g {s:Stp} {al sp:List Int} {ws:Cs.Wins} {k:Nat} (h:¬ (lgV s al sp k).ta=0) (h1:gsE (lgV s al sp k).co (lgV s al sp k).ta (ws.getD k (0,0)).1 (ws.getD k (0,0)).2≠0):flyK s al sp ws k=gsE (lgV s al sp k).co (lgV s al sp k).ta (ws.getD k (0,0)).1 (ws.getD k (0,0)).2:=by
 unfold flyK;rw [if_neg h,if_pos h1]
theorem flyK_15 {s:Stp} {al sp:List Int} {ws:Cs.Wins} {k:Nat} (h:¬ (lgV s al sp k).ta=0) (h1:gsE (lgV s al sp k).co (lgV s al sp k).ta (ws.getD k (0,0)).1 (ws.getD k (0,0)).2=0) (h2:flLe s al sp ws (k+1)<0):flyK s al sp ws k=15:=by
 unfold flyK;rw [if_neg h,if_neg (by rw [h1];decide),if_pos h2]
theorem flyK_0 {s:Stp} {al sp:List Int} {ws:Cs.Wins} {k:Nat} (h:¬ (lgV s al sp k).ta=0) (h1:gsE (lgV s al sp k).co (lgV s al sp k).ta (ws.getD k (0,0)).1 (ws.getD k (0,0)).2=0) (h2:¬ flLe s al sp ws (k+1)<0):flyK s al sp ws k=0:=by
 unfold flyK;rw [if_neg h,if_neg (by rw [h1];decide),if_neg h2]
theorem flyK_p {s:Stp} {al sp:List Int} {ws:Cs.Wins} {k:Nat} (h:flyK s al sp ws k=0):gsE (lgV s al sp k).co (lgV s al sp k).ta (ws.getD k (0,0)).1 (ws.getD k (0,0)).2=0∧0≤flLe s al sp ws (k+1):=by
 unfold flyK at h
 split at h
 ·exact absurd h (by decide)
 ·split at h
  ·next h1=>exact absurd h h1
  ·next h1 =>
   split at h
   ·exact absurd h (by decide)
   ·exact ⟨by omega,by omega⟩
theorem flT_bd {s:Stp} (G:StG s) (N:StN s) {al sp:List Int} {ws:Cs.Wins} {k:Nat} (hk:k+1<s.no.length) (h:gsE (lgV s al sp k).co (lgV s al sp k).ta (ws.getD k (0,0)).1 (ws.getD k (0,0)).2=0):(1≤gsV (lgV s al sp k).co (lgV s al sp k).ta (ws.getD k (0,0)).1 (ws.getD k (0,0)).2 / 1024)∧0≤flT s al sp ws k∧flT s al sp ws k≤8000000:=by
 have hgs:=gs_good h
 have hdi:=(nod_good G N hk).di
 have hg:1≤gsV (lgV s al sp k).co (lgV s al sp k).ta (ws.getD k (0,0)).1 (ws.getD k (0,0)).2 / 1024:=by have:=hgs.hlo;have:=hgs.hv;omega
 have ht:=ceil_nn (d:=(nodA s (k+1)).di) hdi.1 hg
 have e:flT s al sp ws k=((nodA s (k+1)).di+gsV (lgV s al sp k).co (lgV s al sp k).ta (ws.getD k (0,0)).1 (ws.getD k (0,0)).2 / 1024 - 1) / (gsV (lgV s al sp k).co (lgV s al sp k).ta (ws.getD k (0,0)).1 (ws.getD k (0,0)).2 / 1024):=rfl
 omega
theorem fl_bd {s:Stp} (G:StG s) (N:StN s) {al sp:List Int} {ws:Cs.Wins}:∀ {k:Nat},k<s.no.length→flyF s al sp ws k=0→(0≤flLe s al sp ws k∧flLe s al sp ws k≤s.ac.left)∧0≤flTi s al sp ws k∧flTi s al sp ws k≤8000000 * (k:Int)
 | 0,_,_=>by
  have:=acc_bd G.ac
  have e:s.ac.left=s.ac.ld - s.ac.bu:=if_pos G.ac
  have e1:flLe s al sp ws 0=s.ac.left:=rfl
  have e2:flTi s al sp ws 0=0:=rfl
  rw [e1,e2]
  omega
 | k+1,hk,h=>by
  obtain ⟨h0,h1⟩:=flyF_p h
  obtain ⟨h2,h3⟩:=flyK_p h1
  have ih:=fl_bd G N (k:=k) (by omega) h0
  have ht:=flT_bd G N (by omega) h2
  have hf:=flw_bd G N (lgV s al sp k) (flLe s al sp ws k) (lgV s al sp k).ta
  have hp:=Int.mul_nonneg ht.2.1 hf.1
  have e1:flLe s al sp ws (k+1)=flLe s al sp ws k - flT s al sp ws k * flw s (lgV s al sp k) (flLe s al sp ws k) (lgV s al sp k).ta:=rfl
  have e2:flTi s al sp ws (k+1)=flTi s al sp ws k+flT s al sp ws k:=rfl
  rw [e1] at h3 ⊢
  rw [e2]
  omega
def FlA (ps:List Pass) (B:World) (v1 v2 t:Value) (wr:World):Prop:=∃ k:Nat,k≤ps.length∧t=.int .i64 (k:Int)∧OwII B ((ps.map Pass.alt).take k) ((ps.map Pass.cas).take k) v1 v2 wr
def FlB (s:Stp) (ws:Cs.Wins) (B:World) (t:Value) (wr:World):Prop:=∃ k:Nat,k≤ws.length∧t=.int .i64 (k:Int)∧(∀ j,j<k→wnB (suH s j).e0 (suH s j).e1 (suH s j).n0 (suH s j).n1 (ws.getD j (0,0)).1 (ws.getD j (0,0)).2=true)∧BoxS B 0 [] wr
def FlC (s:Stp) (ps:List Pass) (ws:Cs.Wins) (B:World) (v1 v2 t:Value) (wr:World):Prop:=∃ k:Nat,k≤ws.length∧t=.int .i64 (k:Int)∧flyF s (ps.map Pass.alt) (ps.map Pass.cas) ws k=0∧OwII B ((flyT s ps ws).take (k+1)) ((flyL s ps ws).take (k+1)) v1 v2 wr
theorem boxS0' (w:World):BoxS w 0 [] w:=⟨fun i cs hi=>by simp at hi,by simp,Below.refl _ _,by simp⟩
theorem map_take_s {α:Type} (g:α→Int) (l:List α) (k:Nat) (x:α) (h:l[k]? = some x):(l.map g).take (k+1)=(l.map g).take k ++ [g x]:=take_succ_get _ k _ (by rw [List.getElem?_map,h];rfl)
theorem ps_len (s:Stp) (ps:List Pass) (ws:Cs.Wins):(flyT s ps ws).length=s.no.length∧(flyL s ps ws).length=s.no.length:=by unfold flyT flyL;simp
theorem flT_take {s:Stp} {ps:List Pass} {ws:Cs.Wins} {k:Nat} (hk:k<s.no.length):(flyT s ps ws).take (k+1)=(flyT s ps ws).take k ++ [flTi s (ps.map Pass.alt) (ps.map Pass.cas) ws k]∧(flyL s ps ws).take (k+1)=(flyL s ps ws).take k ++ [flLe s (ps.map Pass.alt) (ps.map Pass.cas) ws k]∧(flyT s ps ws)[k]? = some (flTi s (ps.map Pass.alt) (ps.map Pass.cas) ws k)∧(flyL s ps ws)[k]? = some (flLe s (ps.map Pass.alt) (ps.map Pass.cas) ws k):=by
 have h1:(flyT s ps ws)[k]? = some (flTi s (ps.map Pass.alt) (ps.map Pass.cas) ws k):=by unfold flyT;rw [List.getElem?_map,List.getElem?_range hk];rfl
 have h2:(flyL s ps ws)[k]? = some (flLe s (ps.map Pass.alt) (ps.map Pass.cas) ws k):=by unfold flyL;rw [List.getElem?_map,List.getElem?_range hk];rfl
 exact ⟨take_succ_get _ k _ h1,take_succ_get _ k _ h2,h1,h2⟩
theorem xPFly_su (s:Stp) (A C:Option Addr) (np cp nw cw:Nat) (x y:Int) (bb:Bool) (ps:List Pass) (ws:Cs.Wins) (w:World) (hl:s.lies w) (hok:s.ok) (hp:Passes w A np ps) (hw:Pairs w C nw ws) (hnp:np≤maxLen) (hnw:nw≤maxLen) (hE:suE s≠0):Calls Tryz.prog 18 #[.agg s.cells.toArray,.agg #[.slice A np cp,.int .i64 x,.int .i64 y,.bool bb],.slice C nw cw] w (FlyP s ps ws w):=by
 have HS:=Lib.hid (boxS2 w s.cells.toArray #[.slice A np cp,.int .i64 x,.int .i64 y,.bool bb] 35 42)
 have HC:=Lib.hid (fun W (h:BoxS w 2 [s.cells,[.slice A np cp,.int .i64 x,.int .i64 y,.bool bb]] W)=>xPrCheck s W (hl.below h.B) hok)
 have HX:=Lib.hid (flyE_su (ps:=ps) (ws:=ws) hE)
 generalize suE s=E at *
 have e1:=beq_of hE
 have e2:=bne_of e1
 have HE:=Lib.hid hE
 clear hl hok hE hp hw hnp hnw
 go_enter Tryz.func18,Tryz.ntmps18
 go_wp2_with (refine at_stp (.tmp 3) rfl rfl rfl (HS.out.has 0 _ rfl) ?_)
 refine (HC.out _ HS.out).mono ?_;rintro e' w1 ⟨rfl,hB⟩
 replace HS:=Lib.hid (HS.out.below hB)
 clear hB HC
 go_wp2_with fail
 go_ret3
 exact flyP_err HX.out HE.out HS.out.B
theorem xPFly_1 (s:Stp) (A C:Option Addr) (np cp nw cw:Nat) (x y:Int) (bb:Bool) (ps:List Pass) (ws:Cs.Wins) (w:World) (hl:s.lies w) (hok:s.ok) (hp:Passes w A np ps) (hw:Pairs w C nw ws) (hnp:np≤maxLen) (hnw:nw≤maxLen) (hE:suE s=0) (h1:np≠s.sno.n):Calls Tryz.prog 18 #[.agg s.cells.toArray,.agg #[.slice A np cp,.int .i64 x,.int .i64 y,.bool bb],.slice C nw cw] w (FlyP s ps ws w):=by
 have HS:=Lib.hid (boxS2 w s.cells.toArray #[.slice A np cp,.int .i64 x,.int .i64 y,.bool bb] 35 42)
 have HC:=Lib.hid (fun W (h:BoxS w 2 [s.cells,[.slice A np cp,.int .i64 x,.int .i64 y,.bool bb]] W)=>xPrCheck s W (hl.below h.B) hok)
 rw [hE] at HC
 have hno:=(StN.of hl).no
 have hlp:=hp.len
 have hlw:=hw.len
 have hsn:=(su_good hE).n2
 have HX:=Lib.hid (flyE_1 (ps:=ps) (ws:=ws) hE (by omega))
 have HNS:=Lib.hid (fun W (h:BoxS w 2 [s.cells,[.slice A np cp,.int .i64 x,.int .i64 y,.bool bb]] W)=>show W.cell? ⟨w.heap.size,0,none⟩=some (.slice s.sno.A s.sno.n s.sno.c) from su_no (h.has 0 _ rfl))
 have g1:((np:Int) != (s.sno.n:Int))=true:=by simp;omega
 have g2:((np:Int) == (s.sno.n:Int))=false:=by simp;omega
 clear hl hok hE hp hw hno hlp hlw
 go_enter Tryz.func18,Tryz.ntmps18
 go_wp2_with (refine at_stp (.tmp 3) rfl rfl rfl (HS.out.has 0 _ rfl) ?_)
 refine (HC.out _ HS.out).mono ?_;rintro e' w1 ⟨rfl,hB⟩
 replace HS:=Lib.hid (HS.out.below hB)
 clear hB HC
 have k0:=HNS.out _ HS.out
 have k1:=HS.out.at 1 _ rfl 0 _ rfl
 go_wp2_with fail
 go_ret3
 exact flyP_err HX.out (by decide) HS.out.B
theorem xPFly_2 (s:Stp) (A C:Option Addr) (np cp nw cw:Nat) (x y:Int) (bb:Bool) (ps:List Pass) (ws:Cs.Wins) (w:World) (hl:s.lies w) (hok:s.ok) (hp:Passes w A np ps) (hw:Pairs w C nw ws) (hnp:np≤maxLen) (hnw:nw≤maxLen) (hE:suE s=0) (h0:np=s.sno.n) (h1:nw+1≠s.sno.n):Calls Tryz.prog 18 #[.agg s.cells.toArray,.agg #[.slice A np cp,.int .i64 x,.int .i64 y,.bool bb],.slice C nw cw] w (FlyP s ps ws w):=by
 have HS:=Lib.hid (boxS2 w s.cells.toArray #[.slice A np cp,.int .i64 x,.int .i64 y,.bool bb] 35 42)
 have HC:=Lib.hid (fun W (h:BoxS w 2 [s.cells,[.slice A np cp,.int .i64 x,.int .i64 y,.bool bb]] W)=>xPrCheck s W (hl.below h.B) hok)
 rw [hE] at HC
 have hno:=(StN.of hl).no
 have hlp:=hp.len
 have hlw:=hw.len
 have hsn:=(su_good hE).n2
 have HX:=Lib.hid (flyE_1 (ps:=ps) (ws:=ws) hE (by omega))
 have HNS:=Lib.hid (fun W (h:BoxS w 2 [s.cells,[.slice A np cp,.int .i64 x,.int .i64 y,.bool bb]] W)=>show W.cell? ⟨w.heap.size,0,none⟩=some (.slice s.sno.A s.sno.n s.sno.c) from su_no (h.has 0 _ rfl))
 subst h0
 have g0:IntKind.i64.wrap ((s.sno.n:Int) - 1)=(s.sno.n:Int) - 1:=IntWalk.i64_in _ (by omega)
 have g1:((nw:Int) != (s.sno.n:Int) - 1)=true:=by simp;omega
 have g2:((nw:Int) == (s.sno.n:Int) - 1)=false:=by simp;omega
 clear hl hok hE hp hw hno hlp hlw
 go_enter Tryz.func18,Tryz.ntmps18
 go_wp2_with (refine at_stp (.tmp 3) rfl rfl rfl (HS.out.has 0 _ rfl) ?_)
 refine (HC.out _ HS.out).mono ?_;rintro e' w1 ⟨rfl,hB⟩
 replace HS:=Lib.hid (HS.out.below hB)
 clear hB HC
 have k0:=HNS.out _ HS.out
 have k1:=HS.out.at 1 _ rfl 0 _ rfl
 go_wp2_with fail
 go_ret3
 exact flyP_err HX.out (by decide) HS.out.B
theorem xPFly_0 (s:Stp) (A C:Option Addr) (np cp nw cw:Nat) (x y:Int) (bb:Bool) (ps:List Pass) (ws:Cs.Wins) (w:World) (hl:s.lies w) (hok:s.ok) (hp:Passes w A np ps) (hw:Pairs w C nw ws) (hnp:np≤maxLen) (hnw:nw≤maxLen) (hE:suE s=0) (h0:np=s.sno.n) (h1:nw+1=s.sno.n):Calls Tryz.prog 18 #[.agg s.cells.toArray,.agg #[.slice A np cp,.int .i64 x,.int .i64 y,.bool bb],.slice C nw cw] w (FlyP s ps ws w):=by
 subst h0
 have G:=su_good hE
 have N:=StN.of hl
 have hno:=N.no
 have hn2:=no_len G N
 have hlp:ps.length=s.no.length:=by have:=hp.len;omega
 have hlw:ws.length=nw:=hw.len
 obtain ⟨bp,op,rfl,hbp,hcp⟩:=hp.cells (by omega)
 obtain ⟨bw,ow,rfl,hbw,hcw⟩:=hw.cells (by omega)
 obtain ⟨b,off,hA⟩:=su_A hl (by omega)
 have HS:=Lib.hid (boxS2 w s.cells.toArray #[.slice (some ⟨bp,op,none⟩) s.sno.n cp,.int .i64 x,.int .i64 y,.bool bb] 35 42)
 have HC:=Lib.hid (fun W (h:BoxS w 2 [s.cells,[.slice (some ⟨bp,op,none⟩) s.sno.n cp,.int .i64 x,.int .i64 y,.bool bb]] W)=>xPrCheck s W (hl.below h.B) hok)
 rw [hE] at HC
 have HNS:=Lib.hid (fun W (h:BoxS w 2 [s.cells,[.slice (some ⟨bp,op,none⟩) s.sno.n cp,.int .i64 x,.int .i64 y,.bool bb]] W)=>show W.cell? ⟨w.heap.size,0,none⟩=some (.slice (some ⟨b,off,none⟩) s.sno.n s.sno.c) from su_sl (h.has 0 _ rfl) hA)
 have HPR:=Lib.hid (fun W (h:BoxS w 2 [s.cells,[.slice (some ⟨bp,op,none⟩) s.sno.n cp,.int .i64 x,.int .i64 y,.bool bb]] W)=>show W.cell? ⟨w.heap.size+1,0,none⟩=some (.slice (some ⟨bp,op,none⟩) s.sno.n cp) from h.at 1 _ rfl 0 _ rfl)
 have HPC:=Lib.hid (fun W (h:BoxS w 2 [s.cells,[.slice (some ⟨bp,op,none⟩) s.sno.n cp,.int .i64 x,.int .i64 y,.bool bb]] W) k p (hk:ps[k]? = some p) j u hj=>(h.B.cell (p:=⟨bp,op+k * 13+j,none⟩) hbp).trans (hcp k p hk j u hj))
 have HWC:=Lib.hid (fun W (h:BoxS w 2 [s.cells,[.slice (some ⟨bp,op,none⟩) s.sno.n cp,.int .i64 x,.int .i64 y,.bool bb]] W) k (hk:k<ws.length)=>show W.cell? ⟨bw,ow+k * 2,none⟩=some (.int .i64 (ws.getD k (0,0)).1)∧W.cell? ⟨bw,ow+k * 2+1,none⟩=some (.int .i64 (ws.getD k (0,0)).2) from by
  have hx:=List.getElem?_eq_getElem hk
  have hg:=getD_of_get (d:=(0,0)) hx
  rw [hg]
  exact ⟨(h.B.cell (p:=⟨bw,ow+k * 2,none⟩) hbw).trans (hcw k _ hx 0 _ rfl),(h.B.cell (p:=⟨bw,ow+k * 2+1,none⟩) hbw).trans (hcw k _ hx 1 _ rfl)⟩)
 have HDI:=Lib.hid (fun W (h:BoxS w 2 [s.cells,[.slice (some ⟨bp,op,none⟩) s.sno.n cp,.int .i64 x,.int .i64 y,.bool bb]] W) k (hk:k<s.no.length)=>(su_nd (hl.below h.B) hA hk).2.2.1)
 have hmx:s.sno.n≤maxLen:=hok.no
 have HCF:=Lib.hid (fun W (h:BoxS w 2 [s.cells,[.slice (some ⟨bp,op,none⟩) s.sno.n cp,.int .i64 x,.int .i64 y,.bool bb]] W) A1 c1 A2 c2 (ha:Ints W A1 s.sno.n (ps.map Pass.alt)) (hb:Ints W A2 s.sno.n (ps.map Pass.cas))=>xPCheckFlight s A1 A2 s.sno.n c1 s.sno.n c2 (ps.map Pass.alt) (ps.map Pass.cas) W hno ha hb hmx hmx)
 have HHU:=Lib.hid (fun W (h:BoxS w 2 [s.cells,[.slice (some ⟨bp,op,none⟩) s.sno.n cp,.int .i64 x,.int .i64 y,.bool bb]] W) k m (hm:m=k+1) (hk:m<s.no.length)=>xPhull s k m hm W (hl.below h.B) hok G hk)
 have HWI:=Lib.hid (fun W e0 e1 n0 n1 e n=>xWWithin e0 e1 n0 n1 e n W)
 have HLF:=Lib.hid (fun W=>xFuLeft s.ac W)
 have HLG:=Lib.hid (fun (Fc:FcG s (ps.map Pass.alt) (ps.map Pass.cas)) W (h:BoxS w 2 [s.cells,[.slice (some ⟨bp,op,none⟩) s.sno.n cp,.int .i64 x,.int .i64 y,.bool bb]] W) k m (hm:m=k+1) (hk:m<s.no.length) A1 c1 A2 c2 (ha:Ints W A1 s.sno.n (ps.map Pass.alt)) (hb:Ints W A2 s.sno.n (ps.map Pass.cas))=>xPLegOf s k m hm A1 A2 s.sno.n c1 s.sno.n c2 (ps.map Pass.alt) (ps.map Pass.cas) W (hl.below h.B) hok G hk Fc ha hb)
 have HGR:=Lib.hid (fun W l e n (hco:I64 l.co)=>xLgGround l e n hco W)
 have HTK:=Lib.hid (fun W d g h0 h1 hg hg2=>xPTicks d g h0 h1 hg hg2 W)
 have HFW:=Lib.hid (fun W (h:BoxS w 2 [s.cells,[.slice (some ⟨bp,op,none⟩) s.sno.n cp,.int .i64 x,.int .i64 y,.bool bb]] W) l left tas hp hb=>xLgFlow s l left tas W (hl.below h.B) hok hp hb)
 have HG:=Lib.hid (And.intro G N)
 have HNO:=Lib.hid hno
 have HLP:=Lib.hid hlp
 have HLW:=Lib.hid hlw
 have HSU:=Lib.hid hE
 have HHL:=Lib.hid (And.intro hl hok)
 have i1:(nw:Int)+1=(s.sno.n:Int):=by omega
 have i2:s.sno.n≤64:=by omega
 have i3:2≤s.sno.n:=by omega
 have g0:IntKind.i64.wrap ((s.sno.n:Int) - 1)=(nw:Int):=by rw [IntWalk.i64_in _ (by omega)];omega
 clear hl hok hE hp hw hnp hnw G N hn2 hlp hlw hbp hcp hbw hcw hA hmx hno
 go_enter Tryz.func18,Tryz.ntmps18
 go_wp2_with (refine at_stp (.tmp 3) rfl rfl rfl (HS.out.has 0 _ rfl) ?_)
 refine (HC.out _ HS.out).mono ?_;rintro e' w1 ⟨rfl,hB⟩
 replace HS:=Lib.hid (HS.out.below hB)
 clear hB HC
 have k0:=HNS.out _ HS.out
 have k1:=HPR.out _ HS.out
 go_wp2_with fail
 clear k0 k1
 have HYA:=Lib.hid (fun l1 l2 v1 v2 W (h:OwII w1 l1 l2 v1 v2 W)=>HS.out.below h.bel)
 go_loopw [10,11,50] (fun v1 v2 t wr=>FlA ps w1 v1 v2 t wr) (fun _ _ t _=>s.sno.n - (intOf t).toNat)
 case atStart=>exact ⟨0,by omega,rfl,OwII.start w1⟩
 case round =>
  clear HS
  obtain ⟨k,hk,rfl,ho⟩:=hrel
  have HO:=Lib.hid ho
  clear ho
  have HS:=Lib.hid (HYA.out _ _ _ _ _ HO.out)
  by_cases hlt:k<s.sno.n
  ·have hlt':(k:Int)<(s.sno.n:Int):=by omega
   obtain ⟨p,hpk⟩:∃ p,ps[k]? = some p:=⟨_,List.getElem?_eq_getElem (by have:=HLP.out;have:=HNO.out;omega)⟩
   have hcp:=HPC.out _ HS.out k p hpk
   have HT1:=Lib.hid (map_take_s Pass.alt ps k p hpk)
   have HT2:=Lib.hid (map_take_s Pass.cas ps k p hpk)
   have HLL:=Lib.hid (show ((ps.map Pass.alt).take k).length+1≤1000∧((ps.map Pass.cas).take k).length+1≤1000 from by rw [List.length_take,List.length_take];omega)
   generalize (ps.map Pass.alt).take k=l1 at *
   generalize (ps.map Pass.cas).take k=l2 at *
   clear hpk
   have p0:wr.cell? ⟨bp,op+k * 13,none⟩=some (.int .i64 p.alt):=hcp 0 _ rfl
   have p1:wr.cell? ⟨bp,op+k * 13+1,none⟩=some (.int .i64 p.cas):=hcp 1 _ rfl
   have p2:wr.cell? ⟨bp,op+k * 13+2,none⟩=some (.int .i64 p.tas):=hcp 2 _ rfl
   have p3:wr.cell? ⟨bp,op+k * 13+3,none⟩=some (.int .i64 p.ground):=hcp 3 _ rfl
   have p4:wr.cell? ⟨bp,op+k * 13+4,none⟩=some (.int .i64 p.tick):=hcp 4 _ rfl
   have p5:wr.cell? ⟨bp,op+k * 13+5,none⟩=some (.int .i64 p.fuel):=hcp 5 _ rfl
   have p6:wr.cell? ⟨bp,op+k * 13+6,none⟩=some (.int .i64 p.gl):=hcp 6 _ rfl
   have p7:wr.cell? ⟨bp,op+k * 13+7,none⟩=some (.int .i64 p.gh):=hcp 7 _ rfl
   have p8:wr.cell? ⟨bp,op+k * 13+8,none⟩=some (.int .i64 p.tl):=hcp 8 _ rfl
   have p9:wr.cell? ⟨bp,op+k * 13+9,none⟩=some (.int .i64 p.th):=hcp 9 _ rfl
   have p10:wr.cell? ⟨bp,op+k * 13+10,none⟩=some (.int .i64 p.fl):=hcp 10 _ rfl
   have p11:wr.cell? ⟨bp,op+k * 13+11,none⟩=some (.int .i64 p.fh):=hcp 11 _ rfl
   have p12:wr.cell? ⟨bp,op+k * 13+12,none⟩=some (.int .u8 p.phase):=hcp 12 _ rfl
   clear hcp
   have HQ:=Lib.hid (show Has (wr.alloc (.cells #[.int .i64 p.alt,.int .i64 p.cas,.int .i64 p.tas,.int .i64 p.ground,.int .i64 p.tick,.int .i64 p.fuel,.int .i64 p.gl,.int .i64 p.gh,.int .i64 p.tl,.int .i64 p.th,.int .i64 p.fl,.int .i64 p.fh,.int .u8 p.phase] 53)) wr.heap.size (lzp p.alt p.cas p.tas p.ground p.tick p.fuel p.gl p.gh p.tl p.th p.fl p.fh p.phase) from Has.new _ _ _)
   have HOA:=Lib.hid (HO.out.alloc (.cells #[.int .i64 p.alt,.int .i64 p.cas,.int .i64 p.tas,.int .i64 p.ground,.int .i64 p.tick,.int .i64 p.fuel,.int .i64 p.gl,.int .i64 p.gh,.int .i64 p.tl,.int .i64 p.th,.int .i64 p.fl,.int .i64 p.fh,.int .u8 p.phase] 53))
   have HV1:=Lib.hid (fun k (h:u10.ownBlock=some k)=>(HO.out.o1.lt h).2)
   have HV2:=Lib.hid (fun k (h:u11.ownBlock=some k)=>(HO.out.o2.lt h).2)
   have HSZ:=Lib.hid (show wr.heap.size<(wr.alloc (.cells #[.int .i64 p.alt,.int .i64 p.cas,.int .i64 p.tas,.int .i64 p.ground,.int .i64 p.tick,.int .i64 p.fuel,.int .i64 p.gl,.int .i64 p.gh,.int .i64 p.tl,.int .i64 p.th,.int .i64 p.fl,.int .i64 p.fh,.int .u8 p.phase] 53)).heap.size from HQ.out.lt)
   go_wp2_with fail
   clear p0 p1 p2 p3 p4 p5 p6 p7 p8 p9 p10 p11 p12 HS HO
   generalize (wr.alloc (.cells #[.int .i64 p.alt,.int .i64 p.cas,.int .i64 p.tas,.int .i64 p.ground,.int .i64 p.tick,.int .i64 p.fuel,.int .i64 p.gl,.int .i64 p.gh,.int .i64 p.tl,.int .i64 p.th,.int .i64 p.fl,.int .i64 p.fh,.int .u8 p.phase] 53))=w4 at *
   generalize wr.heap.size=H13 at *
   refine held_start (S:=fun W=>Has W H13 (lzp p.alt p.cas p.tas p.ground p.tick p.fuel p.gl p.gh p.tl p.th p.fl p.fh p.phase)) 12 #[false,false,false,false,false,false,false,false,false,false,false,false] rfl rfl (by kernel_rfl) (HQ.out.drew) (fun hHeld=>?_)
   iterate 3 (refine hF (L:=_) (v:=?_) rfl rfl ?_ ?_;rotate_left;(intro W hW;have y0:=hW.cell 0 (.int .i64 p.alt) rfl;clear hW;go_simp;try with_reducible rfl);try simp only [Act.put,pa,pb,pc,setF])
   refine hL 5 59 (v:=?_) rfl rfl ?_ ?_
   rotate_left
   ·intro W hW
    go_simp;try with_reducible rfl
   (try simp only [Act.put,pa,pb,pc])
   refine hL 6 60 (v:=?_) rfl rfl ?_ ?_
   rotate_left
   ·intro W hW
    go_simp;try with_reducible rfl
   (try simp only [Act.put,pa,pb,pc])
   refine hL 7 61 (v:=?_) rfl rfl ?_ ?_
   rotate_left
   ·intro W hW
    have kk:=hW.cell 1 (.int .i64 p.cas) rfl;clear hW;go_simp;try with_reducible rfl
   (try simp only [Act.put,pa,pb,pc])
   refine held_nameS ?_
   intro OPS QQ A0 SS hO hQ hA hSS
   have st_3_4_8:Hid (∀ (W:World) (H3:Nat) (H8:Nat) (u1:Value) (oW:OwII w1 (l1 ++ [p.alt]) l2 u1 u11 W) (q8:Has W H8 [.int .i64 p.cas]) (r8:H13<H8) (rW:H13<W.heap.size),SS W→wpAnyH Tryz.prog .any OPS QQ SS 3 #[true,true,true,true,true,true,true,true,true,false,false,false] (((A0.put (some 57) (.slice (some ⟨H3,0,none⟩) 1 1)).put (some 58) u1).put (some 62) (.slice (some ⟨H8,0,none⟩) 1 1)) W):=by
    subst hO hQ hA hSS
    refine Lib.hid ?_
    intro W H3 H8 u1 oW q8 r8 rW hHeld
    (try simp only [Act.put,pa,pb,pc])
    refine wpAnyH_ready (rs:=[9]) (by kernel_rfl) (by simp) ?_
    refine AllReadyH.cons (o:=_) rfl (fun K hK=>?_) ?_
    ·refine held_app2 rfl _ _ rfl oW rfl p.cas H8 1 rfl q8 HLL.out.2 (fun u2 W1 oN hg=>?_)
     have hNew:=hHeld.grown hg (fun e=>by have:=HV2.out _ e.symm;omega)
     refine hK.out _ _ hNew (fun hHeld2=>?_)
     (try simp only [Act.put,pa,pb,pc])
     clear hK K hNew hHeld hg
     refine held_take 10 10 (v:=?_) rfl rfl (by kernel_rfl) (by kernel_rfl) (by kernel_rfl) (fun _ _ _ h=>h) (Or.inl ⟨by rfl,?_⟩) hHeld2 ?_
     rotate_left
     ·intro W hW
      go_simp;try with_reducible rfl
     (try simp only [Act.put,pa,pb,pc])
     refine held_take 11 11 (v:=?_) rfl rfl (by kernel_rfl) (by kernel_rfl) (by kernel_rfl) (fun _ _ _ h=>h) (Or.inl ⟨by rfl,?_⟩) hHeld2 ?_
     rotate_left
     ·intro W hW
      go_simp;try with_reducible rfl
     (try simp only [Act.put,pa,pb,pc])
     refine wpAnyH_done (by kernel_rfl) ?_ _
     have HN:=Lib.hid oN
     clear oN hHeld2
     go_wp2_with fail
     go_roundw
     case rel=>exact ⟨k+1,by have:=HLP.out;have:=HNO.out;omega,by go_num,by rw [HT1.out,HT2.out];exact HN.out⟩
     case measure=>simp only [intOf];omega
    exact AllReadyH.nil
   have st_3_4:Hid (∀ (W:World) (H3:Nat) (u1:Value) (oW:OwII w1 (l1 ++ [p.alt]) l2 u1 u11 W) (rW:H13<W.heap.size),SS W→wpAnyH Tryz.prog .any OPS QQ SS 4 #[true,true,true,true,true,true,true,true,false,false,false,false] ((A0.put (some 57) (.slice (some ⟨H3,0,none⟩) 1 1)).put (some 58) u1) W):=by
    subst hO hQ hA hSS
    refine Lib.hid ?_
    intro W H3 u1 oW rW hHeld
    (try simp only [Act.put,pa,pb,pc])
    refine wpAnyH_ready (rs:=[8]) (by kernel_rfl) (by simp) ?_
    refine AllReadyH.cons (o:=_) rfl (fun K hK=>?_) ?_
    ·go_simp
     have hNew:=hHeld.alloc (.cells #[.int .i64 p.cas] 2)
     refine hK.out _ _ hNew (fun hHeld2=>?_)
     (try simp only [Act.put,pa,pb,pc])
     have nx:=st_3_4_8.out
     simp only [Act.put,pa,pb,pc] at nx
     exact nx _ H3 W.heap.size u1 (oW.alloc (.cells #[.int .i64 p.cas] 2)) (Has.new _ _ _) rW (Nat.lt_of_lt_of_le rW (below_alloc1 _ _).size) hHeld2
    exact AllReadyH.nil
   have st_3_8:Hid (∀ (W:World) (H3:Nat) (H8:Nat) (oW:OwII w1 l1 l2 u10 u11 W) (q3:Has W H3 [.int .i64 p.alt]) (q8:Has W H8 [.int .i64 p.cas]) (r8:H13<H8) (rW:H13<W.heap.size),SS W→wpAnyH Tryz.prog .any OPS QQ SS 4 #[true,true,true,true,false,true,true,true,true,false,false,false] ((A0.put (some 57) (.slice (some ⟨H3,0,none⟩) 1 1)).put (some 62) (.slice (some ⟨H8,0,none⟩) 1 1)) W):=by
    subst hO hQ hA hSS
    refine Lib.hid ?_
    intro W H3 H8 oW q3 q8 r8 rW hHeld
    (try simp only [Act.put,pa,pb,pc])
    refine wpAnyH_ready (rs:=[4]) (by kernel_rfl) (by simp) ?_
    refine AllReadyH.cons (o:=_) rfl (fun K hK=>?_) ?_
    ·refine held_app1 rfl _ _ rfl oW rfl p.alt H3 1 rfl q3 HLL.out.1 (fun u1 W1 oN hg=>?_)
     have hNew:=hHeld.grown hg (fun e=>by have:=HV1.out _ e.symm;omega)
     have q8N:=q8.grown hg (fun e=>by have:=HV1.out _ e.symm;omega)
     refine hK.out _ _ hNew (fun hHeld2=>?_)
     (try simp only [Act.put,pa,pb,pc])
     have nx:=st_3_4_8.out
     simp only [Act.put,pa,pb,pc] at nx
     exact nx _ H3 H8 u1 oN q8N r8 (Nat.lt_of_lt_of_le rW hg.size) hHeld2
    exact AllReadyH.nil
   have st_8:Hid (∀ (W:World) (H8:Nat) (oW:OwII w1 l1 l2 u10 u11 W) (q8:Has W H8 [.int .i64 p.cas]) (r8:H13<H8) (rW:H13<W.heap.size),SS W→wpAnyH Tryz.prog .any OPS QQ SS 5 #[true,true,true,false,false,true,true,true,true,false,false,false] (A0.put (some 62) (.slice (some ⟨H8,0,none⟩) 1 1)) W):=by
    subst hO hQ hA hSS
    refine Lib.hid ?_
    intro W H8 oW q8 r8 rW hHeld
    (try simp only [Act.put,pa,pb,pc])
    refine wpAnyH_ready (rs:=[3]) (by kernel_rfl) (by simp) ?_
    refine AllReadyH.cons (o:=_) rfl (fun K hK=>?_) ?_
    ·go_simp
     have hNew:=hHeld.alloc (.cells #[.int .i64 p.alt] 2)
     refine hK.out _ _ hNew (fun hHeld2=>?_)
     (try simp only [Act.put,pa,pb,pc])
     have nx:=st_3_8.out
     simp only [Act.put,pa,pb,pc] at nx
     exact nx _ W.heap.size H8 (oW.alloc (.cells #[.int .i64 p.alt] 2)) (Has.new _ _ _) (q8.alloc (.cells #[.int .i64 p.alt] 2)) r8 (Nat.lt_of_lt_of_le rW (below_alloc1 _ _).size) hHeld2
    exact AllReadyH.nil
   have st_3:Hid (∀ (W:World) (H3:Nat) (oW:OwII w1 l1 l2 u10 u11 W) (q3:Has W H3 [.int .i64 p.alt]) (rW:H13<W.heap.size),SS W→wpAnyH Tryz.prog .any OPS QQ SS 5 #[true,true,true,true,false,true,true,true,false,false,false,false] (A0.put (some 57) (.slice (some ⟨H3,0,none⟩) 1 1)) W):=by
    subst hO hQ hA hSS
    refine Lib.hid ?_
    intro W H3 oW q3 rW hHeld
    (try simp only [Act.put,pa,pb,pc])
    refine wpAnyH_ready (rs:=[4,8]) (by kernel_rfl) (by simp) ?_
    refine AllReadyH.cons (o:=_) rfl (fun K hK=>?_) ?_
    ·refine held_app1 rfl _ _ rfl oW rfl p.alt H3 1 rfl q3 HLL.out.1 (fun u1 W1 oN hg=>?_)
     have hNew:=hHeld.grown hg (fun e=>by have:=HV1.out _ e.symm;omega)
     refine hK.out _ _ hNew (fun hHeld2=>?_)
     (try simp only [Act.put,pa,pb,pc])
     have nx:=st_3_4.out
     simp only [Act.put,pa,pb,pc] at nx
     exact nx _ H3 u1 oN (Nat.lt_of_lt_of_le rW hg.size) hHeld2
    refine AllReadyH.cons (o:=_) rfl (fun K hK=>?_) ?_
    ·go_simp
     have hNew:=hHeld.alloc (.cells #[.int .i64 p.cas] 2)
     refine hK.out _ _ hNew (fun hHeld2=>?_)
     (try simp only [Act.put,pa,pb,pc])
     have nx:=st_3_8.out
     simp only [Act.put,pa,pb,pc] at nx
     exact nx _ H3 W.heap.size (oW.alloc (.cells #[.int .i64 p.cas] 2)) (q3.alloc (.cells #[.int .i64 p.cas] 2)) (Has.new _ _ _) rW (Nat.lt_of_lt_of_le rW (below_alloc1 _ _).size) hHeld2
    exact AllReadyH.nil
   have st:Hid (∀ (W:World) (oW:OwII w1 l1 l2 u10 u11 W) (rW:H13<W.heap.size),SS W→wpAnyH Tryz.prog .any OPS QQ SS 6 #[true,true,true,false,false,true,true,true,false,false,false,false] A0 W):=by
    subst hO hQ hA hSS
    refine Lib.hid ?_
    intro W oW rW hHeld
    (try simp only [Act.put,pa,pb,pc])
    refine wpAnyH_ready (rs:=[3,8]) (by kernel_rfl) (by simp) ?_
    refine AllReadyH.cons (o:=_) rfl (fun K hK=>?_) ?_
    ·go_simp
     have hNew:=hHeld.alloc (.cells #[.int .i64 p.alt] 2)
     refine hK.out _ _ hNew (fun hHeld2=>?_)
     (try simp only [Act.put,pa,pb,pc])
     have nx:=st_3.out
     simp only [Act.put,pa,pb,pc] at nx
     exact nx _ W.heap.size (oW.alloc (.cells #[.int .i64 p.alt] 2)) (Has.new _ _ _) (Nat.lt_of_lt_of_le rW (below_alloc1 _ _).size) hHeld2
    refine AllReadyH.cons (o:=_) rfl (fun K hK=>?_) ?_
    ·go_simp
     have hNew:=hHeld.alloc (.cells #[.int .i64 p.cas] 2)
     refine hK.out _ _ hNew (fun hHeld2=>?_)
     (try simp only [Act.put,pa,pb,pc])
     have nx:=st_8.out
     simp only [Act.put,pa,pb,pc] at nx
     exact nx _ W.heap.size (oW.alloc (.cells #[.int .i64 p.cas] 2)) (Has.new _ _ _) rW (Nat.lt_of_lt_of_le rW (below_alloc1 _ _).size) hHeld2
    exact AllReadyH.nil
   subst hO hQ hA hSS
   exact st.out _ HOA.out.drew HSZ.out hHeld
  ·have hlt':¬ (k:Int)<(s.sno.n:Int):=by omega
   have hkn:k=s.sno.n:=by have:=HLP.out;have:=HNO.out;omega
   have HL2:=Lib.hid (show OwII w1 (ps.map Pass.alt) (ps.map Pass.cas) u10 u11 wr from by
    have h:=HO.out
    rwa [List.take_of_length_le (by rw [List.length_map];have:=HLP.out;have:=HNO.out;omega),List.take_of_length_le (by rw [List.length_map];have:=HLP.out;have:=HNO.out;omega)] at h)
   obtain ⟨⟨A1,c1,hv1,hI1,-⟩,A2,c2,hv2,hI2,-⟩:=HL2.out.ints (n:=s.sno.n) (m:=s.sno.n) (by rw [List.length_map];have:=HLP.out;have:=HNO.out;omega) (by rw [List.length_map];have:=HLP.out;have:=HNO.out;omega)
   have I1:=Lib.hid hI1
   have I2:=Lib.hid hI2
   clear hI1 hI2 HL2 HO hkn
   subst hv1 hv2
   go_wp2_with (refine at_stp (.tmp 3) rfl rfl rfl (HS.out.has 0 _ rfl) ?_)
   refine (HCF.out _ HS.out _ _ _ _ I1.out I2.out).mono ?_;rintro e' w2 ⟨rfl,hB⟩
   replace HS:=Lib.hid (HS.out.below hB)
   replace I1:=Lib.hid (I1.out.below hB)
   replace I2:=Lib.hid (I2.out.below hB)
   clear hB HCF HYA HPC
   have HEQ:=Lib.hid (show ps.length=s.no.length∧ws.length=s.no.length - 1 from by have:=HLP.out;have:=HLW.out;have:=HNO.out;omega)
   by_cases hF:fcE s (ps.map Pass.alt) (ps.map Pass.cas)=0
   rotate_left
   ·have HX:=Lib.hid (flyE_fc HSU.out HEQ.out.1 HEQ.out.2 hF)
    have HNE:=Lib.hid hF
    generalize fcE s (ps.map Pass.alt) (ps.map Pass.cas)=E at *
    have e1:=beq_of hF
    have e2:=bne_of e1
    clear hF
    go_wp2_with fail
    go_ret3
    exact flyP_err HX.out HNE.out HS.out.B
   have HF:=Lib.hid hF
   rw [hF]
   clear hF
   go_wp2_with fail
   have HYB:=Lib.hid (fun W (h:BoxS w2 0 [] W)=>HS.out.below h.B)
   go_loopw [74] (fun t wr=>FlB s ws w2 t wr) (fun t _=>nw - (intOf t).toNat)
   case atStart=>exact ⟨0,by omega,rfl,fun j hj=>by omega,boxS0' _⟩
   case round =>
    clear hlt hlt' hk HS
    obtain ⟨k,hk,rfl,hall,hs⟩:=hrel
    have HA:=Lib.hid hall
    have HR:=Lib.hid hs
    have HS:=Lib.hid (HYB.out _ HR.out)
    clear hall hs
    by_cases hlt:k<nw
    ·have hlt':(k:Int)<(nw:Int):=by omega
     have hkw:k<ws.length:=by have:=HLW.out;omega
     obtain ⟨x0,x1⟩:=HWC.out _ HS.out k hkw
     have HAK:=Lib.hid (fun (h:wnB (suH s k).e0 (suH s k).e1 (suH s k).n0 (suH s k).n1 (ws.getD k (0,0)).1 (ws.getD k (0,0)).2=true) j (hj:j<k+1)=>show wnB (suH s j).e0 (suH s j).e1 (suH s j).n0 (suH s j).n1 (ws.getD j (0,0)).1 (ws.getD j (0,0)).2=true from by
      by_cases e:j=k
      ·subst e;exact h
      ·exact HA.out j (by omega))
     have HAF:=Lib.hid (fun (h:wnB (suH s k).e0 (suH s k).e1 (suH s k).n0 (suH s k).n1 (ws.getD k (0,0)).1 (ws.getD k (0,0)).2=false)=>flyE_2 HSU.out HEQ.out.1 HEQ.out.2 HF.out hkw h)
     have HHK:=Lib.hid (fun W (h:BoxS w 2 [s.cells,[.slice (some ⟨bp,op,none⟩) s.sno.n cp,.int .i64 x,.int .i64 y,.bool bb]] W)=>HHU.out W h k (k+1) rfl (by have:=HNO.out;omega))
     have hg:IntKind.i64.wrap ((k:Int)+1)=(k:Int)+1:=IntWalk.i64_in _ (by omega)
     have hc:((k+1:Nat):Int)=(k:Int)+1:=by omega
     rw [hc] at HHK
     generalize (ws.getD k (0,0)).1=e0 at *
     generalize (ws.getD k (0,0)).2=n0 at *
     generalize suH s k=h at *
     have HS0:=HS
     clear HS
     have HS:=HR
     clear HR
     have Q16:Hid (Has ((wr.alloc (.cells #[.int .i64 e0,.int .i64 n0] 87))) wr.heap.size (lz2 e0 n0)):=Lib.hid (Has.new _ _ _)
     have r16:w2.heap.size+0≤wr.heap.size:=HS.out.sz
     replace HS:=Lib.hid ((HS.out.alloc (.cells #[.int .i64 e0,.int .i64 n0] 87)))
     go_wp2_with (refine at_stp (.tmp 3) rfl rfl rfl ((HYB.out _ HS.out).has 0 _ rfl) ?_)
     clear x0 x1 HS0
     generalize (wr.alloc (.cells #[.int .i64 e0,.int .i64 n0] 87))=w4 at *
     generalize wr.heap.size=H16 at *
     refine (HHK.out _ (HYB.out _ HS.out)).mono ?_;rintro e' w5 ⟨rfl,hB⟩
     replace HS:=Lib.hid (HS.out.below hB)
     replace Q16:=Lib.hid (Q16.out.below hB)
     clear hB
     have Q17:Hid (Has ((w5.alloc (.cells #[.int .i64 h.e0,.int .i64 h.e1,.int .i64 h.n0,.int .i64 h.n1] 85)).alloc (.cells #[.int .i64 h.d0,.int .i64 h.d1] 51)) w5.heap.size (lz4 h.e0 h.e1 h.n0 h.n1)):=Lib.hid ((Has.new _ _ _).alloc (.cells #[.int .i64 h.d0,.int .i64 h.d1] 51))
     have Q18:Hid (Has ((w5.alloc (.cells #[.int .i64 h.e0,.int .i64 h.e1,.int .i64 h.n0,.int .i64 h.n1] 85)).alloc (.cells #[.int .i64 h.d0,.int .i64 h.d1] 51)) (w5.heap.size+1) (lz2 h.d0 h.d1)):=Lib.hid (Has.newAt _ _ _ _ (by simp))
     have r17:w2.heap.size+0≤w5.heap.size:=HS.out.sz
     have r18:w2.heap.size+0≤w5.heap.size+1:=Nat.le_succ_of_le HS.out.sz
     have n16_17:H16≠w5.heap.size:=by have:=Q16.out.lt;omega
     have n16_18:H16≠w5.heap.size+1:=by have:=Q16.out.lt;omega
     have n17_18:w5.heap.size≠w5.heap.size+1:=by omega
     replace HS:=Lib.hid ((HS.out.alloc (.cells #[.int .i64 h.e0,.int .i64 h.e1,.int .i64 h.n0,.int .i64 h.n1] 85)).alloc (.cells #[.int .i64 h.d0,.int .i64 h.d1] 51))
     replace Q16:=Lib.hid ((Q16.out.alloc (.cells #[.int .i64 h.e0,.int .i64 h.e1,.int .i64 h.n0,.int .i64 h.n1] 85)).alloc (.cells #[.int .i64 h.d0,.int .i64 h.d1] 51))
     have c16_0:=Q16.out.cell 0 (.int .i64 e0) rfl
     have c16_1:=Q16.out.cell 1 (.int .i64 n0) rfl
     have c17_0:=Q17.out.cell 0 (.int .i64 h.e0) rfl
     have c17_1:=Q17.out.cell 1 (.int .i64 h.e1) rfl
     have c17_2:=Q17.out.cell 2 (.int .i64 h.n0) rfl
     have c17_3:=Q17.out.cell 3 (.int .i64 h.n1) rfl
     go_wp2_with fail
     clear c16_0 c16_1 c17_0 c17_1 c17_2 c17_3
     generalize ((w5.alloc (.cells #[.int .i64 h.e0,.int .i64 h.e1,.int .i64 h.n0,.int .i64 h.n1] 85)).alloc (.cells #[.int .i64 h.d0,.int .i64 h.d1] 51))=w6 at *
     generalize w5.heap.size+1=H18 at *
     generalize w5.heap.size=H17 at *
     refine (HWI.out _ _ _ _ _ _ _).mono ?_;rintro e' w7 ⟨rfl,hB⟩
     replace HS:=Lib.hid (HS.out.below hB)
     replace Q16:=Lib.hid (Q16.out.below hB)
     replace Q17:=Lib.hid (Q17.out.below hB)
     replace Q18:=Lib.hid (Q18.out.below hB)
     clear hB
     by_cases hb:wnB h.e0 h.e1 h.n0 h.n1 e0 n0=true
     rotate_left
     ·have hb':wnB h.e0 h.e1 h.n0 h.n1 e0 n0=false:=by simpa using hb
      have HX:=Lib.hid (HAF.out hb')
      rw [hb']
      clear hb hb'
      go_wp2_with fail
      go_ret3
      exact flyP_err HX.out (by decide) (HYB.out _ HS.out).B
     have HAL:=Lib.hid (HAK.out hb)
     rw [hb]
     clear hb HAK HAF
     go_wp2_with fail
     go_roundw
     case rel=>exact ⟨k+1,by omega,by go_num,HAL.out,HS.out⟩
     case measure=>simp only [intOf];omega
    ·have hlt':¬ (k:Int)<(nw:Int):=by omega
     have HFE:=Lib.hid (flyE_f HSU.out HEQ.out.1 HEQ.out.2 HF.out (fun j hj=>HA.out j (by have:=HLW.out;omega)))
     replace I1:=Lib.hid (I1.out.below HR.out.B)
     replace I2:=Lib.hid (I2.out.below HR.out.B)
     have HFC:=Lib.hid (fc_good HF.out)
     clear HA HR HYB HHU HWI hlt
     generalize hwr:wr=w8 at *
     clear hwr
     have HB0:=Lib.hid (boxS0' w8)
     have HYC:=Lib.hid (fun W (h:BoxS w8 0 [] W)=>HS.out.below h.B)
     have HW9:=Lib.hid (World.ownsRow_lit (e:=2) (size:=1) w8 #[.int .i64 0] 1 (base:=w8.heap.size) (Nat.le_refl _) (by unfold maxLen;omega) rfl)
     replace HS:=Lib.hid (HS.out.alloc (.cells #[.int .i64 0] 2))
     go_wp2_with (refine at_sac (.tmp 92) rfl rfl rfl (HS.out.has 0 _ rfl) ?_)
     clear hlt' hk
     refine (HLF.out _).mono ?_;rintro e' w10 ⟨rfl,hB⟩
     replace HS:=Lib.hid (HS.out.below hB)
     have HBB:=Lib.hid hB
     clear hB HLF
     have HOO:=Lib.hid (show OwII w8 ((flyT s ps ws).take (0+1)) ((flyL s ps ws).take (0+1)) (.slice (some ⟨w8.heap.size,0,none⟩) 1 1) (.slice (some ⟨w10.heap.size,0,none⟩) 1 1) (w10.alloc (.cells #[.int .i64 s.ac.left] 2)) from by
      obtain ⟨t1,t2,-,-⟩:=flT_take (ps:=ps) (ws:=ws) (s:=s) (k:=0) (by have:=HNO.out;omega)
      rw [t1,t2]
      have hsz:w8.heap.size+1≤w10.heap.size:=by have:=HBB.out.size;simpa using this
      have hb:Below w8.heap.size w8 w10:=bel_alloc HBB.out
      have o1:Ow oneI 1 2 w8.heap.size [0] (.slice (some ⟨w8.heap.size,0,none⟩) 1 1) (w8.alloc (.cells #[.int .i64 0] 2)):=⟨World.ownsRow_lit (size:=1) w8 #[.int .i64 0] 1 (Nat.le_refl _) (by unfold maxLen;omega) rfl⟩
      have o2:Ow oneI 1 2 w8.heap.size [s.ac.left] (.slice (some ⟨w10.heap.size,0,none⟩) 1 1) (w10.alloc (.cells #[.int .i64 s.ac.left] 2)):=⟨World.ownsRow_lit (size:=1) w10 #[.int .i64 s.ac.left] 1 (by omega) (by unfold maxLen;omega) rfl⟩
      exact ⟨hb.alloc hb.size _,(o1.below HBB.out).below (below_alloc1 _ _),o2,fun k h1 h2=>by
       simp [Value.ownBlock] at h1 h2
       omega⟩)
     go_wp2_with fail
     generalize w10.alloc (.cells #[.int .i64 s.ac.left] 2)=w11 at *
     go_loopw [6,7,98] (fun v1 v2 t wr=>FlC s ps ws w8 v1 v2 t wr) (fun _ _ t _=>nw - (intOf t).toNat)
     case atStart=>exact ⟨0,by omega,rfl,rfl,HOO.out⟩
     case round =>
      clear HS HOO HBB
      obtain ⟨k,hk,rfl,hfl,ho⟩:=hrel
      have HFL:=Lib.hid hfl
      have HO:=Lib.hid ho
      clear hfl ho
      have HSR:=Lib.hid (show BoxS w8 0 [] wr from ⟨fun i cs hi=>by simp at hi,by simp,HO.out.bel,HO.out.bel.size⟩)
      by_cases hlt:k<nw
      ·have hlt':(k:Int)<(nw:Int):=by omega
       have hkw:k<ws.length:=by have:=HLW.out;omega
       have hkn:k+1<s.no.length:=by have:=HNO.out;omega
       obtain ⟨x0,x1⟩:=HWC.out _ (HYC.out _ HSR.out) k hkw
       have hg:IntKind.i64.wrap ((k:Int)+1)=(k:Int)+1:=IntWalk.i64_in _ (by omega)
       have hc:((k+1:Nat):Int)=(k:Int)+1:=by omega
       have HLK:=Lib.hid (fun W (h:BoxS w8 0 [] W) A1 c1 A2 c2 ha hb=>HLG.out HFC.out W (HYC.out W h) k (k+1) rfl hkn A1 c1 A2 c2 ha hb)
       rw [hc] at HLK
       have hfb:=fl_bd HG.out.1 HG.out.2 (ws:=ws) (al:=(ps.map Pass.alt)) (sp:=(ps.map Pass.cas)) (k:=k) (by omega) HFL.out
       have HTB:=Lib.hid (fun h=>flT_bd HG.out.1 HG.out.2 (ws:=ws) (al:=(ps.map Pass.alt)) (sp:=(ps.map Pass.cas)) hkn h)
       have HFB:=Lib.hid (fun left tas=>flw_bd HG.out.1 HG.out.2 (lgV s (ps.map Pass.alt) (ps.map Pass.cas) k) left tas)
       have HK0:=Lib.hid (fun (h:flyK s (ps.map Pass.alt) (ps.map Pass.cas) ws k≠0)=>show flyE s ps ws=flyK s (ps.map Pass.alt) (ps.map Pass.cas) ws k from HFE.out.trans (flyF_at (by omega) HFL.out h))
       have HK1:=Lib.hid (fun h=>flyF_s (s:=s) (al:=(ps.map Pass.alt)) (sp:=(ps.map Pass.cas)) (ws:=ws) (k:=k) HFL.out h)
       have HPH:=Lib.hid (show (lgV s (ps.map Pass.alt) (ps.map Pass.cas) k).ph=1∨(lgV s (ps.map Pass.alt) (ps.map Pass.cas) k).ph=2∨(lgV s (ps.map Pass.alt) (ps.map Pass.cas) k).ph=3 from by unfold lgV lgP;simp only;split <;> (try split) <;> simp)
       have HCO:=Lib.hid (show I64 (lgV s (ps.map Pass.alt) (ps.map Pass.cas) k).co from coV_I64 _ _ _ _)
       have HTT:=Lib.hid (flT_take (s:=s) (ps:=ps) (ws:=ws) (k:=k+1) hkn)
       have HT0:=Lib.hid (flT_take (s:=s) (ps:=ps) (ws:=ws) (k:=k) (by omega))
       have HSX:=Lib.hid (show flTi s (ps.map Pass.alt) (ps.map Pass.cas) ws (k+1)=flTi s (ps.map Pass.alt) (ps.map Pass.cas) ws k+flT s (ps.map Pass.alt) (ps.map Pass.cas) ws k∧flLe s (ps.map Pass.alt) (ps.map Pass.cas) ws (k+1)=flLe s (ps.map Pass.alt) (ps.map Pass.cas) ws k - flT s (ps.map Pass.alt) (ps.map Pass.cas) ws k * flw s (lgV s (ps.map Pass.alt) (ps.map Pass.cas) k) (flLe s (ps.map Pass.alt) (ps.map Pass.cas) ws k) (lgV s (ps.map Pass.alt) (ps.map Pass.cas) k).ta∧flT s (ps.map Pass.alt) (ps.map Pass.cas) ws k=tck (nodA s (k+1)).di (gsV (lgV s (ps.map Pass.alt) (ps.map Pass.cas) k).co (lgV s (ps.map Pass.alt) (ps.map Pass.cas) k).ta (ws.getD k (0,0)).1 (ws.getD k (0,0)).2 / 1024) from ⟨rfl,rfl,rfl⟩)
       have HKE:=Lib.hid (show ((lgV s (ps.map Pass.alt) (ps.map Pass.cas) k).ta=0→flyK s (ps.map Pass.alt) (ps.map Pass.cas) ws k=10)∧(¬ (lgV s (ps.map Pass.alt) (ps.map Pass.cas) k).ta=0→gsE (lgV s (ps.map Pass.alt) (ps.map Pass.cas) k).co (lgV s (ps.map Pass.alt) (ps.map Pass.cas) k).ta (ws.getD k (0,0)).1 (ws.getD k (0,0)).2≠0→flyK s (ps.map Pass.alt) (ps.map Pass.cas) ws k=gsE (lgV s (ps.map Pass.alt) (ps.map Pass.cas) k).co (lgV s (ps.map Pass.alt) (ps.map Pass.cas) k).ta (ws.getD k (0,0)).1 (ws.getD k (0,0)).2)∧(¬ (lgV s (ps.map Pass.alt) (ps.map Pass.cas) k).ta=0→gsE (lgV s (ps.map Pass.alt) (ps.map Pass.cas) k).co (lgV s (ps.map Pass.alt) (ps.map Pass.cas) k).ta (ws.getD k (0,0)).1 (ws.getD k (0,0)).2=0→flLe s (ps.map Pass.alt) (ps.map Pass.cas) ws (k+1)<0→flyK s (ps.map Pass.alt) (ps.map Pass.cas) ws k=15)∧(¬ (lgV s (ps.map Pass.alt) (ps.map Pass.cas) k).ta=0→gsE (lgV s (ps.map Pass.alt) (ps.map Pass.cas) k).co (lgV s (ps.map Pass.alt) (ps.map Pass.cas) k).ta (ws.getD k (0,0)).1 (ws.getD k (0,0)).2=0→¬ flLe s (ps.map Pass.alt) (ps.map Pass.cas) ws (k+1)<0→flyK s (ps.map Pass.alt) (ps.map Pass.cas) ws k=0) from ⟨flyK_10,flyK_g,flyK_15,flyK_0⟩)
       have HDK:=Lib.hid (fun W (h:BoxS w8 0 [] W)=>show W.cell? ⟨b,off+(k+1) * 7+2,none⟩=some (.int .i64 (nodA s (k+1)).di) from HDI.out W (HYC.out W h) (k+1) hkn)
       have HDB:=Lib.hid (nod_good HG.out.1 HG.out.2 hkn).di
       have HNK:=Lib.hid (fun W (h:BoxS w8 0 [] W)=>HNS.out W (HYC.out W h))
       have HACB:=Lib.hid (And.intro (acc_bd HG.out.1.ac) (show s.ac.left=s.ac.ld - s.ac.bu from if_pos HG.out.1.ac))
       have hlen:((flyT s ps ws).take (k+1)).length=k+1∧((flyL s ps ws).take (k+1)).length=k+1:=by
        obtain ⟨a,b⟩:=ps_len s ps ws
        rw [List.length_take,List.length_take];omega
       obtain ⟨⟨A6,c6,hv6,hI6,-⟩,A7,c7,hv7,hI7,-⟩:=HO.out.ints hlen.1 hlen.2
       obtain ⟨b6,o6,rfl⟩:=ints_A hI6 (by omega)
       obtain ⟨b7,o7,rfl⟩:=ints_A hI7 (by omega)
       have q6:=Int_getD hI6 (k:=k) (by omega)
       have q7:=Int_getD hI7 (k:=k) (by omega)
       rw [getD_of_get (show ((flyT s ps ws).take (k+1))[k]? = some (flTi s (ps.map Pass.alt) (ps.map Pass.cas) ws k) from by rw [List.getElem?_take,if_pos (by omega)];exact HT0.out.2.2.1)] at q6
       rw [getD_of_get (show ((flyL s ps ws).take (k+1))[k]? = some (flLe s (ps.map Pass.alt) (ps.map Pass.cas) ws k) from by rw [List.getElem?_take,if_pos (by omega)];exact HT0.out.2.2.2)] at q7
       have HC6:=Lib.hid (fun W (h:Below wr.heap.size wr W)=>(h.cell (p:=⟨b6,o6+k,none⟩) q6.1).trans q6.2)
       have HC7:=Lib.hid (fun W (h:Below wr.heap.size wr W)=>(h.cell (p:=⟨b7,o7+k,none⟩) q7.1).trans q7.2)
       have HLN:=Lib.hid hlen
       clear hI6 hI7 q6 q7 hlen HT0 hkn hkw
       generalize (lgV s (ps.map Pass.alt) (ps.map Pass.cas) k)=l at *
       generalize flyK s (ps.map Pass.alt) (ps.map Pass.cas) ws k=FK at *
       generalize flTi s (ps.map Pass.alt) (ps.map Pass.cas) ws k=T0 at *
       generalize flLe s (ps.map Pass.alt) (ps.map Pass.cas) ws k=L0 at *
       generalize flTi s (ps.map Pass.alt) (ps.map Pass.cas) ws (k+1)=T1 at *
       generalize flLe s (ps.map Pass.alt) (ps.map Pass.cas) ws (k+1)=L1 at *
       generalize flT s (ps.map Pass.alt) (ps.map Pass.cas) ws k=TK at *
       generalize (nodA s (k+1)).di=di at *
       generalize (ws.getD k (0,0)).1=e0 at *
       generalize (ws.getD k (0,0)).2=n0 at *
       generalize (flyT s ps ws).take (k+1)=LT at *
       generalize (flyL s ps ws).take (k+1)=LL at *
       have HOV:=HO
       clear HO
       subst hv6 hv7
       have HYW:=Lib.hid (fun W (h:BoxS wr 0 [] W)=>show BoxS w8 0 [] W from HSR.out.below h.B)
       have HS:=Lib.hid (boxS0' wr)
       have Q20:Hid (Has ((wr.alloc (.cells #[.int .i64 e0,.int .i64 n0] 87))) wr.heap.size (lz2 e0 n0)):=Lib.hid (Has.new _ _ _)
       have r20:wr.heap.size+0≤wr.heap.size:=HS.out.sz
       replace HS:=Lib.hid ((HS.out.alloc (.cells #[.int .i64 e0,.int .i64 n0] 87)))
       go_wp2_with (refine at_stp (.tmp 3) rfl rfl rfl ((HYC.out _ (HYW.out _ HS.out)).has 0 _ rfl) ?_)
       clear x0 x1
       generalize hW12:(wr.alloc (.cells #[.int .i64 e0,.int .i64 n0] 87))=w12 at *
       clear hW12
       generalize hH20:wr.heap.size=H20 at Q20 r20 ⊢
       clear hH20
       refine (HLK.out _ (HYW.out _ HS.out) _ _ _ _ (I1.out.below (HYW.out _ HS.out).B) (I2.out.below (HYW.out _ HS.out).B)).mono ?_;rintro e' w13 ⟨rfl,hB⟩
       replace HS:=Lib.hid (HS.out.below hB)
       replace Q20:=Lib.hid (Q20.out.below hB)
       clear hB HLK
       rw [show l.cells.toArray=#[.int .i64 l.al,.int .i64 l.co,.int .u8 l.ph,.int .i64 l.sp,.int .i64 l.ta,.int .i64 l.we,.int .i64 l.wn] from rfl]
       have Q21:Hid (Has ((w13.alloc (.cells #[.int .i64 l.al,.int .i64 l.co,.int .u8 l.ph,.int .i64 l.sp,.int .i64 l.ta,.int .i64 l.we,.int .i64 l.wn] 116))) w13.heap.size (lzl l.al l.co l.ph l.sp l.ta l.we l.wn)):=Lib.hid (Has.new _ _ _)
       have r21:wr.heap.size+0≤w13.heap.size:=HS.out.sz
       have n20_21:H20≠w13.heap.size:=by have:=Q20.out.lt;omega
       replace HS:=Lib.hid ((HS.out.alloc (.cells #[.int .i64 l.al,.int .i64 l.co,.int .u8 l.ph,.int .i64 l.sp,.int .i64 l.ta,.int .i64 l.we,.int .i64 l.wn] 116)))
       replace Q20:=Lib.hid ((Q20.out.alloc (.cells #[.int .i64 l.al,.int .i64 l.co,.int .u8 l.ph,.int .i64 l.sp,.int .i64 l.ta,.int .i64 l.we,.int .i64 l.wn] 116)))
       have c21_0:=Q21.out.cell 0 (.int .i64 l.al) rfl
       have c21_1:=Q21.out.cell 1 (.int .i64 l.co) rfl
       have c21_2:=Q21.out.cell 2 (.int .u8 l.ph) rfl
       have c21_3:=Q21.out.cell 3 (.int .i64 l.sp) rfl
       have c21_4:=Q21.out.cell 4 (.int .i64 l.ta) rfl
       have c21_5:=Q21.out.cell 5 (.int .i64 l.we) rfl
       have c21_6:=Q21.out.cell 6 (.int .i64 l.wn) rfl
       have c20_0:=Q20.out.cell 0 (.int .i64 e0) rfl
       have c20_1:=Q20.out.cell 1 (.int .i64 n0) rfl
       by_cases h10:l.ta=0
       ·have HX:=Lib.hid ((HK0.out (by rw [HKE.out.1 h10];decide)).trans (HKE.out.1 h10))
        have e10:(l.ta == 0)=true:=by rw [h10];rfl
        clear h10
        go_wp2_with fail
        go_ret3
        exact flyP_err HX.out (by decide) (HYC.out _ (HYW.out _ HS.out)).B
       go_wp2_with fail
       clear c21_0 c21_1 c21_2 c21_3 c21_4 c21_5 c21_6 c20_0 c20_1
       generalize (w13.alloc (.cells #[.int .i64 l.al,.int .i64 l.co,.int .u8 l.ph,.int .i64 l.sp,.int .i64 l.ta,.int .i64 l.we,.int .i64 l.wn] 116))=w14 at *
       generalize w13.heap.size=H21 at *
       refine (HGR.out _ l e0 n0 HCO.out).mono ?_;rintro e' w15 ⟨rfl,hB⟩
       replace HS:=Lib.hid (HS.out.below hB)
       replace Q20:=Lib.hid (Q20.out.below hB)
       replace Q21:=Lib.hid (Q21.out.below hB)
       clear hB
       by_cases hge:gsE l.co l.ta e0 n0=0
       rotate_left
       ·have HX:=Lib.hid ((HK0.out (by rw [HKE.out.2.1 h10 hge];exact hge)).trans (HKE.out.2.1 h10 hge))
        have HNE:=Lib.hid hge
        generalize gsE l.co l.ta e0 n0=E at *
        have e1:=beq_of hge
        have e2:=bne_of e1
        clear hge
        go_wp2_with fail
        go_ret3
        exact flyP_err HX.out HNE.out (HYC.out _ (HYW.out _ HS.out)).B
       have htb:=HTB.out hge
       have HGB:=Lib.hid (gsV_bd l.co l.ta e0 n0)
       have HK15:=Lib.hid (HKE.out.2.2.1 h10 hge)
       have HK00:=Lib.hid (HKE.out.2.2.2 h10 hge)
       have HSG:=HSX.out.2.2
       rw [hge]
       clear hge HTB HKE HGR h10
       have hgk:1≤gsV l.co l.ta e0 n0 / 1024∧gsV l.co l.ta e0 n0 / 1024≤100000000:=by have:=HGB.out;omega
       have HTC:=Lib.hid (fun W=>HTK.out W di (gsV l.co l.ta e0 n0 / 1024) HDB.out.1 (by have:=HDB.out;omega) hgk.1 hgk.2)
       rw [← HSG] at HTC
       clear HGB HTK HSG hgk
       generalize gsV l.co l.ta e0 n0 / 1024=g at *
       have k0:=HNK.out _ (HYW.out _ HS.out)
       have k1:=HDK.out _ (HYW.out _ HS.out)
       have i5:(k:Int)+1<(s.sno.n:Int):=by omega
       rw [show off+(k+1) * 7+2=off+(k+1) * 7+2 from rfl] at k1
       go_wp2_with fail
       clear k0 k1
       refine (HTC.out _).mono ?_;rintro e' w16 ⟨rfl,hB⟩
       replace HS:=Lib.hid (HS.out.below hB)
       replace Q20:=Lib.hid (Q20.out.below hB)
       replace Q21:=Lib.hid (Q21.out.below hB)
       clear hB HTC
       have htf:=HFB.out L0 l.ta
       have hem:=HACB.out
       have hpr:=Int.mul_nonneg htb.2.1 htf.1
       have hpr2:TK * flw s l L0 l.ta≤8000000 * 50000:=Int.mul_le_mul htb.2.2 htf.2 htf.1 (by decide)
       have HFF:=Lib.hid (fun W (h:BoxS wr 0 [] W)=>HFW.out W (HYC.out W (HYW.out W h)) l L0 l.ta HPH.out (by omega))
       have HL1:=Lib.hid HSX.out.2.1
       have HT1:=Lib.hid HSX.out.1
       generalize hfw:flw s l L0 l.ta=fw at *
       have wm:IntKind.i64.wrap (TK * fw)=TK * fw:=IntWalk.i64_in _ (by omega)
       have ws1:IntKind.i64.wrap (L0 - TK * fw)=L1:=by rw [HL1.out];exact IntWalk.i64_in _ (by omega)
       have ws2:IntKind.i64.wrap (T0+TK)=T1:=by rw [HT1.out];exact IntWalk.i64_in _ (by omega)
       clear hfw htf hem hpr hpr2 HFB HACB
       have j1:(k:Int)<(k:Int)+1:=by omega
       go_wp2_with fail
       refine held_start (S:=fun W=>BoxS wr 0 [] W∧Has W H20 (lz2 e0 n0)∧Has W H21 (lzl l.al l.co l.ph l.sp l.ta l.we l.wn)) 17 #[false,false,false,false,false,false,false,false,false,false,false,false,false,false,false,false,false] rfl rfl (by kernel_rfl) ((And.intro (HS.out.drew) ((And.intro (Q20.out.drew) (Q21.out.drew))))) (fun hHeld=>?_)
       iterate 6 (refine hF (L:=_) (v:=?_) rfl rfl ?_ ?_;rotate_left;(intro W hW;have y0:=HC7.out W hW.1.B;have y1:=hW.2.2.cell 0 (.int .i64 l.al) rfl;have y2:=hW.2.2.cell 1 (.int .i64 l.co) rfl;have y3:=hW.2.2.cell 2 (.int .u8 l.ph) rfl;have y4:=hW.2.2.cell 3 (.int .i64 l.sp) rfl;have y5:=hW.2.2.cell 4 (.int .i64 l.ta) rfl;have y6:=hW.2.2.cell 5 (.int .i64 l.we) rfl;have y7:=hW.2.2.cell 6 (.int .i64 l.wn) rfl;clear hW;go_simp;try with_reducible rfl);try simp only [Act.put,pa,pb,pc,setF])
       refine hT 6 136 (v:=_) rfl rfl (yi_stp (.tmp 3) rfl rfl rfl (fun W hW=>(HYC.out W (HYW.out W hW.1)).has 0 _ rfl)) ?_
       (try simp only [Act.put,pa,pb,pc])
       iterate 6 (refine hF (L:=_) (v:=?_) rfl rfl ?_ ?_;rotate_left;(intro W hW;have y0:=HC7.out W hW.1.B;have y1:=hW.2.2.cell 4 (.int .i64 l.ta) rfl;clear hW;go_simp;try with_reducible rfl);try simp only [Act.put,pa,pb,pc,setF])
       refine wpAnyH_ready (rs:=[13]) (by kernel_rfl) (by simp) ?_
       refine AllReadyH.cons (o:=_) rfl (fun K hK=>?_) AllReadyH.nil
       go_simp
       refine (HFF.out _ hHeld.1).mono ?_;rintro e2 w17 ⟨rfl,hB⟩
       go_wp2_with fail
       have hNew:=(And.intro (hHeld.1.below hB) ((And.intro (hHeld.2.1.below hB) (hHeld.2.2.below hB))))
       clear hB
       refine hK.out _ _ hNew (fun hHeld2=>?_)
       clear hK K hNew hHeld
       have hHeld:=hHeld2
       clear hHeld2
       (try simp only [Act.put,pa,pb,pc])
       iterate 3 (refine hF (L:=_) (v:=?_) rfl rfl ?_ ?_;rotate_left;(intro W hW;go_simp;try with_reducible rfl);try simp only [Act.put,pa,pb,pc,setF])
       refine wpAnyH_done (by kernel_rfl) ?_ _
       replace HS:=Lib.hid (hHeld.1)
       replace Q20:=Lib.hid (hHeld.2.1)
       replace Q21:=Lib.hid (hHeld.2.2)
       clear hHeld
       by_cases hneg:L1<0
       ·have HX:=Lib.hid ((HK0.out (by rw [HK15.out (by omega)];decide)).trans (HK15.out (by omega)))
        go_wp2_with fail
        go_ret3
        exact flyP_err HX.out (by decide) (HYC.out _ (HYW.out _ HS.out)).B
       have HFK:=Lib.hid (HK1.out (HK00.out (by omega)))
       have c6:=HC6.out _ HS.out.B
       obtain ⟨i0,hi,hz0,hz1,hz2⟩:=info_parts infoI64
       have HO2:=Lib.hid ((HOV.out.below HS.out.B).alloc (.cells #[.int .i64 T1] 2))
       have hl6:=HLN.out.1
       have hl7:=HLN.out.2
       go_wp2_with (first | (at_builtin;(refine wpList_append_own_at _ rfl _ _ 23 rfl w8.heap.size 2 i0 (.int .i64 0) 1 8 Tryz.underlying23 hi hz0 hz1 hz2 rfl (by decide) _ _ _ rfl HO2.out.o1.own ⟨w17.heap.size,0,none⟩ 1 1 [.int .i64 T1] rfl rfl (news_new _ _ (by first | rfl | simp) _ _ _ rfl) (by intro u hu;simp at hu;subst hu;rfl) (by rw [hl6];unfold maxLen;omega) (by rw [hl6];omega) (by have:=HO2.out.bel.size;simpa using this) ?_);intro v1 w18 hown hgrow hnil hblk;have HO3:=Lib.hid ((HO2.out.app1 hown hgrow hblk).alloc (.cells #[.int .i64 L1] 2));clear hown hgrow hnil hblk c6) | (at_builtin;(refine wpList_append_own_at _ rfl _ _ 23 rfl w8.heap.size 2 i0 (.int .i64 0) 1 8 Tryz.underlying23 hi hz0 hz1 hz2 rfl (by decide) _ _ _ rfl HO3.out.o2.own ⟨w18.heap.size,0,none⟩ 1 1 [.int .i64 L1] rfl rfl (news_new _ _ (by first | rfl | simp) _ _ _ rfl) (by intro u hu;simp at hu;subst hu;rfl) (by rw [hl7];unfold maxLen;omega) (by rw [hl7];omega) (by have:=HO3.out.bel.size;simpa using this) ?_);intro v2 w19 hown hgrow hnil hblk))
       have HO4:=Lib.hid (HO3.out.app2 hown hgrow hblk)
       clear hown hgrow hnil hblk HO3
       go_roundw
       case rel=>exact ⟨k+1,by have:=HLW.out;omega,by go_num,HFK.out,by rw [HTT.out.1,HTT.out.2.1];exact HO4.out⟩
       case measure=>simp only [intOf];omega
      ·have hlt':¬ (k:Int)<(nw:Int):=by omega
       have hk2:k+1=s.no.length:=by have:=HNO.out;have:=HLW.out;omega
       have HE:=Lib.hid (show flyE s ps ws=0 from HFE.out.trans (by rw [show ws.length=k by have:=HLW.out;omega];exact HFL.out))
       have HO2:=Lib.hid (show OwII w8 (flyT s ps ws) (flyL s ps ws) _ _ wr from by
        have h:=HO.out
        rwa [hk2,List.take_of_length_le (by rw [(ps_len s ps ws).1];omega),List.take_of_length_le (by rw [(ps_len s ps ws).2];omega)] at h)
       obtain ⟨⟨A6,c6,hv6,hI6,-⟩,A7,c7,hv7,hI7,-⟩:=HO2.out.ints (ps_len s ps ws).1 (ps_len s ps ws).2
       have HI6:=Lib.hid hI6
       have HI7:=Lib.hid hI7
       clear hI6 hI7 HO HO2
       subst hv6 hv7
       go_wp2_with fail
       go_ret3
       exact flyP_ok HE.out rfl HI6.out HI7.out (HYC.out _ HSR.out).B
end Go.Proofs.YtgneijdjlahgbaaGreat
