/- M52: Hap, FyP in one text. -/
import Derived.Test.YtedcanagfajcgaaGreatM32
import Derived.Test.YtedcanagfajcgaaGreatM29
set_option linter.unusedSimpArgs false
set_option linter.unusedVariables false
namespace Go.Proofs.YtedcanagfajcgaaGreat
open Go.RowKit
theorem JN {P:Program} {o:Oper} {ops:Array Oper} {a:Act} {w:World} {K:Act→World→Prop} {Q:Exit→Act→World→Prop} (hw:Region.wanted o (yielded ops a.tmps)=true) (s x:Operand) (t:TypeId)
  (ho:o.op=.call { callee:=.builtin .append,args:=#[s,x],argTypes:=#[t,t] })
  (base:Nat) (e:TypeId) (i:TypeInfo) (z:Value) (size bytes:Nat) (ht:P.underlying t=some (.slice e)) (hi:P.info? e=some i) (hz:i.zero=some z)
  (hsize:i.size=size) (hby:i.bytes=bytes) (hzs:z.cells.size=size) (hsz:0<size)
  (v:Value) (n:Nat) (xs:List Value) (hs:a.eval s=v) (hown:w.ownsRow base e size v n xs)
  (ad:Addr) (m c:Nat) (news:List Value) (hx:a.eval x=.slice (some ad) m c) (hl:news.length=m * size) (hnews:∀ j u,news[j]? = some u→w.cell? (ad.add j)=some u) (h1:∀ u ∈ news,u.oneCell'=true)
  (h63:n+m<=maxLen) (hbytes:(n+m) * bytes<=140737488355328) (hbase:base<=w.heap.size)
  (h:∀ v' w',w'.ownsRow base e size v' (n+m) (xs ++ news)→w.grownBy w' v.ownBlock→(v'.ownBlock=v.ownBlock∨v'.ownBlock=some w.heap.size)→K (a.put o.dst v') w') :
  if Region.wanted o (yielded ops a.tmps)=true then Oper.wp P o a w K Q else K (a.put o.dst undef) w:=by
 rw [if_pos hw]
 obtain ⟨v',w',hr,h2,h3,h4,h5⟩:=run_append_own_at (P:=P) w base t o.type e i z size bytes ht hi hz hsize hby hzs hsz v n xs hown ad m c news hl hnews h1 h63 hbytes hbase
 unfold Oper.wp execOp
 simp only [ho,resolve,invoke,builtin,Sem.run_bind,Sem.run_pure,Result.andThen_ok,List.map_toArray,List.map_cons,List.map_nil,hs,hx,hr]
 exact h v' w' h2 h3 h5
theorem Pg {W:World} {b:Nat} {cs:List Value} (h:Has W b cs):∀ j u,cs[j]? = some u→W.cell? ((⟨b,0,none⟩:Addr).add j)=some u:=fun j u hj=>by
 rw [LY]
 exact h.cell j u hj
theorem Uy {o:Oper} {ops:Array Oper} {a:Act} {w B:World} {l1 l2:List Int} {v1 v2:Value} {K:Act→World→Prop} {Q:Exit→Act→World→Prop} (hw:Region.wanted o (yielded ops a.tmps)=true) (s x:Operand)
  (ho:o.op=.call { callee:=.builtin .append,args:=#[s,x],argTypes:=#[23,23] }) (h:OwII B l1 l2 v1 v2 w) (hs:a.eval s=v1) (X:Int) (b c:Nat) (hx:a.eval x=.slice (some ⟨b,0,none⟩) 1 c) (q:Has w b [vI X]) (hl:l1.length+1<=1000)
  (hk:∀ v' w',OwII B (l1 ++ [X]) l2 v' v2 w'→w.grownBy w' v1.ownBlock→K (a.put o.dst v') w') :
  if Region.wanted o (yielded ops a.tmps)=true then Oper.wp Tryz.prog o a w K Q else K (a.put o.dst undef) w:=by
 obtain ⟨i0,hi,hz0,hz1,hz2⟩:=info_parts CU
 refine JN hw s x 23 ho B.heap.size 2 i0 (vI 0) 1 8 Tryz.underlying23 hi hz0 hz1 hz2 rfl (by decide) v1 l1.length _ hs h.o1.own ⟨b,0,none⟩ 1 c [vI X] hx rfl (Pg q) (by intro u hu;simp at hu;subst hu;rfl) (by unfold maxLen;omega) (by omega) h.bel.size (fun v' w' h1 h2 h3=>hk v' w' (h.app1 h1 h2 h3) h2)
theorem UA {o:Oper} {ops:Array Oper} {a:Act} {w B:World} {l1 l2:List Int} {v1 v2:Value} {K:Act→World→Prop} {Q:Exit→Act→World→Prop} (hw:Region.wanted o (yielded ops a.tmps)=true) (s x:Operand)
  (ho:o.op=.call { callee:=.builtin .append,args:=#[s,x],argTypes:=#[23,23] }) (h:OwII B l1 l2 v1 v2 w) (hs:a.eval s=v2) (X:Int) (b c:Nat) (hx:a.eval x=.slice (some ⟨b,0,none⟩) 1 c) (q:Has w b [vI X]) (hl:l2.length+1<=1000)
  (hk:∀ v' w',OwII B l1 (l2 ++ [X]) v1 v' w'→w.grownBy w' v2.ownBlock→K (a.put o.dst v') w') :
  if Region.wanted o (yielded ops a.tmps)=true then Oper.wp Tryz.prog o a w K Q else K (a.put o.dst undef) w:=by
 obtain ⟨i0,hi,hz0,hz1,hz2⟩:=info_parts CU
 refine JN hw s x 23 ho B.heap.size 2 i0 (vI 0) 1 8 Tryz.underlying23 hi hz0 hz1 hz2 rfl (by decide) v2 l2.length _ hs h.o2.own ⟨b,0,none⟩ 1 c [vI X] hx rfl (Pg q) (by intro u hu;simp at hu;subst hu;rfl) (by unfold maxLen;omega) (by omega) h.bel.size (fun v' w' h1 h2 h3=>hk v' w' (h.app2 h1 h2 h3) h2)
def Um (s:Stp) (ps:List Pass) (ws:Cs.Wins) (w:World) (e:Ending) (w':World):Prop:=∃ A1 c1 A2 c2,e=.returned (.tuple #[.slice A1 (okN (CX s ps ws) s.no.length) c1,.slice A2 (okN (CX s ps ws) s.no.length) c2,vI (CX s ps ws)])∧Ints w' A1 (okN (CX s ps ws) s.no.length) (okL (CX s ps ws) (DY s ps ws))∧Ints w' A2 (okN (CX s ps ws) s.no.length) (okL (CX s ps ws) (DX s ps ws))∧Below w.heap.size w w'
theorem CK {s:Stp} {ps:List Pass} {ws:Cs.Wins} {w w':World} {E:Int} (hE:CX s ps ws=E) (h0:E≠0) (hb:Below w.heap.size w w'):Um s ps ws w (.returned (.tuple #[.slice none 0 0,.slice none 0 0,vI E])) w':=by
 unfold Um
 rw [hE]
 unfold okL okN
 rw [if_neg h0,if_neg h0,if_neg h0]
 exact ⟨none,0,none,0,rfl,Ints.nil _,Ints.nil _,hb⟩
theorem Sv {s:Stp} {ps:List Pass} {ws:Cs.Wins} {w w':World} {A1 A2:Option Addr} {c1 c2 n:Nat} (hE:CX s ps ws=0) (hn:n=s.no.length) (h1:Ints w' A1 n (DY s ps ws)) (h2:Ints w' A2 n (DX s ps ws)) (hb:Below w.heap.size w w'):Um s ps ws w (.returned (.tuple #[.slice A1 n c1,.slice A2 n c2,vI 0])) w':=by
 unfold Um
 subst hn
 rw [hE]
 exact ⟨A1,c1,A2,c2,rfl,h1,h2,hb⟩
theorem Si {s:Stp} {ps:List Pass} {ws:Cs.Wins} (h:suE s≠0):CX s ps ws=suE s:=if_pos h
theorem VN {s:Stp} {ps:List Pass} {ws:Cs.Wins} (h:suE s=0) (h1:ps.length≠s.no.length∨ws.length≠s.no.length - 1):CX s ps ws=1:=by unfold CX;rw [if_neg (by rw [h];decide),if_pos h1]
theorem Sg {s:Stp} {ps:List Pass} {ws:Cs.Wins} (h:suE s=0) (h1:ps.length=s.no.length) (h2:ws.length=s.no.length - 1) (h3:fcE s (ps.map Pass.alt) (ps.map Pass.cas)≠0):CX s ps ws=fcE s (ps.map Pass.alt) (ps.map Pass.cas):=by
 unfold CX;rw [if_neg (by rw [h];decide),if_neg (by simp [h1,h2]),if_pos h3]
theorem VP {s:Stp} {ps:List Pass} {ws:Cs.Wins} (h:suE s=0) (h1:ps.length=s.no.length) (h2:ws.length=s.no.length - 1) (h3:fcE s (ps.map Pass.alt) (ps.map Pass.cas)=0) {k:Nat} (hk:k<ws.length) (h4:wnB (suH s k).e0 (suH s k).e1 (suH s k).n0 (suH s k).n1 (ws.getD k (0,0)).1 (ws.getD k (0,0)).2=false):CX s ps ws=2:=by
 have hB:flB s ws=false:=by
  unfold flB
  refine BJ fun hh=>?_
  rw [hh k hk] at h4
  exact absurd h4 (by decide)
 unfold CX;rw [if_neg (by rw [h];decide),if_neg (by simp [h1,h2]),if_neg (by rw [h3];decide),if_pos hB]
theorem VQ {s:Stp} {ps:List Pass} {ws:Cs.Wins} (h:suE s=0) (h1:ps.length=s.no.length) (h2:ws.length=s.no.length - 1) (h3:fcE s (ps.map Pass.alt) (ps.map Pass.cas)=0) (h4:∀ k,k<ws.length→wnB (suH s k).e0 (suH s k).e1 (suH s k).n0 (suH s k).n1 (ws.getD k (0,0)).1 (ws.getD k (0,0)).2=true):CX s ps ws=DV s (ps.map Pass.alt) (ps.map Pass.cas) ws ws.length:=by
 have hB:flB s ws=true:=Ct h4
 unfold CX;rw [if_neg (by rw [h];decide),if_neg (by simp [h1,h2]),if_neg (by rw [h3];decide),if_neg (by rw [hB];decide)]
theorem Nz {s:Stp} {al sp:List Int} {ws:Cs.Wins}:∀ {n k:Nat},k+1<=n→DV s al sp ws k=0→CJ s al sp ws k≠0→DV s al sp ws n=CJ s al sp ws k
 | 0,k,hk,_,_=>by omega
 | n+1,k,hk,h0,h1=>by
  by_cases e:k=n
  ·subst e
   exact if_neg (by rw [h0];decide)
  ·have ih:=Nz (n:=n) (k:=k) (by omega) h0 h1
   have:DV s al sp ws (n+1)=DV s al sp ws n:=if_pos (by rw [ih];exact h1)
   rw [this,ih]
theorem VR {s:Stp} {al sp:List Int} {ws:Cs.Wins} {k:Nat} (h0:DV s al sp ws k=0) (h1:CJ s al sp ws k=0):DV s al sp ws (k+1)=0:=by
 have:DV s al sp ws (k+1)=CJ s al sp ws k:=if_neg (by rw [h0];decide)
 rw [this,h1]
theorem Ab9 {s:Stp} {al sp:List Int} {ws:Cs.Wins} {k:Nat} (h:DV s al sp ws (k+1)=0):DV s al sp ws k=0∧CJ s al sp ws k=0:=by
 by_cases h0:DV s al sp ws k=0
 ·have:DV s al sp ws (k+1)=CJ s al sp ws k:=if_neg (by rw [h0];decide)
  rw [this] at h
  exact ⟨h0,h⟩
 ·have:DV s al sp ws (k+1)=DV s al sp ws k:=if_pos h0
  rw [this] at h
  exact absurd h h0
theorem Sk {s:Stp} {al sp:List Int} {ws:Cs.Wins} {k:Nat} (h:(lgV s al sp k).ta=0):CJ s al sp ws k=10:=if_pos h
theorem VX {s:Stp} {al sp:List Int} {ws:Cs.Wins} {k:Nat} (h:¬ (lgV s al sp k).ta=0) (h1:gsE (lgV s al sp k).co (lgV s al sp k).ta (ws.getD k (0,0)).1 (ws.getD k (0,0)).2≠0):CJ s al sp ws k=gsE (lgV s al sp k).co (lgV s al sp k).ta (ws.getD k (0,0)).1 (ws.getD k (0,0)).2:=by
 unfold CJ;rw [if_neg h,if_pos h1]
theorem Sn {s:Stp} {al sp:List Int} {ws:Cs.Wins} {k:Nat} (h:¬ (lgV s al sp k).ta=0) (h1:gsE (lgV s al sp k).co (lgV s al sp k).ta (ws.getD k (0,0)).1 (ws.getD k (0,0)).2=0) (h2:Cc s al sp ws (k+1)<0):CJ s al sp ws k=15:=by
 unfold CJ;rw [if_neg h,if_neg (by rw [h1];decide),if_pos h2]
theorem VS {s:Stp} {al sp:List Int} {ws:Cs.Wins} {k:Nat} (h:¬ (lgV s al sp k).ta=0) (h1:gsE (lgV s al sp k).co (lgV s al sp k).ta (ws.getD k (0,0)).1 (ws.getD k (0,0)).2=0) (h2:¬ Cc s al sp ws (k+1)<0):CJ s al sp ws k=0:=by
 unfold CJ;rw [if_neg h,if_neg (by rw [h1];decide),if_neg h2]
theorem Aca {s:Stp} {al sp:List Int} {ws:Cs.Wins} {k:Nat} (h:CJ s al sp ws k=0):gsE (lgV s al sp k).co (lgV s al sp k).ta (ws.getD k (0,0)).1 (ws.getD k (0,0)).2=0∧0<=Cc s al sp ws (k+1):=by
 unfold CJ at h
 split at h
 ·exact absurd h (by decide)
 ·split at h
  ·next h1=>exact absurd h h1
  ·next h1 =>
   split at h
   ·exact absurd h (by decide)
   ·exact ⟨by omega,by omega⟩
theorem Qs {s:Stp} (G:StG s) (N:StN s) {al sp:List Int} {ws:Cs.Wins} {k:Nat} (hk:k+1<s.no.length) (h:gsE (lgV s al sp k).co (lgV s al sp k).ta (ws.getD k (0,0)).1 (ws.getD k (0,0)).2=0):(1<=gsV (lgV s al sp k).co (lgV s al sp k).ta (ws.getD k (0,0)).1 (ws.getD k (0,0)).2 / 1024)∧0<=flT s al sp ws k∧flT s al sp ws k<=8000000:=by
 have hgs:=GH h;have hdi:=(AR G N hk).di
 have hg:1<=gsV (lgV s al sp k).co (lgV s al sp k).ta (ws.getD k (0,0)).1 (ws.getD k (0,0)).2 / 1024:=by have:=hgs.hlo;have:=hgs.hv;omega
 have ht:=E8 (d:=(Ac s (k+1)).di) hdi.1 hg;have e:flT s al sp ws k=((Ac s (k+1)).di+gsV (lgV s al sp k).co (lgV s al sp k).ta (ws.getD k (0,0)).1 (ws.getD k (0,0)).2 / 1024 - 1) / (gsV (lgV s al sp k).co (lgV s al sp k).ta (ws.getD k (0,0)).1 (ws.getD k (0,0)).2 / 1024):=rfl
 omega
theorem VK {s:Stp} (G:StG s) (N:StN s) {al sp:List Int} {ws:Cs.Wins}:∀ {k:Nat},k<s.no.length→DV s al sp ws k=0→(0<=Cc s al sp ws k∧Cc s al sp ws k<=s.ac.left)∧0<=DT s al sp ws k∧DT s al sp ws k<=8000000 * (k:Int)
 | 0,_,_=>by
  have:=Dv G.ac;have e:s.ac.left=s.ac.ld - s.ac.bu:=if_pos G.ac;have e1:Cc s al sp ws 0=s.ac.left:=rfl;have e2:DT s al sp ws 0=0:=rfl
  rw [e1,e2]
  omega
 | k+1,hk,h=>by
  obtain ⟨h0,h1⟩:=Ab9 h;obtain ⟨h2,h3⟩:=Aca h1;have ih:=VK G N (k:=k) (by omega) h0;have ht:=Qs G N (by omega) h2;have hf:=Io G N (lgV s al sp k) (Cc s al sp ws k) (lgV s al sp k).ta;have hp:=BM ht.2.1 hf.1;have e1:Cc s al sp ws (k+1)=Cc s al sp ws k - flT s al sp ws k * flw s (lgV s al sp k) (Cc s al sp ws k) (lgV s al sp k).ta:=rfl;have e2:DT s al sp ws (k+1)=DT s al sp ws k+flT s al sp ws k:=rfl
  rw [e1] at h3 ⊢
  rw [e2]
  omega
def FlA (ps:List Pass) (B:World) (v1 v2 t:Value) (wr:World):Prop:=∃ k:Nat,k<=ps.length∧t=vI (k:Int)∧OwII B ((ps.map Pass.alt).take k) ((ps.map Pass.cas).take k) v1 v2 wr
def FlB (s:Stp) (ws:Cs.Wins) (B:World) (t:Value) (wr:World):Prop:=∃ k:Nat,k<=ws.length∧t=vI (k:Int)∧(∀ j,j<k→wnB (suH s j).e0 (suH s j).e1 (suH s j).n0 (suH s j).n1 (ws.getD j (0,0)).1 (ws.getD j (0,0)).2=true)∧BoxS B 0 [] wr
theorem Vm (w:World):BoxS w 0 [] w:=⟨fun i cs hi=>by simp at hi,by simp,AJ _ _,by simp⟩
theorem Fq {α:Type} (g:α→Int) (l:List α) (k:Nat) (x:α) (h:l[k]? = some x):(l.map g).take (k+1)=(l.map g).take k ++ [g x]:=Aq _ k _ (by rw [List.getElem?_map,h];rfl)
theorem Fv (s:Stp) (ps:List Pass) (ws:Cs.Wins):(DY s ps ws).length=s.no.length∧(DX s ps ws).length=s.no.length:=by unfold DY DX;simp
theorem Ga {s:Stp} {ps:List Pass} {ws:Cs.Wins} {k:Nat} (hk:k<s.no.length):(DY s ps ws).take (k+1)=(DY s ps ws).take k ++ [DT s (ps.map Pass.alt) (ps.map Pass.cas) ws k]∧(DX s ps ws).take (k+1)=(DX s ps ws).take k ++ [Cc s (ps.map Pass.alt) (ps.map Pass.cas) ws k]∧(DY s ps ws)[k]? = some (DT s (ps.map Pass.alt) (ps.map Pass.cas) ws k)∧(DX s ps ws)[k]? = some (Cc s (ps.map Pass.alt) (ps.map Pass.cas) ws k):=by
 have h1:(DY s ps ws)[k]? = some (DT s (ps.map Pass.alt) (ps.map Pass.cas) ws k):=by unfold DY;rw [List.getElem?_map,List.getElem?_range hk];rfl
 have h2:(DX s ps ws)[k]? = some (Cc s (ps.map Pass.alt) (ps.map Pass.cas) ws k):=by unfold DX;rw [List.getElem?_map,List.getElem?_range hk];rfl
 exact ⟨Aq _ k _ h1,Aq _ k _ h2,h1,h2⟩
