
/- An append in a drawn region that is walked by hand. -/
import Derived.Test.YtgneijdjlahgbaaGreatM32
import Derived.Test.YtgneijdjlahgbaaGreatM37
import Derived.Maps.AppendAt
namespace Go.Proofs.YtgneijdjlahgbaaGreat
set_option linter.unusedSimpArgs false
set_option linter.unusedVariables false
open Go.RowKit
theorem held_append {P:Program} {o:Oper} {ops:Array Oper} {a:Act} {w:World} {K:Act→World→Prop} {Q:Exit→Act→World→Prop} (hw:Region.wanted o (yielded ops a.tmps)=true) (s x:Operand) (t:TypeId)
  (ho:o.op=.call { callee:=.builtin .append,args:=#[s,x],argTypes:=#[t,t] })
  (base:Nat) (e:TypeId) (i:TypeInfo) (z:Value) (size bytes:Nat) (ht:P.underlying t=some (.slice e)) (hi:P.info? e=some i) (hz:i.zero=some z)
  (hsize:i.size=size) (hby:i.bytes=bytes) (hzs:z.cells.size=size) (hsz:0<size)
  (v:Value) (n:Nat) (xs:List Value) (hs:a.eval s=v) (hown:w.ownsRow base e size v n xs)
  (ad:Addr) (m c:Nat) (news:List Value) (hx:a.eval x=.slice (some ad) m c) (hl:news.length=m * size) (hnews:∀ j u,news[j]? = some u→w.cell? (ad.add j)=some u) (h1:∀ u ∈ news,u.oneCell'=true)
  (h63:n+m≤maxLen) (hbytes:(n+m) * bytes≤140737488355328) (hbase:base≤w.heap.size)
  (h:∀ v' w',w'.ownsRow base e size v' (n+m) (xs ++ news)→w.grownBy w' v.ownBlock→(v'.ownBlock=v.ownBlock∨v'.ownBlock=some w.heap.size)→K (a.put o.dst v') w') :
  if Region.wanted o (yielded ops a.tmps)=true then Oper.wp P o a w K Q else K (a.put o.dst undef) w:=by
 rw [if_pos hw]
 obtain ⟨v',w',hr,h2,h3,h4,h5⟩:=run_append_own_at (P:=P) w base t o.type e i z size bytes ht hi hz hsize hby hzs hsz v n xs hown ad m c news hl hnews h1 h63 hbytes hbase
 unfold Oper.wp execOp
 simp only [ho,resolve,invoke,builtin,Sem.run_bind,Sem.run_pure,Result.andThen_ok,List.map_toArray,List.map_cons,List.map_nil,hs,hx,hr]
 exact h v' w' h2 h3 h5
theorem news_has {W:World} {b:Nat} {cs:List Value} (h:Has W b cs):∀ j u,cs[j]? = some u→W.cell? ((⟨b,0,none⟩:Addr).add j)=some u:=fun j u hj=>by
 rw [addr_add0]
 exact h.cell j u hj
theorem held_app1 {o:Oper} {ops:Array Oper} {a:Act} {w B:World} {l1 l2:List Int} {v1 v2:Value} {K:Act→World→Prop} {Q:Exit→Act→World→Prop} (hw:Region.wanted o (yielded ops a.tmps)=true) (s x:Operand)
  (ho:o.op=.call { callee:=.builtin .append,args:=#[s,x],argTypes:=#[23,23] }) (h:OwII B l1 l2 v1 v2 w) (hs:a.eval s=v1) (X:Int) (b c:Nat) (hx:a.eval x=.slice (some ⟨b,0,none⟩) 1 c) (q:Has w b [.int .i64 X]) (hl:l1.length+1≤1000)
  (hk:∀ v' w',OwII B (l1 ++ [X]) l2 v' v2 w'→w.grownBy w' v1.ownBlock→K (a.put o.dst v') w') :
  if Region.wanted o (yielded ops a.tmps)=true then Oper.wp Tryz.prog o a w K Q else K (a.put o.dst undef) w:=by
 obtain ⟨i0,hi,hz0,hz1,hz2⟩:=info_parts infoI64
 refine held_append hw s x 23 ho B.heap.size 2 i0 (.int .i64 0) 1 8 Tryz.underlying23 hi hz0 hz1 hz2 rfl (by decide) v1 l1.length _ hs h.o1.own ⟨b,0,none⟩ 1 c [.int .i64 X] hx rfl (news_has q) (by intro u hu;simp at hu;subst hu;rfl) (by unfold maxLen;omega) (by omega) h.bel.size (fun v' w' h1 h2 h3=>hk v' w' (h.app1 h1 h2 h3) h2)
theorem held_app2 {o:Oper} {ops:Array Oper} {a:Act} {w B:World} {l1 l2:List Int} {v1 v2:Value} {K:Act→World→Prop} {Q:Exit→Act→World→Prop} (hw:Region.wanted o (yielded ops a.tmps)=true) (s x:Operand)
  (ho:o.op=.call { callee:=.builtin .append,args:=#[s,x],argTypes:=#[23,23] }) (h:OwII B l1 l2 v1 v2 w) (hs:a.eval s=v2) (X:Int) (b c:Nat) (hx:a.eval x=.slice (some ⟨b,0,none⟩) 1 c) (q:Has w b [.int .i64 X]) (hl:l2.length+1≤1000)
  (hk:∀ v' w',OwII B l1 (l2 ++ [X]) v1 v' w'→w.grownBy w' v2.ownBlock→K (a.put o.dst v') w') :
  if Region.wanted o (yielded ops a.tmps)=true then Oper.wp Tryz.prog o a w K Q else K (a.put o.dst undef) w:=by
 obtain ⟨i0,hi,hz0,hz1,hz2⟩:=info_parts infoI64
 refine held_append hw s x 23 ho B.heap.size 2 i0 (.int .i64 0) 1 8 Tryz.underlying23 hi hz0 hz1 hz2 rfl (by decide) v2 l2.length _ hs h.o2.own ⟨b,0,none⟩ 1 c [.int .i64 X] hx rfl (news_has q) (by intro u hu;simp at hu;subst hu;rfl) (by unfold maxLen;omega) (by omega) h.bel.size (fun v' w' h1 h2 h3=>hk v' w' (h.app2 h1 h2 h3) h2)
end Go.Proofs.YtgneijdjlahgbaaGreat
