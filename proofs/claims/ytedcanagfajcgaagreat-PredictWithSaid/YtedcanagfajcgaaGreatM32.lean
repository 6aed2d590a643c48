/- M32: Su, TrA, TwoI, WgL in one text. -/
import Derived.Test.YtedcanagfajcgaaGreatM23
import Derived.Test.YtedcanagfajcgaaGreatM37
import Derived.Test.YtedcanagfajcgaaGreatM1
set_option linter.unusedSimpArgs false
set_option linter.unusedVariables false
set_option maxRecDepth 100000
set_option maxHeartbeats 2000000
namespace Go.Proofs.YtedcanagfajcgaaGreat
open Go.RowKit
theorem Kz {l m:List Value} {j:Nat} {v:Value} (h:l[j]? = some v):(l ++ m)[j]? = some v:=by
 rw [List.getElem?_append_left (List.getElem?_eq_some_iff.1 h).1];exact h
theorem Ei {l m:List Value} {n j:Nat} {v:Value} (hn:l.length=n) (h:m[j]? = some v):(l ++ m)[n+j]? = some v:=by
 subst hn
 rw [List.getElem?_append_right (by omega),Nat.add_sub_cancel_left];exact h
theorem AcV (s:Stp) (j:Nat) (v:Value) (h:s.pf.cells[j]? = some v):s.cells[1+j]? = some v:=by
 show (_ :: _)[1+j]? = _
 rw [Nat.add_comm,List.getElem?_cons_succ]
 exact Kz h
theorem AcU (s:Stp) (j:Nat) (v:Value) (h:s.gr.cells[j]? = some v):s.cells[16+j]? = some v:=by
 show (_ :: _)[16+j]? = _
 rw [show 16+j=(15+j)+1 by omega,List.getElem?_cons_succ]
 exact Ei rfl (Kz h)
theorem Xv (s:Stp) (j:Nat) (v:Value) (h:s.ac.cells[j]? = some v):s.cells[25+j]? = some v:=by
 show (_ :: _)[25+j]? = _
 rw [show 25+j=(15+(9+j))+1 by omega,List.getElem?_cons_succ]
 exact Ei rfl (Ei rfl (Kz h))
theorem Iz (s:Stp) (j:Nat) (v:Value) (h:[Value.int .i64 s.lv,vI s.cas,vI s.mch,vI s.acc,vI s.dec,vI s.la,vI s.ls][j]? = some v):s.cells[29+j]? = some v:=by
 show (_ :: _)[29+j]? = _
 rw [show 29+j=(15+(9+(4+j)))+1 by omega,List.getElem?_cons_succ]
 exact Ei rfl (Ei rfl (Ei rfl h))
theorem Ro (s:Stp):s.cells[0]? = some (.slice s.sno.A s.sno.n s.sno.c):=rfl
section
variable {W:World} {b:Nat} {s:Stp}
theorem PQ (h:Has W b s.cells):W.cell? ⟨b,0,none⟩=some (.slice s.sno.A s.sno.n s.sno.c):=h.cell 0 _ (Ro s)
theorem FP (h:Has W b s.cells):W.cell? ⟨b,29,none⟩=some (vI s.lv):=h.cell 29 _ (Iz s 0 _ rfl)
theorem IA (h:Has W b s.cells):W.cell? ⟨b,30,none⟩=some (vI s.cas):=h.cell 30 _ (Iz s 1 _ rfl)
theorem JE (h:Has W b s.cells):W.cell? ⟨b,31,none⟩=some (vI s.mch):=h.cell 31 _ (Iz s 2 _ rfl)
theorem Oh (h:Has W b s.cells):W.cell? ⟨b,32,none⟩=some (vI s.acc):=h.cell 32 _ (Iz s 3 _ rfl)
theorem Oi (h:Has W b s.cells):W.cell? ⟨b,33,none⟩=some (vI s.dec):=h.cell 33 _ (Iz s 4 _ rfl)
theorem TC (h:Has W b s.cells):W.cell? ⟨b,34,none⟩=some (vI s.la):=h.cell 34 _ (Iz s 5 _ rfl)
theorem TD (h:Has W b s.cells):W.cell? ⟨b,35,none⟩=some (vI s.ls):=h.cell 35 _ (Iz s 6 _ rfl)
theorem Xx (h:Has W b s.cells):W.cell? ⟨b,25,none⟩=some (vI s.ac.em):=h.cell 25 _ (Xv s 0 _ rfl)
theorem PR (h:Has W b s.cells):W.rangeAt b 0 s.cells:=h.range 0 (fun j v hv=>by rw [Nat.zero_add];exact hv)
theorem XA (h:Has W b s.cells):W.rangeAt b 1 s.pf.cells:=h.range 1 (AcV s)
theorem Xz (h:Has W b s.cells):W.rangeAt b 16 s.gr.cells:=h.range 16 (AcU s)
theorem Xy (h:Has W b s.cells):W.rangeAt b 25 s.ac.cells:=h.range 25 (Xv s)
section
variable {ops:Array Oper} {rest:List Oper} {op:Oper} {a:Act} {Q:Exit→Act→World→Prop} (x:Operand) (hw:Region.wanted op (yielded ops a.tmps)=true)
theorem AC (ho:op.op=.load 35 x) (hw:Region.wanted op (yielded ops a.tmps)=true) (hx:a.eval x=.pointer (some ⟨b,0,none⟩)) (hc:Has W b s.cells) (h:wpList Tryz.prog ops Q rest (a.put op.dst (.agg s.cells.toArray)) W):wpList Tryz.prog ops Q (op :: rest) a W :=
 CQ 35 x ho hw b 0 hx s.cells _ (PR hc) Tryz.underlying35 rfl (by kernel_rfl) h
theorem Dx (ho:op.op=.load 26 x) (hw:Region.wanted op (yielded ops a.tmps)=true) (hx:a.eval x=.pointer (some ⟨b,1,none⟩)) (hc:Has W b s.cells) (h:wpList Tryz.prog ops Q rest (a.put op.dst (.agg s.pf.cells.toArray)) W):wpList Tryz.prog ops Q (op :: rest) a W :=
 CQ 26 x ho hw b 1 hx s.pf.cells _ (XA hc) Tryz.underlying26 rfl (by kernel_rfl) h
theorem Qe (ho:op.op=.load 31 x) (hw:Region.wanted op (yielded ops a.tmps)=true) (hx:a.eval x=.pointer (some ⟨b,16,none⟩)) (hc:Has W b s.cells) (h:wpList Tryz.prog ops Q rest (a.put op.dst (.agg s.gr.cells.toArray)) W):wpList Tryz.prog ops Q (op :: rest) a W :=
 CQ 31 x ho hw b 16 hx s.gr.cells _ (Xz hc) Tryz.underlying31 rfl (by kernel_rfl) h
theorem FZ (ho:op.op=.load 33 x) (hw:Region.wanted op (yielded ops a.tmps)=true) (hx:a.eval x=.pointer (some ⟨b,25,none⟩)) (hc:Has W b s.cells) (h:wpList Tryz.prog ops Q rest (a.put op.dst (.agg s.ac.cells.toArray)) W):wpList Tryz.prog ops Q (op :: rest) a W :=
 CQ 33 x ho hw b 25 hx s.ac.cells _ (Xy hc) Tryz.underlying33 rfl (by kernel_rfl) h
end
section
variable {ops:Array Oper} {S:World→Prop} {op:Oper} {a:Act}
theorem FM (x:Operand) (ho:op.op=.load 35 x) (hw:Region.wanted op (yielded ops a.tmps)=true) (hx:a.eval x=.pointer (some ⟨b,0,none⟩)) (hc:∀ W,S W→Has W b s.cells):YieldsIf Tryz.prog ops S op (.agg s.cells.toArray) a :=
 yieldsIf_load_mid hw 35 x ho b 0 hx s.cells _ (fun W h=>PR (hc W h)) Tryz.underlying35 rfl (by kernel_rfl)
theorem RF (x:Operand) (ho:op.op=.load 26 x) (hw:Region.wanted op (yielded ops a.tmps)=true) (hx:a.eval x=.pointer (some ⟨b,1,none⟩)) (hc:∀ W,S W→Has W b s.cells):YieldsIf Tryz.prog ops S op (.agg s.pf.cells.toArray) a :=
 yieldsIf_load_mid hw 26 x ho b 1 hx s.pf.cells _ (fun W h=>XA (hc W h)) Tryz.underlying26 rfl (by kernel_rfl)
theorem Ou (x:Operand) (ho:op.op=.load 31 x) (hw:Region.wanted op (yielded ops a.tmps)=true) (hx:a.eval x=.pointer (some ⟨b,16,none⟩)) (hc:∀ W,S W→Has W b s.cells):YieldsIf Tryz.prog ops S op (.agg s.gr.cells.toArray) a :=
 yieldsIf_load_mid hw 31 x ho b 16 hx s.gr.cells _ (fun W h=>Xz (hc W h)) Tryz.underlying31 rfl (by kernel_rfl)
theorem Yb (x:Operand) (ho:op.op=.load 33 x) (hw:Region.wanted op (yielded ops a.tmps)=true) (hx:a.eval x=.pointer (some ⟨b,25,none⟩)) (hc:∀ W,S W→Has W b s.cells):YieldsIf Tryz.prog ops S op (.agg s.ac.cells.toArray) a :=
 yieldsIf_load_mid hw 33 x ho b 25 hx s.ac.cells _ (fun W h=>Xy (hc W h)) Tryz.underlying33 rfl (by kernel_rfl)
end
end
open Go.Lib (hid)
open Tr
theorem MK (x y:Int) (hx:0<=x∧x<=2147483648) (hy:0<=y∧y<=2147483648) (w:World):Calls Tryz.prog 243 #[.int .i64 x,.int .i64 y] w fun e w'=>e=.returned (.int .i64 (mul x y))∧w=w':=by
 have hv:=hid (show mul x y=(x * y+1073741824) / 2147483648 from rfl);have p0:0<=x * y:=BM hx.1 hy.1;have p1:x * y<=2147483648 * 2147483648:=Int.mul_le_mul hx.2 hy.2 hy.1 (by decide)
 have p2:x * y<=4611686018427387904:=by omega
 clear p1;obtain ⟨X,hX⟩:∃ X,x * y=X:=⟨_,rfl⟩;have HX:=hid hX
 rw [hX] at p0 p2 hv
 have e1:x * y=X:=hX;clear hx hy
 go_enter Tryz.func243,Tryz.ntmps243
 go_wp2
 go_ret
 exact ⟨Af (by rw [hv.out]),rfl⟩
theorem Hq (x y:Int) (hx:0<=x∧x<=2147483648) (hy:0<=y∧y<=2147483648) (w:World):Calls Tryz.prog 242 #[.int .i64 x,.int .i64 y] w fun e w'=>e=.returned (.int .i64 (mul x y))∧w=w':=by
 have hv:=hid (show mul x y=(x * y+1073741824) / 2147483648 from rfl);have p0:0<=x * y:=BM hx.1 hy.1;have p1:x * y<=2147483648 * 2147483648:=Int.mul_le_mul hx.2 hy.2 hy.1 (by decide)
 have p2:x * y<=4611686018427387904:=by omega
 clear p1;obtain ⟨X,hX⟩:∃ X,x * y=X:=⟨_,rfl⟩;have HX:=hid hX
 rw [hX] at p0 p2 hv
 have e1:x * y=X:=hX;clear hx hy
 go_enter Tryz.func242,Tryz.ntmps242
 go_wp2
 go_ret
 exact ⟨Af (by rw [hv.out]),rfl⟩
theorem Ib (x n:Int) (hx:0<=x∧x<=2147483648) (hn:2<=n∧n<=200) (w:World):Calls Tryz.prog 244 #[.int .i64 x,.int .i64 n] w fun e w'=>e=.returned (.int .i64 ((x+n / 2) / n))∧w=w':=by
 obtain ⟨x0,x1⟩:=hx;obtain ⟨n0,n1⟩:=hn;have hz:(n == 0)=false:=BA.2 (by omega);have hb:=(Bp (m:=x) (n:=n) x0 n0);have q0:=hb.1;have q1:=hb.2
 go_enter Tryz.func244,Tryz.ntmps244
 go_wp2
 go_ret
 exact ⟨rfl,rfl⟩
theorem Ho (x n:Int) (hx:0<=x∧x<=2147483648) (hn:2<=n∧n<=200) (w:World):Calls Tryz.prog 241 #[.int .i64 x,.int .i64 n] w fun e w'=>e=.returned (.int .i64 ((x+n / 2) / n))∧w=w':=by
 obtain ⟨x0,x1⟩:=hx;obtain ⟨n0,n1⟩:=hn;have hz:(n == 0)=false:=BA.2 (by omega);have hb:=(Bp (m:=x) (n:=n) x0 n0);have q0:=hb.1;have q1:=hb.2
 go_enter Tryz.func241,Tryz.ntmps241
 go_wp2
 go_ret
 exact ⟨rfl,rfl⟩
structure OwII (B:World) (l1 l2:List Int) (v1 v2:Value) (wr:World):Prop where
 bel:Below B.heap.size B wr
 o1:Ow G9 1 2 B.heap.size l1 v1 wr
 o2:Ow G9 1 2 B.heap.size l2 v2 wr
 ne:∀ k,v1.ownBlock=some k→v2.ownBlock≠some k
section
variable {B:World} {l1 l2:List Int} {v1 v2 v':Value} {wr w1:World} {x:Int}
theorem OwII.start (B:World):OwII B [] [] (.slice none 0 0) (.slice none 0 0) B:=⟨AJ _ _,Ow.start _ _ _ _ _,Ow.start _ _ _ _ _,fun k h=>by cases h⟩
theorem OwII.below (h:OwII B l1 l2 v1 v2 wr) (hb:Below wr.heap.size wr w1):OwII B l1 l2 v1 v2 w1:=⟨Ae h.bel hb,h.o1.below hb,h.o2.below hb,h.ne⟩
theorem OwII.alloc (h:OwII B l1 l2 v1 v2 wr) (o:Obj):OwII B l1 l2 v1 v2 (wr.alloc o):=h.below (Aa _ _)
theorem OwII.drew (h:OwII B l1 l2 v1 v2 wr):OwII B l1 l2 v1 v2 wr.drew:=h.below (AJ _ _).drew
theorem OwII.set (h:OwII B l1 l2 v1 v2 wr) (b i:Nat) (v:Value) (hb:B.heap.size<=b) (h1:∀ k,v1.ownBlock=some k→k≠b) (h2:∀ k,v2.ownBlock=some k→k≠b):OwII B l1 l2 v1 v2 (wr.setCell ⟨b,i,none⟩ v) :=
 ⟨h.bel.setCell (p:=⟨b,i,none⟩) hb _,h.o1.grown (Ej wr ⟨b,i,none⟩ v) (by
  cases hv:v1.ownBlock with
  | none=>exact .inl rfl
  | some k=>exact .inr fun e=>h1 k hv (by injection e)),h.o2.grown (Ej wr ⟨b,i,none⟩ v) (by
  cases hv:v2.ownBlock with
  | none=>exact .inl rfl
  | some k=>exact .inr fun e=>h2 k hv (by injection e)),h.ne⟩
theorem OwII.app1 (h:OwII B l1 l2 v1 v2 wr) (hown:w1.ownsRow B.heap.size 2 1 v' (l1.length+1) (l1.flatMap G9 ++ G9 x)) (hg:wr.grownBy w1 v1.ownBlock) (hat:v'.ownBlock=v1.ownBlock∨v'.ownBlock=some wr.heap.size):OwII B (l1 ++ [x]) l2 v' v2 w1:=by
 refine ⟨F6 h.bel (Bn _) hg (fun k e=>(h.o1.lt e).1),Ow.next hown,h.o2.grown hg ?_,?_⟩
 ·cases hv:v2.ownBlock with
  | none=>exact .inl rfl
  | some k=>exact .inr fun e=>h.ne k e.symm hv
 ·intro k hk
  rcases hat with e | e
  ·exact h.ne k (e ▸ hk)
  ·intro e2
   have:=(h.o2.lt e2).2
   rw [e] at hk
   injection hk with hk
   omega
theorem OwII.app2 (h:OwII B l1 l2 v1 v2 wr) (hown:w1.ownsRow B.heap.size 2 1 v' (l2.length+1) (l2.flatMap G9 ++ G9 x)) (hg:wr.grownBy w1 v2.ownBlock) (hat:v'.ownBlock=v2.ownBlock∨v'.ownBlock=some wr.heap.size):OwII B l1 (l2 ++ [x]) v1 v' w1:=by
 refine ⟨F6 h.bel (Bn _) hg (fun k e=>(h.o2.lt e).1),h.o1.grown hg ?_,Ow.next hown,?_⟩
 ·cases hv:v1.ownBlock with
  | none=>exact .inl rfl
  | some k=>exact .inr fun e=>h.ne k hv e.symm
 ·intro k hk e2
  rcases hat with e | e
  ·exact h.ne k hk (e ▸ e2)
  ·have:=(h.o1.lt hk).2
   rw [e] at e2
   injection e2 with e2
   omega
theorem OwII.ints {n m:Nat} (h:OwII B l1 l2 v1 v2 wr) (h1:l1.length=n) (h2:l2.length=m):(∃ A c,v1=.slice A n c∧Ints wr A n l1∧BS A n c)∧∃ A c,v2=.slice A m c∧Ints wr A m l2∧BS A m c:=⟨h.o1.ints h1,h.o2.ints h2⟩
end
open Wg
theorem EA {corner cell n x y:Int} (hc:1<=cell) (h:x<=y):sI corner cell n x<=sI corner cell n y:=by
  have h1:sX corner cell n x<=sX corner cell n y:=by unfold sX;omega
  have h2:=Int.ediv_le_ediv (show 0<cell by omega) h1
  unfold sI
  omega
theorem O8:∀ (l:List Int) (a b:Int),a<=b→lev l a<=lev l b
  | [],a,b,_=>by simp [lev]
  | [x],a,b,_=>by simp [lev]
  | [x,y],a,b,_=>by simp [lev]
  | x :: y :: z :: t,a,b,h=>by
    have ih:=O8 (y :: z :: t) a b h
    unfold lev
    by_cases h1:y<=a
    · rw [if_pos h1,if_pos (by omega)];omega
    · rw [if_neg h1];exact Nat.zero_le _
theorem J9 {l:List Int} {a b:Int} (h:a<=b):lI l a<=lI l b:=O8 l _ _ (by unfold lA;omega)
theorem Vg {l:List Int} (h:Pe.Asc l):∀ {j i:Nat},i<=j→j<l.length→l.getD i 0<=l.getD j 0
  | 0, i, hij, _ => by have:i=0:=by omega
                       subst this;exact Bt _
  | j + 1,i,hij,hj=>by
    by_cases e:i=j+1
    · subst e;exact Bt _
    · have h1:=Vg h (j:=j) (i:=i) (by omega) (by omega)
      have h2:=h j hj
      omega
theorem Wu {l:List Int} {a:Int} (hl:l≠[]) (h:Pe.Asc l):0<=lF l a∧lF l a<=lC l a∧1<=lC l a∧(lF l a≠0→lI l a+1<l.length)∧lI l a<l.length:=by
  have h0:=lev_lt l (lA l a) hl;have hp:0<l.length:=List.length_pos_iff.2 hl
  unfold lF lC
  by_cases h1:l.length=1
  · rw [if_pos h1,if_pos h1]
    exact ⟨Bt _,by omega,by omega,fun h=>absurd rfl h,h0.1⟩
  · rw [if_neg h1,if_neg h1]
    have hA0:l.getD 0 0<=l.getD (l.length - 1) 0:=Vg h (Nat.zero_le _) (by omega)
    have a1:l.getD 0 0<=lA l a:=by unfold lA;omega
    have a2:lA l a<=l.getD (l.length - 1) 0:=by unfold lA;omega
    have b1:l.getD (lI l a) 0<=lA l a:=Wx l _ (fun x hx=>by rw [Dp,hx] at a1;exact a1) hl;have b2:lA l a<=l.getD (lI l a+1) 0:=Wv l _ (l.length - 2) (by omega) (by rw [show l.length - 2+1=l.length - 1 by omega];exact a2)
    have c1:lI l a+1<l.length:=by
      rcases h0.2 with e | e
      · show lev l (lA l a)+1<l.length;omega
      · exact e
    have d1:=h (lI l a) c1
    exact ⟨by omega,by omega,by omega,fun _=>c1,by omega⟩
theorem Vo {E:Int→Int→Int→Int} {x0 x1 y0 y1 z0 z1 x y z:Int} (hx:x0<=x∧x<=x1) (hy:y0<=y∧y<=y1) (hz:z0<=z∧z<=z1):hMn E x0 x1 y0 y1 z0 z1<=E x y z∧E x y z<=hMx E x0 x1 y0 y1 z0 z1 :=
  ⟨(mnL_le _ _).2.1 _ (mem_boxL.2 ⟨x,y,z,hx,hy,hz,rfl⟩),(mxL_ge _ _).2.1 _ (mem_boxL.2 ⟨x,y,z,hx,hy,hz,rfl⟩)⟩
theorem Ad2 {E:Int→Int→Int→Int} {x0 x1 y0 y1 z0 z1 x y z fx fy fz c cz:Int} (hx:x0<=x∧x<=x1) (hy:y0<=y∧y<=y1) (hz:z0<=z∧z<=z1)
    (gx:fx≠0→x+1<=x1) (gy:fy≠0→y+1<=y1) (gz:fz≠0→z+1<=z1) (fx0:0<=fx∧fx<=c) (fy0:0<=fy∧fy<=c) (fz0:0<=fz∧fz<=cz) :
    hMn E x0 x1 y0 y1 z0 z1<=gv E x y z fx fy fz c cz∧gv E x y z fx fy fz c cz<=hMx E x0 x1 y0 y1 z0 z1:=by
  have H:∀ y' z',(y0<=y'∧y'<=y1)→(z0<=z'∧z'<=z1)→hMn E x0 x1 y0 y1 z0 z1<=bl (E x y' z') (E (x+1) y' z') fx c∧bl (E x y' z') (E (x+1) y' z') fx c<=hMx E x0 x1 y0 y1 z0 z1 :=
    fun y' z' h1 h2=>bl_bd (Vo hx h1 h2) (fun e=>Vo ⟨by omega,gx e⟩ h1 h2) fx0.1 fx0.2
  unfold gv
  refine bl_bd (bl_bd (H y z hy hz) (fun e=>H (y+1) z ⟨by omega,gy e⟩ hz) fy0.1 fy0.2) (fun e=>bl_bd (H y (z+1) hy ⟨by omega,gz e⟩) (fun e'=>H (y+1) (z+1) ⟨by omega,gy e'⟩ ⟨by omega,gz e⟩) fy0.1 fy0.2) fz0.1 fz0.2
theorem NB {g:Grd} (G:GrG g) (hl:g.al.length=g.sal.n) {E:Int→Int→Int→Int} {px py alt ax ay bx by_ lo hi:Int}
    (hx:min ax bx<=px∧px<=max ax bx) (hy:min ay by_<=py∧py<=max ay by_) (hz:lo<=alt∧alt<=hi) :
    hLo E (hbx g ax ay bx by_ lo hi)<=gAt g E px py alt∧gAt g E px py alt<=hHi E (hbx g ax ay bx by_ lo hi):=by
  have hne:g.al≠[]:=by intro e;rw [e] at hl;have:=G.na;simp at hl;omega
  have ce:=G.ce;have nx:=G.nx;have ny:=G.ny;obtain ⟨z1,z2,z3,z4,z5⟩:=Wu (a:=alt) hne G.asc;have x1:=EA (corner:=g.cx) (n:=g.nx) ce.1 hx.1;have x2:=EA (corner:=g.cx) (n:=g.nx) ce.1 hx.2;have y1:=EA (corner:=g.cy) (n:=g.ny) ce.1 hy.1;have y2:=EA (corner:=g.cy) (n:=g.ny) ce.1 hy.2;have l1:=J9 (l:=g.al) hz.1;have l2:=J9 (l:=g.al) hz.2;have x3:=sI_bd (corner:=g.cx) (x:=px) ce.1 nx.1;have y3:=sI_bd (corner:=g.cy) (x:=py) ce.1 ny.1;have x4:=sF_bd (corner:=g.cx) (x:=px) ce.1 nx.1;have y4:=sF_bd (corner:=g.cy) (x:=py) ce.1 ny.1
  unfold hLo hHi gAt hbx
  dsimp only
  refine Ad2 ⟨x1,by omega⟩ ⟨y1,by omega⟩ ⟨by omega,by omega⟩ (fun e=>?_) (fun e=>?_) (fun e=>?_) ⟨x4.1,x4.2.1⟩ ⟨y4.1,y4.2.1⟩ ⟨z1,z2⟩
  · have:=x4.2.2 (by omega);omega
  · have:=y4.2.2 (by omega);omega
  · have:=z4 e;omega
theorem Acg {g:Grd} (E:Int→Int→Int→Int) (h:Hbx):hLo E h<=E h.x0 h.y0 h.z0∧E h.x0 h.y0 h.z0<=hHi E h:=⟨(mnL_le _ _).1,(mxL_ge _ _).1⟩
theorem Jr {E:Int→Int→Int→Int} {h:Hbx} {A B:Int} (hb:∀ x y z,A<=E x y z∧E x y z<=B):A<=hLo E h∧hLo E h<=hHi E h∧hHi E h<=B:=by
  have h1:=Acg (g:=⟨0,0,0,0,0,⟨none,0,0⟩,⟨none,0,0⟩,⟨none,0,0⟩,0,[],[],[]⟩) E h
  have h2:A<=hLo E h:=by
    unfold hLo hMn
    rcases (mnL_le (boxL E h.x0 h.x1 h.y0 h.y1 h.z0 h.z1) (E h.x0 h.y0 h.z0)).2.2 with e | e
    · rw [e];exact (hb _ _ _).1
    · obtain ⟨x,y,z,_,_,_,e⟩:=mem_boxL.1 e
      rw [← e];exact (hb _ _ _).1
  have h3:hHi E h<=B:=by
    unfold hHi hMx
    rcases (mxL_ge (boxL E h.x0 h.x1 h.y0 h.y1 h.z0 h.z1) (E h.x0 h.y0 h.z0)).2.2 with e | e
    · rw [e];exact (hb _ _ _).2
    · obtain ⟨x,y,z,_,_,_,e⟩:=mem_boxL.1 e
      rw [← e];exact (hb _ _ _).2
  omega
theorem MG {g:Grd} (G:GrG g) (i:Nat):(-340<=(g.wi.getD i (0,0)).1∧(g.wi.getD i (0,0)).1<=340) ∧ -340<=(g.wi.getD i (0,0)).2∧(g.wi.getD i (0,0)).2<=340:=by
  rw [Dp]
  cases h:g.wi[i]? with
  | none=>exact ⟨by decide,by decide⟩
  | some p=>exact G.wi p (Au h)
theorem R7 {g:Grd} (G:GrG g) (i:Nat) : -4000<=g.de.getD i 0∧g.de.getD i 0<=4000:=by
  rw [Dp]
  cases h:g.de[i]? with
  | none=>exact ⟨by decide,by decide⟩
  | some p=>exact G.de p (Au h)
theorem VB {g:Grd} (G:GrG g) (x y z:Int) : -340<=elE g x y z∧elE g x y z<=340:=(MG G _).1
theorem VC {g:Grd} (G:GrG g) (x y z:Int) : -340<=elN g x y z∧elN g x y z<=340:=(MG G _).2
theorem VA {g:Grd} (G:GrG g) (x y z:Int) : -4000<=elD g x y z∧elD g x y z<=4000:=R7 G _
theorem Aci {g:Grd} (G:GrG g) (h:Hbx):(-400<=(G5 g h).e0∧(G5 g h).e0<=(G5 g h).e1∧(G5 g h).e1<=400)∧(-400<=(G5 g h).n0∧(G5 g h).n0<=(G5 g h).n1∧(G5 g h).n1<=400) ∧ -4000<=(G5 g h).d0∧(G5 g h).d0<=(G5 g h).d1∧(G5 g h).d1<=4000:=by
  have a:=Jr (h:=h) (VB G);have b:=Jr (h:=h) (VC G);have c:=Jr (h:=h) (VA G);have e:=G.er
  unfold G5
  refine ⟨⟨?_,?_,?_⟩,⟨?_,?_,?_⟩,c⟩ <;> simp only [] <;> omega
