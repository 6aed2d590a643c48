
/- Layer 31: the value of a table. -/
import Derived.Test.YtedcanagfajcgaaGreatPeVal
set_option linter.unusedSimpArgs false
set_option linter.unusedVariables false
set_option maxRecDepth 100000
set_option maxHeartbeats 2000000
namespace Go.Proofs
theorem X4{G:Prop}(h:G:=by
  have HI:=hid ((show RowI w (w.heap.size+1) M (Ec (FX al (Aj rs) M alt) M) wr by have:=R1.out;rwa [hjm] at this).ints (Gp _ _ _ _));have k4:wr.cell? ⟨w.heap.size,4,none⟩=some (.slice A2 M c2):=BP.out.cell 4 _ HPC.out.2;have HC:=hid (HVM.out (w.heap.size+1) _ wr R1.out.bel HI.out HTB.out);clear hjm
  go_wp2_with fail
  refine HC.out.mono ?_;rintro e w3 ⟨rfl,q,rfl⟩
  go_wp2_with fail
  go_ret
  exact ⟨Af HV.out.symm,Ag R1.out.bel q⟩):G:=h
end Go.Proofs
namespace Go.Proofs.YtedcanagfajcgaaGreat
open Go.RowKit
open Go.Lib (hid)
def IL (T:List (List Int)) (j:Nat):List Int:=T.map fun r=>r.getD j 0
def FX (al:List Int) (T:List (List Int)) (M:Nat) (alt:Int):List Int:=(List.range M).map fun j=>Pe.iv (al.zip (IL T j)) alt
def BQ (al ms:List Int) (T:List (List Int)) (alt mass:Int):Int:=Pe.iv (ms.zip (FX al T ms.length alt)) mass
theorem EP (T:List (List Int)) (j:Nat):(IL T j).length=T.length:=List.length_map _
theorem GA {T:List (List Int)} {j k:Nat} (h:k<T.length):(IL T j).getD k 0=g2 T k j:=by
 unfold IL g2
 rw [Dp,List.getElem?_map,AQ h,Dp (l:=T),AQ h];rfl
theorem Jb {al:List Int} {T:List (List Int)} {M:Nat} {alt:Int} {j:Nat} (h:j<M):(FX al T M alt)[j]? = some (Pe.iv (al.zip (IL T j)) alt):=by
 unfold FX
 rw [List.getElem?_map,List.getElem?_range h];rfl
theorem Gp (al:List Int) (T:List (List Int)) (M:Nat) (alt:Int):(FX al T M alt).length=M:=by unfold FX;simp
theorem Eh {p l:List Int} (h:Pe.Asc p) (hl:l.length=p.length):Pe.AscP (p.zip l):=by
 unfold Pe.AscP
 rw [List.map_fst_zip (by omega)];exact h
theorem Qi {w:World} {A:Option Addr} {n M:Nat} {hi:Int} {rs:List Row} (h:Sq w A n M hi rs) {j:Nat} (hj:j<M):∀ y ∈ IL (Aj rs) j,0<=y∧y<=hi:=by
 intro y hy
 unfold IL Aj at hy
 rw [List.map_map,List.mem_map] at hy
 obtain ⟨r,hr,rfl⟩:=hy;obtain ⟨x,hx⟩:=Am ((h.tab.row r hr).len.trans (h.len r hr)) hj
 show 0<=r.l.getD j 0∧r.l.getD j 0<=hi
 rw [Ah hx]
 exact h.bd r hr x (Au hx)
theorem Oj {w:World} {A:Option Addr} {n M:Nat} {hi:Int} {rs:List Row} (h:Sq w A n M hi rs) {al:List Int} {alt:Int} (ha:Pe.Asc al) (hl:al.length=n) (hn:0<n):∀ y ∈ FX al (Aj rs) M alt,0<=y∧y<=hi:=by
 intro y hy
 unfold FX at hy
 rw [List.mem_map] at hy
 obtain ⟨j,hj,rfl⟩:=hy
 rw [List.mem_range] at hj
 have hc:(IL (Aj rs) j).length=al.length:=by rw [EP,AX,h.tab.top.len,hl]
 refine Pe.iv_bd _ _ ?_ (Eh ha hc) (fun r hr=>Qi h hj r.2 (List.of_mem_zip hr).2)
 intro e
 have:=congrArg List.length e
 rw [List.length_zip,hc,hl] at this
 simp at this
 omega
theorem Kl {w:World} {A:Option Addr} {n M:Nat} {hi:Int} {rs:List Row} (h:Sq w A n M hi rs) {al ms:List Int} {alt mass:Int} (ha:Pe.Asc al) (hl:al.length=n) (hn:0<n) (hm:Pe.Asc ms) (hml:ms.length=M) (hM:0<M):0<=BQ al ms (Aj rs) alt mass∧BQ al ms (Aj rs) alt mass<=hi:=by
 unfold BQ
 rw [hml]
 have hc:(FX al (Aj rs) M alt).length=ms.length:=by rw [Gp,hml]
 refine Pe.iv_bd _ _ ?_ (Eh hm hc) (fun r hr=>Oj h ha hl hn r.2 (List.of_mem_zip hr).2)
 intro e
 have:=congrArg List.length e
 rw [List.length_zip,hc,hml] at this
 simp at this
 omega
theorem RowI.other {w0 w:World} {g n:Nat} {F:Nat→Int} (h:RowI w0 g n F w) (c i:Nat) (v:Value) (hc:g≠c) (hge:w0.heap.size<=c):RowI w0 g n F (w.setCell ⟨c,i,none⟩ v) :=
 ⟨fun j hj=>by rw [World.cell?_setCell_other w ⟨c,i,none⟩ ⟨g,j,none⟩ _ (by intro e;injection e with e _;omega)];exact h.cell j hj,fun o=>by rw [World.frozen?_setCell];exact h.fr o,by simpa [World.setCell] using h.lt,h.ge,h.bel.setCell (p:=⟨c,i,none⟩) hge _⟩
theorem RowI.drewN {w0 w:World} {g n:Nat} {F:Nat→Int} (h:RowI w0 g n F w) (q:Nat):RowI w0 g n F (w.drewN q):=h.below (Ag (AJ _ _) q)
theorem RowI.madeAt {w0 w:World} (n g:Nat) (hg:w.heap.size=g) (hb:Below w0.heap.size w0 w) (t:TypeId):RowI w0 g n (fun _=>0) (w.alloc (.cells (madeCells #[vI 0] n) t)):=hg ▸ RowI.made n hb t
theorem RowI.ints' {w0 w:World} {g n:Nat} {F:Nat→Int} {l:List Int} (hl:l.length=n) (h:RowI w0 g n F w) (hF:∀ k,k<n→F k=l.getD k 0):Ints w (some ⟨g,0,none⟩) n l :=
 (h.congr (G:=Ec l n) (fun j hj=>by unfold Ec;rw [if_pos hj];exact hF j hj)).ints hl
theorem RD (p:Prf) (A:Option Addr) (c:Nat) (rs:List Row) (alt mass:Int) (w:World) (hl:p.lies w) (hs:Sq w A p.sal.n p.sms.n 50000 rs) (hn0:2<=p.sal.n) (hn:p.sal.n<=12) (hm0:2<=p.sms.n) (hm:p.sms.n<=6) (haa:Pe.Asc p.al) (ham:Pe.Asc p.ms) (hba:∀ y ∈ p.al,-200000<=y∧y<=6000000) (hbm:∀ y ∈ p.ms,1<=y∧y<=3000000000) (halt : -200000<=alt∧alt<=6000000) (hmass:1<=mass∧mass<=3000000000):Calls Tryz.prog 175 #[.agg p.cells.toArray,.slice A p.sal.n c,vI alt,vI mass] w fun e w'=>e=.returned (vI (BQ p.al p.ms (Aj rs) alt mass))∧Below w.heap.size w w':=by
 have HLI:=hid (fun w1 hB=>hl.below (w':=w1) hB);have HS:=hid (fun w1 hB=>hs.below (w':=w1) hB);have HN:=hid (And.intro hl.al.len hl.ms.len);have HRL:=hid hs.tab.top.len;have HTB:=hid (Oj (alt:=alt) hs haa hl.al.len (by omega));have HAA:=hid haa;have HAM:=hid ham;have HVA:=hid (fun (g:Nat) (C:List Int) (W:World) (hB:Below w.heap.size w W) (hC:Ints W (some ⟨g,0,none⟩) p.sal.n C) (hb:∀ y ∈ C,0<=y∧y<=50000)=>JI p.sal.A (some ⟨g,0,none⟩) p.sal.n p.sal.c p.sal.n p.al C alt W (hl.al.below hB) hC (by omega) hn (fun y hy=>by have:=hba y hy;omega) hb (by omega));have HVM:=hid (fun (g:Nat) (C:List Int) (W:World) (hB:Below w.heap.size w W) (hC:Ints W (some ⟨g,0,none⟩) p.sms.n C) (hb:∀ y ∈ C,0<=y∧y<=50000)=>JI p.sms.A (some ⟨g,0,none⟩) p.sms.n p.sms.c p.sms.n p.ms C mass W (hl.ms.below hB) hC (by omega) (by omega) (fun y hy=>by have:=hbm y hy;omega) hb (by omega));have HV:=hid (show BQ p.al p.ms (Aj rs) alt mass=Pe.iv (p.ms.zip (FX p.al (Aj rs) p.sms.n alt)) mass by unfold BQ;rw [hl.ms.len]);have HPC:=hid (show p.cells[3]? = some (.slice p.sal.A p.sal.n p.sal.c)∧p.cells[4]? = some (.slice p.sms.A p.sms.n p.sms.c) from ⟨rfl,rfl⟩);have HBOX:=hid (fun w=>Has.new w p.cells.toArray 26);have hmk:=run_make_row' (P:=Tryz.prog) 23 2 (vI 0) 8 Tryz.underlying23 CU rfl .i64 .i64 p.sal.n (by omega) (by omega);have hmk2:=run_make_row' (P:=Tryz.prog) 23 2 (vI 0) 8 Tryz.underlying23 CU rfl .i64 .i64 p.sms.n (by omega) (by omega);clear hl hs haa ham hba hbm halt hmass;have e3:=HPC.out.1;have e4:=HPC.out.2;generalize BQ p.al p.ms (Aj rs) alt mass=V at *;generalize p.cells=C at *;generalize p.sal.A=A1 at *;generalize p.sal.n=n at *;generalize p.sal.c=c1 at *;generalize p.sms.A=A2 at *;generalize p.sms.n=M at *;generalize p.sms.c=c2 at *;generalize p.al=al at *;generalize p.ms=ms at *
 go_enter Tryz.func175,Tryz.ntmps175
 go_wp2_with fail
 have BP:=hid (((HBOX.out w).alloc (.cells (madeCells #[vI 0] M) 2)).alloc (.cells (madeCells #[vI 0] n) 2));have R1:=hid ((RowI.madeAt (w0:=w) M (w.heap.size+1) (by simp) (Aa w (.cells C.toArray 26)) 2).alloc (.cells (madeCells #[vI 0] n) 2));have R2:=hid (RowI.madeAt (w0:=w) n (w.heap.size+1+1) (by simp) (Cg w (.cells C.toArray 26) (.cells (madeCells #[vI 0] M) 2)) 2);generalize ((w.alloc (.cells C.toArray 26)).alloc (.cells (madeCells #[vI 0] M) 2)).alloc (.cells (madeCells #[vI 0] n) 2)=w1 at *;clear e3 e4
 go_loopw [23] (fun t wr=>∃ j:Nat,j<=M∧t=vI j∧RowI w (w.heap.size+1) M (Ec (FX al (Aj rs) M alt) j) wr∧Has wr w.heap.size C∧∃ G,RowI w (w.heap.size+1+1) n G wr) (fun t _=>M - (intOf t).toNat)
 case atStart=>exact ⟨0,by omega,rfl,R1.out.congr (fun j _=>Fe _ j),BP.out,_,R2.out⟩
 case round =>
  obtain ⟨j,hj,rfl,hR1,hBP,G,hR2⟩:=hrel;replace R1:=hid hR1;replace BP:=hid hBP;replace R2:=hid hR2;clear hR1 hBP hR2
  by_cases hlt:j<M
  rotate_left
  ·have hjm:j=M:=by omega
   exact X4
  go_wp2_with fail
  go_loopw [28] (fun t wr=>∃ i:Nat,i<=n∧t=vI i∧RowI w (w.heap.size+1) M (Ec (FX al (Aj rs) M alt) j) wr∧Has wr w.heap.size C∧∃ G,(∀ k,k<i→G k=g2 (Aj rs) k j)∧RowI w (w.heap.size+1+1) n G wr) (fun t _=>n - (intOf t).toNat)
  case atStart=>exact ⟨0,by omega,rfl,R1.out,BP.out,_,fun k hk=>by omega,R2.out⟩
  case round =>
   obtain ⟨i,hi,rfl,hR1,hBP,G2,hG,hR2⟩:=hrel;replace R1:=hid hR1;replace BP:=hid hBP;replace R2:=hid hR2;have HG:=hid hG;clear hR1 hBP hR2 hG
   by_cases hil:i<n
   ·obtain ⟨b,off,hA,ct⟩:=Eu (HS.out _ R1.out.bel) (show 0<n by omega)
    obtain ⟨q,hq⟩:=Am HRL.out hil;obtain ⟨b1,o1,x,hA1,hx,x0,x1,c1x⟩:=Bf (HS.out _ R1.out.bel) hq hlt;have hqn:=(HS.out _ R1.out.bel).len q (Au hq);have r0:wr.cell? ⟨b,off+i,none⟩=some (.slice q.A q.n q.c):=ct i q 0 hq
    rw [hA1,hqn] at r0
    have r1:wr.cell? ⟨b1,o1+j,none⟩=some (vI x):=c1x 0;have HX:=hid (BR hq hx);clear ct hq c1x hqn hx hA1;subst hA;have d0:=R2.out.cell i hil;have d1:=R2.out.fr i;have hgl:=R2.out.lt;have hge:=R2.out.ge
    go_wp2_with fail
    go_roundw
    case rel=>exact ⟨i+1,by omega,by go_num,R1.out.other _ _ _ (by omega) hge,BP.out.other _ _ _ (by omega),_,fun k hk=>by
     by_cases e:k=i
     ·subst e;unfold upd;rw [if_pos rfl];exact HX.out.symm
     ·unfold upd;rw [if_neg e];exact HG.out k (by omega),R2.out.set hil x⟩
    case measure=>exact zMs
   ·have hin:i=n:=by omega
    have HI:=hid (R2.out.ints' (l:=IL (Aj rs) j) (by rw [EP,AX];exact HRL.out) (fun k hk=>by rw [GA (by rw [AX,HRL.out];exact hk)];exact HG.out k (by omega)));have k3:=BP.out.cell 3 _ HPC.out.1;have HC:=hid (HVA.out _ _ _ R1.out.bel HI.out (Qi (HS.out _ R1.out.bel) hlt));have HTG:=hid (Jb (al:=al) (T:=Aj rs) (alt:=alt) hlt);generalize Pe.iv (al.zip (IL (Aj rs) j)) alt=V1 at *;clear hin;have d0:=R1.out.cell j hlt;have d1:=R1.out.fr j;have hgl:=R1.out.lt
    go_wp2_with fail
    refine HC.out.mono ?_;rintro e w3 ⟨rfl,q,rfl⟩
    go_wp2_with fail
    go_roundw
    case rel=>exact ⟨j+1,by omega,by go_num,((R1.out.drewN q).set hlt V1).congr (fun k _=>E9 HTG.out k),(BP.out.below (Ag (AJ _ _) q)).other _ _ _ (by omega),_,(R2.out.drewN q).other _ _ _ (by omega) (by omega)⟩
    case measure=>exact zMs
theorem QV (p:Prf) (A:Option Addr) (c:Nat) (rs:List Row) (alt mass:Int) (w:World) (hl:p.lies w) (hs:Sq w A p.sal.n p.sms.n 50000 rs) (hn0:2<=p.sal.n) (hn:p.sal.n<=12) (hm0:2<=p.sms.n) (hm:p.sms.n<=6) (haa:Pe.Asc p.al) (ham:Pe.Asc p.ms) (hba:∀ y ∈ p.al,-200000<=y∧y<=6000000) (hbm:∀ y ∈ p.ms,1<=y∧y<=3000000000) (halt : -200000<=alt∧alt<=6000000) (hmass:1<=mass∧mass<=3000000000):Calls Tryz.prog 157 #[.agg p.cells.toArray,.slice A p.sal.n c,vI alt,vI mass] w fun e w'=>e=.returned (vI (BQ p.al p.ms (Aj rs) alt mass))∧Below w.heap.size w w':=by
 have HLI:=hid (fun w1 hB=>hl.below (w':=w1) hB);have HS:=hid (fun w1 hB=>hs.below (w':=w1) hB);have HN:=hid (And.intro hl.al.len hl.ms.len);have HRL:=hid hs.tab.top.len;have HTB:=hid (Oj (alt:=alt) hs haa hl.al.len (by omega));have HAA:=hid haa;have HAM:=hid ham;have HVA:=hid (fun (g:Nat) (C:List Int) (W:World) (hB:Below w.heap.size w W) (hC:Ints W (some ⟨g,0,none⟩) p.sal.n C) (hb:∀ y ∈ C,0<=y∧y<=50000)=>Mq p.sal.A (some ⟨g,0,none⟩) p.sal.n p.sal.c p.sal.n p.al C alt W (hl.al.below hB) hC (by omega) hn haa (fun y hy=>by have:=hba y hy;omega) hb (by omega));have HVM:=hid (fun (g:Nat) (C:List Int) (W:World) (hB:Below w.heap.size w W) (hC:Ints W (some ⟨g,0,none⟩) p.sms.n C) (hb:∀ y ∈ C,0<=y∧y<=50000)=>Mq p.sms.A (some ⟨g,0,none⟩) p.sms.n p.sms.c p.sms.n p.ms C mass W (hl.ms.below hB) hC (by omega) (by omega) ham (fun y hy=>by have:=hbm y hy;omega) hb (by omega));have HV:=hid (show BQ p.al p.ms (Aj rs) alt mass=Pe.iv (p.ms.zip (FX p.al (Aj rs) p.sms.n alt)) mass by unfold BQ;rw [hl.ms.len]);have HPC:=hid (show p.cells[3]? = some (.slice p.sal.A p.sal.n p.sal.c)∧p.cells[4]? = some (.slice p.sms.A p.sms.n p.sms.c) from ⟨rfl,rfl⟩);have HBOX:=hid (fun w=>Has.new w p.cells.toArray 26);have hmk:=run_make_row' (P:=Tryz.prog) 23 2 (vI 0) 8 Tryz.underlying23 CU rfl .i64 .i64 p.sal.n (by omega) (by omega);have hmk2:=run_make_row' (P:=Tryz.prog) 23 2 (vI 0) 8 Tryz.underlying23 CU rfl .i64 .i64 p.sms.n (by omega) (by omega);clear hl hs haa ham hba hbm halt hmass;have e3:=HPC.out.1;have e4:=HPC.out.2;generalize BQ p.al p.ms (Aj rs) alt mass=V at *;generalize p.cells=C at *;generalize p.sal.A=A1 at *;generalize p.sal.n=n at *;generalize p.sal.c=c1 at *;generalize p.sms.A=A2 at *;generalize p.sms.n=M at *;generalize p.sms.c=c2 at *;generalize p.al=al at *;generalize p.ms=ms at *
 go_enter Tryz.func157,Tryz.ntmps157
 go_wp2_with fail
 have BP:=hid ((HBOX.out w).alloc (.cells (madeCells #[vI 0] M) 2));have R1:=hid (RowI.madeAt (w0:=w) M (w.heap.size+1) (by simp) (Aa w (.cells C.toArray 26)) 2);generalize (w.alloc (.cells C.toArray 26)).alloc (.cells (madeCells #[vI 0] M) 2)=w1 at *;clear e3 e4
 go_loopw [19] (fun t wr=>∃ j:Nat,j<=M∧t=vI j∧RowI w (w.heap.size+1) M (Ec (FX al (Aj rs) M alt) j) wr∧Has wr w.heap.size C) (fun t _=>M - (intOf t).toNat)
 case atStart=>exact ⟨0,by omega,rfl,R1.out.congr (fun j _=>Fe _ j),BP.out⟩
 case round =>
  obtain ⟨j,hj,rfl,hR1,hBP⟩:=hrel;replace R1:=hid hR1;replace BP:=hid hBP;clear hR1 hBP
  by_cases hlt:j<M
  rotate_left
  ·have hjm:j=M:=by omega
   exact X4
  have hsz:w.heap.size+1<wr.heap.size:=R1.out.lt;have k3:wr.cell? ⟨w.heap.size,3,none⟩=some (.slice A1 n c1):=BP.out.cell 3 _ HPC.out.1
  go_wp2_with fail
  clear k3;replace BP:=hid (BP.out.alloc (.cells (madeCells #[vI 0] n) 2));have R2:=hid (RowI.made (w0:=w) (w:=wr) n R1.out.bel 2);replace R1:=hid (R1.out.alloc (.cells (madeCells #[vI 0] n) 2));generalize hw2:wr.alloc (.cells (madeCells #[vI 0] n) 2)=w2 at *;generalize hgc:wr.heap.size=gc at *
  go_loopw [28] (fun t wr=>∃ i:Nat,i<=n∧t=vI i∧RowI w (w.heap.size+1) M (Ec (FX al (Aj rs) M alt) j) wr∧Has wr w.heap.size C∧∃ G,(∀ k,k<i→G k=g2 (Aj rs) k j)∧RowI w (gc) n G wr) (fun t _=>n - (intOf t).toNat)
  case atStart=>exact ⟨0,by omega,rfl,R1.out,BP.out,_,fun k hk=>by omega,R2.out⟩
  case round =>
   obtain ⟨i,hi,rfl,hR1,hBP,G2,hG,hR2⟩:=hrel;replace R1:=hid hR1;replace BP:=hid hBP;replace R2:=hid hR2;have HG:=hid hG;clear hR1 hBP hR2 hG
   by_cases hil:i<n
   ·obtain ⟨b,off,hA,ct⟩:=Eu (HS.out _ R1.out.bel) (show 0<n by omega)
    obtain ⟨q,hq⟩:=Am HRL.out hil;obtain ⟨b1,o1,x,hA1,hx,x0,x1,c1x⟩:=Bf (HS.out _ R1.out.bel) hq hlt;have hqn:=(HS.out _ R1.out.bel).len q (Au hq);have r0:wr.cell? ⟨b,off+i,none⟩=some (.slice q.A q.n q.c):=ct i q 0 hq
    rw [hA1,hqn] at r0
    have r1:wr.cell? ⟨b1,o1+j,none⟩=some (vI x):=c1x 0;have HX:=hid (BR hq hx);clear ct hq c1x hqn hx hA1;subst hA;have d0:=R2.out.cell i hil;have d1:=R2.out.fr i;have hgl:=R2.out.lt;have hge:=R2.out.ge
    go_wp2_with fail
    go_roundw
    case rel=>exact ⟨i+1,by omega,by go_num,R1.out.other _ _ _ (by have:=hsz;omega) hge,BP.out.other _ _ _ (by have:=hsz;omega),_,fun k hk=>by
     by_cases e:k=i
     ·subst e;unfold upd;rw [if_pos rfl];exact HX.out.symm
     ·unfold upd;rw [if_neg e];exact HG.out k (by omega),R2.out.set hil x⟩
    case measure=>exact zMs
   ·have hin:i=n:=by omega
    have HI:=hid (R2.out.ints' (l:=IL (Aj rs) j) (by rw [EP,AX];exact HRL.out) (fun k hk=>by rw [GA (by rw [AX,HRL.out];exact hk)];exact HG.out k (by omega)));have k3:=BP.out.cell 3 _ HPC.out.1;have HC:=hid (HVA.out _ _ _ R1.out.bel HI.out (Qi (HS.out _ R1.out.bel) hlt));have HTG:=hid (Jb (al:=al) (T:=Aj rs) (alt:=alt) hlt);generalize Pe.iv (al.zip (IL (Aj rs) j)) alt=V1 at *;clear hin;have d0:=R1.out.cell j hlt;have d1:=R1.out.fr j;have hgl:=R1.out.lt
    go_wp2_with fail
    refine HC.out.mono ?_;rintro e w3 ⟨rfl,q,rfl⟩
    go_wp2_with fail
    go_roundw
    case rel=>exact ⟨j+1,by omega,by go_num,((R1.out.drewN q).set hlt V1).congr (fun k _=>E9 HTG.out k),(BP.out.below (Ag (AJ _ _) q)).other _ _ _ (by omega)⟩
    case measure=>exact zMs
