/- M22: PeChk, PeVal, PeTab in one text. -/
import Derived.Test.YtheepmnhpclimaaGreatM25
import Derived.Test.YtheepmnhpclimaaGreatFxOps
import Derived.Test.YtheepmnhpclimaaGreatM12
import Derived.Deep.MidRow
import Derived.Test.YtheepmnhpclimaaGreatM3
set_option linter.unusedSimpArgs false
set_option linter.unusedVariables false
set_option maxRecDepth 100000
set_option maxHeartbeats 8000000
namespace Go.Proofs
theorem zM220 {G : Prop} (h : G := by
  clear g
  go_wp2_with fail
  go_ret
  exact ⟨ret_int HF.out.symm,HB.out⟩) : G := h
theorem zM221 {G : Prop} (h : G := by
  have HI:=hid ((show RowI w (w.heap.size+1) M (fillF (tabL al (rowsL rs) M alt) M) wr by have:=R1.out;rwa [hjm] at this).ints (tabL_len _ _ _ _));have k4:wr.cell? ⟨w.heap.size,4,none⟩=some (.slice A2 M c2):=BP.out.cell 4 _ HPC.out.2;have HC:=hid (HVM.out (w.heap.size+1) _ wr R1.out.bel HI.out HTB.out);clear hjm
  go_wp2_with fail
  refine HC.out.mono ?_;rintro e w3 ⟨rfl,q,rfl⟩
  go_wp2_with fail
  go_ret
  exact ⟨ret_int HV.out.symm,below_drewN R1.out.bel q⟩) : G := h
theorem zM222 {G : Prop} (h : G := by
  have f_de:((p.sde.n:Int) == (p.sal.n:Int))=false:=beq_of (by omega);have f2_de:=bne_of f_de;clear g
  go_wp2_with fail
  go_ret
  exact ⟨ret_int HF.out.symm,HB.out⟩) : G := h
theorem zM223 {G : Prop} (h : G := by
  have f_id:((p.sid.n:Int) == (p.sal.n:Int))=false:=beq_of (by omega);have f2_id:=bne_of f_id;clear g
  go_wp2_with fail
  go_ret
  exact ⟨ret_int HF.out.symm,HB.out⟩) : G := h
theorem zM224 {G : Prop} (h : G := by
  have f_mx:((p.smx.n:Int) == (p.sal.n:Int))=false:=beq_of (by omega);have f2_mx:=bne_of f_mx;clear g
  go_wp2_with fail
  go_ret
  exact ⟨ret_int HF.out.symm,HB.out⟩) : G := h
theorem zM225 {G : Prop} (h : G := by
  have f_mn:((p.smn.n:Int) == (p.sms.n:Int))=false:=beq_of (by omega);have f2_mn:=bne_of f_mn;clear g
  go_wp2_with fail
  go_ret
  exact ⟨ret_int HF.out.symm,HB.out⟩) : G := h
theorem zM226 {G : Prop} (h : G := by
  go_enter Tryz.func90,Tryz.ntmps90
  go_wp2_with fail
  go_ret
  exact ⟨ret_int HR.out.symm,0,rfl⟩) : G := h
theorem zM227 {G : Prop} (h : G := by
  have Gumn:=hid g;replace HV:=hid (HV.out.trans (firstE_t g));clear g
  go_wp2_with fail
  go_ret
  exact ⟨ret_int HV.out.symm,HB.out⟩) : G := h
end Go.Proofs
namespace Go.Proofs.YtheepmnhpclimaaGreat
open Go.RowKit
open Go.Lib (hid)
def firstE:List (Bool × Int)→Int
 | []=>0
 | (b,e) :: l=>if b=true then firstE l else e
theorem firstE_t {b:Bool} {e:Int} {l:List (Bool × Int)} (h:b=true):firstE ((b,e) :: l)=firstE l:=if_pos h
theorem firstE_f {b:Bool} {e:Int} {l:List (Bool × Int)} (h:b=false):firstE ((b,e) :: l)=e:=if_neg (by rw [h];decide)
theorem firstE_all:∀ {l:List (Bool × Int)},(∀ q ∈ l,q.2≠0)→firstE l=0→∀ q ∈ l,q.1=true
 | [],_,_,q,hq=>by simp at hq
 | (b,e) :: l,he,h,q,hq=>by
  cases b with
  | false=>rw [firstE_f rfl] at h;exact absurd h (he (false,e) (by simp))
  | true =>
   rw [firstE_t rfl] at h
   rcases List.mem_cons.1 hq with rfl | hq
   ·rfl
   ·exact firstE_all (fun q hq=>he q (List.mem_cons_of_mem _ hq)) h q hq
def pfL (p:Prf):List (Bool × Int):=[(nmB p.nm 8,5),(inB p.em 1 3000000000,2),(inB p.mf 1 (3000000000 - p.em),2),(decide (2<=p.sal.n),3),(decide (p.sal.n<=12),3),(decide (2<=p.sms.n),3),(decide (p.sms.n<=6),3),(shpT (rowsL p.cl) p.sal.n p.sms.n,1),(shpT (rowsL p.cf) p.sal.n p.sms.n,1),(shpT (rowsL p.cr) p.sal.n p.sms.n,1),(decide (p.sde.n=p.sal.n),1),(decide (p.sid.n=p.sal.n),1),(decide (p.smx.n=p.sal.n),1),(decide (p.smn.n=p.sms.n),1),(ascB p.al,9),(ascB p.ms,9),(rngL p.al (-200000) 6000000,2),(inB p.ce (-200000) 6000000,2),(rngL p.ms 1 3000000000,2),(rngT (rowsL p.cl) 0 10000,2),(rngL p.de 1 10000,2),(rngT (rowsL p.cf) 0 50000,2),(rngT (rowsL p.cr) 0 50000,2),(rngL p.id 0 50000,2),(rngL p.mx 1 1000,2),(rngL p.mn 1 1000,2),(inB p.rf 1 1000,2),(inB p.ex 0 100,2),(lnDn (rowsL p.cl),11),(gnB p.al (rowsL p.cl),11),(lnUp (rowsL p.cf),11),(lnUp (rowsL p.cr),11),(upB p.de,11),(dnB p.id,11),(dnB p.mx,11),(upB p.mn,11)]
def pfE (p:Prf):Int:=firstE (pfL p)
theorem wpList_load_g {P:Program} {ops:Array Oper} {rest:List Oper} {op:Oper} {a:Act} {w:World} {Q:Exit→Act→World→Prop} (ty:TypeId) (x:Operand) (ho:op.op=.load ty x) (hw:Region.wanted op (yielded ops a.tmps)=true)
  (b o:Nat) (hx:a.eval x=.pointer (some ⟨b,o,none⟩)) (cs:List Value) (d:TypeDesc) (hc:w.rangeAt b o cs)
  (hu:P.underlying ty=some d) (hd:d.isRow=true) (hi:(P.info? ty).map (·.size)=some cs.length)
  (h:wpList P ops Q rest (a.put op.dst (.agg cs.toArray)) w):wpList P ops Q (op :: rest) a w:=by
 unfold wpList
 rw [if_pos hw]
 exact .inl (wp_load_mid ty x ho b o hx cs d hc hu hd hi h)
theorem Has.range {W:World} {b:Nat} {cs ds:List Value} (h:Has W b cs) (o:Nat) (hd:∀ j v,ds[j]? = some v→cs[o+j]? = some v):W.rangeAt b o ds:=fun j v hv=>h.cell (o+j) v (hd j v hv)
theorem at_prf {ops:Array Oper} {rest:List Oper} {op:Oper} {a:Act} {w:World} {Q:Exit→Act→World→Prop} {p:Prf} {b:Nat} (x:Operand) (ho:op.op=.load 26 x) (hw:Region.wanted op (yielded ops a.tmps)=true)
  (hx:a.eval x=.pointer (some ⟨b,0,none⟩)) (hc:Has w b p.cells) (h:wpList Tryz.prog ops Q rest (a.put op.dst (.agg p.cells.toArray)) w):wpList Tryz.prog ops Q (op :: rest) a w :=
 wpList_load_g 26 x ho hw b 0 hx p.cells _ (hc.range 0 (fun j v hv=>by rw [Nat.zero_add];exact hv)) Tryz.underlying26 rfl (by kernel_rfl) h
theorem shp_len {w:World} {A:Option Addr} {n N M:Nat} {rs:List Row} (h:shpT (rowsL rs) N M=true) (ht:Tab w A n rs):n=N∧∀ r ∈ rs,r.n=M:=by
 unfold shpT at h
 rw [Bool.and_eq_true,decide_eq_true_eq,List.all_eq_true,rowsL_len,ht.top.len] at h
 refine ⟨h.1,fun r hr=>?_⟩
 have:=h.2 r.l (List.mem_map.2 ⟨r,hr,rfl⟩)
 rw [decide_eq_true_eq,(ht.row r hr).len] at this
 exact this
theorem rngT_bd {rs:List Row} {lo hi:Int} (h:rngT (rowsL rs) lo hi=true):∀ r ∈ rs,∀ x ∈ r.l,lo<=x∧x<=hi:=by
 intro r hr x hx
 unfold rngT at h
 rw [List.all_eq_true] at h
 have:=h r.l (List.mem_map.2 ⟨r,hr,rfl⟩)
 unfold rngL at this
 rw [List.all_eq_true] at this
 exact inB_iff.1 (this x hx)
theorem rngL_bd {l:List Int} {lo hi:Int} (h:rngL l lo hi=true):∀ x ∈ l,lo<=x∧x<=hi:=by
 intro x hx
 unfold rngL at h
 rw [List.all_eq_true] at h
 exact inB_iff.1 (h x hx)
theorem Sq.of {w:World} {A:Option Addr} {n N M:Nat} {rs:List Row} {hi:Int} (ht:Tab w A n rs) (h1:shpT (rowsL rs) N M=true) (h2:rngT (rowsL rs) 0 hi=true):Sq w A n M hi rs:=⟨ht,(shp_len h1 ht).2,rngT_bd h2⟩
theorem bd_up {l:List Int} {lo hi HI:Int} (h0:0<=lo) (h1:hi<=HI) (h:∀ x ∈ l,lo<=x∧x<=hi):∀ x ∈ l,0<=x∧x<=HI:=fun x hx=>by have:=h x hx;omega
theorem rOne31 (x lo hi:Int) (H:Nat) (w:World) (hl:Ints w (some ⟨H,0,none⟩) 1 [x]):Calls Tryz.prog 168 #[.slice (some ⟨H,0,none⟩) 1 1,vI lo,vI hi] w fun e w'=>e=.returned (.bool (inB x lo hi))∧w=w' :=
 (rAll31 _ 1 1 [x] lo hi w hl (by unfold maxLen;omega)).mono fun e w' ⟨h1,h2⟩=>⟨by rw [h1];simp [rngL],h2⟩
theorem firstE_ff {a b:Bool} {e:Int} {l:List (Bool × Int)} (h:(a && b)=false):firstE ((a,e) :: (b,e) :: l)=e:=by
 cases a with
 | false=>exact firstE_f rfl
 | true=>rw [firstE_t rfl];exact firstE_f (by simpa using h)
theorem firstE_tt {a b:Bool} {e f:Int} {l:List (Bool × Int)} (h:(a && b)=true):firstE ((a,e) :: (b,f) :: l)=firstE l:=by
 rw [Bool.and_eq_true] at h
 rw [firstE_t h.1,firstE_t h.2]
theorem xPfCheck (p:Prf) (w:World) (hl:p.lies w) (hok:p.ok):Calls Tryz.prog 80 #[.agg p.cells.toArray] w fun e w'=>e=.returned (vI (pfE p))∧Below w.heap.size w w':=by
 have HV:=hid (show pfE p=firstE [(nmB p.nm 8,5),(inB p.em 1 3000000000,2),(inB p.mf 1 (3000000000 - p.em),2),(decide (2<=p.sal.n),3),(decide (p.sal.n<=12),3),(decide (2<=p.sms.n),3),(decide (p.sms.n<=6),3),(shpT (rowsL p.cl) p.sal.n p.sms.n,1),(shpT (rowsL p.cf) p.sal.n p.sms.n,1),(shpT (rowsL p.cr) p.sal.n p.sms.n,1),(decide (p.sde.n=p.sal.n),1),(decide (p.sid.n=p.sal.n),1),(decide (p.smx.n=p.sal.n),1),(decide (p.smn.n=p.sms.n),1),(ascB p.al,9),(ascB p.ms,9),(rngL p.al (-200000) 6000000,2),(inB p.ce (-200000) 6000000,2),(rngL p.ms 1 3000000000,2),(rngT (rowsL p.cl) 0 10000,2),(rngL p.de 1 10000,2),(rngT (rowsL p.cf) 0 50000,2),(rngT (rowsL p.cr) 0 50000,2),(rngL p.id 0 50000,2),(rngL p.mx 1 1000,2),(rngL p.mn 1 1000,2),(inB p.rf 1 1000,2),(inB p.ex 0 100,2),(lnDn (rowsL p.cl),11),(gnB p.al (rowsL p.cl),11),(lnUp (rowsL p.cf),11),(lnUp (rowsL p.cr),11),(upB p.de,11),(dnB p.id,11),(dnB p.mx,11),(upB p.mn,11)] from rfl);have HPC:=hid (show p.cells[0]? = some (.string p.nm)∧p.cells[1]? = some (vI p.em)∧p.cells[2]? = some (vI p.mf)∧p.cells[3]? = some (.slice p.sal.A p.sal.n p.sal.c)∧p.cells[4]? = some (.slice p.sms.A p.sms.n p.sms.c)∧p.cells[5]? = some (.slice p.scl.A p.scl.n p.scl.c)∧p.cells[6]? = some (.slice p.scf.A p.scf.n p.scf.c)∧p.cells[7]? = some (.slice p.scr.A p.scr.n p.scr.c)∧p.cells[8]? = some (.slice p.sde.A p.sde.n p.sde.c)∧p.cells[9]? = some (.slice p.sid.A p.sid.n p.sid.c)∧p.cells[10]? = some (.slice p.smx.A p.smx.n p.smx.c)∧p.cells[11]? = some (.slice p.smn.A p.smn.n p.smn.c)∧p.cells[12]? = some (vI p.rf)∧p.cells[13]? = some (vI p.ex)∧p.cells[14]? = some (vI p.ce) from ⟨rfl,rfl,rfl,rfl,rfl,rfl,rfl,rfl,rfl,rfl,rfl,rfl,rfl,rfl,rfl⟩);have HBOX:=hid (fun w=>Has.new w p.cells.toArray 26);have HLI:=hid (fun w1 hB=>hl.below (w':=w1) hB);have HOK:=hid hok;generalize pfE p=EE at *;have b3:=hok.al;have b4:=hok.ms;have b8:=hok.de;have b9:=hok.id;have b10:=hok.mx;have b11:=hok.mn
 unfold maxLen at b3 b4 b8 b9 b10 b11
 clear hl hok
 go_enter Tryz.func80,Tryz.ntmps80
 go_wp2_with fail
 have BP:=hid (HBOX.out w);have HB:=hid (below_alloc1 w (.cells p.cells.toArray 26));generalize w.alloc (.cells p.cells.toArray 26)=w1 at *;have k3:∀ m,(w1.drewN m).cell? ⟨w.heap.size,3,none⟩=some (.slice p.sal.A p.sal.n p.sal.c):=fun m=>(World.cell?_drewN w1 m _).trans (BP.out.cell 3 _ (by have:=HPC.out;exact this.2.2.2.1));have k4:∀ m,(w1.drewN m).cell? ⟨w.heap.size,4,none⟩=some (.slice p.sms.A p.sms.n p.sms.c):=fun m=>(World.cell?_drewN w1 m _).trans (BP.out.cell 4 _ (by have:=HPC.out;exact this.2.2.2.2.1))
 go_quiet (fail)
 clear k3 k4;replace BP:=hid (BP.out.below (below_drewN (Below.refl _ _) nq));replace HB:=hid (below_drewN HB.out nq);generalize w1.drewN nq=w2 at *;have k0:w2.cell? ⟨w.heap.size,0,none⟩=some (.string p.nm):=BP.out.cell 0 _ (HPC.out.1)
 go_wp2_with fail
 refine (xName p.nm 8 _ HOK.out.nm (by unfold maxLen;omega)).mono ?_;rintro e wx ⟨rfl,rfl⟩
 clear k0
 cases g:nmB p.nm 8
 ·have HF:=hid (HV.out.trans (firstE_f g))
  exact zM220
 have Gnm:=hid g;replace HV:=hid (HV.out.trans (firstE_t g));clear g;have k1:w2.cell? ⟨w.heap.size,1,none⟩=some (vI p.em):=BP.out.cell 1 _ (HPC.out.2.1)
 go_wp2_with fail
 refine (xWi31 _ _ _ _).mono ?_;rintro e wx ⟨rfl,rfl⟩
 clear k1
 cases g:inB p.em 1 3000000000
 ·have HF:=hid (HV.out.trans (firstE_f g))
  exact zM220
 have Gem:=hid g;replace HV:=hid (HV.out.trans (firstE_t g));clear g;have em1:=(inB_iff.1 Gem.out).1;have em2:=(inB_iff.1 Gem.out).2;have k1:w2.cell? ⟨w.heap.size,1,none⟩=some (vI p.em):=BP.out.cell 1 _ (HPC.out.2.1);have k2:w2.cell? ⟨w.heap.size,2,none⟩=some (vI p.mf):=BP.out.cell 2 _ (HPC.out.2.2.1)
 go_wp2_with fail
 refine (xWi31 _ _ _ _).mono ?_;rintro e wx ⟨rfl,rfl⟩
 clear k1 k2
 cases g:inB p.mf 1 (3000000000 - p.em)
 ·have HF:=hid (HV.out.trans (firstE_f g))
  exact zM220
 have Gmf:=hid g;replace HV:=hid (HV.out.trans (firstE_t g));clear g;clear em1 em2
 by_cases g:2<=p.sal.n
 rotate_left
 ·have HF:=hid (HV.out.trans (firstE_f (by first | exact decide_eq_false g | exact inB_no.2 (by omega))))
  have i_r2:(p.sal.n:Int)<2:=by omega
  exact zM220
 have Gr2:=hid g;replace HV:=hid (HV.out.trans (firstE_t (by first | exact decide_eq_true g | exact inB_iff.2 (by omega))))
 have i_r2:¬ (p.sal.n:Int)<2:=by omega
 clear g
 by_cases g:p.sal.n<=12
 rotate_left
 ·have HF:=hid (HV.out.trans (firstE_f (by first | exact decide_eq_false g | exact inB_no.2 (by omega))))
  have i_r12:12<(p.sal.n:Int):=by omega
  exact zM220
 have Gr12:=hid g;replace HV:=hid (HV.out.trans (firstE_t (by first | exact decide_eq_true g | exact inB_iff.2 (by omega))))
 have i_r12:¬ 12<(p.sal.n:Int):=by omega
 clear g
 by_cases g:2<=p.sms.n
 rotate_left
 ·have HF:=hid (HV.out.trans (firstE_f (by first | exact decide_eq_false g | exact inB_no.2 (by omega))))
  have i_c2:(p.sms.n:Int)<2:=by omega
  exact zM220
 have Gc2:=hid g;replace HV:=hid (HV.out.trans (firstE_t (by first | exact decide_eq_true g | exact inB_iff.2 (by omega))))
 have i_c2:¬ (p.sms.n:Int)<2:=by omega
 clear g
 by_cases g:p.sms.n<=6
 rotate_left
 ·have HF:=hid (HV.out.trans (firstE_f (by first | exact decide_eq_false g | exact inB_no.2 (by omega))))
  have i_c6:6<(p.sms.n:Int):=by omega
  exact zM220
 have Gc6:=hid g;replace HV:=hid (HV.out.trans (firstE_t (by first | exact decide_eq_true g | exact inB_iff.2 (by omega))))
 have i_c6:¬ 6<(p.sms.n:Int):=by omega
 clear g;have k5:w2.cell? ⟨w.heap.size,5,none⟩=some (.slice p.scl.A p.scl.n p.scl.c):=BP.out.cell 5 _ (HPC.out.2.2.2.2.2.1)
 go_wp2_with (refine at_prf (.tmp 1) rfl rfl rfl BP.out ?_)
 refine (xShp31 p p.scl.A p.scl.n p.scl.c p.cl _ HOK.out (HLI.out _ HB.out).cl HOK.out.cl HOK.out.rcl).mono ?_;rintro e w3 ⟨rfl,hB⟩
 replace BP:=hid (BP.out.below hB);replace HB:=hid (bel_trans HB.out hB);clear hB;clear k5;clear i_r2 i_r12 i_c2 i_c6
 cases g:shpT (rowsL p.cl) p.sal.n p.sms.n
 ·have HF:=hid (HV.out.trans (firstE_f g))
  exact zM220
 have Gscl:=hid g;replace HV:=hid (HV.out.trans (firstE_t g));clear g;have k6:w3.cell? ⟨w.heap.size,6,none⟩=some (.slice p.scf.A p.scf.n p.scf.c):=BP.out.cell 6 _ (HPC.out.2.2.2.2.2.2.1)
 go_wp2_with (refine at_prf (.tmp 1) rfl rfl rfl BP.out ?_)
 refine (xShp31 p p.scf.A p.scf.n p.scf.c p.cf _ HOK.out (HLI.out _ HB.out).cf HOK.out.cf HOK.out.rcf).mono ?_;rintro e w4 ⟨rfl,hB⟩
 replace BP:=hid (BP.out.below hB);replace HB:=hid (bel_trans HB.out hB);clear hB;clear k6
 cases g:shpT (rowsL p.cf) p.sal.n p.sms.n
 ·have HF:=hid (HV.out.trans (firstE_f g))
  exact zM220
 have Gscf:=hid g;replace HV:=hid (HV.out.trans (firstE_t g));clear g;have k7:w4.cell? ⟨w.heap.size,7,none⟩=some (.slice p.scr.A p.scr.n p.scr.c):=BP.out.cell 7 _ (HPC.out.2.2.2.2.2.2.2.1)
 go_wp2_with (refine at_prf (.tmp 1) rfl rfl rfl BP.out ?_)
 refine (xShp31 p p.scr.A p.scr.n p.scr.c p.cr _ HOK.out (HLI.out _ HB.out).cr HOK.out.cr HOK.out.rcr).mono ?_;rintro e w5 ⟨rfl,hB⟩
 replace BP:=hid (BP.out.below hB);replace HB:=hid (bel_trans HB.out hB);clear hB;clear k7
 cases g:shpT (rowsL p.cr) p.sal.n p.sms.n
 ·have HF:=hid (HV.out.trans (firstE_f g))
  exact zM220
 have Gscr:=hid g;replace HV:=hid (HV.out.trans (firstE_t g));clear g;have k8:w5.cell? ⟨w.heap.size,8,none⟩=some (.slice p.sde.A p.sde.n p.sde.c):=BP.out.cell 8 _ (HPC.out.2.2.2.2.2.2.2.2.1);have k9:w5.cell? ⟨w.heap.size,9,none⟩=some (.slice p.sid.A p.sid.n p.sid.c):=BP.out.cell 9 _ (HPC.out.2.2.2.2.2.2.2.2.2.1);have k10:w5.cell? ⟨w.heap.size,10,none⟩=some (.slice p.smx.A p.smx.n p.smx.c):=BP.out.cell 10 _ (HPC.out.2.2.2.2.2.2.2.2.2.2.1);have k11:w5.cell? ⟨w.heap.size,11,none⟩=some (.slice p.smn.A p.smn.n p.smn.c):=BP.out.cell 11 _ (HPC.out.2.2.2.2.2.2.2.2.2.2.2.1)
 by_cases g:p.sde.n=p.sal.n
 rotate_left
 ·have HF:=hid (HV.out.trans (firstE_f (by first | exact decide_eq_false g | exact inB_no.2 (by omega))))
  exact zM222
 have Glde:=hid g;replace HV:=hid (HV.out.trans (firstE_t (by first | exact decide_eq_true g | exact inB_iff.2 (by omega))))
 have f_de:((p.sde.n:Int) == (p.sal.n:Int))=true:=by rw [beq_iff_eq];omega
 have f2_de:((p.sde.n:Int) != (p.sal.n:Int))=false:=by rw [bne,f_de];rfl
 clear g
 by_cases g:p.sid.n=p.sal.n
 rotate_left
 ·have HF:=hid (HV.out.trans (firstE_f (by first | exact decide_eq_false g | exact inB_no.2 (by omega))))
  exact zM223
 have Glid:=hid g;replace HV:=hid (HV.out.trans (firstE_t (by first | exact decide_eq_true g | exact inB_iff.2 (by omega))))
 have f_id:((p.sid.n:Int) == (p.sal.n:Int))=true:=by rw [beq_iff_eq];omega
 have f2_id:((p.sid.n:Int) != (p.sal.n:Int))=false:=by rw [bne,f_id];rfl
 clear g
 by_cases g:p.smx.n=p.sal.n
 rotate_left
 ·have HF:=hid (HV.out.trans (firstE_f (by first | exact decide_eq_false g | exact inB_no.2 (by omega))))
  exact zM224
 have Glmx:=hid g;replace HV:=hid (HV.out.trans (firstE_t (by first | exact decide_eq_true g | exact inB_iff.2 (by omega))))
 have f_mx:((p.smx.n:Int) == (p.sal.n:Int))=true:=by rw [beq_iff_eq];omega
 have f2_mx:((p.smx.n:Int) != (p.sal.n:Int))=false:=by rw [bne,f_mx];rfl
 clear g
 by_cases g:p.smn.n=p.sms.n
 rotate_left
 ·have HF:=hid (HV.out.trans (firstE_f (by first | exact decide_eq_false g | exact inB_no.2 (by omega))))
  exact zM225
 have Glmn:=hid g;replace HV:=hid (HV.out.trans (firstE_t (by first | exact decide_eq_true g | exact inB_iff.2 (by omega))))
 have f_mn:((p.smn.n:Int) == (p.sms.n:Int))=true:=by rw [beq_iff_eq];omega
 have f2_mn:((p.smn.n:Int) != (p.sms.n:Int))=false:=by rw [bne,f_mn];rfl
 clear g;have k3:w5.cell? ⟨w.heap.size,3,none⟩=some (.slice p.sal.A p.sal.n p.sal.c):=BP.out.cell 3 _ (HPC.out.2.2.2.1)
 go_wp2_with fail
 refine (xAsc31 p.sal.A p.sal.n p.sal.c p.al _ (HLI.out _ HB.out).al HOK.out.al).mono ?_;rintro e wx ⟨rfl,q,rfl⟩
 replace BP:=hid (BP.out.below (below_drewN (Below.refl _ _) q));replace HB:=hid (below_drewN HB.out q);generalize w5.drewN q=w6 at *;clear k3;clear k8 k9 k10 k11;clear f_de f2_de f_id f2_id f_mx f2_mx f_mn f2_mn
 cases g:ascB p.al
 ·have HF:=hid (HV.out.trans (firstE_f g))
  exact zM220
 have Gaal:=hid g;replace HV:=hid (HV.out.trans (firstE_t g));clear g;have k4:w6.cell? ⟨w.heap.size,4,none⟩=some (.slice p.sms.A p.sms.n p.sms.c):=BP.out.cell 4 _ (HPC.out.2.2.2.2.1)
 go_wp2_with fail
 refine (xAsc31 p.sms.A p.sms.n p.sms.c p.ms _ (HLI.out _ HB.out).ms HOK.out.ms).mono ?_;rintro e wx ⟨rfl,q,rfl⟩
 replace BP:=hid (BP.out.below (below_drewN (Below.refl _ _) q));replace HB:=hid (below_drewN HB.out q);generalize w6.drewN q=w7 at *;clear k4
 cases g:ascB p.ms
 ·have HF:=hid (HV.out.trans (firstE_f g))
  exact zM220
 have Gams:=hid g;replace HV:=hid (HV.out.trans (firstE_t g));clear g;have k3:w7.cell? ⟨w.heap.size,3,none⟩=some (.slice p.sal.A p.sal.n p.sal.c):=BP.out.cell 3 _ (HPC.out.2.2.2.1)
 go_wp2_with fail
 refine (xAll31 p.sal.A p.sal.n p.sal.c p.al (-200000) 6000000 _ (HLI.out _ HB.out).al HOK.out.al).mono ?_;rintro e wx ⟨rfl,rfl⟩
 clear k3
 cases g:rngL p.al (-200000) 6000000
 ·have HF:=hid (HV.out.trans (firstE_f g))
  exact zM220
 have Gral:=hid g;replace HV:=hid (HV.out.trans (firstE_t g));clear g;have k14:w7.cell? ⟨w.heap.size,14,none⟩=some (vI p.ce):=BP.out.cell 14 _ (HPC.out.2.2.2.2.2.2.2.2.2.2.2.2.2.2)
 go_wp2_with fail
 refine (xWi31 _ _ _ _).mono ?_;rintro e wx ⟨rfl,rfl⟩
 clear k14
 cases g:inB p.ce (-200000) 6000000
 ·have HF:=hid (HV.out.trans (firstE_f g))
  exact zM220
 have Grce:=hid g;replace HV:=hid (HV.out.trans (firstE_t g));clear g;have k4:w7.cell? ⟨w.heap.size,4,none⟩=some (.slice p.sms.A p.sms.n p.sms.c):=BP.out.cell 4 _ (HPC.out.2.2.2.2.1)
 go_wp2_with fail
 refine (xAll31 p.sms.A p.sms.n p.sms.c p.ms 1 3000000000 _ (HLI.out _ HB.out).ms HOK.out.ms).mono ?_;rintro e wx ⟨rfl,rfl⟩
 clear k4
 cases g:rngL p.ms 1 3000000000
 ·have HF:=hid (HV.out.trans (firstE_f g))
  exact zM220
 have Grms:=hid g;replace HV:=hid (HV.out.trans (firstE_t g));clear g;have k5:w7.cell? ⟨w.heap.size,5,none⟩=some (.slice p.scl.A p.scl.n p.scl.c):=BP.out.cell 5 _ (HPC.out.2.2.2.2.2.1)
 go_wp2_with fail
 refine (xAllR31 p.scl.A p.scl.n p.scl.c p.cl 0 10000 _ (HLI.out _ HB.out).cl HOK.out.cl HOK.out.rcl).mono ?_;rintro e wx ⟨rfl,rfl⟩
 clear k5
 cases g:rngT (rowsL p.cl) 0 10000
 ·have HF:=hid (HV.out.trans (firstE_f g))
  exact zM220
 have Grcl:=hid g;replace HV:=hid (HV.out.trans (firstE_t g));clear g;have k8:w7.cell? ⟨w.heap.size,8,none⟩=some (.slice p.sde.A p.sde.n p.sde.c):=BP.out.cell 8 _ (HPC.out.2.2.2.2.2.2.2.2.1)
 go_wp2_with fail
 refine (xAll31 p.sde.A p.sde.n p.sde.c p.de 1 10000 _ (HLI.out _ HB.out).de HOK.out.de).mono ?_;rintro e wx ⟨rfl,rfl⟩
 clear k8
 cases g:rngL p.de 1 10000
 ·have HF:=hid (HV.out.trans (firstE_f g))
  exact zM220
 have Grde:=hid g;replace HV:=hid (HV.out.trans (firstE_t g));clear g;have k6:w7.cell? ⟨w.heap.size,6,none⟩=some (.slice p.scf.A p.scf.n p.scf.c):=BP.out.cell 6 _ (HPC.out.2.2.2.2.2.2.1)
 go_wp2_with fail
 refine (xAllR31 p.scf.A p.scf.n p.scf.c p.cf 0 50000 _ (HLI.out _ HB.out).cf HOK.out.cf HOK.out.rcf).mono ?_;rintro e wx ⟨rfl,rfl⟩
 clear k6
 cases g:rngT (rowsL p.cf) 0 50000
 ·have HF:=hid (HV.out.trans (firstE_f g))
  exact zM220
 have Grcf:=hid g;replace HV:=hid (HV.out.trans (firstE_t g));clear g;have k7:w7.cell? ⟨w.heap.size,7,none⟩=some (.slice p.scr.A p.scr.n p.scr.c):=BP.out.cell 7 _ (HPC.out.2.2.2.2.2.2.2.1)
 go_wp2_with fail
 refine (xAllR31 p.scr.A p.scr.n p.scr.c p.cr 0 50000 _ (HLI.out _ HB.out).cr HOK.out.cr HOK.out.rcr).mono ?_;rintro e wx ⟨rfl,rfl⟩
 clear k7
 cases g:rngT (rowsL p.cr) 0 50000
 ·have HF:=hid (HV.out.trans (firstE_f g))
  exact zM220
 have Grcr:=hid g;replace HV:=hid (HV.out.trans (firstE_t g));clear g;have k9:w7.cell? ⟨w.heap.size,9,none⟩=some (.slice p.sid.A p.sid.n p.sid.c):=BP.out.cell 9 _ (HPC.out.2.2.2.2.2.2.2.2.2.1)
 go_wp2_with fail
 refine (xAll31 p.sid.A p.sid.n p.sid.c p.id 0 50000 _ (HLI.out _ HB.out).id HOK.out.id).mono ?_;rintro e wx ⟨rfl,rfl⟩
 clear k9
 cases g:rngL p.id 0 50000
 ·have HF:=hid (HV.out.trans (firstE_f g))
  exact zM220
 have Grid:=hid g;replace HV:=hid (HV.out.trans (firstE_t g));clear g;have k10:w7.cell? ⟨w.heap.size,10,none⟩=some (.slice p.smx.A p.smx.n p.smx.c):=BP.out.cell 10 _ (HPC.out.2.2.2.2.2.2.2.2.2.2.1)
 go_wp2_with fail
 refine (xAll31 p.smx.A p.smx.n p.smx.c p.mx 1 1000 _ (HLI.out _ HB.out).mx HOK.out.mx).mono ?_;rintro e wx ⟨rfl,rfl⟩
 clear k10
 cases g:rngL p.mx 1 1000
 ·have HF:=hid (HV.out.trans (firstE_f g))
  exact zM220
 have Grmx:=hid g;replace HV:=hid (HV.out.trans (firstE_t g));clear g;have k11:w7.cell? ⟨w.heap.size,11,none⟩=some (.slice p.smn.A p.smn.n p.smn.c):=BP.out.cell 11 _ (HPC.out.2.2.2.2.2.2.2.2.2.2.2.1)
 go_wp2_with fail
 refine (xAll31 p.smn.A p.smn.n p.smn.c p.mn 1 1000 _ (HLI.out _ HB.out).mn HOK.out.mn).mono ?_;rintro e wx ⟨rfl,rfl⟩
 clear k11
 cases g:rngL p.mn 1 1000
 ·have HF:=hid (HV.out.trans (firstE_f g))
  exact zM220
 have Grmn:=hid g;replace HV:=hid (HV.out.trans (firstE_t g));clear g;have k12:w7.cell? ⟨w.heap.size,12,none⟩=some (vI p.rf):=BP.out.cell 12 _ (HPC.out.2.2.2.2.2.2.2.2.2.2.2.2.1)
 go_wp2_with fail
 refine (xWi31 _ _ _ _).mono ?_;rintro e wx ⟨rfl,rfl⟩
 clear k12
 cases g:inB p.rf 1 1000
 ·have HF:=hid (HV.out.trans (firstE_f g))
  exact zM220
 have Grrf:=hid g;replace HV:=hid (HV.out.trans (firstE_t g));clear g;have k13:w7.cell? ⟨w.heap.size,13,none⟩=some (vI p.ex):=BP.out.cell 13 _ (HPC.out.2.2.2.2.2.2.2.2.2.2.2.2.2.1)
 go_wp2_with fail
 refine (xWi31 _ _ _ _).mono ?_;rintro e wx ⟨rfl,rfl⟩
 clear k13
 cases g:inB p.ex 0 100
 ·have HF:=hid (HV.out.trans (firstE_f g))
  exact zM220
 have Grex:=hid g;replace HV:=hid (HV.out.trans (firstE_t g));clear g;have k5:w7.cell? ⟨w.heap.size,5,none⟩=some (.slice p.scl.A p.scl.n p.scl.c):=BP.out.cell 5 _ (HPC.out.2.2.2.2.2.1)
 go_wp2_with fail
 refine (xLnDn p.scl.A p.scl.n p.scl.c p.sms.n 10000 p.cl _ (Sq.of (HLI.out _ HB.out).cl Gscl.out Grcl.out) (by decide) HOK.out.cl HOK.out.ms).mono ?_;rintro e wx ⟨rfl,q,rfl⟩
 replace BP:=hid (BP.out.below (below_drewN (Below.refl _ _) q));replace HB:=hid (below_drewN HB.out q);generalize w7.drewN q=w8 at *;clear k5
 cases g:lnDn (rowsL p.cl)
 ·have HF:=hid (HV.out.trans (firstE_f g))
  exact zM220
 have Gccl:=hid g;replace HV:=hid (HV.out.trans (firstE_t g));clear g
 go_wp2_with (refine at_prf (.tmp 1) rfl rfl rfl BP.out ?_)
 refine (xGentle p _ (HLI.out _ HB.out) (Sq.of (HLI.out _ HB.out).cl Gscl.out Grcl.out) HOK.out (shp_len Gscl.out (HLI.out _ HB.out).cl).1 (rngL_bd Gral.out)).mono ?_;rintro e w9 ⟨rfl,hB⟩
 replace BP:=hid (BP.out.below hB);replace HB:=hid (bel_trans HB.out hB);clear hB
 cases g:gnB p.al (rowsL p.cl)
 ·have HF:=hid (HV.out.trans (firstE_f g))
  exact zM220
 have Gcgn:=hid g;replace HV:=hid (HV.out.trans (firstE_t g));clear g;have k6:w9.cell? ⟨w.heap.size,6,none⟩=some (.slice p.scf.A p.scf.n p.scf.c):=BP.out.cell 6 _ (HPC.out.2.2.2.2.2.2.1)
 go_wp2_with fail
 refine (xLnUp p.scf.A p.scf.n p.scf.c p.sms.n 50000 p.cf _ (Sq.of (HLI.out _ HB.out).cf Gscf.out Grcf.out) (by decide) HOK.out.cf HOK.out.ms).mono ?_;rintro e wx ⟨rfl,q,rfl⟩
 replace BP:=hid (BP.out.below (below_drewN (Below.refl _ _) q));replace HB:=hid (below_drewN HB.out q);generalize w9.drewN q=w10 at *;clear k6
 cases g:lnUp (rowsL p.cf)
 ·have HF:=hid (HV.out.trans (firstE_f g))
  exact zM220
 have Gccf:=hid g;replace HV:=hid (HV.out.trans (firstE_t g));clear g;have k7:w10.cell? ⟨w.heap.size,7,none⟩=some (.slice p.scr.A p.scr.n p.scr.c):=BP.out.cell 7 _ (HPC.out.2.2.2.2.2.2.2.1)
 go_wp2_with fail
 refine (xLnUp p.scr.A p.scr.n p.scr.c p.sms.n 50000 p.cr _ (Sq.of (HLI.out _ HB.out).cr Gscr.out Grcr.out) (by decide) HOK.out.cr HOK.out.ms).mono ?_;rintro e wx ⟨rfl,q,rfl⟩
 replace BP:=hid (BP.out.below (below_drewN (Below.refl _ _) q));replace HB:=hid (below_drewN HB.out q);generalize w10.drewN q=w11 at *;clear k7
 cases g:lnUp (rowsL p.cr)
 ·have HF:=hid (HV.out.trans (firstE_f g))
  exact zM220
 have Gccr:=hid g;replace HV:=hid (HV.out.trans (firstE_t g));clear g;have k8:w11.cell? ⟨w.heap.size,8,none⟩=some (.slice p.sde.A p.sde.n p.sde.c):=BP.out.cell 8 _ (HPC.out.2.2.2.2.2.2.2.2.1)
 go_wp2_with fail
 refine (xUp31 p.sde.A p.sde.n p.sde.c p.de _ (HLI.out _ HB.out).de HOK.out.de (bd_up (by decide) (by decide) (rngL_bd Grde.out))).mono ?_;rintro e wx ⟨rfl,q,rfl⟩
 replace BP:=hid (BP.out.below (below_drewN (Below.refl _ _) q));replace HB:=hid (below_drewN HB.out q);generalize w11.drewN q=w12 at *;clear k8
 cases g:upB p.de
 ·have HF:=hid (HV.out.trans (firstE_f g))
  exact zM220
 have Gude:=hid g;replace HV:=hid (HV.out.trans (firstE_t g));clear g;have k9:w12.cell? ⟨w.heap.size,9,none⟩=some (.slice p.sid.A p.sid.n p.sid.c):=BP.out.cell 9 _ (HPC.out.2.2.2.2.2.2.2.2.2.1)
 go_wp2_with fail
 refine (xDn31 p.sid.A p.sid.n p.sid.c p.id _ (HLI.out _ HB.out).id HOK.out.id (bd_up (by decide) (by decide) (rngL_bd Grid.out))).mono ?_;rintro e wx ⟨rfl,q,rfl⟩
 replace BP:=hid (BP.out.below (below_drewN (Below.refl _ _) q));replace HB:=hid (below_drewN HB.out q);generalize w12.drewN q=w13 at *;clear k9
 cases g:dnB p.id
 ·have HF:=hid (HV.out.trans (firstE_f g))
  exact zM220
 have Gdid:=hid g;replace HV:=hid (HV.out.trans (firstE_t g));clear g;have k10:w13.cell? ⟨w.heap.size,10,none⟩=some (.slice p.smx.A p.smx.n p.smx.c):=BP.out.cell 10 _ (HPC.out.2.2.2.2.2.2.2.2.2.2.1)
 go_wp2_with fail
 refine (xDn31 p.smx.A p.smx.n p.smx.c p.mx _ (HLI.out _ HB.out).mx HOK.out.mx (bd_up (by decide) (by decide) (rngL_bd Grmx.out))).mono ?_;rintro e wx ⟨rfl,q,rfl⟩
 replace BP:=hid (BP.out.below (below_drewN (Below.refl _ _) q));replace HB:=hid (below_drewN HB.out q);generalize w13.drewN q=w14 at *;clear k10
 cases g:dnB p.mx
 ·have HF:=hid (HV.out.trans (firstE_f g))
  exact zM220
 have Gdmx:=hid g;replace HV:=hid (HV.out.trans (firstE_t g));clear g;have k11:w14.cell? ⟨w.heap.size,11,none⟩=some (.slice p.smn.A p.smn.n p.smn.c):=BP.out.cell 11 _ (HPC.out.2.2.2.2.2.2.2.2.2.2.2.1)
 go_wp2_with fail
 refine (xUp31 p.smn.A p.smn.n p.smn.c p.mn _ (HLI.out _ HB.out).mn HOK.out.mn (bd_up (by decide) (by decide) (rngL_bd Grmn.out))).mono ?_;rintro e wx ⟨rfl,q,rfl⟩
 replace BP:=hid (BP.out.below (below_drewN (Below.refl _ _) q));replace HB:=hid (below_drewN HB.out q);generalize w14.drewN q=w15 at *;clear k11
 cases g:upB p.mn
 ·have HF:=hid (HV.out.trans (firstE_f g))
  exact zM220
 exact zM227
theorem rPfCheck (p:Prf) (w:World) (hl:p.lies w) (hok:p.ok):Calls Tryz.prog 86 #[.agg p.cells.toArray] w fun e w'=>e=.returned (vI (pfE p))∧Below w.heap.size w w':=by
 have HV:=hid (show pfE p=firstE [(nmB p.nm 8,5),(inB p.em 1 3000000000,2),(inB p.mf 1 (3000000000 - p.em),2),(decide (2<=p.sal.n),3),(decide (p.sal.n<=12),3),(decide (2<=p.sms.n),3),(decide (p.sms.n<=6),3),(shpT (rowsL p.cl) p.sal.n p.sms.n,1),(shpT (rowsL p.cf) p.sal.n p.sms.n,1),(shpT (rowsL p.cr) p.sal.n p.sms.n,1),(decide (p.sde.n=p.sal.n),1),(decide (p.sid.n=p.sal.n),1),(decide (p.smx.n=p.sal.n),1),(decide (p.smn.n=p.sms.n),1),(ascB p.al,9),(ascB p.ms,9),(rngL p.al (-200000) 6000000,2),(inB p.ce (-200000) 6000000,2),(rngL p.ms 1 3000000000,2),(rngT (rowsL p.cl) 0 10000,2),(rngL p.de 1 10000,2),(rngT (rowsL p.cf) 0 50000,2),(rngT (rowsL p.cr) 0 50000,2),(rngL p.id 0 50000,2),(rngL p.mx 1 1000,2),(rngL p.mn 1 1000,2),(inB p.rf 1 1000,2),(inB p.ex 0 100,2),(lnDn (rowsL p.cl),11),(gnB p.al (rowsL p.cl),11),(lnUp (rowsL p.cf),11),(lnUp (rowsL p.cr),11),(upB p.de,11),(dnB p.id,11),(dnB p.mx,11),(upB p.mn,11)] from rfl);have HPC:=hid (show p.cells[0]? = some (.string p.nm)∧p.cells[1]? = some (vI p.em)∧p.cells[2]? = some (vI p.mf)∧p.cells[3]? = some (.slice p.sal.A p.sal.n p.sal.c)∧p.cells[4]? = some (.slice p.sms.A p.sms.n p.sms.c)∧p.cells[5]? = some (.slice p.scl.A p.scl.n p.scl.c)∧p.cells[6]? = some (.slice p.scf.A p.scf.n p.scf.c)∧p.cells[7]? = some (.slice p.scr.A p.scr.n p.scr.c)∧p.cells[8]? = some (.slice p.sde.A p.sde.n p.sde.c)∧p.cells[9]? = some (.slice p.sid.A p.sid.n p.sid.c)∧p.cells[10]? = some (.slice p.smx.A p.smx.n p.smx.c)∧p.cells[11]? = some (.slice p.smn.A p.smn.n p.smn.c)∧p.cells[12]? = some (vI p.rf)∧p.cells[13]? = some (vI p.ex)∧p.cells[14]? = some (vI p.ce) from ⟨rfl,rfl,rfl,rfl,rfl,rfl,rfl,rfl,rfl,rfl,rfl,rfl,rfl,rfl,rfl⟩);have HBOX:=hid (fun w=>Has.new w p.cells.toArray 26);have HLI:=hid (fun w1 hB=>hl.below (w':=w1) hB);have HOK:=hid hok;generalize pfE p=EE at *;have b3:=hok.al;have b4:=hok.ms;have b8:=hok.de;have b9:=hok.id;have b10:=hok.mx;have b11:=hok.mn
 unfold maxLen at b3 b4 b8 b9 b10 b11
 clear hl hok
 go_enter Tryz.func86,Tryz.ntmps86
 go_wp2_with fail
 have BP:=hid (HBOX.out w);have HB:=hid (below_alloc1 w (.cells p.cells.toArray 26));generalize w.alloc (.cells p.cells.toArray 26)=w1 at *;have k3:∀ m,(w1.drewN m).cell? ⟨w.heap.size,3,none⟩=some (.slice p.sal.A p.sal.n p.sal.c):=fun m=>(World.cell?_drewN w1 m _).trans (BP.out.cell 3 _ (by have:=HPC.out;exact this.2.2.2.1));have k4:∀ m,(w1.drewN m).cell? ⟨w.heap.size,4,none⟩=some (.slice p.sms.A p.sms.n p.sms.c):=fun m=>(World.cell?_drewN w1 m _).trans (BP.out.cell 4 _ (by have:=HPC.out;exact this.2.2.2.2.1))
 go_quiet (fail)
 clear k3 k4;replace BP:=hid (BP.out.below (below_drewN (Below.refl _ _) nq));replace HB:=hid (below_drewN HB.out nq);generalize w1.drewN nq=w2 at *;have k0:w2.cell? ⟨w.heap.size,0,none⟩=some (.string p.nm):=BP.out.cell 0 _ (HPC.out.1)
 go_wp2_with fail
 refine (rName p.nm 8 _ HOK.out.nm (by unfold maxLen;omega)).mono ?_;rintro e wx ⟨rfl,rfl⟩
 clear k0
 cases g:nmB p.nm 8
 ·have HF:=hid (HV.out.trans (firstE_f g))
  exact zM220
 have Gnm:=hid g;replace HV:=hid (HV.out.trans (firstE_t g));clear g;have k1:w2.cell? ⟨w.heap.size,1,none⟩=some (vI p.em):=BP.out.cell 1 _ (HPC.out.2.1);have k2:w2.cell? ⟨w.heap.size,2,none⟩=some (vI p.mf):=BP.out.cell 2 _ (HPC.out.2.2.1)
 by_cases g0:p.em<1
 ·have HF:=hid (HV.out.trans (firstE_f (inB_no.2 (by omega))))
  go_wp2_with fail
  go_ret
  exact ⟨ret_int HF.out.symm,HB.out⟩
 by_cases g1:3000000000<p.em
 ·have HF:=hid (HV.out.trans (firstE_f (inB_no.2 (by omega))))
  go_wp2_with fail
  go_ret
  exact ⟨ret_int HF.out.symm,HB.out⟩
 replace HV:=hid (HV.out.trans (firstE_t (inB_iff.2 (by omega))))
 by_cases g2:p.mf<1
 ·have HF:=hid (HV.out.trans (firstE_f (inB_no.2 (by omega))))
  go_wp2_with fail
  go_ret
  exact ⟨ret_int HF.out.symm,HB.out⟩
 by_cases g3:3000000000 - p.em<p.mf
 ·have HF:=hid (HV.out.trans (firstE_f (inB_no.2 (by omega))))
  go_wp2_with fail
  go_ret
  exact ⟨ret_int HF.out.symm,HB.out⟩
 replace HV:=hid (HV.out.trans (firstE_t (inB_iff.2 (by omega))))
 by_cases g:2<=p.sal.n
 rotate_left
 ·have HF:=hid (HV.out.trans (firstE_f (by first | exact decide_eq_false g | exact inB_no.2 (by omega))))
  have i_r2:(p.sal.n:Int)<2:=by omega
  exact zM220
 have Gr2:=hid g;replace HV:=hid (HV.out.trans (firstE_t (by first | exact decide_eq_true g | exact inB_iff.2 (by omega))))
 have i_r2:¬ (p.sal.n:Int)<2:=by omega
 clear g
 by_cases g:p.sal.n<=12
 rotate_left
 ·have HF:=hid (HV.out.trans (firstE_f (by first | exact decide_eq_false g | exact inB_no.2 (by omega))))
  have i_r12:12<(p.sal.n:Int):=by omega
  exact zM220
 have Gr12:=hid g;replace HV:=hid (HV.out.trans (firstE_t (by first | exact decide_eq_true g | exact inB_iff.2 (by omega))))
 have i_r12:¬ 12<(p.sal.n:Int):=by omega
 clear g
 by_cases g:2<=p.sms.n
 rotate_left
 ·have HF:=hid (HV.out.trans (firstE_f (by first | exact decide_eq_false g | exact inB_no.2 (by omega))))
  have i_c2:(p.sms.n:Int)<2:=by omega
  exact zM220
 have Gc2:=hid g;replace HV:=hid (HV.out.trans (firstE_t (by first | exact decide_eq_true g | exact inB_iff.2 (by omega))))
 have i_c2:¬ (p.sms.n:Int)<2:=by omega
 clear g
 by_cases g:p.sms.n<=6
 rotate_left
 ·have HF:=hid (HV.out.trans (firstE_f (by first | exact decide_eq_false g | exact inB_no.2 (by omega))))
  have i_c6:6<(p.sms.n:Int):=by omega
  exact zM220
 have Gc6:=hid g;replace HV:=hid (HV.out.trans (firstE_t (by first | exact decide_eq_true g | exact inB_iff.2 (by omega))))
 have i_c6:¬ 6<(p.sms.n:Int):=by omega
 clear g;have k5:w2.cell? ⟨w.heap.size,5,none⟩=some (.slice p.scl.A p.scl.n p.scl.c):=BP.out.cell 5 _ (HPC.out.2.2.2.2.2.1)
 go_wp2_with fail
 refine (rShp31 p.scl.A p.scl.n p.scl.c p.cl p.sal.n p.sms.n _ (HLI.out _ HB.out).cl HOK.out.cl HOK.out.al HOK.out.ms HOK.out.rcl).mono ?_;rintro e wx ⟨rfl,rfl⟩
 clear k5;clear i_r2 i_r12 i_c2 i_c6;clear k1 k2 g0 g1 g2 g3
 cases g:shpT (rowsL p.cl) p.sal.n p.sms.n
 ·have HF:=hid (HV.out.trans (firstE_f g))
  exact zM220
 have Gscl:=hid g;replace HV:=hid (HV.out.trans (firstE_t g));clear g;have k6:w2.cell? ⟨w.heap.size,6,none⟩=some (.slice p.scf.A p.scf.n p.scf.c):=BP.out.cell 6 _ (HPC.out.2.2.2.2.2.2.1)
 go_wp2_with fail
 refine (rShp31 p.scf.A p.scf.n p.scf.c p.cf p.sal.n p.sms.n _ (HLI.out _ HB.out).cf HOK.out.cf HOK.out.al HOK.out.ms HOK.out.rcf).mono ?_;rintro e wx ⟨rfl,rfl⟩
 clear k6
 cases g:shpT (rowsL p.cf) p.sal.n p.sms.n
 ·have HF:=hid (HV.out.trans (firstE_f g))
  exact zM220
 have Gscf:=hid g;replace HV:=hid (HV.out.trans (firstE_t g));clear g;have k7:w2.cell? ⟨w.heap.size,7,none⟩=some (.slice p.scr.A p.scr.n p.scr.c):=BP.out.cell 7 _ (HPC.out.2.2.2.2.2.2.2.1)
 go_wp2_with fail
 refine (rShp31 p.scr.A p.scr.n p.scr.c p.cr p.sal.n p.sms.n _ (HLI.out _ HB.out).cr HOK.out.cr HOK.out.al HOK.out.ms HOK.out.rcr).mono ?_;rintro e wx ⟨rfl,rfl⟩
 clear k7
 cases g:shpT (rowsL p.cr) p.sal.n p.sms.n
 ·have HF:=hid (HV.out.trans (firstE_f g))
  exact zM220
 have Gscr:=hid g;replace HV:=hid (HV.out.trans (firstE_t g));clear g;have k8:w2.cell? ⟨w.heap.size,8,none⟩=some (.slice p.sde.A p.sde.n p.sde.c):=BP.out.cell 8 _ (HPC.out.2.2.2.2.2.2.2.2.1);have k9:w2.cell? ⟨w.heap.size,9,none⟩=some (.slice p.sid.A p.sid.n p.sid.c):=BP.out.cell 9 _ (HPC.out.2.2.2.2.2.2.2.2.2.1);have k10:w2.cell? ⟨w.heap.size,10,none⟩=some (.slice p.smx.A p.smx.n p.smx.c):=BP.out.cell 10 _ (HPC.out.2.2.2.2.2.2.2.2.2.2.1);have k11:w2.cell? ⟨w.heap.size,11,none⟩=some (.slice p.smn.A p.smn.n p.smn.c):=BP.out.cell 11 _ (HPC.out.2.2.2.2.2.2.2.2.2.2.2.1)
 by_cases g:p.sde.n=p.sal.n
 rotate_left
 ·have HF:=hid (HV.out.trans (firstE_f (by first | exact decide_eq_false g | exact inB_no.2 (by omega))))
  exact zM222
 have Glde:=hid g;replace HV:=hid (HV.out.trans (firstE_t (by first | exact decide_eq_true g | exact inB_iff.2 (by omega))))
 have f_de:((p.sde.n:Int) == (p.sal.n:Int))=true:=by rw [beq_iff_eq];omega
 have f2_de:((p.sde.n:Int) != (p.sal.n:Int))=false:=by rw [bne,f_de];rfl
 clear g
 by_cases g:p.sid.n=p.sal.n
 rotate_left
 ·have HF:=hid (HV.out.trans (firstE_f (by first | exact decide_eq_false g | exact inB_no.2 (by omega))))
  exact zM223
 have Glid:=hid g;replace HV:=hid (HV.out.trans (firstE_t (by first | exact decide_eq_true g | exact inB_iff.2 (by omega))))
 have f_id:((p.sid.n:Int) == (p.sal.n:Int))=true:=by rw [beq_iff_eq];omega
 have f2_id:((p.sid.n:Int) != (p.sal.n:Int))=false:=by rw [bne,f_id];rfl
 clear g
 by_cases g:p.smx.n=p.sal.n
 rotate_left
 ·have HF:=hid (HV.out.trans (firstE_f (by first | exact decide_eq_false g | exact inB_no.2 (by omega))))
  exact zM224
 have Glmx:=hid g;replace HV:=hid (HV.out.trans (firstE_t (by first | exact decide_eq_true g | exact inB_iff.2 (by omega))))
 have f_mx:((p.smx.n:Int) == (p.sal.n:Int))=true:=by rw [beq_iff_eq];omega
 have f2_mx:((p.smx.n:Int) != (p.sal.n:Int))=false:=by rw [bne,f_mx];rfl
 clear g
 by_cases g:p.smn.n=p.sms.n
 rotate_left
 ·have HF:=hid (HV.out.trans (firstE_f (by first | exact decide_eq_false g | exact inB_no.2 (by omega))))
  exact zM225
 have Glmn:=hid g;replace HV:=hid (HV.out.trans (firstE_t (by first | exact decide_eq_true g | exact inB_iff.2 (by omega))))
 have f_mn:((p.smn.n:Int) == (p.sms.n:Int))=true:=by rw [beq_iff_eq];omega
 have f2_mn:((p.smn.n:Int) != (p.sms.n:Int))=false:=by rw [bne,f_mn];rfl
 clear g;have k3:w2.cell? ⟨w.heap.size,3,none⟩=some (.slice p.sal.A p.sal.n p.sal.c):=BP.out.cell 3 _ (HPC.out.2.2.2.1)
 go_wp2_with fail
 refine (rAsc31 p.sal.A p.sal.n p.sal.c p.al _ (HLI.out _ HB.out).al HOK.out.al).mono ?_;rintro e wx ⟨rfl,q,rfl⟩
 replace BP:=hid (BP.out.below (below_drewN (Below.refl _ _) q));replace HB:=hid (below_drewN HB.out q);generalize w2.drewN q=w3 at *;clear k3;clear k8 k9 k10 k11;clear f_de f2_de f_id f2_id f_mx f2_mx f_mn f2_mn
 cases g:ascB p.al
 ·have HF:=hid (HV.out.trans (firstE_f g))
  exact zM220
 have Gaal:=hid g;replace HV:=hid (HV.out.trans (firstE_t g));clear g;have k4:w3.cell? ⟨w.heap.size,4,none⟩=some (.slice p.sms.A p.sms.n p.sms.c):=BP.out.cell 4 _ (HPC.out.2.2.2.2.1)
 go_wp2_with fail
 refine (rAsc31 p.sms.A p.sms.n p.sms.c p.ms _ (HLI.out _ HB.out).ms HOK.out.ms).mono ?_;rintro e wx ⟨rfl,q,rfl⟩
 replace BP:=hid (BP.out.below (below_drewN (Below.refl _ _) q));replace HB:=hid (below_drewN HB.out q);generalize w3.drewN q=w4 at *;clear k4
 cases g:ascB p.ms
 ·have HF:=hid (HV.out.trans (firstE_f g))
  exact zM220
 have Gams:=hid g;replace HV:=hid (HV.out.trans (firstE_t g));clear g;have k3:w4.cell? ⟨w.heap.size,3,none⟩=some (.slice p.sal.A p.sal.n p.sal.c):=BP.out.cell 3 _ (HPC.out.2.2.2.1)
 go_wp2_with fail
 refine (rAll31 p.sal.A p.sal.n p.sal.c p.al (-200000) 6000000 _ (HLI.out _ HB.out).al HOK.out.al).mono ?_;rintro e wx ⟨rfl,rfl⟩
 clear k3
 cases g:rngL p.al (-200000) 6000000
 ·have HF:=hid (HV.out.trans (firstE_f g))
  exact zM220
 have Gral:=hid g;replace HV:=hid (HV.out.trans (firstE_t g));clear g;have k14:w4.cell? ⟨w.heap.size,14,none⟩=some (vI p.ce):=BP.out.cell 14 _ (HPC.out.2.2.2.2.2.2.2.2.2.2.2.2.2.2)
 go_wp2_with fail
 replace BP:=hid (BP.out.alloc (.cells #[vI (p.ce)] 2));replace HB:=hid (bel_alloc1 HB.out (.cells #[vI (p.ce)] 2));have HN:=hid (Ints.of_alloc w4 #[vI (p.ce)] 2 [p.ce] 1 rfl rfl _ rfl);generalize w4.alloc (.cells #[vI (p.ce)] 2)=w5 at *
 refine (rOne31 p.ce (-200000) 6000000 _ _ HN.out).mono ?_;rintro e wx ⟨rfl,rfl⟩
 clear k14;clear HN
 cases g:inB p.ce (-200000) 6000000
 ·have HF:=hid (HV.out.trans (firstE_f g))
  exact zM220
 have Grce:=hid g;replace HV:=hid (HV.out.trans (firstE_t g));clear g;have k4:w5.cell? ⟨w.heap.size,4,none⟩=some (.slice p.sms.A p.sms.n p.sms.c):=BP.out.cell 4 _ (HPC.out.2.2.2.2.1)
 go_wp2_with fail
 refine (rAll31 p.sms.A p.sms.n p.sms.c p.ms 1 3000000000 _ (HLI.out _ HB.out).ms HOK.out.ms).mono ?_;rintro e wx ⟨rfl,rfl⟩
 clear k4
 cases g:rngL p.ms 1 3000000000
 ·have HF:=hid (HV.out.trans (firstE_f g))
  exact zM220
 have Grms:=hid g;replace HV:=hid (HV.out.trans (firstE_t g));clear g;have k5:w5.cell? ⟨w.heap.size,5,none⟩=some (.slice p.scl.A p.scl.n p.scl.c):=BP.out.cell 5 _ (HPC.out.2.2.2.2.2.1)
 go_wp2_with fail
 refine (rAllR31 p.scl.A p.scl.n p.scl.c p.cl 0 10000 _ (HLI.out _ HB.out).cl HOK.out.cl HOK.out.rcl).mono ?_;rintro e wx ⟨rfl,rfl⟩
 clear k5
 cases g:rngT (rowsL p.cl) 0 10000
 ·have HF:=hid (HV.out.trans (firstE_f g))
  exact zM220
 have Grcl:=hid g;replace HV:=hid (HV.out.trans (firstE_t g));clear g;have k8:w5.cell? ⟨w.heap.size,8,none⟩=some (.slice p.sde.A p.sde.n p.sde.c):=BP.out.cell 8 _ (HPC.out.2.2.2.2.2.2.2.2.1)
 go_wp2_with fail
 refine (rAll31 p.sde.A p.sde.n p.sde.c p.de 1 10000 _ (HLI.out _ HB.out).de HOK.out.de).mono ?_;rintro e wx ⟨rfl,rfl⟩
 clear k8
 cases g:rngL p.de 1 10000
 ·have HF:=hid (HV.out.trans (firstE_f g))
  exact zM220
 have Grde:=hid g;replace HV:=hid (HV.out.trans (firstE_t g));clear g;have k6:w5.cell? ⟨w.heap.size,6,none⟩=some (.slice p.scf.A p.scf.n p.scf.c):=BP.out.cell 6 _ (HPC.out.2.2.2.2.2.2.1)
 go_wp2_with fail
 refine (rAllR31 p.scf.A p.scf.n p.scf.c p.cf 0 50000 _ (HLI.out _ HB.out).cf HOK.out.cf HOK.out.rcf).mono ?_;rintro e wx ⟨rfl,rfl⟩
 clear k6
 cases g:rngT (rowsL p.cf) 0 50000
 ·have HF:=hid (HV.out.trans (firstE_f g))
  exact zM220
 have Grcf:=hid g;replace HV:=hid (HV.out.trans (firstE_t g));clear g;have k7:w5.cell? ⟨w.heap.size,7,none⟩=some (.slice p.scr.A p.scr.n p.scr.c):=BP.out.cell 7 _ (HPC.out.2.2.2.2.2.2.2.1)
 go_wp2_with fail
 refine (rAllR31 p.scr.A p.scr.n p.scr.c p.cr 0 50000 _ (HLI.out _ HB.out).cr HOK.out.cr HOK.out.rcr).mono ?_;rintro e wx ⟨rfl,rfl⟩
 clear k7
 cases g:rngT (rowsL p.cr) 0 50000
 ·have HF:=hid (HV.out.trans (firstE_f g))
  exact zM220
 have Grcr:=hid g;replace HV:=hid (HV.out.trans (firstE_t g));clear g;have k9:w5.cell? ⟨w.heap.size,9,none⟩=some (.slice p.sid.A p.sid.n p.sid.c):=BP.out.cell 9 _ (HPC.out.2.2.2.2.2.2.2.2.2.1)
 go_wp2_with fail
 refine (rAll31 p.sid.A p.sid.n p.sid.c p.id 0 50000 _ (HLI.out _ HB.out).id HOK.out.id).mono ?_;rintro e wx ⟨rfl,rfl⟩
 clear k9
 cases g:rngL p.id 0 50000
 ·have HF:=hid (HV.out.trans (firstE_f g))
  exact zM220
 have Grid:=hid g;replace HV:=hid (HV.out.trans (firstE_t g));clear g;have k10:w5.cell? ⟨w.heap.size,10,none⟩=some (.slice p.smx.A p.smx.n p.smx.c):=BP.out.cell 10 _ (HPC.out.2.2.2.2.2.2.2.2.2.2.1)
 go_wp2_with fail
 refine (rAll31 p.smx.A p.smx.n p.smx.c p.mx 1 1000 _ (HLI.out _ HB.out).mx HOK.out.mx).mono ?_;rintro e wx ⟨rfl,rfl⟩
 clear k10
 cases g:rngL p.mx 1 1000
 ·have HF:=hid (HV.out.trans (firstE_f g))
  exact zM220
 have Grmx:=hid g;replace HV:=hid (HV.out.trans (firstE_t g));clear g;have k11:w5.cell? ⟨w.heap.size,11,none⟩=some (.slice p.smn.A p.smn.n p.smn.c):=BP.out.cell 11 _ (HPC.out.2.2.2.2.2.2.2.2.2.2.2.1)
 go_wp2_with fail
 refine (rAll31 p.smn.A p.smn.n p.smn.c p.mn 1 1000 _ (HLI.out _ HB.out).mn HOK.out.mn).mono ?_;rintro e wx ⟨rfl,rfl⟩
 clear k11
 cases g:rngL p.mn 1 1000
 ·have HF:=hid (HV.out.trans (firstE_f g))
  exact zM220
 have Grmn:=hid g;replace HV:=hid (HV.out.trans (firstE_t g));clear g;have k12:w5.cell? ⟨w.heap.size,12,none⟩=some (vI p.rf):=BP.out.cell 12 _ (HPC.out.2.2.2.2.2.2.2.2.2.2.2.2.1)
 go_wp2_with fail
 replace BP:=hid (BP.out.alloc (.cells #[vI (p.rf)] 2));replace HB:=hid (bel_alloc1 HB.out (.cells #[vI (p.rf)] 2));have HN:=hid (Ints.of_alloc w5 #[vI (p.rf)] 2 [p.rf] 1 rfl rfl _ rfl);generalize w5.alloc (.cells #[vI (p.rf)] 2)=w6 at *
 refine (rOne31 p.rf 1 1000 _ _ HN.out).mono ?_;rintro e wx ⟨rfl,rfl⟩
 clear k12;clear HN
 cases g:inB p.rf 1 1000
 ·have HF:=hid (HV.out.trans (firstE_f g))
  exact zM220
 have Grrf:=hid g;replace HV:=hid (HV.out.trans (firstE_t g));clear g;have k13:w6.cell? ⟨w.heap.size,13,none⟩=some (vI p.ex):=BP.out.cell 13 _ (HPC.out.2.2.2.2.2.2.2.2.2.2.2.2.2.1)
 go_wp2_with fail
 replace BP:=hid (BP.out.alloc (.cells #[vI (p.ex)] 2));replace HB:=hid (bel_alloc1 HB.out (.cells #[vI (p.ex)] 2));have HN:=hid (Ints.of_alloc w6 #[vI (p.ex)] 2 [p.ex] 1 rfl rfl _ rfl);generalize w6.alloc (.cells #[vI (p.ex)] 2)=w7 at *
 refine (rOne31 p.ex 0 100 _ _ HN.out).mono ?_;rintro e wx ⟨rfl,rfl⟩
 clear k13;clear HN
 cases g:inB p.ex 0 100
 ·have HF:=hid (HV.out.trans (firstE_f g))
  exact zM220
 have Grex:=hid g;replace HV:=hid (HV.out.trans (firstE_t g));clear g
 go_wp2_with (refine at_prf (.tmp 1) rfl rfl rfl BP.out ?_)
 refine (rClimbs p _ (HLI.out _ HB.out) (Sq.of (HLI.out _ HB.out).cl Gscl.out Grcl.out) HOK.out (shp_len Gscl.out (HLI.out _ HB.out).cl).1 (rngL_bd Gral.out)).mono ?_;rintro e w8 ⟨rfl,hB⟩
 replace BP:=hid (BP.out.below hB);replace HB:=hid (bel_trans HB.out hB);clear hB
 cases g:(lnDn (rowsL p.cl) && gnB p.al (rowsL p.cl))
 ·have HF:=hid (HV.out.trans (firstE_ff g))
  exact zM220
 replace HV:=hid (HV.out.trans (firstE_tt g));clear g;have k6:w8.cell? ⟨w.heap.size,6,none⟩=some (.slice p.scf.A p.scf.n p.scf.c):=BP.out.cell 6 _ (HPC.out.2.2.2.2.2.2.1)
 go_wp2_with fail
 refine (rFlows p.scf.A p.scf.n p.scf.c p.sms.n 50000 p.cf _ (Sq.of (HLI.out _ HB.out).cf Gscf.out Grcf.out) (by decide) HOK.out.cf HOK.out.ms).mono ?_;rintro e wx ⟨rfl,q,rfl⟩
 replace BP:=hid (BP.out.below (below_drewN (Below.refl _ _) q));replace HB:=hid (below_drewN HB.out q);generalize w8.drewN q=w9 at *;clear k6
 cases g:lnUp (rowsL p.cf)
 ·have HF:=hid (HV.out.trans (firstE_f g))
  exact zM220
 have Gccf:=hid g;replace HV:=hid (HV.out.trans (firstE_t g));clear g;have k7:w9.cell? ⟨w.heap.size,7,none⟩=some (.slice p.scr.A p.scr.n p.scr.c):=BP.out.cell 7 _ (HPC.out.2.2.2.2.2.2.2.1)
 go_wp2_with fail
 refine (rFlows p.scr.A p.scr.n p.scr.c p.sms.n 50000 p.cr _ (Sq.of (HLI.out _ HB.out).cr Gscr.out Grcr.out) (by decide) HOK.out.cr HOK.out.ms).mono ?_;rintro e wx ⟨rfl,q,rfl⟩
 replace BP:=hid (BP.out.below (below_drewN (Below.refl _ _) q));replace HB:=hid (below_drewN HB.out q);generalize w9.drewN q=w10 at *;clear k7
 cases g:lnUp (rowsL p.cr)
 ·have HF:=hid (HV.out.trans (firstE_f g))
  exact zM220
 have Gccr:=hid g;replace HV:=hid (HV.out.trans (firstE_t g));clear g;have k8:w10.cell? ⟨w.heap.size,8,none⟩=some (.slice p.sde.A p.sde.n p.sde.c):=BP.out.cell 8 _ (HPC.out.2.2.2.2.2.2.2.2.1)
 go_wp2_with fail
 refine (rUp31 p.sde.A p.sde.n p.sde.c p.de _ (HLI.out _ HB.out).de HOK.out.de).mono ?_;rintro e wx ⟨rfl,q,rfl⟩
 replace BP:=hid (BP.out.below (below_drewN (Below.refl _ _) q));replace HB:=hid (below_drewN HB.out q);generalize w10.drewN q=w11 at *;clear k8
 cases g:upB p.de
 ·have HF:=hid (HV.out.trans (firstE_f g))
  exact zM220
 have Gude:=hid g;replace HV:=hid (HV.out.trans (firstE_t g));clear g;have k9:w11.cell? ⟨w.heap.size,9,none⟩=some (.slice p.sid.A p.sid.n p.sid.c):=BP.out.cell 9 _ (HPC.out.2.2.2.2.2.2.2.2.2.1)
 go_wp2_with fail
 refine (rDn31 p.sid.A p.sid.n p.sid.c p.id _ (HLI.out _ HB.out).id HOK.out.id).mono ?_;rintro e wx ⟨rfl,q,rfl⟩
 replace BP:=hid (BP.out.below (below_drewN (Below.refl _ _) q));replace HB:=hid (below_drewN HB.out q);generalize w11.drewN q=w12 at *;clear k9
 cases g:dnB p.id
 ·have HF:=hid (HV.out.trans (firstE_f g))
  exact zM220
 have Gdid:=hid g;replace HV:=hid (HV.out.trans (firstE_t g));clear g;have k10:w12.cell? ⟨w.heap.size,10,none⟩=some (.slice p.smx.A p.smx.n p.smx.c):=BP.out.cell 10 _ (HPC.out.2.2.2.2.2.2.2.2.2.2.1)
 go_wp2_with fail
 refine (rDn31 p.smx.A p.smx.n p.smx.c p.mx _ (HLI.out _ HB.out).mx HOK.out.mx).mono ?_;rintro e wx ⟨rfl,q,rfl⟩
 replace BP:=hid (BP.out.below (below_drewN (Below.refl _ _) q));replace HB:=hid (below_drewN HB.out q);generalize w12.drewN q=w13 at *;clear k10
 cases g:dnB p.mx
 ·have HF:=hid (HV.out.trans (firstE_f g))
  exact zM220
 have Gdmx:=hid g;replace HV:=hid (HV.out.trans (firstE_t g));clear g;have k11:w13.cell? ⟨w.heap.size,11,none⟩=some (.slice p.smn.A p.smn.n p.smn.c):=BP.out.cell 11 _ (HPC.out.2.2.2.2.2.2.2.2.2.2.2.1)
 go_wp2_with fail
 refine (rUp31 p.smn.A p.smn.n p.smn.c p.mn _ (HLI.out _ HB.out).mn HOK.out.mn).mono ?_;rintro e wx ⟨rfl,q,rfl⟩
 replace BP:=hid (BP.out.below (below_drewN (Below.refl _ _) q));replace HB:=hid (below_drewN HB.out q);generalize w13.drewN q=w14 at *;clear k11
 cases g:upB p.mn
 ·have HF:=hid (HV.out.trans (firstE_f g))
  exact zM220
 exact zM227
theorem floor_b (X Y:Int) (h1 : -1000000000000000000<=X) (h2:X<=1000000000000000000) (hY:0<Y):Fx.scV 0 X 1 Y=X / Y∧Fx.scE 0 X 1 Y=0:=by
 have e:Fx.rqz 0 (X * 1) Y=X / Y:=by unfold Fx.rqz Fx.rq;rw [if_neg (by omega),if_pos rfl,Int.mul_one]
 have b1 : -1000000000000000000<=X / Y:=by
  rw [Int.le_ediv_iff_mul_le hY]
  have:(-1000000000000000000) * Y<=(-1000000000000000000) * 1:=Int.mul_le_mul_of_nonpos_left (by omega) (by omega)
  omega
 have b2:X / Y<=1000000000000000000:=by
  by_cases h:X<0
  ·have:X / Y<0:=Int.ediv_neg_of_neg_of_pos h hY
   omega
  ·have:=Int.ediv_le_self (b:=Y) (a:=X) (by omega)
   omega
 rw [Fx.scV_eq 0 X 1 Y (by omega),Fx.scE_eq 0 X 1 Y (by omega),e]
 constructor <;> (rw [if_pos];unfold Fx.inR;omega)
theorem xFloorB (X Y:Int) (h1 : -1000000000000000000<=X) (h2:X<=1000000000000000000) (hY:0<Y) (hY2:Y<=1000000000000000000) (w:World):Calls Tryz.prog 164 #[vI X,vI Y] w fun e w'=>e=.returned (.tuple #[vI (X / Y),vI 0])∧∃ n,w'=w.drewN n:=by
 have h:=xFloor X Y ⟨by omega,by omega⟩ ⟨by omega,by omega⟩ w
 rw [(floor_b X Y h1 h2 hY).1,(floor_b X Y h1 h2 hY).2] at h
 exact h
theorem rFloorB (X Y:Int) (h1 : -1000000000000000000<=X) (h2:X<=1000000000000000000) (hY:0<Y) (hY2:Y<=1000000000000000000) (w:World):Calls Tryz.prog 174 #[vI X,vI Y] w fun e w'=>e=.returned (.tuple #[vI (X / Y),vI 0])∧w=w':=by
 have h:=rFloor X Y ⟨by omega,by omega⟩ ⟨by omega,by omega⟩ w
 rw [(floor_b X Y h1 h2 hY).1,(floor_b X Y h1 h2 hY).2] at h
 exact h
theorem pval_bd {d e:Int} (h1 : -50000<=d∧d<=50000) (h2:0<=e∧e<=3000200000) : -150010000000000<=d * e∧d * e<=150010000000000:=by
 have a:=Int.mul_le_mul_of_nonneg_right h1.2 h2.1;have b:=Int.mul_le_mul_of_nonneg_right h1.1 h2.1
 omega
theorem xVal31 (A B:Option Addr) (n c d:Nat) (p l:List Int) (x:Int) (w:World) (hp:Ints w A n p) (hl:Ints w B n l) (hn0:0<n) (hn:n<=12) (hpb:∀ y ∈ p,-200000<=y∧y<=3000000000) (hlb:∀ y ∈ l,0<=y∧y<=50000) (hx : -200000<=x∧x<=3000000000):Calls Tryz.prog 85 #[.slice A n c,.slice B n d,vI x] w fun e w'=>e=.returned (vI (Pe.iv (p.zip l) x))∧∃ q,w'=w.drewN q:=by
 have HP:=hid hp;have HQ:=hid hl;have HPL:=hid hp.len;have HLL:=hid hl.len;have HPB:=hid hpb;have HLB:=hid hlb;obtain ⟨x0,x1⟩:=hx;obtain ⟨bp,op,rfl,hbp,cp⟩:=hp.cells hn0;obtain ⟨bl,ol,rfl,hbl,cl⟩:=hl.cells hn0;have CP:=hid (fun k y m (h:p[k]? = some y)=>(World.cell?_drewN w m _).trans (cp k y h));have CL:=hid (fun k y m (h:l[k]? = some y)=>(World.cell?_drewN w m _).trans (cl k y h));clear hp hl hpb hlb cp cl hbp hbl
 go_enter Tryz.func85,Tryz.ntmps85
 go_wp2_with fail
 go_loop [7] (fun t=>∃ k:Nat,k<=n∧t=vI k∧∀ j,j<k→p.getD j 0<x) (fun t=>n - (intOf t).toNat)
 case atStart=>exact ⟨0,by omega,rfl,fun j hj=>by omega⟩
 case round =>
  obtain ⟨k,hk,rfl,hall⟩:=hrel;have HAL:=hid hall;clear hall
  by_cases hlt:k<n
  rotate_left
  ·have hkn:k=n:=by omega
   have e0:((k:Int) == 0)=false:=beq_of (by omega)
   have e1:((k:Int) == (n:Int))=true:=by rw [beq_iff_eq];omega
   obtain ⟨m,hm⟩:∃ m,n=m+1:=⟨n - 1,by omega⟩;obtain ⟨v,hv⟩:=get_ex HLL.out (show m<n by omega)
   have HR:=hid (show Pe.iv (p.zip l) x=v by
    rw [← getD_of_get (d:=0) hv]
    have hm':p.length=m+1:=HPL.out.trans hm;have hl':l.length=p.length:=HLL.out.trans HPL.out.symm
    exact Pe.iv_last (p.zip l) m (p.getD m 0,l.getD m 0) x (by simp;omega) (Pe.zip_get hl' (by omega)) (fun j q hq=>by
     obtain ⟨h1,h2⟩:=Pe.zip_get_inv hq
     rw [h2];exact HAL.out j (by have:=HPL.out;omega)))
   have c0:w.cell? ⟨bl,ol+m,none⟩=some (vI v):=CL.out m v 0 hv
   have s1:IntKind.i64.wrap ((k:Int) - 1)=(m:Int):=by rw [IntWalk.i64_in _ (by omega)];omega
   have s2:(k:Int) - 1=(m:Int):=by omega
   have hmn:m<n:=by omega
   have hlt2:decide (k<n)=false:=decide_eq_false hlt;have HKN:=hid hkn;have HM:=hid hm;clear hkn hm hv hlt
   go_wp2_with fail
   go_ret
   exact ⟨ret_int HR.out.symm,0,rfl⟩
  obtain ⟨b,hb⟩:=get_ex HPL.out hlt;obtain ⟨b0,b1⟩:=HPB.out b (List.mem_of_getElem? hb);have c0:w.cell? ⟨bp,op+k,none⟩=some (vI b):=CP.out k b 0 hb;have HG:=hid (show p.getD k 0=b from getD_of_get hb)
  by_cases hbx:b<x
  ·clear hb
   go_wp2_with fail
   go_round
   case rel=>exact ⟨k+1,by omega,by go_num,fun j hj=>by
    by_cases e:j=k
    ·subst e;rw [HG.out];exact hbx
    ·exact HAL.out j (by omega)⟩
   case measure=>simp only [intOf];omega
  by_cases hk0:k=0
  ·have e0:((k:Int) == 0)=true:=by rw [beq_iff_eq];omega
   obtain ⟨v,hv⟩:=get_ex HLL.out hn0
   have HR:=hid (show Pe.iv (p.zip l) x=v by
    rw [← getD_of_get (d:=0) hv]
    exact Pe.iv_ref_hd (HLL.out.trans HPL.out.symm) (by rw [HPL.out];exact hn0) (by rw [← hk0,HG.out];omega))
   have c1:w.cell? ⟨bl,ol,none⟩=some (vI v):=CL.out 0 v 0 hv;have HK0:=hid hk0;clear hk0 hb hv
   go_wp2_with fail
   go_ret
   exact ⟨ret_int HR.out.symm,0,rfl⟩
  obtain ⟨m,rfl⟩:∃ m,k=m+1:=⟨k - 1,by omega⟩;clear hk0
  rw [show ((m+1:Nat):Int)=(m:Int)+1 from by omega]
  obtain ⟨a,ha⟩:=get_ex HPL.out (show m<n by omega);obtain ⟨u,hu⟩:=get_ex HLL.out (show m<n by omega);obtain ⟨v,hv⟩:=get_ex HLL.out hlt;obtain ⟨a0,a1⟩:=HPB.out a (List.mem_of_getElem? ha);obtain ⟨u0,u1⟩:=HLB.out u (List.mem_of_getElem? hu);obtain ⟨v0,v1⟩:=HLB.out v (List.mem_of_getElem? hv)
  have hax:a<x:=by rw [← getD_of_get (d:=0) ha];exact HAL.out m (by omega)
  have HR:=hid (show Pe.iv (p.zip l) x=Pe.ip a b u v x by
   have hl':l.length=p.length:=HLL.out.trans HPL.out.symm
   rw [Pe.iv_seg (p.zip l) m _ _ x (Pe.zip_get hl' (by have:=HPL.out;omega)) (Pe.zip_get hl' (by have:=HPL.out;omega)) (fun j q hj hq=>by
     obtain ⟨h1,h2⟩:=Pe.zip_get_inv hq
     rw [h2];exact HAL.out j (by omega)) (by show x<=p.getD (m+1) 0;rw [HG.out];omega)]
   rw [getD_of_get ha,HG.out,getD_of_get hu,getD_of_get hv])
  obtain ⟨i0,i1⟩:=Pe.ip_bd (lo:=0) (hi:=50000) (x:=x) (show a<=x by omega) (show x<=b by omega) (by omega) ⟨u0,u1⟩ ⟨v0,v1⟩;have HIP:=hid (show Pe.ip a b u v x=u+(v - u) * (x - a) / (b - a) from rfl);generalize Pe.ip a b u v x=R at *;have HPD:=hid (pval_bd (d:=v - u) (e:=x - a) ⟨by omega,by omega⟩ ⟨by omega,by omega⟩);have HFL:=hid (fun w=>xFloorB ((v - u) * (x - a)) (b - a) (by have:=HPD.out;omega) (by have:=HPD.out;omega) (by omega) (by omega) w)
  have s1:IntKind.i64.wrap ((m:Int)+1 - 1)=(m:Int):=by rw [IntWalk.i64_in _ (by omega)];omega
  have s0:IntKind.i64.wrap (m:Int)=(m:Int):=IntWalk.i64_in _ (by omega)
  have hmn:m<n:=by omega
  have hmn2:(m:Int)<(n:Int):=by omega
  have hmn3:(m:Int)+1<(n:Int):=by omega
  have e0:((m:Int)+1 == 0)=false:=beq_of (by omega);have e1:((m:Int)+1 == (n:Int))=false:=beq_of (by omega);have q1:∀ m',(w.drewN m').cell? ⟨bp,op+m,none⟩=some (vI a):=fun m'=>CP.out m a m' ha;have q2:∀ m',(w.drewN m').cell? ⟨bp,op+(m+1),none⟩=some (vI b):=fun m'=>CP.out (m+1) b m' hb;have q3:∀ m',(w.drewN m').cell? ⟨bl,ol+m,none⟩=some (vI u):=fun m'=>CL.out m u m' hu;have q4:∀ m',(w.drewN m').cell? ⟨bl,ol+(m+1),none⟩=some (vI v):=fun m'=>CL.out (m+1) v m' hv;clear ha hu hv hb
  go_wp2_with fail
  go_quiet (fail)
  clear s1 s0 q1 q2 q3 q4;obtain ⟨d0,d1⟩:=HPD.out
  go_wp2_with fail
  refine (HFL.out _).mono ?_;rintro e w2 ⟨rfl,q,rfl⟩
  have HR2:=hid (HR.out.trans HIP.out)
  have g1:0<=u+(v - u) * (x - a) / (b - a):=by rw [← HIP.out];exact i0
  have g2:u+(v - u) * (x - a) / (b - a)<=50000:=by rw [← HIP.out];exact i1
  go_wp2_with fail
  go_ret
  exact ⟨ret_int HR2.out.symm,_,by first | rfl | exact World.drewN_drewN _ _ _⟩
theorem rAt31 (A B:Option Addr) (n c d:Nat) (p l:List Int) (x:Int) (w:World) (hp:Ints w A n p) (hl:Ints w B n l) (hn0:0<n) (hn:n<=12) (hasc:Pe.Asc p) (hpb:∀ y ∈ p,-200000<=y∧y<=3000000000) (hlb:∀ y ∈ l,0<=y∧y<=50000) (hx : -200000<=x∧x<=3000000000):Calls Tryz.prog 90 #[.slice A n c,.slice B n d,vI x] w fun e w'=>e=.returned (vI (Pe.iv (p.zip l) x))∧∃ q,w'=w.drewN q:=by
 have HASC:=hid hasc;clear hasc;have HP:=hid hp;have HQ:=hid hl;have HPL:=hid hp.len;have HLL:=hid hl.len;have HPB:=hid hpb;have HLB:=hid hlb;obtain ⟨x0,x1⟩:=hx;obtain ⟨bp,op,rfl,hbp,cp⟩:=hp.cells hn0;obtain ⟨bl,ol,rfl,hbl,cl⟩:=hl.cells hn0;have CP:=hid (fun k y m (h:p[k]? = some y)=>(World.cell?_drewN w m _).trans (cp k y h));have CL:=hid (fun k y m (h:l[k]? = some y)=>(World.cell?_drewN w m _).trans (cl k y h));clear hp hl hpb hlb cp cl hbp hbl;have HLP:=hid (HLL.out.trans HPL.out.symm);obtain ⟨m,hm⟩:∃ m,n=m+1:=⟨n - 1,by omega⟩;obtain ⟨a0v,ha0⟩:=get_ex HPL.out hn0;obtain ⟨l0v,hl0⟩:=get_ex HLL.out hn0;obtain ⟨a9,ha9⟩:=get_ex HPL.out (show m<n by omega);obtain ⟨l9,hl9⟩:=get_ex HLL.out (show m<n by omega);have c0:w.cell? ⟨bp,op,none⟩=some (vI a0v):=CP.out 0 a0v 0 ha0;have c1:w.cell? ⟨bl,ol,none⟩=some (vI l0v):=CL.out 0 l0v 0 hl0;have c2:w.cell? ⟨bp,op+m,none⟩=some (vI a9):=CP.out m a9 0 ha9;have c3:w.cell? ⟨bl,ol+m,none⟩=some (vI l9):=CL.out m l9 0 hl9;have G0:=hid (getD_of_get (d:=0) ha0);have G1:=hid (getD_of_get (d:=0) hl0);have G2:=hid (getD_of_get (d:=0) ha9);have G3:=hid (getD_of_get (d:=0) hl9)
 have s1:IntKind.i64.wrap ((n:Int) - 1)=(m:Int):=by rw [IntWalk.i64_in _ (by omega)];omega
 have s2:(n:Int) - 1=(m:Int):=by omega
 have hmn:m<n:=by omega
 have HM:=hid hm;clear ha0 hl0 ha9 hl9 hm
 by_cases h1:x<=a0v
 ·have HR:=hid (show Pe.iv (p.zip l) x=l0v by
   rw [← G1.out];exact Pe.iv_ref_hd HLP.out (by rw [HPL.out];exact hn0) (by rw [G0.out];exact h1))
  exact zM226
 by_cases h2:a9<=x
 ·have HR:=hid (show Pe.iv (p.zip l) x=l9 by
   rw [← G3.out];exact Pe.iv_ref_tl HLP.out (HPL.out.trans HM.out) HASC.out (by rw [G2.out];exact h2))
  exact zM226
 go_enter Tryz.func90,Tryz.ntmps90
 go_wp2_with fail
 clear c0 c1 c2 c3 s1 s2
 go_loop [8] (fun t=>∃ k:Nat,k+1<n∧t=vI k∧p.getD k 0<=x) (fun t=>n - (intOf t).toNat)
 case atStart=>exact ⟨0,by
  rcases Nat.lt_or_ge 1 n with h | h
  ·omega
  ·have e1:=HM.out
   have e2:m=0:=by omega
   have e3:=G0.out;have e4:=G2.out
   rw [e2] at e4
   omega,rfl,by rw [G0.out];omega⟩
 case round =>
  obtain ⟨k,hk,rfl,hall⟩:=hrel;have HAL:=hid hall;clear hall;obtain ⟨a,ha⟩:=get_ex HPL.out (show k<n by omega);obtain ⟨b,hb⟩:=get_ex HPL.out hk;obtain ⟨a0,a1⟩:=HPB.out a (List.mem_of_getElem? ha);obtain ⟨b0,b1⟩:=HPB.out b (List.mem_of_getElem? hb);have HA:=hid (getD_of_get (d:=0) ha);have HG:=hid (getD_of_get (d:=0) hb);have c0:w.cell? ⟨bp,op+(k+1),none⟩=some (vI b):=CP.out _ b 0 hb
  by_cases hbx:b<=x
  ·clear hb ha
   go_wp2_with fail
   go_round
   case rel=>exact ⟨k+1,by
    have e1:=HM.out
    rcases Nat.lt_or_ge (k+1+1) n with h | h
    ·exact h
    ·have e2:m=k+1:=by omega
     have e3:=G2.out;have e4:=HG.out
     rw [e2] at e3
     omega,by go_num,by rw [HG.out];exact hbx⟩
   case measure=>simp only [intOf];omega
  obtain ⟨u,hu⟩:=get_ex HLL.out (show k<n by omega);obtain ⟨v,hv⟩:=get_ex HLL.out hk;obtain ⟨u0,u1⟩:=HLB.out u (List.mem_of_getElem? hu);obtain ⟨v0,v1⟩:=HLB.out v (List.mem_of_getElem? hv)
  have hax:a<=x:=by rw [← HA.out];exact HAL.out
  have HR:=hid (show Pe.iv (p.zip l) x=Pe.ip a b u v x by
   rw [Pe.iv_ref_mid HLP.out (by rw [HPL.out];exact hk) HASC.out HAL.out (by rw [HG.out];omega),HA.out,HG.out,getD_of_get hu,getD_of_get hv])
  obtain ⟨i0,i1⟩:=Pe.ip_bd (lo:=0) (hi:=50000) (x:=x) hax (show x<=b by omega) (by omega) ⟨u0,u1⟩ ⟨v0,v1⟩;have HIP:=hid (show Pe.ip a b u v x=u+(v - u) * (x - a) / (b - a) from rfl);generalize Pe.ip a b u v x=R at *;have HPD:=hid (pval_bd (d:=v - u) (e:=x - a) ⟨by omega,by omega⟩ ⟨by omega,by omega⟩);have HFL:=hid (fun w=>rFloorB ((v - u) * (x - a)) (b - a) (by have:=HPD.out;omega) (by have:=HPD.out;omega) (by omega) (by omega) w);have s1:IntKind.i64.wrap ((k:Int)+1)=(k:Int)+1:=IntWalk.i64_in _ (by omega)
  have s2:((k:Int)+1).toNat=k+1:=by omega
  have s3:0<=(k:Int)+1:=by omega
  have hk1:k<n:=by omega
  have hk2:(k:Int)<(n:Int):=by omega
  have hk3:(k:Int)+1<(n:Int):=by omega
  have d1:IntKind.i64.wrap (v - u)=v - u:=IntWalk.i64_in _ (by omega);have d2:IntKind.i64.wrap (x - a)=x - a:=IntWalk.i64_in _ (by omega);have d3:IntKind.i64.wrap (b - a)=b - a:=IntWalk.i64_in _ (by omega);have d4:IntKind.i64.wrap ((v - u) * (x - a))=(v - u) * (x - a):=IntWalk.i64_in _ (by have:=HPD.out;omega);have q1:∀ m',(w.drewN m').cell? ⟨bp,op+k,none⟩=some (vI a):=fun m'=>CP.out k a m' ha;have q2:∀ m',(w.drewN m').cell? ⟨bp,op+(k+1),none⟩=some (vI b):=fun m'=>CP.out (k+1) b m' hb;have q3:∀ m',(w.drewN m').cell? ⟨bl,ol+k,none⟩=some (vI u):=fun m'=>CL.out k u m' hu;have q4:∀ m',(w.drewN m').cell? ⟨bl,ol+(k+1),none⟩=some (vI v):=fun m'=>CL.out (k+1) v m' hv;have q5:w.cell? ⟨bl,ol+k,none⟩=some (vI u):=CL.out k u 0 hu;clear ha hu hv hb
  go_wp2_with fail
  go_quiet ((go_at_call 174;exact Calls.quiet_of_same (flip (HFL.out _))))
  clear s1 s2 s3 d1 d2 d3 d4 q1 q2 q3 q4;have HR2:=hid (HR.out.trans HIP.out)
  have g1:0<=u+(v - u) * (x - a) / (b - a):=by rw [← HIP.out];exact i0
  have g2:u+(v - u) * (x - a) / (b - a)<=50000:=by rw [← HIP.out];exact i1
  have q6:(w.drewN nq).cell? ⟨bl,ol+k,none⟩=some (vI u):=q5
  go_wp2_with fail
  go_ret
  exact ⟨ret_int HR2.out.symm,_,by first | rfl | exact World.drewN_drewN _ _ _⟩
def colL (T:List (List Int)) (j:Nat):List Int:=T.map fun r=>r.getD j 0
def tabL (al:List Int) (T:List (List Int)) (M:Nat) (alt:Int):List Int:=(List.range M).map fun j=>Pe.iv (al.zip (colL T j)) alt
def tabV (al ms:List Int) (T:List (List Int)) (alt mass:Int):Int:=Pe.iv (ms.zip (tabL al T ms.length alt)) mass
theorem colL_len (T:List (List Int)) (j:Nat):(colL T j).length=T.length:=List.length_map _
theorem colL_getD {T:List (List Int)} {j k:Nat} (h:k<T.length):(colL T j).getD k 0=g2 T k j:=by
 unfold colL g2
 rw [List.getD_eq_getElem?_getD,List.getElem?_map,List.getElem?_eq_getElem h,List.getD_eq_getElem?_getD (l:=T),List.getElem?_eq_getElem h];rfl
theorem tabL_get {al:List Int} {T:List (List Int)} {M:Nat} {alt:Int} {j:Nat} (h:j<M):(tabL al T M alt)[j]? = some (Pe.iv (al.zip (colL T j)) alt):=by
 unfold tabL
 rw [List.getElem?_map,List.getElem?_range h];rfl
theorem tabL_len (al:List Int) (T:List (List Int)) (M:Nat) (alt:Int):(tabL al T M alt).length=M:=by unfold tabL;simp
theorem zip_asc {p l:List Int} (h:Pe.Asc p) (hl:l.length=p.length):Pe.AscP (p.zip l):=by
 unfold Pe.AscP
 rw [List.map_fst_zip (by omega)];exact h
theorem col_bd {w:World} {A:Option Addr} {n M:Nat} {hi:Int} {rs:List Row} (h:Sq w A n M hi rs) {j:Nat} (hj:j<M):∀ y ∈ colL (rowsL rs) j,0<=y∧y<=hi:=by
 intro y hy
 unfold colL rowsL at hy
 rw [List.map_map,List.mem_map] at hy
 obtain ⟨r,hr,rfl⟩:=hy;obtain ⟨x,hx⟩:=get_ex ((h.tab.row r hr).len.trans (h.len r hr)) hj
 show 0<=r.l.getD j 0∧r.l.getD j 0<=hi
 rw [getD_of_get hx]
 exact h.bd r hr x (List.mem_of_getElem? hx)
theorem tabL_bd {w:World} {A:Option Addr} {n M:Nat} {hi:Int} {rs:List Row} (h:Sq w A n M hi rs) {al:List Int} {alt:Int} (ha:Pe.Asc al) (hl:al.length=n) (hn:0<n):∀ y ∈ tabL al (rowsL rs) M alt,0<=y∧y<=hi:=by
 intro y hy
 unfold tabL at hy
 rw [List.mem_map] at hy
 obtain ⟨j,hj,rfl⟩:=hy
 rw [List.mem_range] at hj
 have hc:(colL (rowsL rs) j).length=al.length:=by rw [colL_len,rowsL_len,h.tab.top.len,hl]
 refine Pe.iv_bd _ _ ?_ (zip_asc ha hc) (fun r hr=>col_bd h hj r.2 (List.of_mem_zip hr).2)
 intro e
 have:=congrArg List.length e
 rw [List.length_zip,hc,hl] at this
 simp at this
 omega
theorem tabV_bd {w:World} {A:Option Addr} {n M:Nat} {hi:Int} {rs:List Row} (h:Sq w A n M hi rs) {al ms:List Int} {alt mass:Int} (ha:Pe.Asc al) (hl:al.length=n) (hn:0<n) (hm:Pe.Asc ms) (hml:ms.length=M) (hM:0<M):0<=tabV al ms (rowsL rs) alt mass∧tabV al ms (rowsL rs) alt mass<=hi:=by
 unfold tabV
 rw [hml]
 have hc:(tabL al (rowsL rs) M alt).length=ms.length:=by rw [tabL_len,hml]
 refine Pe.iv_bd _ _ ?_ (zip_asc hm hc) (fun r hr=>tabL_bd h ha hl hn r.2 (List.of_mem_zip hr).2)
 intro e
 have:=congrArg List.length e
 rw [List.length_zip,hc,hml] at this
 simp at this
 omega
theorem RowI.other {w0 w:World} {g n:Nat} {F:Nat→Int} (h:RowI w0 g n F w) (c i:Nat) (v:Value) (hc:g≠c) (hge:w0.heap.size<=c):RowI w0 g n F (w.setCell ⟨c,i,none⟩ v) :=
 ⟨fun j hj=>by rw [World.cell?_setCell_other w ⟨c,i,none⟩ ⟨g,j,none⟩ _ (by intro e;injection e with e _;omega)];exact h.cell j hj,fun o=>by rw [World.frozen?_setCell];exact h.fr o,by simpa [World.setCell] using h.lt,h.ge,h.bel.setCell (p:=⟨c,i,none⟩) hge _⟩
theorem RowI.drewN {w0 w:World} {g n:Nat} {F:Nat→Int} (h:RowI w0 g n F w) (q:Nat):RowI w0 g n F (w.drewN q):=h.below (below_drewN (Below.refl _ _) q)
theorem RowI.madeAt {w0 w:World} (n g:Nat) (hg:w.heap.size=g) (hb:Below w0.heap.size w0 w) (t:TypeId):RowI w0 g n (fun _=>0) (w.alloc (.cells (madeCells #[vI 0] n) t)):=hg ▸ RowI.made n hb t
theorem RowI.ints' {w0 w:World} {g n:Nat} {F:Nat→Int} {l:List Int} (hl:l.length=n) (h:RowI w0 g n F w) (hF:∀ k,k<n→F k=l.getD k 0):Ints w (some ⟨g,0,none⟩) n l :=
 (h.congr (G:=fillF l n) (fun j hj=>by unfold fillF;rw [if_pos hj];exact hF j hj)).ints hl
theorem xTab31 (p:Prf) (A:Option Addr) (c:Nat) (rs:List Row) (alt mass:Int) (w:World) (hl:p.lies w) (hs:Sq w A p.sal.n p.sms.n 50000 rs) (hn0:2<=p.sal.n) (hn:p.sal.n<=12) (hm0:2<=p.sms.n) (hm:p.sms.n<=6) (haa:Pe.Asc p.al) (ham:Pe.Asc p.ms) (hba:∀ y ∈ p.al,-200000<=y∧y<=6000000) (hbm:∀ y ∈ p.ms,1<=y∧y<=3000000000) (halt : -200000<=alt∧alt<=6000000) (hmass:1<=mass∧mass<=3000000000):Calls Tryz.prog 149 #[.agg p.cells.toArray,.slice A p.sal.n c,vI alt,vI mass] w fun e w'=>e=.returned (vI (tabV p.al p.ms (rowsL rs) alt mass))∧Below w.heap.size w w':=by
 have HLI:=hid (fun w1 hB=>hl.below (w':=w1) hB);have HS:=hid (fun w1 hB=>hs.below (w':=w1) hB);have HN:=hid (And.intro hl.al.len hl.ms.len);have HRL:=hid hs.tab.top.len;have HTB:=hid (tabL_bd (alt:=alt) hs haa hl.al.len (by omega));have HAA:=hid haa;have HAM:=hid ham;have HVA:=hid (fun (g:Nat) (C:List Int) (W:World) (hB:Below w.heap.size w W) (hC:Ints W (some ⟨g,0,none⟩) p.sal.n C) (hb:∀ y ∈ C,0<=y∧y<=50000)=>xVal31 p.sal.A (some ⟨g,0,none⟩) p.sal.n p.sal.c p.sal.n p.al C alt W (hl.al.below hB) hC (by omega) hn (fun y hy=>by have:=hba y hy;omega) hb (by omega));have HVM:=hid (fun (g:Nat) (C:List Int) (W:World) (hB:Below w.heap.size w W) (hC:Ints W (some ⟨g,0,none⟩) p.sms.n C) (hb:∀ y ∈ C,0<=y∧y<=50000)=>xVal31 p.sms.A (some ⟨g,0,none⟩) p.sms.n p.sms.c p.sms.n p.ms C mass W (hl.ms.below hB) hC (by omega) (by omega) (fun y hy=>by have:=hbm y hy;omega) hb (by omega));have HV:=hid (show tabV p.al p.ms (rowsL rs) alt mass=Pe.iv (p.ms.zip (tabL p.al (rowsL rs) p.sms.n alt)) mass by unfold tabV;rw [hl.ms.len]);have HPC:=hid (show p.cells[3]? = some (.slice p.sal.A p.sal.n p.sal.c)∧p.cells[4]? = some (.slice p.sms.A p.sms.n p.sms.c) from ⟨rfl,rfl⟩);have HBOX:=hid (fun w=>Has.new w p.cells.toArray 26);have hmk:=run_make_row' (P:=Tryz.prog) 23 2 (vI 0) 8 Tryz.underlying23 infoI64 rfl .i64 .i64 p.sal.n (by omega) (by omega);have hmk2:=run_make_row' (P:=Tryz.prog) 23 2 (vI 0) 8 Tryz.underlying23 infoI64 rfl .i64 .i64 p.sms.n (by omega) (by omega);clear hl hs haa ham hba hbm halt hmass;have e3:=HPC.out.1;have e4:=HPC.out.2;generalize tabV p.al p.ms (rowsL rs) alt mass=V at *;generalize p.cells=C at *;generalize p.sal.A=A1 at *;generalize p.sal.n=n at *;generalize p.sal.c=c1 at *;generalize p.sms.A=A2 at *;generalize p.sms.n=M at *;generalize p.sms.c=c2 at *;generalize p.al=al at *;generalize p.ms=ms at *
 go_enter Tryz.func149,Tryz.ntmps149
 go_wp2_with fail
 have BP:=hid (((HBOX.out w).alloc (.cells (madeCells #[vI 0] M) 2)).alloc (.cells (madeCells #[vI 0] n) 2));have R1:=hid ((RowI.madeAt (w0:=w) M (w.heap.size+1) (by simp) (below_alloc1 w (.cells C.toArray 26)) 2).alloc (.cells (madeCells #[vI 0] n) 2));have R2:=hid (RowI.madeAt (w0:=w) n (w.heap.size+1+1) (by simp) (below_alloc2 w (.cells C.toArray 26) (.cells (madeCells #[vI 0] M) 2)) 2);generalize ((w.alloc (.cells C.toArray 26)).alloc (.cells (madeCells #[vI 0] M) 2)).alloc (.cells (madeCells #[vI 0] n) 2)=w1 at *;clear e3 e4
 go_loopw [23] (fun t wr=>∃ j:Nat,j<=M∧t=vI j∧RowI w (w.heap.size+1) M (fillF (tabL al (rowsL rs) M alt) j) wr∧Has wr w.heap.size C∧∃ G,RowI w (w.heap.size+1+1) n G wr) (fun t _=>M - (intOf t).toNat)
 case atStart=>exact ⟨0,by omega,rfl,R1.out.congr (fun j _=>fillF_zero _ j),BP.out,_,R2.out⟩
 case round =>
  obtain ⟨j,hj,rfl,hR1,hBP,G,hR2⟩:=hrel;replace R1:=hid hR1;replace BP:=hid hBP;replace R2:=hid hR2;clear hR1 hBP hR2
  by_cases hlt:j<M
  rotate_left
  ·have hjm:j=M:=by omega
   exact zM221
  go_wp2_with fail
  go_loopw [28] (fun t wr=>∃ i:Nat,i<=n∧t=vI i∧RowI w (w.heap.size+1) M (fillF (tabL al (rowsL rs) M alt) j) wr∧Has wr w.heap.size C∧∃ G,(∀ k,k<i→G k=g2 (rowsL rs) k j)∧RowI w (w.heap.size+1+1) n G wr) (fun t _=>n - (intOf t).toNat)
  case atStart=>exact ⟨0,by omega,rfl,R1.out,BP.out,_,fun k hk=>by omega,R2.out⟩
  case round =>
   obtain ⟨i,hi,rfl,hR1,hBP,G2,hG,hR2⟩:=hrel;replace R1:=hid hR1;replace BP:=hid hBP;replace R2:=hid hR2;have HG:=hid hG;clear hR1 hBP hR2 hG
   by_cases hil:i<n
   ·obtain ⟨b,off,hA,ct⟩:=top_cell (HS.out _ R1.out.bel) (show 0<n by omega)
    obtain ⟨q,hq⟩:=get_ex HRL.out hil;obtain ⟨b1,o1,x,hA1,hx,x0,x1,c1x⟩:=row_cell (HS.out _ R1.out.bel) hq hlt;have hqn:=(HS.out _ R1.out.bel).len q (List.mem_of_getElem? hq);have r0:wr.cell? ⟨b,off+i,none⟩=some (.slice q.A q.n q.c):=ct i q 0 hq
    rw [hA1,hqn] at r0
    have r1:wr.cell? ⟨b1,o1+j,none⟩=some (vI x):=c1x 0;have HX:=hid (g2_get hq hx);clear ct hq c1x hqn hx hA1;subst hA;have d0:=R2.out.cell i hil;have d1:=R2.out.fr i;have hgl:=R2.out.lt;have hge:=R2.out.ge
    go_wp2_with fail
    go_roundw
    case rel=>exact ⟨i+1,by omega,by go_num,R1.out.other _ _ _ (by omega) hge,BP.out.other _ _ _ (by omega),_,fun k hk=>by
     by_cases e:k=i
     ·subst e;unfold upd;rw [if_pos rfl];exact HX.out.symm
     ·unfold upd;rw [if_neg e];exact HG.out k (by omega),R2.out.set hil x⟩
    case measure=>simp only [intOf];omega
   ·have hin:i=n:=by omega
    have HI:=hid (R2.out.ints' (l:=colL (rowsL rs) j) (by rw [colL_len,rowsL_len];exact HRL.out) (fun k hk=>by rw [colL_getD (by rw [rowsL_len,HRL.out];exact hk)];exact HG.out k (by omega)));have k3:=BP.out.cell 3 _ HPC.out.1;have HC:=hid (HVA.out _ _ _ R1.out.bel HI.out (col_bd (HS.out _ R1.out.bel) hlt));have HTG:=hid (tabL_get (al:=al) (T:=rowsL rs) (alt:=alt) hlt);generalize Pe.iv (al.zip (colL (rowsL rs) j)) alt=V1 at *;clear hin;have d0:=R1.out.cell j hlt;have d1:=R1.out.fr j;have hgl:=R1.out.lt
    go_wp2_with fail
    refine HC.out.mono ?_;rintro e w3 ⟨rfl,q,rfl⟩
    go_wp2_with fail
    go_roundw
    case rel=>exact ⟨j+1,by omega,by go_num,((R1.out.drewN q).set hlt V1).congr (fun k _=>fillF_step HTG.out k),(BP.out.below (below_drewN (Below.refl _ _) q)).other _ _ _ (by omega),_,(R2.out.drewN q).other _ _ _ (by omega) (by omega)⟩
    case measure=>simp only [intOf];omega
theorem rTab31 (p:Prf) (A:Option Addr) (c:Nat) (rs:List Row) (alt mass:Int) (w:World) (hl:p.lies w) (hs:Sq w A p.sal.n p.sms.n 50000 rs) (hn0:2<=p.sal.n) (hn:p.sal.n<=12) (hm0:2<=p.sms.n) (hm:p.sms.n<=6) (haa:Pe.Asc p.al) (ham:Pe.Asc p.ms) (hba:∀ y ∈ p.al,-200000<=y∧y<=6000000) (hbm:∀ y ∈ p.ms,1<=y∧y<=3000000000) (halt : -200000<=alt∧alt<=6000000) (hmass:1<=mass∧mass<=3000000000):Calls Tryz.prog 194 #[.agg p.cells.toArray,.slice A p.sal.n c,vI alt,vI mass] w fun e w'=>e=.returned (vI (tabV p.al p.ms (rowsL rs) alt mass))∧Below w.heap.size w w':=by
 have HLI:=hid (fun w1 hB=>hl.below (w':=w1) hB);have HS:=hid (fun w1 hB=>hs.below (w':=w1) hB);have HN:=hid (And.intro hl.al.len hl.ms.len);have HRL:=hid hs.tab.top.len;have HTB:=hid (tabL_bd (alt:=alt) hs haa hl.al.len (by omega));have HAA:=hid haa;have HAM:=hid ham;have HVA:=hid (fun (g:Nat) (C:List Int) (W:World) (hB:Below w.heap.size w W) (hC:Ints W (some ⟨g,0,none⟩) p.sal.n C) (hb:∀ y ∈ C,0<=y∧y<=50000)=>rAt31 p.sal.A (some ⟨g,0,none⟩) p.sal.n p.sal.c p.sal.n p.al C alt W (hl.al.below hB) hC (by omega) hn haa (fun y hy=>by have:=hba y hy;omega) hb (by omega));have HVM:=hid (fun (g:Nat) (C:List Int) (W:World) (hB:Below w.heap.size w W) (hC:Ints W (some ⟨g,0,none⟩) p.sms.n C) (hb:∀ y ∈ C,0<=y∧y<=50000)=>rAt31 p.sms.A (some ⟨g,0,none⟩) p.sms.n p.sms.c p.sms.n p.ms C mass W (hl.ms.below hB) hC (by omega) (by omega) ham (fun y hy=>by have:=hbm y hy;omega) hb (by omega));have HV:=hid (show tabV p.al p.ms (rowsL rs) alt mass=Pe.iv (p.ms.zip (tabL p.al (rowsL rs) p.sms.n alt)) mass by unfold tabV;rw [hl.ms.len]);have HPC:=hid (show p.cells[3]? = some (.slice p.sal.A p.sal.n p.sal.c)∧p.cells[4]? = some (.slice p.sms.A p.sms.n p.sms.c) from ⟨rfl,rfl⟩);have HBOX:=hid (fun w=>Has.new w p.cells.toArray 26);have hmk:=run_make_row' (P:=Tryz.prog) 23 2 (vI 0) 8 Tryz.underlying23 infoI64 rfl .i64 .i64 p.sal.n (by omega) (by omega);have hmk2:=run_make_row' (P:=Tryz.prog) 23 2 (vI 0) 8 Tryz.underlying23 infoI64 rfl .i64 .i64 p.sms.n (by omega) (by omega);clear hl hs haa ham hba hbm halt hmass;have e3:=HPC.out.1;have e4:=HPC.out.2;generalize tabV p.al p.ms (rowsL rs) alt mass=V at *;generalize p.cells=C at *;generalize p.sal.A=A1 at *;generalize p.sal.n=n at *;generalize p.sal.c=c1 at *;generalize p.sms.A=A2 at *;generalize p.sms.n=M at *;generalize p.sms.c=c2 at *;generalize p.al=al at *;generalize p.ms=ms at *
 go_enter Tryz.func194,Tryz.ntmps194
 go_wp2_with fail
 have BP:=hid ((HBOX.out w).alloc (.cells (madeCells #[vI 0] M) 2));have R1:=hid (RowI.madeAt (w0:=w) M (w.heap.size+1) (by simp) (below_alloc1 w (.cells C.toArray 26)) 2);generalize (w.alloc (.cells C.toArray 26)).alloc (.cells (madeCells #[vI 0] M) 2)=w1 at *;clear e3 e4
 go_loopw [19] (fun t wr=>∃ j:Nat,j<=M∧t=vI j∧RowI w (w.heap.size+1) M (fillF (tabL al (rowsL rs) M alt) j) wr∧Has wr w.heap.size C) (fun t _=>M - (intOf t).toNat)
 case atStart=>exact ⟨0,by omega,rfl,R1.out.congr (fun j _=>fillF_zero _ j),BP.out⟩
 case round =>
  obtain ⟨j,hj,rfl,hR1,hBP⟩:=hrel;replace R1:=hid hR1;replace BP:=hid hBP;clear hR1 hBP
  by_cases hlt:j<M
  rotate_left
  ·have hjm:j=M:=by omega
   exact zM221
  have hsz:w.heap.size+1<wr.heap.size:=R1.out.lt;have k3:wr.cell? ⟨w.heap.size,3,none⟩=some (.slice A1 n c1):=BP.out.cell 3 _ HPC.out.1
  go_wp2_with fail
  clear k3;replace BP:=hid (BP.out.alloc (.cells (madeCells #[vI 0] n) 2));have R2:=hid (RowI.made (w0:=w) (w:=wr) n R1.out.bel 2);replace R1:=hid (R1.out.alloc (.cells (madeCells #[vI 0] n) 2));generalize hw2:wr.alloc (.cells (madeCells #[vI 0] n) 2)=w2 at *;generalize hgc:wr.heap.size=gc at *
  go_loopw [28] (fun t wr=>∃ i:Nat,i<=n∧t=vI i∧RowI w (w.heap.size+1) M (fillF (tabL al (rowsL rs) M alt) j) wr∧Has wr w.heap.size C∧∃ G,(∀ k,k<i→G k=g2 (rowsL rs) k j)∧RowI w (gc) n G wr) (fun t _=>n - (intOf t).toNat)
  case atStart=>exact ⟨0,by omega,rfl,R1.out,BP.out,_,fun k hk=>by omega,R2.out⟩
  case round =>
   obtain ⟨i,hi,rfl,hR1,hBP,G2,hG,hR2⟩:=hrel;replace R1:=hid hR1;replace BP:=hid hBP;replace R2:=hid hR2;have HG:=hid hG;clear hR1 hBP hR2 hG
   by_cases hil:i<n
   ·obtain ⟨b,off,hA,ct⟩:=top_cell (HS.out _ R1.out.bel) (show 0<n by omega)
    obtain ⟨q,hq⟩:=get_ex HRL.out hil;obtain ⟨b1,o1,x,hA1,hx,x0,x1,c1x⟩:=row_cell (HS.out _ R1.out.bel) hq hlt;have hqn:=(HS.out _ R1.out.bel).len q (List.mem_of_getElem? hq);have r0:wr.cell? ⟨b,off+i,none⟩=some (.slice q.A q.n q.c):=ct i q 0 hq
    rw [hA1,hqn] at r0
    have r1:wr.cell? ⟨b1,o1+j,none⟩=some (vI x):=c1x 0;have HX:=hid (g2_get hq hx);clear ct hq c1x hqn hx hA1;subst hA;have d0:=R2.out.cell i hil;have d1:=R2.out.fr i;have hgl:=R2.out.lt;have hge:=R2.out.ge
    go_wp2_with fail
    go_roundw
    case rel=>exact ⟨i+1,by omega,by go_num,R1.out.other _ _ _ (by have:=hsz;omega) hge,BP.out.other _ _ _ (by have:=hsz;omega),_,fun k hk=>by
     by_cases e:k=i
     ·subst e;unfold upd;rw [if_pos rfl];exact HX.out.symm
     ·unfold upd;rw [if_neg e];exact HG.out k (by omega),R2.out.set hil x⟩
    case measure=>simp only [intOf];omega
   ·have hin:i=n:=by omega
    have HI:=hid (R2.out.ints' (l:=colL (rowsL rs) j) (by rw [colL_len,rowsL_len];exact HRL.out) (fun k hk=>by rw [colL_getD (by rw [rowsL_len,HRL.out];exact hk)];exact HG.out k (by omega)));have k3:=BP.out.cell 3 _ HPC.out.1;have HC:=hid (HVA.out _ _ _ R1.out.bel HI.out (col_bd (HS.out _ R1.out.bel) hlt));have HTG:=hid (tabL_get (al:=al) (T:=rowsL rs) (alt:=alt) hlt);generalize Pe.iv (al.zip (colL (rowsL rs) j)) alt=V1 at *;clear hin;have d0:=R1.out.cell j hlt;have d1:=R1.out.fr j;have hgl:=R1.out.lt
    go_wp2_with fail
    refine HC.out.mono ?_;rintro e w3 ⟨rfl,q,rfl⟩
    go_wp2_with fail
    go_roundw
    case rel=>exact ⟨j+1,by omega,by go_num,((R1.out.drewN q).set hlt V1).congr (fun k _=>fillF_step HTG.out k),(BP.out.below (below_drewN (Below.refl _ _) q)).other _ _ _ (by omega)⟩
    case measure=>simp only [intOf];omega
end Go.Proofs.YtheepmnhpclimaaGreat
