/- M23: PeFn, Stp in one text. -/
import Derived.Test.YtedcanagfajcgaaGreatPeTab
import Derived.Deep.RegionHeld3
import Derived.Test.YtedcanagfajcgaaGreatM11
set_option linter.unusedSimpArgs false
set_option linter.unusedVariables false
set_option maxRecDepth 100000
set_option maxHeartbeats 2000000
namespace Go.Proofs
theorem JS{G:Prop}(h:G:=by
  go_wp2_with (refine Dw (.tmp 4) rfl rfl rfl (Has.new w p.cells.toArray _) ?_)
  refine (HC.out _).mono ?_;rintro e w1 ⟨rfl,hB⟩
  have HB:=hid (Ap hB);clear hB
  go_wp2_with fail
  go_ret2
  exact ⟨Ay HF.out.symm HE1.out.symm,HB.out⟩):G:=h
theorem Abq{G:Prop}(h:G:=by
  go_wp2_with (refine Dw (.tmp 4) rfl rfl rfl (Has.new w p.cells.toArray _) ?_)
  refine (HC.out _).mono ?_;rintro e w1 ⟨rfl,hB⟩
  have HB:=hid (Ap hB);clear hB
  go_wp2_with fail
  refine (ML _ _ _ _).mono ?_;rintro e wx ⟨rfl,rfl⟩
  rw [GT.out]
  go_wp2_with fail
  go_ret2
  exact ⟨Ay HF.out.symm HE1.out.symm,HB.out⟩):G:=h
theorem Abr{G:Prop}(h:G:=by
  have HU0:=hid hu;clear hu
  go_wp2_with fail
  go_ret2
  exact ⟨Ay (by rw [HF.out,← HQ.out];exact (HZ.out _ HU0.out).symm) HE1.out.symm,HBB.out⟩):G:=h
theorem Abt{G:Prop}(h:G:=by
  rw [e] at HQ
  clear e
  go_wp2_with fail
  go_ret2
  exact ⟨Ay (by rw [HF.out,← HQ.out];exact rise_0.symm) HE1.out.symm,HB.out⟩):G:=h
end Go.Proofs
namespace Go.Proofs.YtedcanagfajcgaaGreat
open Go.RowKit
open Go.Lib (hid)
structure PfG (p:Prf):Prop where
 em:1<=p.em∧p.em<=3000000000
 r2:2<=p.sal.n
 r12:p.sal.n<=12
 c2:2<=p.sms.n
 c6:p.sms.n<=6
 scl:EW (Aj p.cl) p.sal.n p.sms.n=true
 scf:EW (Aj p.cf) p.sal.n p.sms.n=true
 scr:EW (Aj p.cr) p.sal.n p.sms.n=true
 lde:p.sde.n=p.sal.n
 lid:p.sid.n=p.sal.n
 lmx:p.smx.n=p.sal.n
 lmn:p.smn.n=p.sms.n
 aal:Pe.Asc p.al
 ams:Pe.Asc p.ms
 ral:∀ x ∈ p.al,-200000<=x∧x<=6000000
 rce : -200000<=p.ce∧p.ce<=6000000
 rms:∀ x ∈ p.ms,1<=x∧x<=3000000000
 rcl:FW (Aj p.cl) 0 10000=true
 rde:∀ x ∈ p.de,1<=x∧x<=10000
 rcf:FW (Aj p.cf) 0 50000=true
 rcr:FW (Aj p.cr) 0 50000=true
 rid:∀ x ∈ p.id,0<=x∧x<=50000
 rmx:∀ x ∈ p.mx,1<=x∧x<=1000
 rmn:∀ x ∈ p.mn,1<=x∧x<=1000
 rrf:1<=p.rf∧p.rf<=1000
 rex:0<=p.ex∧p.ex<=100
 ccf:Fp (Aj p.cf)=true
 ccr:Fp (Aj p.cr)=true
theorem AO {p:Prf} (h:pfE p=0):PfG p:=by
 have H:=KM (l:=pfL p) (by unfold pfL;simp) h
 unfold pfL at H
 exact ⟨Al.1 (H _ (Au (i:=1) rfl)),of_decide_eq_true (H _ (Au (i:=3) rfl)),of_decide_eq_true (H _ (Au (i:=4) rfl)),of_decide_eq_true (H _ (Au (i:=5) rfl)),of_decide_eq_true (H _ (Au (i:=6) rfl)),(H _ (Au (i:=7) rfl)),(H _ (Au (i:=8) rfl)),(H _ (Au (i:=9) rfl)),of_decide_eq_true (H _ (Au (i:=10) rfl)),of_decide_eq_true (H _ (Au (i:=11) rfl)),of_decide_eq_true (H _ (Au (i:=12) rfl)),of_decide_eq_true (H _ (Au (i:=13) rfl)),of_decide_eq_true (H _ (Au (i:=14) rfl)),of_decide_eq_true (H _ (Au (i:=15) rfl)),Ci (H _ (Au (i:=16) rfl)),Al.1 (H _ (Au (i:=17) rfl)),Ci (H _ (Au (i:=18) rfl)),(H _ (Au (i:=19) rfl)),Ci (H _ (Au (i:=20) rfl)),(H _ (Au (i:=21) rfl)),(H _ (Au (i:=22) rfl)),Ci (H _ (Au (i:=23) rfl)),Ci (H _ (Au (i:=24) rfl)),Ci (H _ (Au (i:=25) rfl)),Al.1 (H _ (Au (i:=26) rfl)),Al.1 (H _ (Au (i:=27) rfl)),(H _ (Au (i:=30) rfl)),(H _ (Au (i:=31) rfl))⟩
theorem Sq.mono {w:World} {A:Option Addr} {n M:Nat} {hi HI:Int} {rs:List Row} (h:Sq w A n M hi rs) (hh:hi<=HI):Sq w A n M HI rs:=⟨h.tab,h.len,fun r hr x hx=>by have:=h.bd r hr x hx;omega⟩
theorem PfG.sq {p:Prf} (g:PfG p) {w:World} {A:Option Addr} {n:Nat} {rs:List Row} {hi:Int} (ht:Tab w A n rs) (h1:EW (Aj rs) p.sal.n p.sms.n=true) (h2:FW (Aj rs) 0 hi=true) (hh:hi<=50000):Sq w A p.sal.n p.sms.n 50000 rs:=by
 have hn:=(Di h1 ht).1;subst hn
 exact (Sq.of ht h1 h2).mono hh
def pcE (p:Prf) (alt mass:Int):Int:=if pfE p≠0 then pfE p else if inB alt (-200000) 6000000=true∧inB mass 1 3000000000=true then 0 else 2
theorem Cv {p:Prf} {alt mass:Int} (h:pcE p alt mass=0):pfE p=0∧(-200000<=alt∧alt<=6000000)∧1<=mass∧mass<=3000000000:=by
 unfold pcE at h
 by_cases h1:pfE p=0
 ·rw [if_neg (by rw [h1];simp)] at h
  by_cases h2:inB alt (-200000) 6000000=true∧inB mass 1 3000000000=true
  ·exact ⟨h1,Al.1 h2.1,Al.1 h2.2⟩
  ·rw [if_neg h2] at h;exact absurd h (by decide)
 ·rw [if_pos h1] at h;exact absurd h h1
theorem pvZ {G:Prop} (h:G:=by
 go_wp2_with (refine Dw (.tmp 2) rfl rfl rfl (Has.new w p.cells.toArray _) ?_)
 refine (HC.out _).mono ?_;rintro e w1 ⟨rfl,hB⟩
 have BP:=hid ((Has.new w p.cells.toArray 26).below hB);have HB:=hid (Ap hB);clear hB
 by_cases he:E=0
 rotate_left
 ·have HF:=hid (HV.out.trans (if_neg he))
  have e1:=Aw he;have e2:=AL e1;clear he
  go_wp2_with fail
  go_ret2
  exact ⟨Ay HF.out.symm rfl,HB.out⟩
 have HF:=hid (HV.out.trans (if_pos he));have k1:=BP.out.cell _ _ (HK.out he).1;have k2:=BP.out.cell _ _ (HK.out he).2;have HVB:=hid (HVA.out he _ HB.out);subst he
 go_wp2_with fail
 refine HVB.out.mono ?_;rintro e w2 ⟨rfl,q,rfl⟩
 go_wp2_with fail
 go_ret2
 exact ⟨Ay HF.out.symm rfl,Ag HB.out q⟩):G:=h
theorem pcZ {G:Prop} (h:G:=by
 go_wp2_with (refine Dw (.tmp 3) rfl rfl rfl (Has.new w p.cells.toArray _) ?_)
 refine (HC.out _).mono ?_;rintro e w1 ⟨rfl,hB⟩
 have HB:=hid (Ap hB);clear hB
 by_cases he:E=0
 rotate_left
 ·have HF:=hid (HV.out.trans (if_pos he))
  have e1:=Aw he;have e2:=AL e1;clear he
  go_wp2_with fail
  go_ret
  exact ⟨Af HF.out.symm,HB.out⟩
 subst he
 go_wp2_with (with_reducible refine (ML _ _ _ _).mono ?_;rintro e wx ⟨rfl,rfl⟩)
 all_goals (go_ret;refine ⟨Af ((HV.out.trans (if_neg (by simp))).trans ?_).symm,HB.out⟩;first | exact if_pos ⟨tT,tT⟩ | exact if_neg (fun h=>absurd h.1 (by rw [show inB alt (-200000) 6000000=false from tT];decide)) | exact if_neg (fun h=>absurd h.2 (by rw [show inB mass 1 3000000000=false from tT];decide)))):G:=h
theorem pgZ {G:Prop} (h:G:=by
 go_wp2_with (refine Dw (.tmp 3) rfl rfl rfl (Has.new w p.cells.toArray _) ?_)
 refine (HC.out _).mono ?_;rintro e w1 ⟨rfl,hB⟩
 have BP:=hid ((Has.new w p.cells.toArray 26).below hB);have HB:=hid (Ap hB);clear hB
 by_cases he:E=0
 rotate_left
 ·have HF:=hid (HV.out.trans (if_neg he))
  have e1:=Aw he;have e2:=AL e1;clear he
  go_wp2_with fail
  go_ret2
  exact ⟨Ay HF.out.symm rfl,HB.out⟩
 have HF:=hid (HV.out.trans (if_pos he));have k1:=BP.out.cell _ _ (HK.out he);have HVB:=hid (HVA.out he _ HB.out);subst he
 go_wp2_with (refine Dw (.tmp 3) rfl rfl rfl BP.out ?_)
 refine HVB.out.mono ?_;rintro e w2 ⟨rfl,hB⟩
 go_wp2_with fail
 go_ret2
 exact ⟨Ay HF.out.symm rfl,Ae HB.out hB⟩):G:=h
theorem FJ (p:Prf) (alt mass:Int) (w:World) (hl:p.lies w) (hok:p.ok):Calls Tryz.prog 174 #[.agg p.cells.toArray,vI alt,vI mass] w fun e w'=>e=.returned (vI (pcE p alt mass))∧Below w.heap.size w w':=by
 have HV:=hid (show pcE p alt mass=if pfE p≠0 then pfE p else if inB alt (-200000) 6000000=true∧inB mass 1 3000000000=true then 0 else 2 from rfl)
 have HC:=hid (fun w1=>P7 p (w.alloc w1) (hl.below (Aa w w1)) hok);generalize pcE p alt mass=EE at *;generalize pfE p=E at *;clear hl hok
 go_enter Tryz.func174,Tryz.ntmps174
 exact pcZ
theorem Fw (p:Prf) (alt mass:Int) (w:World) (hl:p.lies w) (hok:p.ok):Calls Tryz.prog 156 #[.agg p.cells.toArray,vI alt,vI mass] w fun e w'=>e=.returned (vI (pcE p alt mass))∧Below w.heap.size w w':=by
 have HV:=hid (show pcE p alt mass=if pfE p≠0 then pfE p else if inB alt (-200000) 6000000=true∧inB mass 1 3000000000=true then 0 else 2 from rfl)
 have HC:=hid (fun w1=>Pt p (w.alloc w1) (hl.below (Aa w w1)) hok);generalize pcE p alt mass=EE at *;generalize pfE p=E at *;clear hl hok
 go_enter Tryz.func156,Tryz.ntmps156
 exact pcZ
def Im (p:Prf) (alt:Int):Int:=if pcE p alt 1=0 then Pe.iv (p.al.zip p.de) alt else 0
def JV (p:Prf) (alt:Int):Int:=if pcE p alt 1=0 then Pe.iv (p.al.zip p.id) alt else 0
def FV (p:Prf) (alt:Int):Int:=if pcE p alt 1=0 then Pe.iv (p.al.zip p.mx) alt else 0
def JW (p:Prf) (mass:Int):Int:=if pcE p 0 mass=0 then Pe.iv (p.ms.zip p.mn) mass else 0
theorem XV (p:Prf) (alt:Int) (w:World) (hl:p.lies w) (hok:p.ok):Calls Tryz.prog 179 #[.agg p.cells.toArray,vI alt] w fun e w'=>e=.returned (.tuple #[vI (Im p alt),vI (pcE p alt 1)])∧Below w.heap.size w w':=by
 have HV:=hid (show Im p alt=if pcE p alt 1=0 then Pe.iv (p.al.zip p.de) alt else 0 from rfl)
 have HC:=hid (fun w1=>FJ p alt 1 (w.alloc w1) (hl.below (Aa w w1)) hok);have HK:=hid (fun (he:pcE p alt 1=0)=>show p.cells[3]? = some (.slice p.sal.A p.sal.n p.sal.c)∧p.cells[8]? = some (.slice p.sde.A p.sal.n p.sde.c) from ⟨rfl,by rw [← (AO (Cv he).1).lde];rfl⟩)
 have HVA:=hid (fun (he:pcE p alt 1=0) (W:World) (hB:Below w.heap.size w W) =>
  have q:=Cv he;have g:=AO q.1
  JI p.sal.A p.sde.A p.sal.n p.sal.c p.sde.c p.al p.de alt W (hl.below hB).al (by have h:=(hl.below hB).de;rw [g.lde] at h;exact h) (by have:=g.r2;have:=g.c2;omega) (by have:=g.r12;have:=g.c6;omega) (fun y hy=>by have:=g.ral y hy;omega) (fun y hy=>by have:=g.rde y hy;omega) (by have:=q.2.1;omega))
 generalize Im p alt=V at *;generalize Pe.iv (p.al.zip p.de) alt=U at *;generalize pcE p alt 1=E at *;clear hl hok
 go_enter Tryz.func179,Tryz.ntmps179
 exact pvZ
theorem Xa (p:Prf) (alt:Int) (w:World) (hl:p.lies w) (hok:p.ok):Calls Tryz.prog 159 #[.agg p.cells.toArray,vI alt] w fun e w'=>e=.returned (.tuple #[vI (Im p alt),vI (pcE p alt 1)])∧Below w.heap.size w w':=by
 have HV:=hid (show Im p alt=if pcE p alt 1=0 then Pe.iv (p.al.zip p.de) alt else 0 from rfl)
 have HC:=hid (fun w1=>Fw p alt 1 (w.alloc w1) (hl.below (Aa w w1)) hok);have HK:=hid (fun (he:pcE p alt 1=0)=>show p.cells[3]? = some (.slice p.sal.A p.sal.n p.sal.c)∧p.cells[8]? = some (.slice p.sde.A p.sal.n p.sde.c) from ⟨rfl,by rw [← (AO (Cv he).1).lde];rfl⟩)
 have HVA:=hid (fun (he:pcE p alt 1=0) (W:World) (hB:Below w.heap.size w W) =>
  have q:=Cv he;have g:=AO q.1
  Mq p.sal.A p.sde.A p.sal.n p.sal.c p.sde.c p.al p.de alt W (hl.below hB).al (by have h:=(hl.below hB).de;rw [g.lde] at h;exact h) (by have:=g.r2;have:=g.c2;omega) (by have:=g.r12;have:=g.c6;omega) g.aal (fun y hy=>by have:=g.ral y hy;omega) (fun y hy=>by have:=g.rde y hy;omega) (by have:=q.2.1;omega))
 generalize Im p alt=V at *;generalize Pe.iv (p.al.zip p.de) alt=U at *;generalize pcE p alt 1=E at *;clear hl hok
 go_enter Tryz.func159,Tryz.ntmps159
 exact pvZ
theorem UX (p:Prf) (alt:Int) (w:World) (hl:p.lies w) (hok:p.ok):Calls Tryz.prog 106 #[.agg p.cells.toArray,vI alt] w fun e w'=>e=.returned (.tuple #[vI (JV p alt),vI (pcE p alt 1)])∧Below w.heap.size w w':=by
 have HV:=hid (show JV p alt=if pcE p alt 1=0 then Pe.iv (p.al.zip p.id) alt else 0 from rfl)
 have HC:=hid (fun w1=>FJ p alt 1 (w.alloc w1) (hl.below (Aa w w1)) hok);have HK:=hid (fun (he:pcE p alt 1=0)=>show p.cells[3]? = some (.slice p.sal.A p.sal.n p.sal.c)∧p.cells[9]? = some (.slice p.sid.A p.sal.n p.sid.c) from ⟨rfl,by rw [← (AO (Cv he).1).lid];rfl⟩)
 have HVA:=hid (fun (he:pcE p alt 1=0) (W:World) (hB:Below w.heap.size w W) =>
  have q:=Cv he;have g:=AO q.1
  JI p.sal.A p.sid.A p.sal.n p.sal.c p.sid.c p.al p.id alt W (hl.below hB).al (by have h:=(hl.below hB).id;rw [g.lid] at h;exact h) (by have:=g.r2;have:=g.c2;omega) (by have:=g.r12;have:=g.c6;omega) (fun y hy=>by have:=g.ral y hy;omega) (fun y hy=>by have:=g.rid y hy;omega) (by have:=q.2.1;omega))
 generalize JV p alt=V at *;generalize Pe.iv (p.al.zip p.id) alt=U at *;generalize pcE p alt 1=E at *;clear hl hok
 go_enter Tryz.func106,Tryz.ntmps106
 exact pvZ
theorem UE (p:Prf) (alt:Int) (w:World) (hl:p.lies w) (hok:p.ok):Calls Tryz.prog 91 #[.agg p.cells.toArray,vI alt] w fun e w'=>e=.returned (.tuple #[vI (JV p alt),vI (pcE p alt 1)])∧Below w.heap.size w w':=by
 have HV:=hid (show JV p alt=if pcE p alt 1=0 then Pe.iv (p.al.zip p.id) alt else 0 from rfl)
 have HC:=hid (fun w1=>Fw p alt 1 (w.alloc w1) (hl.below (Aa w w1)) hok);have HK:=hid (fun (he:pcE p alt 1=0)=>show p.cells[3]? = some (.slice p.sal.A p.sal.n p.sal.c)∧p.cells[9]? = some (.slice p.sid.A p.sal.n p.sid.c) from ⟨rfl,by rw [← (AO (Cv he).1).lid];rfl⟩)
 have HVA:=hid (fun (he:pcE p alt 1=0) (W:World) (hB:Below w.heap.size w W) =>
  have q:=Cv he;have g:=AO q.1
  Mq p.sal.A p.sid.A p.sal.n p.sal.c p.sid.c p.al p.id alt W (hl.below hB).al (by have h:=(hl.below hB).id;rw [g.lid] at h;exact h) (by have:=g.r2;have:=g.c2;omega) (by have:=g.r12;have:=g.c6;omega) g.aal (fun y hy=>by have:=g.ral y hy;omega) (fun y hy=>by have:=g.rid y hy;omega) (by have:=q.2.1;omega))
 generalize JV p alt=V at *;generalize Pe.iv (p.al.zip p.id) alt=U at *;generalize pcE p alt 1=E at *;clear hl hok
 go_enter Tryz.func91,Tryz.ntmps91
 exact pvZ
theorem UY (p:Prf) (alt:Int) (w:World) (hl:p.lies w) (hok:p.ok):Calls Tryz.prog 185 #[.agg p.cells.toArray,vI alt] w fun e w'=>e=.returned (.tuple #[vI (FV p alt),vI (pcE p alt 1)])∧Below w.heap.size w w':=by
 have HV:=hid (show FV p alt=if pcE p alt 1=0 then Pe.iv (p.al.zip p.mx) alt else 0 from rfl)
 have HC:=hid (fun w1=>FJ p alt 1 (w.alloc w1) (hl.below (Aa w w1)) hok);have HK:=hid (fun (he:pcE p alt 1=0)=>show p.cells[3]? = some (.slice p.sal.A p.sal.n p.sal.c)∧p.cells[10]? = some (.slice p.smx.A p.sal.n p.smx.c) from ⟨rfl,by rw [← (AO (Cv he).1).lmx];rfl⟩)
 have HVA:=hid (fun (he:pcE p alt 1=0) (W:World) (hB:Below w.heap.size w W) =>
  have q:=Cv he;have g:=AO q.1
  JI p.sal.A p.smx.A p.sal.n p.sal.c p.smx.c p.al p.mx alt W (hl.below hB).al (by have h:=(hl.below hB).mx;rw [g.lmx] at h;exact h) (by have:=g.r2;have:=g.c2;omega) (by have:=g.r12;have:=g.c6;omega) (fun y hy=>by have:=g.ral y hy;omega) (fun y hy=>by have:=g.rmx y hy;omega) (by have:=q.2.1;omega))
 generalize FV p alt=V at *;generalize Pe.iv (p.al.zip p.mx) alt=U at *;generalize pcE p alt 1=E at *;clear hl hok
 go_enter Tryz.func185,Tryz.ntmps185
 exact pvZ
theorem UF (p:Prf) (alt:Int) (w:World) (hl:p.lies w) (hok:p.ok):Calls Tryz.prog 96 #[.agg p.cells.toArray,vI alt] w fun e w'=>e=.returned (.tuple #[vI (FV p alt),vI (pcE p alt 1)])∧Below w.heap.size w w':=by
 have HV:=hid (show FV p alt=if pcE p alt 1=0 then Pe.iv (p.al.zip p.mx) alt else 0 from rfl)
 have HC:=hid (fun w1=>Fw p alt 1 (w.alloc w1) (hl.below (Aa w w1)) hok);have HK:=hid (fun (he:pcE p alt 1=0)=>show p.cells[3]? = some (.slice p.sal.A p.sal.n p.sal.c)∧p.cells[10]? = some (.slice p.smx.A p.sal.n p.smx.c) from ⟨rfl,by rw [← (AO (Cv he).1).lmx];rfl⟩)
 have HVA:=hid (fun (he:pcE p alt 1=0) (W:World) (hB:Below w.heap.size w W) =>
  have q:=Cv he;have g:=AO q.1
  Mq p.sal.A p.smx.A p.sal.n p.sal.c p.smx.c p.al p.mx alt W (hl.below hB).al (by have h:=(hl.below hB).mx;rw [g.lmx] at h;exact h) (by have:=g.r2;have:=g.c2;omega) (by have:=g.r12;have:=g.c6;omega) g.aal (fun y hy=>by have:=g.ral y hy;omega) (fun y hy=>by have:=g.rmx y hy;omega) (by have:=q.2.1;omega))
 generalize FV p alt=V at *;generalize Pe.iv (p.al.zip p.mx) alt=U at *;generalize pcE p alt 1=E at *;clear hl hok
 go_enter Tryz.func96,Tryz.ntmps96
 exact pvZ
theorem UZ (p:Prf) (mass:Int) (w:World) (hl:p.lies w) (hok:p.ok):Calls Tryz.prog 184 #[.agg p.cells.toArray,vI mass] w fun e w'=>e=.returned (.tuple #[vI (JW p mass),vI (pcE p 0 mass)])∧Below w.heap.size w w':=by
 have HV:=hid (show JW p mass=if pcE p 0 mass=0 then Pe.iv (p.ms.zip p.mn) mass else 0 from rfl)
 have HC:=hid (fun w1=>FJ p 0 mass (w.alloc w1) (hl.below (Aa w w1)) hok);have HK:=hid (fun (he:pcE p 0 mass=0)=>show p.cells[4]? = some (.slice p.sms.A p.sms.n p.sms.c)∧p.cells[11]? = some (.slice p.smn.A p.sms.n p.smn.c) from ⟨rfl,by rw [← (AO (Cv he).1).lmn];rfl⟩)
 have HVA:=hid (fun (he:pcE p 0 mass=0) (W:World) (hB:Below w.heap.size w W) =>
  have q:=Cv he;have g:=AO q.1
  JI p.sms.A p.smn.A p.sms.n p.sms.c p.smn.c p.ms p.mn mass W (hl.below hB).ms (by have h:=(hl.below hB).mn;rw [g.lmn] at h;exact h) (by have:=g.r2;have:=g.c2;omega) (by have:=g.r12;have:=g.c6;omega) (fun y hy=>by have:=g.rms y hy;omega) (fun y hy=>by have:=g.rmn y hy;omega) (by have:=q.2.2;omega))
 generalize JW p mass=V at *;generalize Pe.iv (p.ms.zip p.mn) mass=U at *;generalize pcE p 0 mass=E at *;clear hl hok
 go_enter Tryz.func184,Tryz.ntmps184
 exact pvZ
theorem UG (p:Prf) (mass:Int) (w:World) (hl:p.lies w) (hok:p.ok):Calls Tryz.prog 94 #[.agg p.cells.toArray,vI mass] w fun e w'=>e=.returned (.tuple #[vI (JW p mass),vI (pcE p 0 mass)])∧Below w.heap.size w w':=by
 have HV:=hid (show JW p mass=if pcE p 0 mass=0 then Pe.iv (p.ms.zip p.mn) mass else 0 from rfl)
 have HC:=hid (fun w1=>Fw p 0 mass (w.alloc w1) (hl.below (Aa w w1)) hok);have HK:=hid (fun (he:pcE p 0 mass=0)=>show p.cells[4]? = some (.slice p.sms.A p.sms.n p.sms.c)∧p.cells[11]? = some (.slice p.smn.A p.sms.n p.smn.c) from ⟨rfl,by rw [← (AO (Cv he).1).lmn];rfl⟩)
 have HVA:=hid (fun (he:pcE p 0 mass=0) (W:World) (hB:Below w.heap.size w W) =>
  have q:=Cv he;have g:=AO q.1
  Mq p.sms.A p.smn.A p.sms.n p.sms.c p.smn.c p.ms p.mn mass W (hl.below hB).ms (by have h:=(hl.below hB).mn;rw [g.lmn] at h;exact h) (by have:=g.r2;have:=g.c2;omega) (by have:=g.r12;have:=g.c6;omega) g.ams (fun y hy=>by have:=g.rms y hy;omega) (fun y hy=>by have:=g.rmn y hy;omega) (by have:=q.2.2;omega))
 generalize JW p mass=V at *;generalize Pe.iv (p.ms.zip p.mn) mass=U at *;generalize pcE p 0 mass=E at *;clear hl hok
 go_enter Tryz.func94,Tryz.ntmps94
 exact pvZ
def KH (p:Prf) (alt mass:Int):Int:=if pcE p alt mass=0 then BQ p.al p.ms (Aj p.cf) alt mass else 0
def IP (p:Prf) (alt mass tas:Int):Int:=if pcE p alt mass≠0 then pcE p alt mass else if inB tas 0 4000=true then 0 else 2
def KL (p:Prf) (alt mass tas:Int):Int:=if IP p alt mass tas=0 then min (BQ p.al p.ms (Aj p.cr) alt mass * (1000+p.ex * max (tas - p.rf) 0) / 1000) 50000 else 0
theorem Qj {v x y:Int} (hv:0<=v∧v<=50000) (hx:0<=x∧x<=100) (hy:0<=y∧y<=4000):(0<=x * y∧x * y<=400000)∧0<=v * (1000+x * y)∧v * (1000+x * y)<=20050000000:=by
 have a0:0<=x * y:=BM hx.1 hy.1;have a1:x * y<=100 * 4000:=Int.mul_le_mul hx.2 hy.2 hy.1 (by decide);have b0:0<=v * (1000+x * y):=BM hv.1 (by omega);have b1:v * (1000+x * y)<=50000 * (1000+100 * 4000):=Int.mul_le_mul hv.2 (by omega) (by omega) (by decide)
 omega
def Ep (p:Prf) (mass:Int):Nat→Int→Int
 | 0,a=>a
 | k+1,a=>if p.ce<=a then a else if BQ p.al p.ms (Aj p.cl) a mass=0 then a else Ep p mass k (min (a+BQ p.al p.ms (Aj p.cl) a mass) p.ce)
def rsE (p:Prf) (alt mass ticks:Int):Int:=if pcE p alt mass≠0 then pcE p alt mass else if inB ticks 0 50000=true then 0 else 2
def rsV (p:Prf) (alt mass ticks:Int):Int:=if rsE p alt mass ticks=0 then Ep p mass ticks.toNat alt else 0
theorem Rx (p:Prf) (alt mass:Int) (w:World) (hl:p.lies w) (hok:p.ok):Calls Tryz.prog 104 #[.agg p.cells.toArray,vI alt,vI mass] w fun e w'=>e=.returned (.tuple #[vI (KH p alt mass),vI (pcE p alt mass)])∧Below w.heap.size w w':=by
 have HV:=hid (show KH p alt mass=if pcE p alt mass=0 then BQ p.al p.ms (Aj p.cf) alt mass else 0 from rfl)
 have HC:=hid (fun w1=>FJ p alt mass (w.alloc w1) (hl.below (Aa w w1)) hok);have HK:=hid (fun (he:pcE p alt mass=0)=>show p.cells[6]? = some (.slice p.scf.A p.sal.n p.scf.c) from by rw [← (Di (AO (Cv he).1).scf hl.cf).1];rfl)
 have HVA:=hid (fun (he:pcE p alt mass=0) (W:World) (hB:Below w.heap.size w W) =>
  have q:=Cv he;have g:=AO q.1
  RD p p.scf.A p.scf.c p.cf alt mass W (hl.below hB) (g.sq (hl.below hB).cf g.scf g.rcf (by decide)) g.r2 g.r12 g.c2 g.c6 g.aal g.ams g.ral g.rms q.2.1 q.2.2)
 generalize KH p alt mass=V at *;generalize BQ p.al p.ms (Aj p.cf) alt mass=U at *;generalize pcE p alt mass=E at *;clear hl hok
 go_enter Tryz.func104,Tryz.ntmps104
 exact pgZ
theorem QP (p:Prf) (alt mass:Int) (w:World) (hl:p.lies w) (hok:p.ok):Calls Tryz.prog 90 #[.agg p.cells.toArray,vI alt,vI mass] w fun e w'=>e=.returned (.tuple #[vI (KH p alt mass),vI (pcE p alt mass)])∧Below w.heap.size w w':=by
 have HV:=hid (show KH p alt mass=if pcE p alt mass=0 then BQ p.al p.ms (Aj p.cf) alt mass else 0 from rfl)
 have HC:=hid (fun w1=>Fw p alt mass (w.alloc w1) (hl.below (Aa w w1)) hok);have HK:=hid (fun (he:pcE p alt mass=0)=>show p.cells[6]? = some (.slice p.scf.A p.sal.n p.scf.c) from by rw [← (Di (AO (Cv he).1).scf hl.cf).1];rfl)
 have HVA:=hid (fun (he:pcE p alt mass=0) (W:World) (hB:Below w.heap.size w W) =>
  have q:=Cv he;have g:=AO q.1
  QV p p.scf.A p.scf.c p.cf alt mass W (hl.below hB) (g.sq (hl.below hB).cf g.scf g.rcf (by decide)) g.r2 g.r12 g.c2 g.c6 g.aal g.ams g.ral g.rms q.2.1 q.2.2)
 generalize KH p alt mass=V at *;generalize BQ p.al p.ms (Aj p.cf) alt mass=U at *;generalize pcE p alt mass=E at *;clear hl hok
 go_enter Tryz.func90,Tryz.ntmps90
 exact pgZ
theorem Nu {p:Prf} {W:World} {b:Nat} (h:Has W b p.cells):W.cell? ⟨b,0,none⟩=some (.string p.nm)∧W.cell? ⟨b,1,none⟩=some (vI p.em)∧W.cell? ⟨b,2,none⟩=some (vI p.mf)∧W.cell? ⟨b,3,none⟩=some (.slice p.sal.A p.sal.n p.sal.c)∧W.cell? ⟨b,4,none⟩=some (.slice p.sms.A p.sms.n p.sms.c)∧W.cell? ⟨b,5,none⟩=some (.slice p.scl.A p.scl.n p.scl.c)∧W.cell? ⟨b,6,none⟩=some (.slice p.scf.A p.scf.n p.scf.c)∧W.cell? ⟨b,7,none⟩=some (.slice p.scr.A p.scr.n p.scr.c)∧W.cell? ⟨b,8,none⟩=some (.slice p.sde.A p.sde.n p.sde.c)∧W.cell? ⟨b,9,none⟩=some (.slice p.sid.A p.sid.n p.sid.c)∧W.cell? ⟨b,10,none⟩=some (.slice p.smx.A p.smx.n p.smx.c)∧W.cell? ⟨b,11,none⟩=some (.slice p.smn.A p.smn.n p.smn.c)∧W.cell? ⟨b,12,none⟩=some (vI p.rf)∧W.cell? ⟨b,13,none⟩=some (vI p.ex)∧W.cell? ⟨b,14,none⟩=some (vI p.ce):=⟨h.cell 0 _ rfl,h.cell 1 _ rfl,h.cell 2 _ rfl,h.cell 3 _ rfl,h.cell 4 _ rfl,h.cell 5 _ rfl,h.cell 6 _ rfl,h.cell 7 _ rfl,h.cell 8 _ rfl,h.cell 9 _ rfl,h.cell 10 _ rfl,h.cell 11 _ rfl,h.cell 12 _ rfl,h.cell 13 _ rfl,h.cell 14 _ rfl⟩
theorem Po (p:Prf) (alt mass tas:Int) (w:World) (hl:p.lies w) (hok:p.ok):Calls Tryz.prog 92 #[.agg p.cells.toArray,vI alt,vI mass,vI tas] w fun e w'=>e=.returned (.tuple #[vI (KL p alt mass tas),vI (IP p alt mass tas)])∧Below w.heap.size w w':=by
 have HE:=hid (show IP p alt mass tas=if pcE p alt mass≠0 then pcE p alt mass else if inB tas 0 4000=true then 0 else 2 from rfl)
 have HV:=hid (show KL p alt mass tas=if IP p alt mass tas=0 then min (BQ p.al p.ms (Aj p.cr) alt mass * (1000+p.ex * max (tas - p.rf) 0) / 1000) 50000 else 0 from rfl)
 have HC:=hid (fun w1=>Fw p alt mass (w.alloc w1) (hl.below (Aa w w1)) hok);generalize KL p alt mass tas=V at *;generalize IP p alt mass tas=EE at *
 by_cases he:pcE p alt mass=0
 rotate_left
 ·have HE1:=hid (HE.out.trans (if_pos he))
  have HF:=hid (HV.out.trans (if_neg (by rw [HE1.out];exact he)));generalize pcE p alt mass=E at *;have e1:=Aw he;have e2:=AL e1;clear HV HE he hl hok
  go_enter Tryz.func92,Tryz.ntmps92
  exact JS
 replace HE:=hid (HE.out.trans (if_neg (by rw [he];simp)));obtain ⟨hp0,ha,hm⟩:=Cv he;have g:=AO hp0;have HTB:=hid (fun (W:World) (hB:Below w.heap.size w W)=>QV p p.scr.A p.scr.c p.cr alt mass W (hl.below hB) (g.sq (hl.below hB).cr g.scr g.rcr (by decide)) g.r2 g.r12 g.c2 g.c6 g.aal g.ams g.ral g.rms ha hm);have HPC:=hid (show p.cells[7]? = some (.slice p.scr.A p.sal.n p.scr.c)∧p.cells[12]? = some (vI p.rf)∧p.cells[13]? = some (vI p.ex) from ⟨by rw [← (Di g.scr hl.cr).1];rfl,rfl,rfl⟩);have tb:=Kl (alt:=alt) (mass:=mass) (g.sq hl.cr g.scr g.rcr (by decide)) g.aal hl.al.len (by have:=g.r2;omega) g.ams hl.ms.len (by have:=g.c2;omega);obtain ⟨f0,f1⟩:=g.rrf;have hx:=g.rex
 rw [he] at HC
 clear hp0 ha hm g hl hok he;generalize BQ p.al p.ms (Aj p.cr) alt mass=U at *
 by_cases a1:tas<0
 ·have HE1:=hid (HE.out.trans (if_neg (by rw [Al];omega)))
  have HF:=hid (HV.out.trans (if_neg (by rw [HE1.out];decide)))
  go_enter Tryz.func92,Tryz.ntmps92
  exact JS
 by_cases a2:4000<tas
 ·have HE1:=hid (HE.out.trans (if_neg (by rw [Al];omega)))
  have HF:=hid (HV.out.trans (if_neg (by rw [HE1.out];decide)))
  go_enter Tryz.func92,Tryz.ntmps92
  exact JS
 have GT:=hid (show inB tas 0 4000=true from Al.2 (by omega))
 have t0:0<=tas:=by omega
 have t1:tas<=4000:=by omega
 have HE1:=hid (HE.out.trans (if_pos GT.out));have HF:=hid (HV.out.trans (if_pos HE1.out));obtain ⟨⟨y0,y1⟩,y2,y3⟩:=Qj tb hx (y:=max (tas - p.rf) 0) (by omega);clear tb hx HE HV
 go_enter Tryz.func92,Tryz.ntmps92
 go_wp2_with (refine Dw (.tmp 4) rfl rfl rfl (Has.new w p.cells.toArray _) ?_)
 refine (HC.out _).mono ?_;rintro e w1 ⟨rfl,hB⟩
 have BP:=hid ((Has.new w p.cells.toArray 26).below hB);have HB:=hid (Ap hB);clear hB
 have k1:w1.cell? ⟨w.heap.size,7,none⟩=some (.slice p.scr.A p.sal.n p.scr.c):=BP.out.cell 7 _ HPC.out.1
 go_wp2_with (refine Dw (.tmp 4) rfl rfl rfl BP.out ?_)
 refine (HTB.out _ HB.out).mono ?_;rintro e w2 ⟨rfl,hB⟩
 replace BP:=hid (BP.out.below hB);have k12:w2.cell? ⟨w.heap.size,12,none⟩=some (vI p.rf):=BP.out.cell 12 _ HPC.out.2.1;have k13:w2.cell? ⟨w.heap.size,13,none⟩=some (vI p.ex):=BP.out.cell 13 _ HPC.out.2.2;have HBB:=hid (Ae HB.out hB);clear hB
 go_wp2_with fail
 go_ret2
 exact ⟨Ay HF.out.symm HE1.out.symm,HBB.out⟩
theorem PZ (p:Prf) (alt mass tas:Int) (w:World) (hl:p.lies w) (hok:p.ok):Calls Tryz.prog 105 #[.agg p.cells.toArray,vI alt,vI mass,vI tas] w fun e w'=>e=.returned (.tuple #[vI (KL p alt mass tas),vI (IP p alt mass tas)])∧Below w.heap.size w w':=by
 have HE:=hid (show IP p alt mass tas=if pcE p alt mass≠0 then pcE p alt mass else if inB tas 0 4000=true then 0 else 2 from rfl)
 have HV:=hid (show KL p alt mass tas=if IP p alt mass tas=0 then min (BQ p.al p.ms (Aj p.cr) alt mass * (1000+p.ex * max (tas - p.rf) 0) / 1000) 50000 else 0 from rfl)
 have HC:=hid (fun w1=>FJ p alt mass (w.alloc w1) (hl.below (Aa w w1)) hok);generalize KL p alt mass tas=V at *;generalize IP p alt mass tas=EE at *
 by_cases he:pcE p alt mass=0
 rotate_left
 ·have HE1:=hid (HE.out.trans (if_pos he))
  have HF:=hid (HV.out.trans (if_neg (by rw [HE1.out];exact he)));generalize pcE p alt mass=E at *;have e1:=Aw he;have e2:=AL e1;clear HV HE he hl hok
  go_enter Tryz.func105,Tryz.ntmps105
  exact JS
 replace HE:=hid (HE.out.trans (if_neg (by rw [he];simp)));obtain ⟨hp0,ha,hm⟩:=Cv he;have g:=AO hp0;have HTB:=hid (fun (W:World) (hB:Below w.heap.size w W)=>RD p p.scr.A p.scr.c p.cr alt mass W (hl.below hB) (g.sq (hl.below hB).cr g.scr g.rcr (by decide)) g.r2 g.r12 g.c2 g.c6 g.aal g.ams g.ral g.rms ha hm);have HPC:=hid (show p.cells[7]? = some (.slice p.scr.A p.sal.n p.scr.c)∧p.cells[12]? = some (vI p.rf)∧p.cells[13]? = some (vI p.ex) from ⟨by rw [← (Di g.scr hl.cr).1];rfl,rfl,rfl⟩);replace HTB:=hid (show ∀ (W:World),Below w.heap.size w W→Calls Tryz.prog 175 #[.agg p.cells.toArray,.slice p.scr.A p.scr.n p.scr.c,vI alt,vI mass] W fun e w'=>e=.returned (vI (BQ p.al p.ms (Aj p.cr) alt mass))∧Below W.heap.size W w' from fun W hB=>by rw [(Di g.scr hl.cr).1];exact HTB.out W hB);have tb:=Kl (alt:=alt) (mass:=mass) (g.sq hl.cr g.scr g.rcr (by decide)) g.aal hl.al.len (by have:=g.r2;omega) g.ams hl.ms.len (by have:=g.c2;omega);obtain ⟨f0,f1⟩:=g.rrf;have hx:=g.rex
 rw [he] at HC
 clear hp0 ha hm g hl hok he;generalize BQ p.al p.ms (Aj p.cr) alt mass=U at *
 cases gt:inB tas 0 4000
 ·have HE1:=hid (HE.out.trans (if_neg (by rw [gt];decide)))
  have HF:=hid (HV.out.trans (if_neg (by rw [HE1.out];decide)));have GT:=hid gt;clear gt
  go_enter Tryz.func105,Tryz.ntmps105
  exact Abq
 have GT:=hid gt;obtain ⟨t0,t1⟩:=Al.1 gt;clear gt;have HE1:=hid (HE.out.trans (if_pos GT.out));have HF:=hid (HV.out.trans (if_pos HE1.out));obtain ⟨⟨y0,y1⟩,y2,y3⟩:=Qj tb hx (y:=max (tas - p.rf) 0) (by omega);clear tb hx HE HV
 go_enter Tryz.func105,Tryz.ntmps105
 go_wp2_with (refine Dw (.tmp 4) rfl rfl rfl (Has.new w p.cells.toArray _) ?_)
 refine (HC.out _).mono ?_;rintro e w1 ⟨rfl,hB⟩
 have BP:=hid ((Has.new w p.cells.toArray 26).below hB);have HB:=hid (Ap hB);clear hB
 go_wp2_with fail
 refine (ML _ _ _ _).mono ?_;rintro e wx ⟨rfl,rfl⟩
 rw [GT.out]
 have S0:=Nu BP.out;obtain ⟨k0,k1,k2,k3,k4,k5,k6,k7,k8,k9,k10,k11,k12,k13,k14⟩:=S0
 go_wp2_with fail
 go_region_held3 (fun W=>W.cell? ⟨w.heap.size,0,none⟩=some (.string p.nm)∧W.cell? ⟨w.heap.size,1,none⟩=some (vI p.em)∧W.cell? ⟨w.heap.size,2,none⟩=some (vI p.mf)∧W.cell? ⟨w.heap.size,3,none⟩=some (.slice p.sal.A p.sal.n p.sal.c)∧W.cell? ⟨w.heap.size,4,none⟩=some (.slice p.sms.A p.sms.n p.sms.c)∧W.cell? ⟨w.heap.size,5,none⟩=some (.slice p.scl.A p.scl.n p.scl.c)∧W.cell? ⟨w.heap.size,6,none⟩=some (.slice p.scf.A p.scf.n p.scf.c)∧W.cell? ⟨w.heap.size,7,none⟩=some (.slice p.scr.A p.scr.n p.scr.c)∧W.cell? ⟨w.heap.size,8,none⟩=some (.slice p.sde.A p.sde.n p.sde.c)∧W.cell? ⟨w.heap.size,9,none⟩=some (.slice p.sid.A p.sid.n p.sid.c)∧W.cell? ⟨w.heap.size,10,none⟩=some (.slice p.smx.A p.smx.n p.smx.c)∧W.cell? ⟨w.heap.size,11,none⟩=some (.slice p.smn.A p.smn.n p.smn.c)∧W.cell? ⟨w.heap.size,12,none⟩=some (vI p.rf)∧W.cell? ⟨w.heap.size,13,none⟩=some (vI p.ex)∧W.cell? ⟨w.heap.size,14,none⟩=some (vI p.ce)) ((first | exact Nu (Hid.out (by assumption)) | exact Nu (Has.drew (Hid.out (by assumption))))) ((go_at_call 175;refine (HTB.out _ (by first | exact Hid.out (by assumption) | exact Below.drew (Hid.out (by assumption)))).mono ?_;rintro e wx ⟨rfl,hB⟩;have KC:Hid (Has wx w.heap.size p.cells):=hid (Has.below (by first | exact Hid.out (by assumption) | exact Has.drew (Hid.out (by assumption))) hB);have BB:Hid (Below w.heap.size w wx):=hid (Ae (by first | exact Hid.out (by assumption) | exact Below.drew (Hid.out (by assumption))) hB);clear hB))
 all_goals (
  go_wp2_with fail
  go_ret2
  exact ⟨Ay HF.out.symm HE1.out.symm,by first | exact Hid.out (by assumption) | exact Below.drew (Hid.out (by assumption))⟩)
theorem rise_0 {p:Prf} {mass a:Int}:Ep p mass 0 a=a:=rfl
theorem QZ {p:Prf} {mass a:Int} {k:Nat} (h:p.ce<=a):Ep p mass (k+1) a=a:=if_pos h
theorem Rc {p:Prf} {mass a:Int} {k:Nat} (h:¬ p.ce<=a) (h0:BQ p.al p.ms (Aj p.cl) a mass=0):Ep p mass (k+1) a=a:=by
 show (if _ then _ else _)=_
 rw [if_neg h,if_pos h0]
theorem Ra {p:Prf} {mass a:Int} {k:Nat} (h:¬ p.ce<=a) (h0:BQ p.al p.ms (Aj p.cl) a mass≠0):Ep p mass (k+1) a=Ep p mass k (min (a+BQ p.al p.ms (Aj p.cl) a mass) p.ce):=by
 show (if _ then _ else _)=_
 rw [if_neg h,if_neg h0]
theorem AeP (p:Prf) (alt mass ticks:Int) (w:World) (hl:p.lies w) (hok:p.ok):Calls Tryz.prog 181 #[.agg p.cells.toArray,vI alt,vI mass,vI ticks] w fun e w'=>e=.returned (.tuple #[vI (rsV p alt mass ticks),vI (rsE p alt mass ticks)])∧Below w.heap.size w w':=by
 have HE:=hid (show rsE p alt mass ticks=if pcE p alt mass≠0 then pcE p alt mass else if inB ticks 0 50000=true then 0 else 2 from rfl)
 have HV:=hid (show rsV p alt mass ticks=if rsE p alt mass ticks=0 then Ep p mass ticks.toNat alt else 0 from rfl)
 have HC:=hid (fun w1=>FJ p alt mass (w.alloc w1) (hl.below (Aa w w1)) hok);generalize rsV p alt mass ticks=V at *;generalize rsE p alt mass ticks=EE at *
 by_cases he:pcE p alt mass=0
 rotate_left
 ·have HE1:=hid (HE.out.trans (if_pos he))
  have HF:=hid (HV.out.trans (if_neg (by rw [HE1.out];exact he)));generalize pcE p alt mass=E at *;have e1:=Aw he;have e2:=AL e1;clear HV HE he hl hok
  go_enter Tryz.func181,Tryz.ntmps181
  exact JS
 replace HE:=hid (HE.out.trans (if_neg (by rw [he];simp)));obtain ⟨hp0,ha,hm⟩:=Cv he;have g:=AO hp0;have HTB:=hid (fun (a:Int) (ha : -200000<=a∧a<=6000000) (W:World) (hB:Below w.heap.size w W)=>RD p p.scl.A p.scl.c p.cl a mass W (hl.below hB) (g.sq (hl.below hB).cl g.scl g.rcl (by decide)) g.r2 g.r12 g.c2 g.c6 g.aal g.ams g.ral g.rms ha hm);have HTD:=hid (fun (a:Int)=>Kl (alt:=a) (mass:=mass) (g.sq hl.cl g.scl g.rcl (by decide)) g.aal hl.al.len (by have:=g.r2;omega) g.ams hl.ms.len (by have:=g.c2;omega));have HPC:=hid (show p.cells[5]? = some (.slice p.scl.A p.sal.n p.scl.c)∧p.cells[14]? = some (vI p.ce) from ⟨by rw [← (Di g.scl hl.cl).1];rfl,rfl⟩);obtain ⟨f0,f1⟩:=g.rce;have hA:=hid ha
 rw [he] at HC
 clear hp0 ha hm g hl hok he
 cases gt:inB ticks 0 50000
 ·have HE1:=hid (HE.out.trans (if_neg (by rw [gt];decide)))
  have HF:=hid (HV.out.trans (if_neg (by rw [HE1.out];decide)));have GT:=hid gt;clear gt
  go_enter Tryz.func181,Tryz.ntmps181
  exact Abq
 have GT:=hid gt;obtain ⟨t0,t1⟩:=Al.1 gt;clear gt;have HE1:=hid (HE.out.trans (if_pos GT.out));have HF:=hid (HV.out.trans (if_pos HE1.out));clear HE HV;obtain ⟨T,rfl⟩:=Int.eq_ofNat_of_zero_le t0
 rw [show ((T:Int)).toNat=T from by omega] at HF
 generalize hR:Ep p mass T alt=R at *;have HRR:=hid hR;clear hR
 go_enter Tryz.func181,Tryz.ntmps181
 go_wp2_with (refine Dw (.tmp 4) rfl rfl rfl (Has.new w p.cells.toArray _) ?_)
 refine (HC.out _).mono ?_;rintro e w1 ⟨rfl,hB⟩
 have BP:=hid ((Has.new w p.cells.toArray 26).below hB);have HB:=hid (Ap hB);clear hB
 go_wp2_with fail
 refine (ML _ _ _ _).mono ?_;rintro e wx ⟨rfl,rfl⟩
 rw [GT.out]
 go_wp2_with fail
 go_loopw [3,1] (fun t a wr=>∃ (k:Nat) (b:Int),k<=50000∧t=vI k∧a=vI b∧(-200000<=b∧b<=6000000)∧Ep p mass k b=R∧Has wr w.heap.size p.cells∧Below w.heap.size w wr) (fun t _ _=>(intOf t).toNat)
 case atStart=>exact ⟨T,alt,by omega,rfl,rfl,hA.out,HRR.out,BP.out,HB.out⟩
 case round =>
  obtain ⟨k,b,hi,rfl,rfl,⟨b0,b1⟩,hq,hBP,hBW⟩:=hrel;have HQ:=hid hq;replace BP:=hid hBP;replace HB:=hid hBW;clear hq hBP hBW
  by_cases hlt:0<k
  rotate_left
  ·have e:k=0:=by omega
   have hgd:decide (0<k)=false:=BJ hlt
   exact Abt
  obtain ⟨k,rfl⟩:∃ m,k=m+1:=⟨k - 1,by omega⟩
  rw [show ((k+1:Nat):Int)=(k:Int)+1 from by omega]
  have k14:=BP.out.cell 14 _ HPC.out.2
  by_cases hc:p.ce<=b
  ·go_wp2_with fail
   go_ret2
   exact ⟨Ay (by rw [HF.out,← HQ.out];exact (QZ hc).symm) HE1.out.symm,HB.out⟩
  have k5:=BP.out.cell 5 _ HPC.out.1;have HT:=hid (HTB.out b ⟨b0,b1⟩ _ HB.out);have HU:=hid (HTD.out b);have HS:=hid (fun k h0=>Ra (p:=p) (mass:=mass) (a:=b) (k:=k) hc h0);have HZ:=hid (fun k h0=>Rc (p:=p) (mass:=mass) (a:=b) (k:=k) hc h0);generalize BQ p.al p.ms (Aj p.cl) b mass=U at *;obtain ⟨u0,u1⟩:=HU.out
  go_wp2_with (refine Dw (.tmp 4) rfl rfl rfl BP.out ?_)
  clear k14 k5
  refine HT.out.mono ?_;rintro e w2 ⟨rfl,hB⟩
  replace BP:=hid (BP.out.below hB);have HBB:=hid (Ae HB.out hB);clear hB;have k14:=BP.out.cell 14 _ HPC.out.2
  by_cases hu:U=0
  ·have e0:(U == 0)=true:=by rw [beq_iff_eq];exact hu
   exact Abr
  have e0:=Aw hu;have HQ2:=hid ((HS.out _ hu).symm.trans HQ.out)
  go_wp2_with fail
  go_roundw
  case rel=>exact ⟨k,_,by omega,by go_num,rfl,by omega,HQ2.out,BP.out,HBB.out⟩
  case measure=>exact zMs
theorem Zp (p:Prf) (alt mass ticks:Int) (w:World) (hl:p.lies w) (hok:p.ok):Calls Tryz.prog 161 #[.agg p.cells.toArray,vI alt,vI mass,vI ticks] w fun e w'=>e=.returned (.tuple #[vI (rsV p alt mass ticks),vI (rsE p alt mass ticks)])∧Below w.heap.size w w':=by
 have HE:=hid (show rsE p alt mass ticks=if pcE p alt mass≠0 then pcE p alt mass else if inB ticks 0 50000=true then 0 else 2 from rfl)
 have HV:=hid (show rsV p alt mass ticks=if rsE p alt mass ticks=0 then Ep p mass ticks.toNat alt else 0 from rfl)
 have HC:=hid (fun w1=>Fw p alt mass (w.alloc w1) (hl.below (Aa w w1)) hok);generalize rsV p alt mass ticks=V at *;generalize rsE p alt mass ticks=EE at *
 by_cases he:pcE p alt mass=0
 rotate_left
 ·have HE1:=hid (HE.out.trans (if_pos he))
  have HF:=hid (HV.out.trans (if_neg (by rw [HE1.out];exact he)));generalize pcE p alt mass=E at *;have e1:=Aw he;have e2:=AL e1;clear HV HE he hl hok
  go_enter Tryz.func161,Tryz.ntmps161
  exact JS
 replace HE:=hid (HE.out.trans (if_neg (by rw [he];simp)));obtain ⟨hp0,ha,hm⟩:=Cv he;have g:=AO hp0;have HTB:=hid (fun (a:Int) (ha : -200000<=a∧a<=6000000) (W:World) (hB:Below w.heap.size w W)=>QV p p.scl.A p.scl.c p.cl a mass W (hl.below hB) (g.sq (hl.below hB).cl g.scl g.rcl (by decide)) g.r2 g.r12 g.c2 g.c6 g.aal g.ams g.ral g.rms ha hm);have HTD:=hid (fun (a:Int)=>Kl (alt:=a) (mass:=mass) (g.sq hl.cl g.scl g.rcl (by decide)) g.aal hl.al.len (by have:=g.r2;omega) g.ams hl.ms.len (by have:=g.c2;omega));have HPC:=hid (show p.cells[5]? = some (.slice p.scl.A p.sal.n p.scl.c)∧p.cells[14]? = some (vI p.ce) from ⟨by rw [← (Di g.scl hl.cl).1];rfl,rfl⟩);obtain ⟨f0,f1⟩:=g.rce;have hA:=hid ha
 rw [he] at HC
 clear hp0 ha hm g hl hok he
 by_cases a1:ticks<0
 ·have HE1:=hid (HE.out.trans (if_neg (by rw [Al];omega)))
  have HF:=hid (HV.out.trans (if_neg (by rw [HE1.out];decide)))
  go_enter Tryz.func161,Tryz.ntmps161
  exact JS
 by_cases a2:50000<ticks
 ·have HE1:=hid (HE.out.trans (if_neg (by rw [Al];omega)))
  have HF:=hid (HV.out.trans (if_neg (by rw [HE1.out];decide)))
  go_enter Tryz.func161,Tryz.ntmps161
  exact JS
 have GT:=hid (show inB ticks 0 50000=true from Al.2 (by omega))
 have t0:0<=ticks:=by omega
 have t1:ticks<=50000:=by omega
 have HE1:=hid (HE.out.trans (if_pos GT.out));have HF:=hid (HV.out.trans (if_pos HE1.out));clear HE HV;obtain ⟨T,rfl⟩:=Int.eq_ofNat_of_zero_le t0
 rw [show ((T:Int)).toNat=T from by omega] at HF
 generalize hR:Ep p mass T alt=R at *;have HRR:=hid hR;clear hR
 go_enter Tryz.func161,Tryz.ntmps161
 go_wp2_with (refine Dw (.tmp 4) rfl rfl rfl (Has.new w p.cells.toArray _) ?_)
 refine (HC.out _).mono ?_;rintro e w1 ⟨rfl,hB⟩
 have BP:=hid ((Has.new w p.cells.toArray 26).below hB);have HB:=hid (Ap hB);clear hB
 go_wp2_with fail
 go_loopw [26,1] (fun t a wr=>∃ (i:Nat) (b:Int),i<=T∧t=vI i∧a=vI b∧(-200000<=b∧b<=6000000)∧Ep p mass (T - i) b=R∧Has wr w.heap.size p.cells∧Below w.heap.size w wr) (fun t _ _=>T - (intOf t).toNat)
 case atStart=>exact ⟨0,alt,by omega,rfl,rfl,hA.out,by rw [Nat.sub_zero];exact HRR.out,BP.out,HB.out⟩
 case round =>
  obtain ⟨i,b,hi,rfl,rfl,⟨b0,b1⟩,hq,hBP,hBW⟩:=hrel;have HQ:=hid hq;replace BP:=hid hBP;replace HB:=hid hBW;clear hq hBP hBW
  by_cases hlt:i<T
  rotate_left
  ·have e:T - i=0:=by omega
   exact Abt
  obtain ⟨k,hk⟩:∃ k,T - i=k+1:=⟨T - i - 1,by omega⟩
  rw [hk] at HQ
  have k14:=BP.out.cell 14 _ HPC.out.2
  by_cases hc:p.ce<=b
  ·go_wp2_with fail
   go_ret2
   exact ⟨Ay (by rw [HF.out,← HQ.out];exact (QZ hc).symm) HE1.out.symm,HB.out⟩
  have k5:=BP.out.cell 5 _ HPC.out.1;have HT:=hid (HTB.out b ⟨b0,b1⟩ _ HB.out);have HU:=hid (HTD.out b);have HS:=hid (fun k h0=>Ra (p:=p) (mass:=mass) (a:=b) (k:=k) hc h0);have HZ:=hid (fun k h0=>Rc (p:=p) (mass:=mass) (a:=b) (k:=k) hc h0);generalize BQ p.al p.ms (Aj p.cl) b mass=U at *;obtain ⟨u0,u1⟩:=HU.out
  go_wp2_with (refine Dw (.tmp 4) rfl rfl rfl BP.out ?_)
  clear k14 k5
  refine HT.out.mono ?_;rintro e w2 ⟨rfl,hB⟩
  replace BP:=hid (BP.out.below hB);have HBB:=hid (Ae HB.out hB);clear hB;have k14:=BP.out.cell 14 _ HPC.out.2
  by_cases hu:U=0
  ·have e0:(U == 0)=true:=by rw [beq_iff_eq];exact hu
   exact Abr
  have e0:=Aw hu;have HQ2:=hid ((HS.out _ hu).symm.trans HQ.out)
  go_wp2_with fail
  go_roundw
  case rel=>exact ⟨i+1,_,by omega,by go_num,rfl,by omega,by rw [show T - (i+1)=k by omega,Int.min_comm];exact HQ2.out,BP.out,HBB.out⟩
  case measure=>exact zMs
/-! ### forecasts -/
structure Grd where
 cx:Int
 cy:Int
 ce:Int
 nx:Int
 ny:Int
 sal:Sl
 swi:Sl
 sde:Sl
 er:Int
 al:List Int
 wi:List (Int × Int)
 de:List Int
def Grd.cells (g:Grd):List Value:=[vI g.cx,vI g.cy,vI g.ce,vI g.nx,vI g.ny,.slice g.sal.A g.sal.n g.sal.c,.slice g.swi.A g.swi.n g.swi.c,.slice g.sde.A g.sde.n g.sde.c,vI g.er]
structure Grd.lies (g:Grd) (w:World):Prop where
 al:Ints w g.sal.A g.sal.n g.al
 wi:Pairs w g.swi.A g.swi.n g.wi
 de:Ints w g.sde.A g.sde.n g.de
theorem Grd.lies.below {g:Grd} {w w':World} (h:g.lies w) (hb:Below w.heap.size w w'):g.lies w':=⟨h.al.below hb,h.wi.below hb,h.de.below hb⟩
structure Grd.ok (g:Grd):Prop where
 cx:I64 g.cx
 cy:I64 g.cy
 ce:I64 g.ce
 nx:I64 g.nx
 ny:I64 g.ny
 al:g.sal.n<=maxLen
 wi:g.swi.n<=maxLen
 de:g.sde.n<=maxLen
def gdS (g:Grd):Bool:=(inB g.nx 1 16 && inB g.ny 1 16) && inB g.sal.n 1 8
def gdN (g:Grd):Bool:=decide ((g.swi.n:Int)=g.nx * g.ny * g.sal.n) && decide ((g.sde.n:Int)=g.nx * g.ny * g.sal.n)
def wdB (p:Int × Int):Bool:=inB p.1 (-340) 340 && inB p.2 (-340) 340
def gdV (g:Grd):Bool:=(inB g.cx (-2000000) 2000000 && inB g.cy (-2000000) 2000000 && inB g.ce 1 2000000 && inB g.er 0 60) && (BK g.al (-200000) 6000000) && (g.wi.all wdB && BK g.de (-4000) 4000)
def gdE (g:Grd):Int:=if gdS g=false then 3 else if gdN g=false then 1 else if gdV g=false then 2 else if KA g.al=true then 0 else 9
structure GrG (g:Grd):Prop where
 nx:1<=g.nx∧g.nx<=16
 ny:1<=g.ny∧g.ny<=16
 na:1<=g.sal.n∧g.sal.n<=8
 nw:(g.swi.n:Int)=g.nx * g.ny * g.sal.n
 nd:(g.sde.n:Int)=g.nx * g.ny * g.sal.n
 cx : -2000000<=g.cx∧g.cx<=2000000
 cy : -2000000<=g.cy∧g.cy<=2000000
 ce:1<=g.ce∧g.ce<=2000000
 er:0<=g.er∧g.er<=60
 al:∀ x ∈ g.al,-200000<=x∧x<=6000000
 wi:∀ p ∈ g.wi,(-340<=p.1∧p.1<=340) ∧ -340<=p.2∧p.2<=340
 de:∀ x ∈ g.de,-4000<=x∧x<=4000
 asc:Pe.Asc g.al
theorem Ez {g:Grd} (h:gdE g=0):GrG g:=by
 unfold gdE at h
 by_cases h1:gdS g=false
 ·rw [if_pos h1] at h;exact absurd h (by decide)
 rw [if_neg h1] at h
 by_cases h2:gdN g=false
 ·rw [if_pos h2] at h;exact absurd h (by decide)
 rw [if_neg h2] at h
 by_cases h3:gdV g=false
 ·rw [if_pos h3] at h;exact absurd h (by decide)
 rw [if_neg h3] at h
 by_cases h4:KA g.al=true
 ·rw [Bool.not_eq_false] at h1 h2 h3
  unfold gdS at h1
  unfold gdN at h2
  unfold gdV at h3
  simp only [Bool.and_eq_true,Al,decide_eq_true_eq,List.all_eq_true,BK] at h1 h2 h3
  obtain ⟨⟨a1,a2⟩,a3⟩:=h1;obtain ⟨⟨⟨⟨⟨b1,b2⟩,b3⟩,b4⟩,b5⟩,b6,b7⟩:=h3
  exact ⟨a1,a2,by omega,h2.1,h2.2,b1,b2,b3,b4,b5,fun p hp=>by have:=b6 p hp;unfold wdB at this;simpa [Al] using this,b7,of_decide_eq_true h4⟩
 ·rw [if_neg h4] at h;exact absurd h (by decide)
def elI (g:Grd) (x y z:Int):Nat:=((z * g.ny+y) * g.nx+x).toNat
def elE (g:Grd) (x y z:Int):Int:=(g.wi.getD (elI g x y z) (0,0)).1
def elN (g:Grd) (x y z:Int):Int:=(g.wi.getD (elI g x y z) (0,0)).2
def elD (g:Grd) (x y z:Int):Int:=g.de.getD (elI g x y z) 0
def gAt (g:Grd) (E:Int→Int→Int→Int) (px py alt:Int):Int :=
 Wg.gv E (Wg.sI g.cx g.ce g.nx px) (Wg.sI g.cy g.ce g.ny py) (Wg.lI g.al alt) (Wg.sF g.cx g.ce g.nx px) (Wg.sF g.cy g.ce g.ny py) (Wg.lF g.al alt) g.ce (Wg.lC g.al alt)
structure Hbx where
 x0:Int
 x1:Int
 y0:Int
 y1:Int
 z0:Int
 z1:Int
def hbx (g:Grd) (ax ay bx by_ lo hi:Int):Hbx :=
 ⟨Wg.sI g.cx g.ce g.nx (min ax bx),min (Wg.sI g.cx g.ce g.nx (max ax bx)+1) (g.nx - 1),Wg.sI g.cy g.ce g.ny (min ay by_),min (Wg.sI g.cy g.ce g.ny (max ay by_)+1) (g.ny - 1),Wg.lI g.al lo,min ((Wg.lI g.al hi:Int)+1) ((g.sal.n:Int) - 1)⟩
def hLo (E:Int→Int→Int→Int) (h:Hbx):Int:=Wg.hMn E h.x0 h.x1 h.y0 h.y1 h.z0 h.z1
def hHi (E:Int→Int→Int→Int) (h:Hbx):Int:=Wg.hMx E h.x0 h.x1 h.y0 h.y1 h.z0 h.z1
structure Hul where
 e0:Int
 e1:Int
 n0:Int
 n1:Int
 d0:Int
 d1:Int
def G5 (g:Grd) (h:Hbx):Hul:=⟨hLo (elE g) h - g.er,hHi (elE g) h+g.er,hLo (elN g) h - g.er,hHi (elN g) h+g.er,hLo (elD g) h,hHi (elD g) h⟩
def G6 (g:Grd) (ax ay bx by_ lo hi:Int):Hul:=G5 g (hbx g ax ay bx by_ lo hi)
/-! ### setups -/
structure Nod where
 px:Int
 py:Int
 di:Int
 a0:Int
 a1:Int
 s0:Int
 s1:Int
instance:Inhabited Nod:=⟨⟨0,0,0,0,0,0,0⟩⟩
def Nod.cells (n:Nod):List Value:=(lz7 n.px n.py n.di n.a0 n.a1 n.s0 n.s1)
structure Stp where
 sno:Sl
 no:List Nod
 pf:Prf
 gr:Grd
 ac:Acc
 lv:Int
 cas:Int
 mch:Int
 acc:Int
 dec:Int
 la:Int
 ls:Int
def Stp.cells (s:Stp):List Value:=.slice s.sno.A s.sno.n s.sno.c :: (s.pf.cells ++ (s.gr.cells ++ (s.ac.cells ++ (lz7 s.lv s.cas s.mch s.acc s.dec s.la s.ls))))
structure Stp.lies (s:Stp) (w:World):Prop where
 no:Recs Nod.cells 7 w s.sno.A s.sno.n s.no
 pf:s.pf.lies w
 gr:s.gr.lies w
theorem Stp.lies.below {s:Stp} {w w':World} (h:s.lies w) (hb:Below w.heap.size w w'):s.lies w':=⟨h.no.below hb,h.pf.below hb,h.gr.below hb⟩
structure Stp.ok (s:Stp):Prop where
 no:s.sno.n<=maxLen
 pf:s.pf.ok
 gr:s.gr.ok
 ld:I64 s.ac.ld
 em:I64 s.ac.em
def noE (n:Nod) (i:Nat):Int :=
 if (inB n.px (-2000000) 2000000 && inB n.py (-2000000) 2000000 && inB n.di 0 8000000)=false then 2
 else if i=0∧n.di≠0 then 1
 else if (inB n.a0 (-200000) 6000000 && inB n.a1 (-200000) 6000000 && decide (n.a0<=n.a1))=false then 2
 else if (decide (0<=n.s0) && decide (n.s0<=n.s1) && decide (n.s1<=1000))=false then 2 else 0
def G8:List Nod→Nat→Int
 | [],_=>0
 | n :: t,i=>if noE n i=0 then G8 t (i+1) else noE n i
def suT (s:Stp):Bool:=inB s.lv (-200000) 6000000 && inB s.cas 1 1000 && inB s.mch 1 2000 && inB s.acc 0 1000 && inB s.dec 0 1000 && inB s.la (-200000) 6000000 && inB s.ls 1 1000
def suE (s:Stp):Int :=
 if inB s.sno.n 2 64=false then 3 else if G8 s.no 0≠0 then G8 s.no 0 else if pfE s.pf≠0 then pfE s.pf else if gdE s.gr≠0 then gdE s.gr else if s.ac.E≠0 then s.ac.E else if suT s=true then 0 else 2
structure YD (n:Nod):Prop where
 px : -2000000<=n.px∧n.px<=2000000
 py : -2000000<=n.py∧n.py<=2000000
 di:0<=n.di∧n.di<=8000000
 a0 : -200000<=n.a0
 a1:n.a1<=6000000
 aa:n.a0<=n.a1
 s0:0<=n.s0
 s1:n.s1<=1000
 ss:n.s0<=n.s1
theorem Y9 {n:Nod} {i:Nat} (h:noE n i=0):YD n∧(i=0→n.di=0):=by
 unfold noE at h
 by_cases h1:(inB n.px (-2000000) 2000000 && inB n.py (-2000000) 2000000 && inB n.di 0 8000000)=false
 ·rw [if_pos h1] at h;exact absurd h (by decide)
 rw [if_neg h1] at h
 by_cases h2:i=0∧n.di≠0
 ·rw [if_pos h2] at h;exact absurd h (by decide)
 rw [if_neg h2] at h
 by_cases h3:(inB n.a0 (-200000) 6000000 && inB n.a1 (-200000) 6000000 && decide (n.a0<=n.a1))=false
 ·rw [if_pos h3] at h;exact absurd h (by decide)
 rw [if_neg h3] at h
 by_cases h4:(decide (0<=n.s0) && decide (n.s0<=n.s1) && decide (n.s1<=1000))=false
 ·rw [if_pos h4] at h;exact absurd h (by decide)
 simp only [Bool.not_eq_false,Bool.and_eq_true,Al,decide_eq_true_eq] at h1 h3 h4
 exact ⟨⟨h1.1.1,h1.1.2,h1.2,h3.1.1.1,h3.1.2.2,h3.2,h4.1.1,h4.2,h4.1.2⟩,fun e=>by
  by_cases h5:n.di=0
  ·exact h5
  ·exact absurd ⟨e,h5⟩ h2⟩
theorem AfX:∀ {l:List Nod} {i:Nat},G8 l i=0→∀ k n,l[k]? = some n→YD n∧(i+k=0→n.di=0)
 | [],i,_,k,n,hk=>by simp at hk
 | m :: t,i,h,k,n,hk=>by
  unfold G8 at h
  by_cases h1:noE m i=0
  ·rw [if_pos h1] at h
   cases k with
   | zero=>simp at hk;subst hk;exact Y9 h1
   | succ k=>have:=AfX h k n (by simpa using hk);exact ⟨this.1,fun e=>by omega⟩
  ·rw [if_neg h1] at h;exact absurd h h1
theorem QC:∀ {l:List Nod} {i k:Nat} {n:Nod},(∀ j m,j<k→l[j]? = some m→noE m (i+j)=0)→l[k]? = some n→noE n (i+k)≠0→G8 l i=noE n (i+k)
 | [],i,k,n,_,hk,_=>by simp at hk
 | m :: t,i,0,n,_,hk,hn=>by
  simp at hk;subst hk
  unfold G8
  rw [if_neg (by simpa using hn)];rfl
 | m :: t,i,k+1,n,h,hk,hn=>by
  unfold G8
  have h0:=h 0 m (by omega) rfl
  rw [if_pos (by simpa using h0),QC (k:=k) (i:=i+1) (n:=n) (fun j x hj hx=>by have:=h (j+1) x (by omega) (by simpa using hx);rw [show i+1+j=i+(j+1) by omega];exact this) (by simpa using hk) (by rw [show i+1+k=i+(k+1) by omega];exact hn)]
  rw [show i+1+k=i+(k+1) by omega]
theorem NH:∀ {l:List Nod} {i:Nat},(∀ j m,l[j]? = some m→noE m (i+j)=0)→G8 l i=0
 | [],i,_=>rfl
 | m :: t,i,h=>by
  unfold G8
  rw [if_pos (by simpa using h 0 m rfl)]
  exact NH (i:=i+1) fun j x hx=>by have:=h (j+1) x (by simpa using hx);rw [show i+1+j=i+(j+1) by omega];exact this
structure StG (s:Stp):Prop where
 n2:2<=s.sno.n∧s.sno.n<=64
 no:∀ (k:Nat) (n:Nod),s.no[k]? = some n→YD n
 n0:∀ n:Nod,s.no[0]? = some n→n.di=0
 pf:pfE s.pf=0
 gr:gdE s.gr=0
 ac:s.ac.B=true
 lv : -200000<=s.lv∧s.lv<=6000000
 cas:1<=s.cas∧s.cas<=1000
 mch:1<=s.mch∧s.mch<=2000
 acc:0<=s.acc∧s.acc<=1000
 dec:0<=s.dec∧s.dec<=1000
 la : -200000<=s.la∧s.la<=6000000
 ls:1<=s.ls∧s.ls<=1000
theorem Cm {s:Stp} (h:suE s=0):StG s:=by
 unfold suE at h
 by_cases h1:inB s.sno.n 2 64=false
 ·rw [if_pos h1] at h;exact absurd h (by decide)
 rw [if_neg h1] at h
 by_cases h2:G8 s.no 0=0
 rotate_left
 ·rw [if_pos h2] at h;exact absurd h h2
 rw [if_neg (by rw [h2];decide)] at h
 by_cases h3:pfE s.pf=0
 rotate_left
 ·rw [if_pos h3] at h;exact absurd h h3
 rw [if_neg (by rw [h3];decide)] at h
 by_cases h4:gdE s.gr=0
 rotate_left
 ·rw [if_pos h4] at h;exact absurd h h4
 rw [if_neg (by rw [h4];decide)] at h
 by_cases h5:s.ac.E=0
 rotate_left
 ·rw [if_pos h5] at h;exact absurd h h5
 rw [if_neg (by rw [h5];decide)] at h
 by_cases h6:suT s=true
 rotate_left
 ·rw [if_neg h6] at h;exact absurd h (by decide)
 rw [Bool.not_eq_false,Al] at h1
 unfold suT at h6
 simp only [Bool.and_eq_true,Al] at h6
 have hb:s.ac.B=true:=by
  unfold Acc.E at h5
  by_cases hb:s.ac.B=true
  ·exact hb
  ·rw [if_neg hb] at h5;exact absurd h5 (by decide)
 obtain ⟨⟨⟨⟨⟨⟨c1,c2⟩,c3⟩,c4⟩,c5⟩,c6⟩,c7⟩:=h6
 exact ⟨by omega,fun k n hk=>(AfX h2 k n hk).1,fun n hn=>(AfX h2 0 n hn).2 rfl,h3,h4,hb,c1,c2,c3,c4,c5,c6,c7⟩
