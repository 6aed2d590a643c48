/- M45: RfWi, RfGi, RfBi in one text. -/
import Derived.Test.YtedcanagfajcgaaGreatM4
import Derived.Test.YtedcanagfajcgaaGreatWg2
import Derived.Test.YtedcanagfajcgaaGreatM43
set_option linter.unusedSimpArgs false
set_option linter.unusedVariables false
set_option maxRecDepth 100000
set_option maxHeartbeats 8000000
namespace Go.Proofs
theorem AbD{G:Prop}(h:G:=by
  go_wp2_with fail
  all_goals first
   | exact bodyPost_ret (v:=.tuple #[.agg #[vI 0,vI 0],vI 1]) (by simp [results,Tryz.results31,go_sem]) rfl ⟨Cw biT biT biT,Db w _ _ _ _⟩
   | exact bodyPost_ret (v:=.tuple #[.agg #[vI 0,vI 0],vI 2]) (by simp [results,Tryz.results31,go_sem]) rfl ⟨Cw biT biT biT,Db w _ _ _ _⟩
   | exact bodyPost_ret (v:=.tuple #[.agg #[vI 0,vI 0],vI 15]) (by simp [results,Tryz.results31,go_sem]) rfl ⟨Cw biT biT biT,Db w _ _ _ _⟩
   | exact bodyPost_ret (v:=.tuple #[.agg #[vI (l0 - f1 * t1),vI (l1 - f0 * t0)],vI 0]) (by simp [results,Tryz.results31,go_sem]) rfl ⟨Cw biT biT biT,Db w _ _ _ _⟩
   | (exfalso;omega)):G:=h
theorem AbE{G:Prop}(h:G:=by
  exact bodyPost_ret (v:=.tuple #[.agg #[vI 0,vI 0],vI 10]) (by simp [results,Tryz.results28,go_sem,z0,z1]) rfl ⟨Cw HV.out.1.symm HV.out.2.symm HE.out.symm,(HS.out.B.setCell (p:=⟨w.heap.size+1+1,0,none⟩) (by show w.heap.size<=w.heap.size+1+1;omega) _).setCell (p:=⟨w.heap.size+1+1,1,none⟩) (by show w.heap.size<=w.heap.size+1+1;omega) _⟩):G:=h
end Go.Proofs
namespace Go.Proofs.YtedcanagfajcgaaGreat
open Go.RowKit
open Go.Lib (hid)
open Tr
theorem Xd (n:Int) (h0 : -4611686018427387904<=n) (h1:n<=4611686018427387904) (w:World):Calls Tryz.prog 151 #[vI n,vI 20] w fun e w'=>e=.returned (vI (shf n))∧w=w':=by
 have hv:=hid (show shf n=(n+524288) / 1048576 from rfl)
 go_enter Tryz.func151,Tryz.ntmps151
 go_wp2
 go_ret
 exact ⟨Af (by rw [hv.out]),rfl⟩
theorem Ps (co e n:Int) (hco:I64 co) (g:wiB e n=true) (w:World):Calls Tryz.prog 84 #[vI co,vI e,vI n] w fun e' w'=>e'=.returned (.tuple #[vI (alV co e n),vI (acV co e n)])∧w=w':=by
 have HV:=hid (show alV co e n=shf (e * sinV co+n * cosV co)∧acV co e n=shf (e * cosV co - n * sinV co) from ⟨rfl,rfl⟩)
 have hb:(-400<=e∧e<=400) ∧ -400<=n∧n<=400:=by unfold wiB at g;simpa [Al] using g
 have a1:=mul_bd (A:=400) (X:=1073741824) hb.1 (Dj co);have a2:=mul_bd (A:=400) (X:=1073741824) hb.2 (DJ co);have a3:=mul_bd (A:=400) (X:=1073741824) hb.1 (DJ co);have a4:=mul_bd (A:=400) (X:=1073741824) hb.2 (Dj co);have HS:=hid (fun W=>UH co hco W);have HQ:=hid (fun W=>WZ co hco W);clear hco hb g;generalize sinV co=S at *;generalize cosV co=C at *;have HA:=hid (fun W=>Xd (e * S+n * C) (by omega) (by omega) W);have HC:=hid (fun W=>Xd (e * C - n * S) (by omega) (by omega) W);have u1:IntKind.i64.wrap (e * S)=e * S:=Bc (by omega) (by omega);have u2:IntKind.i64.wrap (n * C)=n * C:=Bc (by omega) (by omega);have u3:IntKind.i64.wrap (e * C)=e * C:=Bc (by omega) (by omega);have u4:IntKind.i64.wrap (n * S)=n * S:=Bc (by omega) (by omega);have u5:IntKind.i64.wrap (e * S+n * C)=e * S+n * C:=Bc (by omega) (by omega);have u6:IntKind.i64.wrap (e * C - n * S)=e * C - n * S:=Bc (by omega) (by omega);clear a1 a2 a3 a4
 go_enter Tryz.func84,Tryz.ntmps84
 go_wp2_with (first | (with_reducible refine (HS.out _).mono ?_;rintro e' wx ⟨rfl,rfl⟩) | (with_reducible refine (HQ.out _).mono ?_;rintro e' wx ⟨rfl,rfl⟩) | (with_reducible refine (HA.out _).mono ?_;rintro e' wx ⟨rfl,rfl⟩) | (with_reducible refine (HC.out _).mono ?_;rintro e' wx ⟨rfl,rfl⟩))
 go_ret2
 exact ⟨Ay HV.out.1.symm HV.out.2.symm,rfl⟩
theorem Zq (e n:Int) (w:World):Calls Tryz.prog 83 #[.agg #[vI e,vI n]] w fun e' w'=>e'=.returned (.bool (wiB e n))∧Below w.heap.size w w':=by
 go_enter Tryz.func83,Tryz.ntmps83
 go_wp2
 all_goals (go_ret;refine ⟨Ao ?_,Aa _ _⟩;unfold wiB inB;rw [Bool.eq_iff_iff];simp;omega)
theorem Tp (a b:Int) (w:World):Calls Tryz.prog 155 #[.agg #[vI a,vI b]] w fun e' w'=>e'=.returned (.bool (orB a b))∧Below w.heap.size w w':=by
 go_enter Tryz.func155,Tryz.ntmps155
 go_wp2
 all_goals (go_ret;refine ⟨Ao ?_,Aa _ _⟩;unfold orB inB;rw [Bool.eq_iff_iff];simp;omega)
theorem Aa0 (e0 e1 n0 n1:Int) (w:World):Calls Tryz.prog 89 #[.agg #[vI e0,vI e1,vI n0,vI n1]] w fun e' w'=>e'=.returned (.bool (bxB e0 e1 n0 n1))∧Below w.heap.size w w':=by
 have HV:=hid (show bxB e0 e1 n0 n1=(orB e0 e1 && orB n0 n1) from rfl);have KX:=hid fun W (h:Below _ _ W)=>(Has.new w #[vI e0,vI e1,vI n0,vI n1] 73).below h;have HA:=hid (Tp e0 e1);have HB:=hid (Tp n0 n1);generalize orB e0 e1=x at *;generalize orB n0 n1=y at *
 go_enter Tryz.func89,Tryz.ntmps89
 go_wp2_with fail
 refine (HA.out _).mono ?_;rintro e' w1 ⟨rfl,hB⟩
 have k2:=(KX.out _ hB).cell 2 _ rfl;have k3:=(KX.out _ hB).cell 3 _ rfl;have HW:=hid (Ap hB);clear hB
 cases x
 ·go_wp2_with fail
  go_ret
  exact ⟨Ao (by rw [HV.out];rfl),HW.out⟩
 go_wp2_with fail
 refine (HB.out _).mono ?_;rintro e' w2 ⟨rfl,hB⟩
 have HX:=hid (Ae HW.out hB);clear hB
 go_wp2_with fail
 go_ret
 exact ⟨Ao (by rw [HV.out];rfl),HX.out⟩
theorem NZ (a:Int) (h : -1000000000<=a∧a<=1000000000) (w:World):Calls Tryz.prog 85 #[vI a] w fun e w'=>e=.returned (vI (Bo a))∧w=w' :=
 (rAbs a (by unfold I64;omega) w).mono fun _ _ ⟨h1,h2⟩=>⟨by rw [h1,Gm ⟨by omega,by omega⟩,Bo],h2⟩
theorem Tk (co tas e n:Int) (hco:I64 co) (w:World):Calls Tryz.prog 27 #[vI co,vI tas,.agg #[vI e,vI n]] w (Kw co tas e n w):=by
 have KX:=hid fun W (h:Below _ _ W)=>(Has.new w #[vI e,vI n] 62).below h;have HV:=hid (fun W=>Zq e n W)
 by_cases g:(wiB e n && inB tas 1 4000)=true
 rotate_left
 ·have HF:=hid (fun (w':World) (hb:Below w.heap.size w w')=>Cx (co:=co) (tas:=tas) (Wm (by simpa using g)) (by decide) hb)
  have HG:=hid (show ¬ (wiB e n=true∧1<=tas∧tas<=4000) from fun h=>g (by rw [h.1,Bool.true_and,Al];exact h.2));generalize wiB e n=q at *;clear g hco
  go_enter Tryz.func27,Tryz.ntmps27
  go_wp2_with (refine (HV.out _).mono ?_;rintro e' w1 ⟨rfl,hB⟩;replace hB:=hid (Ap hB))
  all_goals first
   | (exfalso;have:=HG.out;simp_all <;> omega)
   | (go_ret3;exact HF.out _ hB.out)
 have g':=g
 rw [Bool.and_eq_true,Al] at g'
 obtain ⟨g1,g2,g3⟩:=g';have hb:=Il (co:=co) g1;have HP:=hid (fun W=>Ps co e n hco g1 W);have hsx:=EK hb.2.1 hb.2.2;have hst:=Ht (T:=tas * 1024) (by omega) (by omega);have HA:=hid (fun W=>NZ (acV co e n) (by omega) W);have HQ:=hid (fun W=>Pv (tas * 1024 * (tas * 1024) - acV co e n * acV co e n) (by omega) W);have HR:=show gsR co tas e n=sqV (tas * 1024 * (tas * 1024) - acV co e n * acV co e n) from rfl
 have hr:0<=gsR co tas e n∧gsR co tas e n<=4096000:=⟨AcS _,by
  have h1:gsR co tas e n<=sqV (4096000 * 4096000):=Cb (by omega)
  rwa [Oe (by decide)] at h1⟩
 have hat:=Qd (-acV co e n) (gsR co tas e n);have HAT:=hid (fun W=>WW (-acV co e n) (gsR co tas e n) (by unfold I64;omega) (by unfold I64;omega) W);have HDF:=hid (fun W=>Aem 0 (atV (-acV co e n) (gsR co tas e n)) (by unfold I64;omega) (by unfold I64;omega) W);have F2:=hid (fun h2 w' (hb:Below w.heap.size w w')=>Cx (Wn (co:=co) (tas:=tas) (e:=e) (n:=n) g h2) (by decide) hb);have F3:=hid (fun h2 h3 w' (hb:Below w.heap.size w w')=>Cx (AaK (co:=co) (tas:=tas) (e:=e) (n:=n) g h2 h3) (by decide) hb);have F0:=hid (fun h2 h3 (d:Int) (w':World) (hb:Below w.heap.size w w')=>(show Kw co tas e n w (.returned (.tuple #[vI (alV co e n+gsR co tas e n),vI d,vI 0])) w' from ⟨d,ES (Wl g h2 h3).2.symm rfl (Wl g h2 h3).1.symm,hb⟩));have u1:IntKind.i64.wrap (tas * 1024)=tas * 1024:=Bc (by omega) (by omega);have u2:IntKind.i64.wrap (tas * 1024 * (tas * 1024))=tas * 1024 * (tas * 1024):=Bc (by omega) (by omega);have u3:IntKind.i64.wrap (acV co e n * acV co e n)=acV co e n * acV co e n:=Bc (by omega) (by omega);have u4:IntKind.i64.wrap (tas * 1024 * (tas * 1024) - acV co e n * acV co e n)=tas * 1024 * (tas * 1024) - acV co e n * acV co e n:=Bc (by omega) (by omega);have u5:IntKind.i64.wrap (alV co e n+gsR co tas e n)=alV co e n+gsR co tas e n:=Bc (by omega) (by omega)
 rw [← HR] at HQ
 rw [g1] at HV
 clear g hco hsx HR hat g1;generalize Mf 0 (atV (-acV co e n) (gsR co tas e n))=D at *;generalize atV (-acV co e n) (gsR co tas e n)=AT at *;generalize atE (-acV co e n) (gsR co tas e n)=AE at *;generalize gsR co tas e n=R at *;generalize Bo (acV co e n)=AB at *;generalize acV co e n=ac at *;generalize alV co e n=al at *
 go_enter Tryz.func27,Tryz.ntmps27
 go_wp2_with (first | (with_reducible refine (HV.out _).mono ?_;rintro e' w1 ⟨rfl,hB⟩;have k0:=(KX.out _ hB).cell 0 _ rfl;have k1:=(KX.out _ hB).cell 1 _ rfl;replace hB:=hid (Ap hB)) | (with_reducible refine (HP.out _).mono ?_;rintro e' wx ⟨rfl,rfl⟩) | (with_reducible refine (HA.out _).mono ?_;rintro e' wx ⟨rfl,rfl⟩) | (with_reducible refine (HQ.out _).mono ?_;rintro e' wx ⟨rfl,rfl⟩) | (with_reducible refine (HAT.out _).mono ?_;rintro e' w2 ⟨rfl,hB2⟩;replace hB:=hid (Ae hB.out hB2);clear hB2) | (with_reducible refine (HDF.out _).mono ?_;rintro e' wx ⟨rfl,rfl⟩))
 all_goals (go_ret3;first | exact F2.out (by assumption) _ hB.out | exact F3.out (by assumption) (by assumption) _ hB.out | exact F0.out (by assumption) (by assumption) _ _ hB.out)
def Aea (a b c d:Int) (k:Nat):Int:=match k with | 0=>a | 1=>min a b | 2=>min (min a b) c | _=>min (min (min a b) c) d
def Ad9 (a b c d:Int) (k:Nat):Int:=match k with | 0=>a | 1=>max a b | 2=>max (max a b) c | _=>max (max (max a b) c) d
theorem SH {t0 t1 e0 e1 n0 n1:Int} {w W:World} (h:GiS t0 t1 e0 e1 n0 n1 w W):W.cell? ⟨w.heap.size+1,0,none⟩=some (vI e0)∧W.cell? ⟨w.heap.size+1,1,none⟩=some (vI e1)∧W.cell? ⟨w.heap.size+1,2,none⟩=some (vI n0)∧W.cell? ⟨w.heap.size+1,3,none⟩=some (vI n1):=⟨h.X.cell 0 _ rfl,h.X.cell 1 _ rfl,h.X.cell 2 _ rfl,h.X.cell 3 _ rfl⟩
theorem giZ {G:Prop} (h:G:=by
  have yy:=fun m=>And.intro ((HS.out.drewN m).T.cell 0 _ rfl) ((HS.out.drewN m).T.cell 1 _ rfl);have v1:IntKind.i64.wrap (t0 * 1024)=t0 * 1024:=Bc (by omega) (by omega);have v2:IntKind.i64.wrap (t1 * 1024)=t1 * 1024:=Bc (by omega) (by omega);have u1:IntKind.i64.wrap (t0 * 1024 * (t0 * 1024))=t0 * 1024 * (t0 * 1024):=Bc (by omega) (by omega);have u2:IntKind.i64.wrap (t1 * 1024 * (t1 * 1024))=t1 * 1024 * (t1 * 1024):=Bc (by omega) (by omega);have u3:IntKind.i64.wrap (F * F)=F * F:=Bc (by omega) (by omega);have u4:IntKind.i64.wrap (N * N)=N * N:=Bc (by omega) (by omega);have u5:IntKind.i64.wrap (t0 * 1024 * (t0 * 1024) - F * F)=t0 * 1024 * (t0 * 1024) - F * F:=Bc (by omega) (by omega);have u6:IntKind.i64.wrap (t1 * 1024 * (t1 * 1024) - N * N)=t1 * 1024 * (t1 * 1024) - N * N:=Bc (by omega) (by omega)
  go_quiet (fail)
  replace HS:=hid (HS.out.drewN nq);clear yy v1 v2;generalize HW:wr.drewN nq=w4 at *;clear HW;have z0:=HS.out.R.cell 0 _ rfl;have z1:=HS.out.R.cell 1 _ rfl;have zf:=HS.out.R.fr
  by_cases hx:t0 * 1024<=F
  ·have HE:=hid (F2.out hx)
   have HV:=hid (V.out (by rw [HE.out];decide))
   go_wp2_with fail
   exact AbE
  have q7:=Bv (a:=F) (b:=t0 * 1024) (by omega) (by omega);have r0:=EJ (t0 * 1024 * (t0 * 1024) - F * F) (by omega);replace S0:=hid (S0.out (by omega));obtain ⟨r00,r01,_⟩:=r0;generalize sqV (t0 * 1024 * (t0 * 1024) - F * F)=R0 at *;clear q1 q2 q3 q4 q5 q6 q7
  go_wp2_with (first | (with_reducible refine (S0.out _).mono ?_;rintro e' wx ⟨rfl,rfl⟩) | (with_reducible refine (S1.out _).mono ?_;rintro e' wx ⟨rfl,rfl⟩))
  ·have HE:=hid (F3.out (by omega) (by rw [QL.out];omega))
   have HV:=hid (V.out (by rw [HE.out];decide))
   exact AbE
  ·have HE:=hid (F0.out (by omega) (by rw [QL.out];omega))
   have hd:(r+R1+1024 - 1).tdiv 1024=(r+R1+1024 - 1) / 1024:=Int.tdiv_eq_ediv_of_nonneg (by omega)
   exact bodyPost_ret (v:=.tuple #[.agg #[vI ((p+R0) / 1024),vI ((r+R1+1024 - 1) / 1024)],vI 0]) (by simp [results,Tryz.results28,go_sem,z0,z1,hd]) rfl ⟨Cw (by rw [VL.out HE.out,QL.out]) (by rw [VH.out HE.out,QH.out];omega) HE.out.symm,(HS.out.B.setCell (p:=⟨w.heap.size+1+1,0,none⟩) (by show w.heap.size<=w.heap.size+1+1;omega) _).setCell (p:=⟨w.heap.size+1+1,1,none⟩) (by show w.heap.size<=w.heap.size+1+1;omega) _⟩):G:=h
theorem UD (co t0 t1 e0 e1 n0 n1:Int) (hco:I64 co) (w:World):Calls Tryz.prog 28 #[vI co,.agg #[vI t0,vI t1],.agg #[vI e0,vI e1,vI n0,vI n1]] w fun e' w'=>e'=.returned (.tuple #[.agg #[vI (giL co t0 t1 e0 e1 n0 n1),vI (giH co t0 t1 e0 e1 n0 n1)],vI (giE co t0 t1 e0 e1 n0 n1)])∧Below w.heap.size w w':=by
 have HBX:=hid (fun W=>Aa0 e0 e1 n0 n1 W);have HS:=hid (KO t0 t1 e0 e1 n0 n1 w)
 by_cases g:(bxB e0 e1 n0 n1 && decide (1<=t0) && decide (t1<=4000) && decide (t0<=t1))=true
 rotate_left
 ·have HE:=hid (show giE co t0 t1 e0 e1 n0 n1=1 from OY (by simpa using g))
  have HL:=hid (Gb (co:=co) (t0:=t0) (t1:=t1) (e0:=e0) (e1:=e1) (n0:=n0) (n1:=n1) (by rw [HE.out];decide));have HG:=hid (show ¬ (bxB e0 e1 n0 n1=true∧1<=t0∧t1<=4000∧t0<=t1) from fun h=>g (by simp [h]));generalize bxB e0 e1 n0 n1=q at *;clear g hco
  go_enter Tryz.func28,Tryz.ntmps28
  go_wp2_with (with_reducible refine (HBX.out _).mono ?_;rintro e' w1 ⟨rfl,hB⟩;replace HS:=hid (HS.out.below hB);clear hB;have y0:=HS.out.T.cell 0 _ rfl;have y1:=HS.out.T.cell 1 _ rfl;have z0:=HS.out.R.cell 0 _ rfl;have z1:=HS.out.R.cell 1 _ rfl;have zf:=HS.out.R.fr)
  all_goals first | (exfalso;have:=HG.out;simp_all <;> omega) | exact bodyPost_ret (v:=.tuple #[.agg #[vI 0,vI 0],vI 1]) (by simp [results,Tryz.results28,go_sem,z0,z1]) rfl ⟨Cw HL.out.1.symm HL.out.2.symm HE.out.symm,(HS.out.B.setCell (p:=⟨w.heap.size+1+1,0,none⟩) (by show w.heap.size<=w.heap.size+1+1;omega) _).setCell (p:=⟨w.heap.size+1+1,1,none⟩) (by show w.heap.size<=w.heap.size+1+1;omega) _⟩
 rw [Bool.and_eq_true,Bool.and_eq_true,Bool.and_eq_true,decide_eq_true_eq,decide_eq_true_eq,decide_eq_true_eq] at g
 obtain ⟨⟨⟨g0,g1⟩,g2⟩,g3⟩:=g
 have gg:(bxB e0 e1 n0 n1 && decide (1<=t0) && decide (t1<=4000) && decide (t0<=t1))=true:=by simp [g0,g1,g2,g3]
 have gb:=g0
 unfold bxB at gb
 simp only [Bool.and_eq_true,decide_eq_true_eq,Al] at gb
 rw [g0] at HBX
 have w1_:∀ i j,(i=e0∨i=e1)→(j=n0∨j=n1)→wiB i j=true:=fun i j hi hj=>by
  unfold wiB
  rw [Bool.and_eq_true,Al,Al]
  rcases hi with rfl | rfl <;> rcases hj with rfl | rfl <;> omega
 have hA:=fun i j hi hj=>Il (co:=co) (w1_ i j hi hj);have HP:=hid (fun i j hi hj W=>Ps co i j hco (w1_ i j hi hj) W);have P0:=hid (HP.out e0 n0 (.inl rfl) (.inl rfl));have P1:=hid (HP.out e1 n0 (.inr rfl) (.inl rfl));have P2:=hid (HP.out e0 n1 (.inl rfl) (.inr rfl));have P3:=hid (HP.out e1 n1 (.inr rfl) (.inr rfl));have hM:=KU (f:=acV co) (fun i j hi hj=>(hA i j hi hj).2);have hN:=KU (f:=alV co) (fun i j hi hj=>(hA i j hi hj).1);have i00:=hA e0 n0 (.inl rfl) (.inl rfl);have i10:=hA e1 n0 (.inr rfl) (.inl rfl);have i01:=hA e0 n1 (.inl rfl) (.inr rfl);have i11:=hA e1 n1 (.inr rfl) (.inr rfl);have M1:=hid (show min (min (min (alV co e0 n0) (alV co e1 n0)) (alV co e0 n1)) (alV co e1 n1)=mn4 (alV co) e0 e1 n0 n1 by unfold mn4;omega);have M2:=hid (show max (max (max (alV co e0 n0) (alV co e1 n0)) (alV co e0 n1)) (alV co e1 n1)=mx4 (alV co) e0 e1 n0 n1 by unfold mx4;omega);have M3:=hid (show min (min (min (acV co e0 n0) (acV co e1 n0)) (acV co e0 n1)) (acV co e1 n1)=mn4 (acV co) e0 e1 n0 n1 by unfold mn4;omega);have M4:=hid (show max (max (max (acV co e0 n0) (acV co e1 n0)) (acV co e0 n1)) (acV co e1 n1)=mx4 (acV co) e0 e1 n0 n1 by unfold mx4;omega);have F2:=hid (fun h=>AaG (co:=co) gg h);have F3:=hid (fun h h'=>AaH (co:=co) gg h h');have F0:=hid (fun h h'=>AaF (co:=co) gg h h');have V:=hid (fun h=>Gb (co:=co) (t0:=t0) (t1:=t1) (e0:=e0) (e1:=e1) (n0:=n0) (n1:=n1) h);have VL:=hid (fun h=>show giL co t0 t1 e0 e1 n0 n1=Ey co t0 e0 e1 n0 n1 / 1024 from if_pos h);have VH:=hid (fun h=>show giH co t0 t1 e0 e1 n0 n1=(FU co t1 e0 e1 n0 n1+1023) / 1024 from if_pos h);have QF:=hid (show giF co e0 e1 n0 n1=max (Bo (mn4 (acV co) e0 e1 n0 n1)) (Bo (mx4 (acV co) e0 e1 n0 n1)) from rfl)
 have QN:=hid (show giN co e0 e1 n0 n1=if mn4 (acV co) e0 e1 n0 n1<=0∧0<=mx4 (acV co) e0 e1 n0 n1 then 0 else min (Bo (mn4 (acV co) e0 e1 n0 n1)) (Bo (mx4 (acV co) e0 e1 n0 n1)) from rfl)
 have QL:=hid (show Ey co t0 e0 e1 n0 n1=mn4 (alV co) e0 e1 n0 n1+sqV (t0 * 1024 * (t0 * 1024) - giF co e0 e1 n0 n1 * giF co e0 e1 n0 n1) from rfl);have QH:=hid (show FU co t1 e0 e1 n0 n1=mx4 (alV co) e0 e1 n0 n1+sqV (t1 * 1024 * (t1 * 1024) - giN co e0 e1 n0 n1 * giN co e0 e1 n0 n1) from rfl);clear hco w1_ hA HP gg gb g0 i00 i10 i01 i11;generalize giE co t0 t1 e0 e1 n0 n1=E at *;generalize giL co t0 t1 e0 e1 n0 n1=L at *;generalize giH co t0 t1 e0 e1 n0 n1=H at *;generalize Ey co t0 e0 e1 n0 n1=Lo at *;generalize FU co t1 e0 e1 n0 n1=Hi at *;generalize giF co e0 e1 n0 n1=F at *;generalize giN co e0 e1 n0 n1=N at *;generalize mn4 (alV co) e0 e1 n0 n1=a0 at *;generalize mx4 (alV co) e0 e1 n0 n1=a1 at *;generalize mn4 (acV co) e0 e1 n0 n1=c0 at *;generalize mx4 (acV co) e0 e1 n0 n1=c1 at *;generalize alV co e0 n0=A0 at *;generalize alV co e1 n0=A1 at *;generalize alV co e0 n1=A2 at *;generalize alV co e1 n1=A3 at *;generalize acV co e0 n0=C0 at *;generalize acV co e1 n0=C1 at *;generalize acV co e0 n1=C2 at *;generalize acV co e1 n1=C3 at *
 go_enter Tryz.func28,Tryz.ntmps28
 go_wp2_with fail
 refine (HBX.out _).mono ?_;rintro e' w1 ⟨rfl,hB⟩;replace HS:=hid (HS.out.below hB);clear hB;have y0:=HS.out.T.cell 0 _ rfl;have y1:=HS.out.T.cell 1 _ rfl;have z0:=HS.out.R.cell 0 _ rfl;have z1:=HS.out.R.cell 1 _ rfl;have zf:=HS.out.R.fr;have x0:=HS.out.X.cell 0 _ rfl;have x1:=HS.out.X.cell 1 _ rfl;have x2:=HS.out.X.cell 2 _ rfl;have x3:=HS.out.X.cell 3 _ rfl
 go_wp2_with (with_reducible refine (P0.out _).mono ?_;rintro e' wx ⟨rfl,rfl⟩)
 clear y0 y1 z0 z1 zf x0 x1 x2 x3
 go_loopw [8,9,10,11,12] (fun a c b d i wr=>∃ (k:Nat) (p q r s:Int),k<=3∧a=vI p∧c=vI q∧b=vI r∧d=vI s∧i=vI ((k+1:Nat):Int)∧(p=Aea A0 A1 A2 A3 k∧q=Aea C0 C1 C2 C3 k∧r=Ad9 A0 A1 A2 A3 k∧s=Ad9 C0 C1 C2 C3 k)∧GiS t0 t1 e0 e1 n0 n1 w wr) (fun _ _ _ _ i _=>5 - (intOf i).toNat)
 case atStart=>exact ⟨0,A0,C0,A0,C0,by omega,rfl,rfl,rfl,rfl,rfl,⟨rfl,rfl,rfl,rfl⟩,HS.out⟩
 case round =>
 obtain ⟨k,p,q,r,s,hk,rfl,rfl,rfl,rfl,rfl,hv,hs⟩:=hrel;replace HS:=hid hs;have HVV:=hid hv;clear hs hv;have xx:=fun m=>SH (HS.out.drewN m)
 rcases (show k=0∨k=1∨k=2∨k=3 by omega) with rfl | rfl | rfl | rfl
 ·go_wp2_with fail
  go_quiet (fail)
  replace HS:=hid (HS.out.drewN nq);clear xx;generalize wr.drewN nq=w3 at *;obtain ⟨x0,x1,x2,x3⟩:=SH HS.out;obtain ⟨rfl,rfl,rfl,rfl⟩:=HVV.out
  go_wp2_with (with_reducible refine (P1.out _).mono ?_;rintro e' wx ⟨rfl,rfl⟩)
  go_roundw
  case rel=>exact ⟨1,_,_,_,_,by omega,rfl,rfl,rfl,rfl,rfl,⟨rfl,rfl,rfl,rfl⟩,HS.out⟩
  case measure=>exact zMs
 ·go_wp2_with fail
  go_quiet (fail)
  replace HS:=hid (HS.out.drewN nq);clear xx;generalize wr.drewN nq=w3 at *;obtain ⟨x0,x1,x2,x3⟩:=SH HS.out;obtain ⟨rfl,rfl,rfl,rfl⟩:=HVV.out
  go_wp2_with (with_reducible refine (P2.out _).mono ?_;rintro e' wx ⟨rfl,rfl⟩)
  go_roundw
  case rel=>exact ⟨2,_,_,_,_,by omega,rfl,rfl,rfl,rfl,rfl,⟨rfl,rfl,rfl,rfl⟩,HS.out⟩
  case measure=>exact zMs
 ·go_wp2_with fail
  go_quiet (fail)
  replace HS:=hid (HS.out.drewN nq);clear xx;generalize wr.drewN nq=w3 at *;obtain ⟨x0,x1,x2,x3⟩:=SH HS.out;obtain ⟨rfl,rfl,rfl,rfl⟩:=HVV.out
  go_wp2_with (with_reducible refine (P3.out _).mono ?_;rintro e' wx ⟨rfl,rfl⟩)
  go_roundw
  case rel=>exact ⟨3,_,_,_,_,by omega,rfl,rfl,rfl,rfl,rfl,⟨rfl,rfl,rfl,rfl⟩,HS.out⟩
  case measure=>exact zMs
 obtain ⟨h1,h2,h3,h4⟩:=HVV.out;have h1':p=a0:=h1.trans M1.out;have h2':q=c0:=h2.trans M3.out;have h3':r=a1:=h3.trans M2.out;have h4':s=c1:=h4.trans M4.out;clear h1 h2 h3 h4 xx HVV M1 M2 M3 M4 P0 P1 P2 P3 HBX;subst h1' h2' h3' h4';obtain ⟨hm0,hm1,hm2⟩:=hM;obtain ⟨hn0,hn1,hn2⟩:=hN;have HA:=hid (fun W=>NZ q (by omega) W);have HB:=hid (fun W=>NZ s (by omega) W)
 have b1:0<=Bo q∧Bo q<=819200:=by unfold Bo;omega
 have b2:0<=Bo s∧Bo s<=819200:=by unfold Bo;omega
 generalize Bo q=Q1 at *;generalize Bo s=Q2 at *;have FF:max Q1 Q2=F:=QF.out.symm
 have hF:0<=F∧F<=819200:=by omega
 have NN:(q<=0∧0<=s∧N=0)∨(¬ (q<=0∧0<=s)∧min Q1 Q2=N):=by
  by_cases h:q<=0∧0<=s
  ·exact .inl ⟨h.1,h.2,QN.out.trans (if_pos h)⟩
  ·exact .inr ⟨h,(QN.out.trans (if_neg h)).symm⟩
 have hNF:0<=N∧N<=F:=by omega
 have q1:=Ht (T:=t0 * 1024) (by omega) (by omega);have q2:=Ht (T:=t1 * 1024) (by omega) (by omega);have q3:=EK (T:=F) (by omega) (by omega);have q4:=EK (T:=N) (by omega) (by omega);have q5:=Bv (a:=t0 * 1024) (b:=t1 * 1024) (by omega) (by omega);have q6:=Bv (a:=N) (b:=F) (by omega) (by omega);have S0:=hid (fun h W=>Pv (t0 * 1024 * (t0 * 1024) - F * F) h W);have S1:=hid (fun h W=>Pv (t1 * 1024 * (t1 * 1024) - N * N) h W);have y0:=HS.out.T.cell 0 _ rfl;have y1:=HS.out.T.cell 1 _ rfl;have z0:=HS.out.R.cell 0 _ rfl;have z1:=HS.out.R.cell 1 _ rfl;have zf:=HS.out.R.fr
 go_wp2_with (first | (with_reducible refine (HA.out _).mono ?_;rintro e' wx ⟨rfl,rfl⟩) | (with_reducible refine (HB.out _).mono ?_;rintro e' wx ⟨rfl,rfl⟩))
 rotate_left
 all_goals try
  have NM:min Q1 Q2=N:=by omega
  replace S1:=hid (S1.out (by omega));have hm:=Cb (a:=t0 * 1024 * (t0 * 1024) - F * F) (b:=t1 * 1024 * (t1 * 1024) - N * N) (by omega);obtain ⟨r10,r11,_⟩:=EJ (t1 * 1024 * (t1 * 1024) - N * N) (by omega);generalize sqV (t1 * 1024 * (t1 * 1024) - N * N)=R1 at *
 rotate_right
 ·have hN0:N=0:=by omega
  replace QH:=hid (show Hi=r+sqV (t1 * 1024 * (t1 * 1024)) by rw [QH.out,hN0];simp);replace S1:=hid (fun W=>Pv (t1 * 1024 * (t1 * 1024)) (by omega) W);have hm:=Cb (a:=t0 * 1024 * (t0 * 1024) - F * F) (b:=t1 * 1024 * (t1 * 1024)) (by omega);obtain ⟨r10,r11,_⟩:=EJ (t1 * 1024 * (t1 * 1024)) (by omega);generalize sqV (t1 * 1024 * (t1 * 1024))=R1 at *;clear hN0
  exact giZ
 all_goals exact giZ
theorem biT {a b:Int} (h:a=b:=by (first | rw [HE.out] | (first | rw [HL.out] | rw [HH.out]);rw [HE.out]);(repeat' split) <;> omega):a=b:=h
theorem Zk (l0 l1 f0 f1 t0 t1:Int) (w:World):Calls Tryz.prog 31 #[.agg #[vI l0,vI l1],.agg #[vI f0,vI f1],.agg #[vI t0,vI t1]] w fun e w'=>e=.returned (.tuple #[.agg #[vI (biL l0 l1 f0 f1 t0 t1),vI (biH l0 l1 f0 f1 t0 t1)],vI (biE l0 l1 f0 f1 t0 t1)])∧Below w.heap.size w w':=by
 have HE:=hid (show biE l0 l1 f0 f1 t0 t1=if l1<l0∨f1<f0∨t1<t0 then 1 else if l0<0∨3000000000<l1∨f0<0∨50000<f1∨t0<0∨1099511627776<t1 then 2 else if l0 - f1 * t1<0 then 15 else 0 from rfl)
 have HL:=hid (show biL l0 l1 f0 f1 t0 t1=if biE l0 l1 f0 f1 t0 t1=0 then l0 - f1 * t1 else 0 from rfl)
 have HH:=hid (show biH l0 l1 f0 f1 t0 t1=if biE l0 l1 f0 f1 t0 t1=0 then l1 - f0 * t0 else 0 from rfl)
 generalize biE l0 l1 f0 f1 t0 t1=E at *;generalize biL l0 l1 f0 f1 t0 t1=L at *;generalize biH l0 l1 f0 f1 t0 t1=H at *
 by_cases hr:(l0<=l1∧f0<=f1∧t0<=t1)∧0<=l0∧l1<=3000000000∧0<=f0∧f1<=50000∧0<=t0∧t1<=1099511627776
 rotate_left
 ·go_enter Tryz.func31,Tryz.ntmps31
  exact AbD
 have a1:=NG (a:=f1) (b:=t1) (A:=50000) (B:=1099511627776) (by omega) (by omega);have a2:=NG (a:=f0) (b:=t0) (A:=50000) (B:=1099511627776) (by omega) (by omega);have u1:IntKind.i64.wrap (f1 * t1)=f1 * t1:=Bc (by omega) (by omega);have u2:IntKind.i64.wrap (f0 * t0)=f0 * t0:=Bc (by omega) (by omega);have u3:IntKind.i64.wrap (l0 - f1 * t1)=l0 - f1 * t1:=Bc (by omega) (by omega);have u4:IntKind.i64.wrap (l1 - f0 * t0)=l1 - f0 * t0:=Bc (by omega) (by omega)
 go_enter Tryz.func31,Tryz.ntmps31
 exact AbD
