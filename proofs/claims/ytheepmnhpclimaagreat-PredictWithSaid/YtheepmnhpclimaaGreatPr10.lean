
/- Layer 37: predictions, the program's functions: next. -/
import Derived.Test.YtheepmnhpclimaaGreatM29
import Derived.Test.YtheepmnhpclimaaGreatWg2
import Derived.Test.YtheepmnhpclimaaGreatM6
import Derived.RegionTactic
set_option linter.unusedSimpArgs false
set_option linter.unusedVariables false
set_option maxRecDepth 100000
set_option maxHeartbeats 16000000
namespace Go.Proofs
theorem zPr100 {G : Prop} (h : G := by
  go_wp2_with fail
  exact bodyPost_ret (v:=.tuple #[.agg #[vI 0,vI 0,vI 0,vI 0,vI 0,vI 0,vI 0,vI 0,vI 0,vI 0,vI 0,vI 0,.int .u8 0],vI 10]) (by simp [results,Tryz.results43,go_sem,r0,r1,r2,r3,r4,r5,r6,r7,r8,r9,r10,r11,r12]) rfl (nxPost_err HF.out (by first | decide | exact HNE.out) (below_set (below_set (below_set (below_set (below_set (below_set (below_set (below_set (below_set (below_set (below_set (below_set (below_set (HS.out.B) _ _ (le_add2 _) _) _ _ (le_add2 _) _) _ _ (le_add2 _) _) _ _ (le_add2 _) _) _ _ (le_add2 _) _) _ _ (le_add2 _) _) _ _ (le_add2 _) _) _ _ (le_add2 _) _) _ _ (le_add2 _) _) _ _ (le_add2 _) _) _ _ (le_add2 _) _) _ _ (le_add2 _) _) _ _ (le_add2 _) _))) : G := h
end Go.Proofs
namespace Go.Proofs.YtheepmnhpclimaaGreat
open Go.RowKit
open Go.Lib (hid)
structure PsI (p:Pass):Prop where
 tick:0<=p.tick∧p.tick<=1000000000
 tl:0<=p.tl∧p.tl<=1000000000
 th:0<=p.th∧p.th<=1000000000
 fuel:0<=p.fuel∧p.fuel<=3000000000
 fl:0<=p.fl∧p.fl<=3000000000
 fh:0<=p.fh∧p.fh<=3000000000
def NxPost (E:Int) (q:Pass) (w:World) (e:Ending) (w':World):Prop:=e=.returned (.tuple #[.agg (if E=0 then q else zeroP).cells.toArray,vI E])∧Below w.heap.size w w'
theorem nxPost_err {E E':Int} {q:Pass} {w w':World} (hE:E=E') (h0:E'≠0) (hb:Below w.heap.size w w'):NxPost E q w (.returned (.tuple #[.agg #[vI 0,vI 0,vI 0,vI 0,vI 0,vI 0,vI 0,vI 0,vI 0,vI 0,vI 0,vI 0,.int .u8 0],vI E'])) w':=by
 unfold NxPost
 rw [hE,if_neg h0]
 exact ⟨rfl,hb⟩
theorem nxPost_ok {E:Int} {q q':Pass} {w w':World} (hE:E=0) (hq:q=q') (hb:Below w.heap.size w w'):NxPost E q w (.returned (.tuple #[.agg q'.cells.toArray,vI 0])) w':=by
 unfold NxPost
 rw [hE,if_pos rfl,hq]
 exact ⟨rfl,hb⟩
theorem mul_bd2 {a b:Int} (ha:0<=a∧a<=8000000) (hb:0<=b∧b<=50000):0<=a * b∧a * b<=400000000000 :=
 ⟨Int.mul_nonneg ha.1 hb.1,Int.le_trans (Int.mul_le_mul_of_nonneg_right ha.2 hb.1) (by omega)⟩
theorem le_add2 (n:Nat):n<=n+1+1:=by omega
theorem tck_bd {d g:Int} (hd:0<=d) (hg:1<=g):0<=tck d g∧tck d g<=d:=ceil_nn hd hg
theorem gi_up {co t0 t1 e0 e1 n0 n1:Int} (h:giE co t0 t1 e0 e1 n0 n1=0):giH co t0 t1 e0 e1 n0 n1<=100000:=by
 have g:=gi_good h
 have hw:∀ i j,(i=e0∨i=e1)→(j=n0∨j=n1) → -819200<=alV co i j∧alV co i j<=819200:=fun i j hi hj=>(al_bd' (co:=co) (by
  unfold wiB
  rw [Bool.and_eq_true,inB_iff,inB_iff]
  have:=g.he0;have:=g.he1;have:=g.hn0;have:=g.hn1;have:=g.hee;have:=g.hnn
  rcases hi with rfl | rfl <;> rcases hj with rfl | rfl <;> omega)).1
 have h1:=(mn4_is hw).2.2
 have h2:sqV (t1 * 1024 * (t1 * 1024) - giN co e0 e1 n0 n1 * giN co e0 e1 n0 n1)<=4096000:=by
  have h3:sqV (t1 * 1024 * (t1 * 1024) - giN co e0 e1 n0 n1 * giN co e0 e1 n0 n1)<=sqV (4096000 * 4096000):=sqV_mono (by
   have h4:=sqr_mono (a:=t1 * 1024) (b:=4096000) (by have:=g.ht0;have:=g.htt;omega) (by have:=g.ht1;omega)
   have h5:0<=giN co e0 e1 n0 n1 * giN co e0 e1 n0 n1:=by
    rw [sqr_abs];exact Int.mul_nonneg (abs_nn _) (abs_nn _)
   omega)
  rw [sqV_sqr (by decide)] at h3
  exact h3
 unfold giH
 rw [if_pos h]
 unfold giHi
 omega
theorem lgP_is (al:List Int) (k:Nat):lgP al k=1∨lgP al k=2∨lgP al k=3:=by
 unfold lgP
 split
 ·exact .inl rfl
 ·split
  ·exact .inr (.inr rfl)
  ·exact .inr (.inl rfl)
theorem xPNext (s:Stp) (k m:Nat) (hm:m=k+1) (A B:Option Addr) (n c n' d:Nat) (al sp:List Int) (p:Pass) (w:World) (hl:s.lies w) (hok:s.ok) (G:StG s) (hk:m<s.no.length) (hF:FcG s al sp) (ha:Ints w A n al) (hb:Ints w B n' sp) (hp:PsI p) :
  Calls Tryz.prog 43 #[.agg s.cells.toArray,.agg #[vI p.alt,vI p.cas,vI p.tas,vI p.ground,vI p.tick,vI p.fuel,vI p.gl,vI p.gh,vI p.tl,vI p.th,vI p.fl,vI p.fh,.int .u8 p.phase],.slice A n c,.slice B n' d,vI m] w (NxPost (nxE s p al sp k) (nxP s p al sp k) w):=by
 have N:=StN.of hl;have hno:=N.no;have hmx:=hok.no
 unfold maxLen at hmx
 have la:=ha.len;have lb:=hb.len
 have hn1:n=s.no.length:=by have:=hF.la;omega
 have hn2:n'=s.no.length:=by have:=hF.ls;omega
 obtain ⟨b,off,hA⟩:=su_A hl (by omega);obtain ⟨ba,oa,rfl⟩:=ints_A ha (by omega);obtain ⟨bb,ob,rfl⟩:=ints_A hb (by omega);have HS:=hid (boxS3 w s.cells.toArray #[vI p.alt,vI p.cas,vI p.tas,vI p.ground,vI p.tick,vI p.fuel,vI p.gl,vI p.gh,vI p.tl,vI p.th,vI p.fl,vI p.fh,.int .u8 p.phase] #[vI 0,vI 0,vI 0,vI 0,vI 0,vI 0,vI 0,vI 0,vI 0,vI 0,vI 0,vI 0,.int .u8 0] 35 62 62);have g2:=nod_good G N (k:=m) hk;have hdi:=g2.di;have hem:=(acc_bd G.ac).1;have hh:=suH_ok G k
 have HAA:=hid (fun W (h:BoxS w 3 [s.cells,(lzp p.alt p.cas p.tas p.ground p.tick p.fuel p.gl p.gh p.tl p.th p.fl p.fh p.phase),(lzp 0 0 0 0 0 0 0 0 0 0 0 0 0)] W)=>show W.cell? ⟨ba,oa+m,none⟩=some (vI (al.getD m 0))∧W.cell? ⟨bb,ob+m,none⟩=some (vI (sp.getD m 0)) from
  have q2:=Int_getD ha (k:=m) (by omega);have q4:=Int_getD hb (k:=m) (by omega)
  ⟨(h.B.cell (p:=⟨ba,oa+m,none⟩) q2.1).trans q2.2,(h.B.cell (p:=⟨bb,ob+m,none⟩) q4.1).trans q4.2⟩)
 have HNS:=hid (fun W (h:BoxS w 3 [s.cells,(lzp p.alt p.cas p.tas p.ground p.tick p.fuel p.gl p.gh p.tl p.th p.fl p.fh p.phase),(lzp 0 0 0 0 0 0 0 0 0 0 0 0 0)] W)=>show W.cell? ⟨w.heap.size,0,none⟩=some (.slice (some ⟨b,off,none⟩) s.sno.n s.sno.c)∧W.cell? ⟨b,off+m * 7+2,none⟩=some (vI (nodA s m).di) from
  ⟨su_sl (h.has 0 _ rfl) hA,(su_nd (hl.below h.B) hA (k:=m) hk).2.2.1⟩)
 have HLS:=hid (fun W (h:BoxS w 3 [s.cells,(lzp p.alt p.cas p.tas p.ground p.tick p.fuel p.gl p.gh p.tl p.th p.fl p.fh p.phase),(lzp 0 0 0 0 0 0 0 0 0 0 0 0 0)] W)=>show W.cell? ⟨w.heap.size+1,4,none⟩=some (vI p.tick)∧W.cell? ⟨w.heap.size+1,8,none⟩=some (vI p.tl)∧W.cell? ⟨w.heap.size+1,9,none⟩=some (vI p.th) from ⟨h.at 1 _ rfl 4 _ rfl,h.at 1 _ rfl 8 _ rfl,h.at 1 _ rfl 9 _ rfl⟩);have HLF:=hid (fun W (h:BoxS w 3 [s.cells,(lzp p.alt p.cas p.tas p.ground p.tick p.fuel p.gl p.gh p.tl p.th p.fl p.fh p.phase),(lzp 0 0 0 0 0 0 0 0 0 0 0 0 0)] W)=>show W.cell? ⟨w.heap.size+1,5,none⟩=some (vI p.fuel)∧W.cell? ⟨w.heap.size+1,10,none⟩=some (vI p.fl)∧W.cell? ⟨w.heap.size+1,11,none⟩=some (vI p.fh) from ⟨h.at 1 _ rfl 5 _ rfl,h.at 1 _ rfl 10 _ rfl,h.at 1 _ rfl 11 _ rfl⟩);have HLO:=hid (fun W (h:Below w.heap.size w W)=>xPLegOf s k m hm (some ⟨ba,oa,none⟩) (some ⟨bb,ob,none⟩) n c n' d al sp W (hl.below h) hok G hk hF (ha.below h) (hb.below h));have HHU:=hid (fun W (h:Below w.heap.size w W)=>xPhull s k m hm W (hl.below h) hok G hk);have HSC:=hid (fun W l v=>xLgSchedule s l v W);have HFL:=hid (fun W (h:Below w.heap.size w W) l left tas (h1:l.ph=1∨l.ph=2∨l.ph=3) (h2:0<=left∧left<=3000000000)=>xLgFlow s l left tas W (hl.below h) hok h1 (by omega));have HFB:=hid (fun l left tas=>flw_bd G N l left tas);have hphl:(lgV s al sp k).ph=1∨(lgV s al sp k).ph=2∨(lgV s al sp k).ph=3:=lgP_is al k;have HCO:=hid (show I64 (lgV s al sp k).co from coV_I64 _ _ _ _)
 have HXE:=hid (show nxE s p al sp k=if (lgV s al sp k).ta=0∨scdV (lgV s al sp k).sp s.mch (lgV s al sp k).al (suH s k).d0=0 then 10
  else if gsE (lgV s al sp k).co (lgV s al sp k).ta (lgV s al sp k).we (lgV s al sp k).wn≠0 then gsE (lgV s al sp k).co (lgV s al sp k).ta (lgV s al sp k).we (lgV s al sp k).wn
  else if giE (lgV s al sp k).co (scdV (lgV s al sp k).sp s.mch (lgV s al sp k).al (suH s k).d0) (scdV (lgV s al sp k).sp s.mch (lgV s al sp k).al (suH s k).d1) (suH s k).e0 (suH s k).e1 (suH s k).n0 (suH s k).n1≠0 then giE (lgV s al sp k).co (scdV (lgV s al sp k).sp s.mch (lgV s al sp k).al (suH s k).d0) (scdV (lgV s al sp k).sp s.mch (lgV s al sp k).al (suH s k).d1) (suH s k).e0 (suH s k).e1 (suH s k).n0 (suH s k).n1
  else if (nxV s al sp k).fu s p<0 then 15
  else biE p.fl p.fh ((nxV s al sp k).f0 s p) ((nxV s al sp k).f1 s p) (nxV s al sp k).t0 (nxV s al sp k).t1 from rfl)
 have HXF:=hid (show (nxV s al sp k).fu s p=p.fuel - tck (nodA s (k+1)).di (gsV (lgV s al sp k).co (lgV s al sp k).ta (lgV s al sp k).we (lgV s al sp k).wn / 1024) * flw s (lgV s al sp k) p.fuel (lgV s al sp k).ta from rfl);have HF0:=hid (show (nxV s al sp k).f0 s p=flw s (lgV s al sp k) p.fl (scdV (lgV s al sp k).sp s.mch (lgV s al sp k).al (suH s k).d0) from rfl);have HF1:=hid (show (nxV s al sp k).f1 s p=flw s (lgV s al sp k) p.fh (scdV (lgV s al sp k).sp s.mch (lgV s al sp k).al (suH s k).d1) from rfl);have HT0:=hid (show (nxV s al sp k).t0=tck (nodA s (k+1)).di (giH (lgV s al sp k).co (scdV (lgV s al sp k).sp s.mch (lgV s al sp k).al (suH s k).d0) (scdV (lgV s al sp k).sp s.mch (lgV s al sp k).al (suH s k).d1) (suH s k).e0 (suH s k).e1 (suH s k).n0 (suH s k).n1) from rfl);have HT1:=hid (show (nxV s al sp k).t1=tck (nodA s (k+1)).di (giL (lgV s al sp k).co (scdV (lgV s al sp k).sp s.mch (lgV s al sp k).al (suH s k).d0) (scdV (lgV s al sp k).sp s.mch (lgV s al sp k).al (suH s k).d1) (suH s k).e0 (suH s k).e1 (suH s k).n0 (suH s k).n1) from rfl);have HXP:=hid (show nxP s p al sp k=⟨al.getD (k+1) 0,sp.getD (k+1) 0,(lgV s al sp k).ta,gsV (lgV s al sp k).co (lgV s al sp k).ta (lgV s al sp k).we (lgV s al sp k).wn / 1024,p.tick+tck (nodA s (k+1)).di (gsV (lgV s al sp k).co (lgV s al sp k).ta (lgV s al sp k).we (lgV s al sp k).wn / 1024),(nxV s al sp k).fu s p,giL (lgV s al sp k).co (scdV (lgV s al sp k).sp s.mch (lgV s al sp k).al (suH s k).d0) (scdV (lgV s al sp k).sp s.mch (lgV s al sp k).al (suH s k).d1) (suH s k).e0 (suH s k).e1 (suH s k).n0 (suH s k).n1,giH (lgV s al sp k).co (scdV (lgV s al sp k).sp s.mch (lgV s al sp k).al (suH s k).d0) (scdV (lgV s al sp k).sp s.mch (lgV s al sp k).al (suH s k).d1) (suH s k).e0 (suH s k).e1 (suH s k).n0 (suH s k).n1,p.tl+(nxV s al sp k).t0,p.th+(nxV s al sp k).t1,biL p.fl p.fh ((nxV s al sp k).f0 s p) ((nxV s al sp k).f1 s p) (nxV s al sp k).t0 (nxV s al sp k).t1,biH p.fl p.fh ((nxV s al sp k).f0 s p) ((nxV s al sp k).f1 s p) (nxV s al sp k).t0 (nxV s al sp k).t1,(lgV s al sp k).ph⟩ from rfl)
 rw [← hm] at HXF HT0 HT1 HXP
 have i2:(0:Int)<=(m:Int):=by omega
 have i3:(m:Int)<(s.sno.n:Int):=by omega
 have j2:(m:Int)<(n:Int):=by omega
 have j4:(m:Int)<(n':Int):=by omega
 obtain ⟨p1,p2,p3,p4,p5,p6⟩:=hp;clear hl hok G N hno hmx la lb hn1 hn2 hA hk hF ha hb g2 hem hh hm;generalize (nxV s al sp k).fu s p=FU at *;generalize (nxV s al sp k).f0 s p=F0 at *;generalize (nxV s al sp k).f1 s p=F1 at *;generalize (nxV s al sp k).t0=T0 at *;generalize (nxV s al sp k).t1=T1 at *;generalize nxE s p al sp k=EE at *;generalize nxP s p al sp k=PP at *;generalize lgV s al sp k=l at *;generalize suH s k=h at *;generalize al.getD m 0=am at *;generalize sp.getD m 0=sm at *;generalize hsl:scdV l.sp s.mch l.al h.d0=sl at *;generalize hfa:scdV l.sp s.mch l.al h.d1=fa at *;have HSL:=hid hsl;have HFA:=hid hfa;clear hsl hfa;generalize hGE:gsE l.co l.ta l.we l.wn=GE at *;generalize hGV:gsV l.co l.ta l.we l.wn / 1024=g at *;generalize hIE:giE l.co sl fa h.e0 h.e1 h.n0 h.n1=IE at *;generalize hGL:giL l.co sl fa h.e0 h.e1 h.n0 h.n1=gl at *;generalize hGH:giH l.co sl fa h.e0 h.e1 h.n0 h.n1=gh at *;have HGR:=hid (fun W=>xLgGround l l.we l.wn HCO.out W)
 rw [hGE,hGV] at HGR
 have HGI:=hid (fun W=>xGroundIn l.co sl fa h.e0 h.e1 h.n0 h.n1 HCO.out W)
 rw [hIE,hGL,hGH] at HGI
 have HG0:=hid (show GE=0→1<=g∧g<=4800 from fun h0=>by
  have q:=gs_good (hGE.trans h0);have q1:=q.hlo;have q2:=q.hv;have q3:=(gsV_bd l.co l.ta l.we l.wn).2
  omega)
 have HI0:=hid (show IE=0→1<=gl∧gl<=gh∧gh<=100000 from fun h0=>by
  have q:=(gi_bd (hIE.trans h0)).1;have q3:=gi_up (hIE.trans h0)
  omega)
 clear hGE hGV hIE hGL hGH
 go_enter Tryz.func43,Tryz.ntmps43
 go_wp2_with (refine at_stp (.tmp 5) rfl rfl rfl (HS.out.has 0 _ rfl) ?_)
 refine (HLO.out _ HS.out.B).mono ?_;rintro e' W1 ⟨rfl,hB⟩
 replace HS:=hid (HS.out.below hB);clear hB HLO
 rw [show l.cells.toArray=#[vI l.al,vI l.co,.int .u8 l.ph,vI l.sp,vI l.ta,vI l.we,vI l.wn] from rfl]
 have Q12:Hid (Has ((W1.alloc (.cells #[vI l.al,vI l.co,.int .u8 l.ph,vI l.sp,vI l.ta,vI l.we,vI l.wn] 115))) W1.heap.size (lzl l.al l.co l.ph l.sp l.ta l.we l.wn)):=hid (Has.new _ _ _);have r12:w.heap.size+3<=W1.heap.size:=HS.out.sz;replace HS:=hid ((HS.out.alloc (.cells #[vI l.al,vI l.co,.int .u8 l.ph,vI l.sp,vI l.ta,vI l.we,vI l.wn] 115)))
 go_wp2_with (refine at_stp (.tmp 5) rfl rfl rfl (HS.out.has 0 _ rfl) ?_)
 generalize (W1.alloc (.cells #[vI l.al,vI l.co,.int .u8 l.ph,vI l.sp,vI l.ta,vI l.we,vI l.wn] 115))=W2 at *;generalize W1.heap.size=H12 at *
 refine (HHU.out _ HS.out.B).mono ?_;rintro e' W3 ⟨rfl,hB⟩
 replace HS:=hid (HS.out.below hB);replace Q12:=hid (Q12.out.below hB);clear hB HHU
 go_wp2_with fail
 have Q13:Hid (Has ((W3.alloc (.cells #[vI h.e0,vI h.e1,vI h.n0,vI h.n1] 96)).alloc (.cells #[vI h.d0,vI h.d1] 60)) W3.heap.size (lz4 h.e0 h.e1 h.n0 h.n1)):=hid ((Has.new _ _ _).alloc (.cells #[vI h.d0,vI h.d1] 60));have Q14:Hid (Has ((W3.alloc (.cells #[vI h.e0,vI h.e1,vI h.n0,vI h.n1] 96)).alloc (.cells #[vI h.d0,vI h.d1] 60)) (W3.heap.size+1) (lz2 h.d0 h.d1)):=hid (Has.newAt _ _ _ _ (by simp));have r13:w.heap.size+3<=W3.heap.size:=HS.out.sz;have r14:w.heap.size+3<=W3.heap.size+1:=Nat.le_succ_of_le HS.out.sz
 have n12_13:H12≠W3.heap.size:=by have:=Q12.out.lt;omega
 have n12_14:H12≠W3.heap.size+1:=by have:=Q12.out.lt;omega
 have n13_14:W3.heap.size≠W3.heap.size+1:=by omega
 replace HS:=hid ((HS.out.alloc (.cells #[vI h.e0,vI h.e1,vI h.n0,vI h.n1] 96)).alloc (.cells #[vI h.d0,vI h.d1] 60));replace Q12:=hid ((Q12.out.alloc (.cells #[vI h.e0,vI h.e1,vI h.n0,vI h.n1] 96)).alloc (.cells #[vI h.d0,vI h.d1] 60));generalize ((W3.alloc (.cells #[vI h.e0,vI h.e1,vI h.n0,vI h.n1] 96)).alloc (.cells #[vI h.d0,vI h.d1] 60))=W5 at *;generalize W3.heap.size+1=H14 at *;generalize W3.heap.size=H13 at *
 refine rS (fun W=>BoxS w 3 [s.cells,(lzp p.alt p.cas p.tas p.ground p.tick p.fuel p.gl p.gh p.tl p.th p.fl p.fh p.phase),(lzp 0 0 0 0 0 0 0 0 0 0 0 0 0)] W∧Has W H12 (lzl l.al l.co l.ph l.sp l.ta l.we l.wn)∧Has W H13 (lz4 h.e0 h.e1 h.n0 h.n1)∧Has W H14 (lz2 h.d0 h.d1)) 12 ((And.intro (HS.out.drew) ((And.intro (Q12.out.drew) ((And.intro (Q13.out.drew) (Q14.out.drew))))))) (fun hHeld=>?_)
 refine rT (fun W hW=>And.intro (hW.2.1.cell 0 (vI l.al) rfl) (And.intro (hW.2.1.cell 1 (vI l.co) rfl) (And.intro (hW.2.1.cell 2 (.int .u8 l.ph) rfl) (And.intro (hW.2.1.cell 3 (vI l.sp) rfl) (And.intro (hW.2.1.cell 4 (vI l.ta) rfl) (And.intro (hW.2.1.cell 5 (vI l.we) rfl) (hW.2.1.cell 6 (vI l.wn) rfl))))))) ?_
 refine rY (yi_stp (.tmp 5) rfl rfl rfl (fun W hW=>hW.1.has 0 _ rfl)) ?_
 refine rQ ?_
 refine rT (fun W hW=>hW.2.2.2.cell 0 (vI h.d0) rfl) ?_
 refine rT (fun W hW=>And.intro (hW.2.1.cell 0 (vI l.al) rfl) (And.intro (hW.2.1.cell 1 (vI l.co) rfl) (And.intro (hW.2.1.cell 2 (.int .u8 l.ph) rfl) (And.intro (hW.2.1.cell 3 (vI l.sp) rfl) (And.intro (hW.2.1.cell 4 (vI l.ta) rfl) (And.intro (hW.2.1.cell 5 (vI l.we) rfl) (hW.2.1.cell 6 (vI l.wn) rfl))))))) ?_
 refine rY (yi_stp (.tmp 5) rfl rfl rfl (fun W hW=>hW.1.has 0 _ rfl)) ?_
 refine rQ ?_
 refine rT (fun W hW=>hW.2.2.2.cell 1 (vI h.d1) rfl) ?_
 refine rEk ?_
 intro K hK
 refine (HSC.out _ l h.d0).mono ?_;rintro e2 w4 ⟨rfl,hB⟩
 go_wp2_with fail
 have hNew:=(And.intro (hHeld.1.below hB) ((And.intro (hHeld.2.1.below hB) ((And.intro (hHeld.2.2.1.below hB) (hHeld.2.2.2.below hB))))));clear hB
 refine rEt hK hNew ?_
 clear hK K hNew hHeld
 intro hHeld
 refine rEk ?_
 intro K hK
 refine (HSC.out _ l h.d1).mono ?_;rintro e2 w4 ⟨rfl,hB⟩
 go_wp2_with fail
 have hNew:=(And.intro (hHeld.1.below hB) ((And.intro (hHeld.2.1.below hB) ((And.intro (hHeld.2.2.1.below hB) (hHeld.2.2.2.below hB))))));clear hB
 refine rEt hK hNew ?_
 clear hK K hNew hHeld
 intro hHeld
 iterate 2 refine rQ ?_
 refine rD ?_
 replace HS:=hid (hHeld.1);replace Q12:=hid (hHeld.2.1);replace Q13:=hid (hHeld.2.2.1);replace Q14:=hid (hHeld.2.2.2);clear hHeld
 rw [HSL.out,HFA.out]
 clear HSC HSL HFA;generalize w4=W6 at *;have c12_4:=Q12.out.cell 4 (vI l.ta) rfl
 by_cases hta:l.ta=0
 ·have e1:(l.ta == 0)=true:=by rw [hta];rfl
  have HF:=hid (HXE.out.trans (if_pos (.inl hta)));clear hta;have r0:W6.cell? ⟨w.heap.size+1+1,0,none⟩=some (vI 0):=HS.out.at 2 _ rfl 0 _ rfl;have r1:W6.cell? ⟨w.heap.size+1+1,1,none⟩=some (vI 0):=HS.out.at 2 _ rfl 1 _ rfl;have r2:W6.cell? ⟨w.heap.size+1+1,2,none⟩=some (vI 0):=HS.out.at 2 _ rfl 2 _ rfl;have r3:W6.cell? ⟨w.heap.size+1+1,3,none⟩=some (vI 0):=HS.out.at 2 _ rfl 3 _ rfl;have r4:W6.cell? ⟨w.heap.size+1+1,4,none⟩=some (vI 0):=HS.out.at 2 _ rfl 4 _ rfl;have r5:W6.cell? ⟨w.heap.size+1+1,5,none⟩=some (vI 0):=HS.out.at 2 _ rfl 5 _ rfl;have r6:W6.cell? ⟨w.heap.size+1+1,6,none⟩=some (vI 0):=HS.out.at 2 _ rfl 6 _ rfl;have r7:W6.cell? ⟨w.heap.size+1+1,7,none⟩=some (vI 0):=HS.out.at 2 _ rfl 7 _ rfl;have r8:W6.cell? ⟨w.heap.size+1+1,8,none⟩=some (vI 0):=HS.out.at 2 _ rfl 8 _ rfl;have r9:W6.cell? ⟨w.heap.size+1+1,9,none⟩=some (vI 0):=HS.out.at 2 _ rfl 9 _ rfl;have r10:W6.cell? ⟨w.heap.size+1+1,10,none⟩=some (vI 0):=HS.out.at 2 _ rfl 10 _ rfl;have r11:W6.cell? ⟨w.heap.size+1+1,11,none⟩=some (vI 0):=HS.out.at 2 _ rfl 11 _ rfl;have r12:W6.cell? ⟨w.heap.size+1+1,12,none⟩=some (.int .u8 0):=HS.out.at 2 _ rfl 12 _ rfl;have rf:=fun o=>show W6.frozen? ⟨w.heap.size+1+1,o,none⟩=false from HS.out.fr 2 _ rfl o
  exact zPr100
 have e1:=beq_of hta
 by_cases hsl:sl=0
 ·have e2:(sl == 0)=true:=by rw [hsl];rfl
  have HF:=hid (HXE.out.trans (if_pos (.inr hsl)));clear hta hsl;have r0:W6.cell? ⟨w.heap.size+1+1,0,none⟩=some (vI 0):=HS.out.at 2 _ rfl 0 _ rfl;have r1:W6.cell? ⟨w.heap.size+1+1,1,none⟩=some (vI 0):=HS.out.at 2 _ rfl 1 _ rfl;have r2:W6.cell? ⟨w.heap.size+1+1,2,none⟩=some (vI 0):=HS.out.at 2 _ rfl 2 _ rfl;have r3:W6.cell? ⟨w.heap.size+1+1,3,none⟩=some (vI 0):=HS.out.at 2 _ rfl 3 _ rfl;have r4:W6.cell? ⟨w.heap.size+1+1,4,none⟩=some (vI 0):=HS.out.at 2 _ rfl 4 _ rfl;have r5:W6.cell? ⟨w.heap.size+1+1,5,none⟩=some (vI 0):=HS.out.at 2 _ rfl 5 _ rfl;have r6:W6.cell? ⟨w.heap.size+1+1,6,none⟩=some (vI 0):=HS.out.at 2 _ rfl 6 _ rfl;have r7:W6.cell? ⟨w.heap.size+1+1,7,none⟩=some (vI 0):=HS.out.at 2 _ rfl 7 _ rfl;have r8:W6.cell? ⟨w.heap.size+1+1,8,none⟩=some (vI 0):=HS.out.at 2 _ rfl 8 _ rfl;have r9:W6.cell? ⟨w.heap.size+1+1,9,none⟩=some (vI 0):=HS.out.at 2 _ rfl 9 _ rfl;have r10:W6.cell? ⟨w.heap.size+1+1,10,none⟩=some (vI 0):=HS.out.at 2 _ rfl 10 _ rfl;have r11:W6.cell? ⟨w.heap.size+1+1,11,none⟩=some (vI 0):=HS.out.at 2 _ rfl 11 _ rfl;have r12:W6.cell? ⟨w.heap.size+1+1,12,none⟩=some (.int .u8 0):=HS.out.at 2 _ rfl 12 _ rfl;have rf:=fun o=>show W6.frozen? ⟨w.heap.size+1+1,o,none⟩=false from HS.out.fr 2 _ rfl o
  exact zPr100
 have e2:=beq_of hsl;replace HXE:=hid (HXE.out.trans (if_neg (fun h=>h.elim hta hsl)));clear hta hsl
 go_wp2_with fail
 clear e1 e2;clear c12_4
 refine rS (fun W=>BoxS w 3 [s.cells,(lzp p.alt p.cas p.tas p.ground p.tick p.fuel p.gl p.gh p.tl p.th p.fl p.fh p.phase),(lzp 0 0 0 0 0 0 0 0 0 0 0 0 0)] W∧Has W H12 (lzl l.al l.co l.ph l.sp l.ta l.we l.wn)∧Has W H13 (lz4 h.e0 h.e1 h.n0 h.n1)∧Has W H14 (lz2 h.d0 h.d1)) 15 ((And.intro (HS.out.drew) ((And.intro (Q12.out.drew) ((And.intro (Q13.out.drew) (Q14.out.drew))))))) (fun hHeld=>?_)
 iterate 3 refine rQ ?_
 refine rT (fun W hW=>HAA.out W hW.1) ?_
 iterate 3 refine rQ ?_
 refine rT (fun W hW=>HAA.out W hW.1) ?_
 refine rQ ?_
 refine rT (fun W hW=>And.intro (hW.2.1.cell 4 (vI l.ta) rfl) (hW.2.1.cell 2 (.int .u8 l.ph) rfl)) ?_
 refine rQ ?_
 refine rT (fun W hW=>And.intro (hW.2.1.cell 4 (vI l.ta) rfl) (hW.2.1.cell 2 (.int .u8 l.ph) rfl)) ?_
 refine rQ ?_
 refine rEk ?_
 intro K hK
 have hNew:=(And.intro (hHeld.1.alloc (.cells #[vI 0,vI 0,vI 0,vI 0,vI 0,vI 0,vI 0,vI 0,vI 0,vI 0,vI 0,vI 0,.int .u8 0] 62)) ((And.intro (hHeld.2.1.alloc (.cells #[vI 0,vI 0,vI 0,vI 0,vI 0,vI 0,vI 0,vI 0,vI 0,vI 0,vI 0,vI 0,.int .u8 0] 62)) ((And.intro (hHeld.2.2.1.alloc (.cells #[vI 0,vI 0,vI 0,vI 0,vI 0,vI 0,vI 0,vI 0,vI 0,vI 0,vI 0,vI 0,.int .u8 0] 62)) (hHeld.2.2.2.alloc (.cells #[vI 0,vI 0,vI 0,vI 0,vI 0,vI 0,vI 0,vI 0,vI 0,vI 0,vI 0,vI 0,.int .u8 0] 62)))))))
 refine rEt hK hNew ?_
 clear hK K hNew hHeld
 intro hHeld
 refine rEk ?_
 intro K hK
 have hNew:=(And.intro ((HS.out.alloc (.cells #[vI am,vI sm,vI l.ta,vI 0,vI 0,vI 0,vI 0,vI 0,vI 0,vI 0,vI 0,vI 0,.int .u8 l.ph] 62)).drew) ((And.intro ((Q12.out.alloc (.cells #[vI am,vI sm,vI l.ta,vI 0,vI 0,vI 0,vI 0,vI 0,vI 0,vI 0,vI 0,vI 0,.int .u8 l.ph] 62)).drew) ((And.intro ((Q13.out.alloc (.cells #[vI am,vI sm,vI l.ta,vI 0,vI 0,vI 0,vI 0,vI 0,vI 0,vI 0,vI 0,vI 0,.int .u8 l.ph] 62)).drew) ((Q14.out.alloc (.cells #[vI am,vI sm,vI l.ta,vI 0,vI 0,vI 0,vI 0,vI 0,vI 0,vI 0,vI 0,vI 0,.int .u8 l.ph] 62)).drew))))))
 refine rEt hK hNew ?_
 clear hK K hNew hHeld
 intro hHeld
 refine rD ?_
 clear hHeld HAA;have Q17:Hid (Has ((W6.alloc (.cells #[vI am,vI sm,vI l.ta,vI 0,vI 0,vI 0,vI 0,vI 0,vI 0,vI 0,vI 0,vI 0,.int .u8 l.ph] 62)).drew) W6.heap.size (lzp am sm l.ta 0 0 0 0 0 0 0 0 0 l.ph)):=hid (Has.new _ _ _).drew;have r17:w.heap.size+3<=W6.heap.size:=HS.out.sz
 have n12_17:H12≠W6.heap.size:=by have:=Q12.out.lt;omega
 have n13_17:H13≠W6.heap.size:=by have:=Q13.out.lt;omega
 have n14_17:H14≠W6.heap.size:=by have:=Q14.out.lt;omega
 replace HS:=hid ((HS.out.alloc (.cells #[vI am,vI sm,vI l.ta,vI 0,vI 0,vI 0,vI 0,vI 0,vI 0,vI 0,vI 0,vI 0,.int .u8 l.ph] 62)).drew);replace Q12:=hid ((Q12.out.alloc (.cells #[vI am,vI sm,vI l.ta,vI 0,vI 0,vI 0,vI 0,vI 0,vI 0,vI 0,vI 0,vI 0,.int .u8 l.ph] 62)).drew);replace Q13:=hid ((Q13.out.alloc (.cells #[vI am,vI sm,vI l.ta,vI 0,vI 0,vI 0,vI 0,vI 0,vI 0,vI 0,vI 0,vI 0,.int .u8 l.ph] 62)).drew);replace Q14:=hid ((Q14.out.alloc (.cells #[vI am,vI sm,vI l.ta,vI 0,vI 0,vI 0,vI 0,vI 0,vI 0,vI 0,vI 0,vI 0,.int .u8 l.ph] 62)).drew);generalize (W6.alloc (.cells #[vI am,vI sm,vI l.ta,vI 0,vI 0,vI 0,vI 0,vI 0,vI 0,vI 0,vI 0,vI 0,.int .u8 l.ph] 62)).drew=W7 at *;generalize W6.heap.size=H17 at *;have c12_0:=Q12.out.cell 0 (vI l.al) rfl;have c12_1:=Q12.out.cell 1 (vI l.co) rfl;have c12_2:=Q12.out.cell 2 (.int .u8 l.ph) rfl;have c12_3:=Q12.out.cell 3 (vI l.sp) rfl;have c12_4:=Q12.out.cell 4 (vI l.ta) rfl;have c12_5:=Q12.out.cell 5 (vI l.we) rfl;have c12_6:=Q12.out.cell 6 (vI l.wn) rfl
 go_wp2_with fail
 refine (HGR.out _).mono ?_;rintro e' w4 ⟨rfl,hB⟩
 replace HS:=hid (HS.out.below hB);replace Q12:=hid (Q12.out.below hB);replace Q13:=hid (Q13.out.below hB);replace Q14:=hid (Q14.out.below hB);replace Q17:=hid (Q17.out.below hB);clear hB HGR;clear c12_0 c12_1 c12_2 c12_3 c12_4 c12_5 c12_6;have c17_3:=Q17.out.cell 3 (vI 0) rfl;have fr17:=Q17.out.fr
 by_cases hge:GE=0
 rotate_left
 ·have HF:=hid (HXE.out.trans (if_pos hge))
  have HNE:=hid hge;have e1:=beq_of hge;have e2:=bne_of e1;clear hge;replace HS:=hid ((HS.out.set H17 3 r17 (vI g)));replace Q12:=hid ((Q12.out.other H17 3 (vI g) n12_17));replace Q13:=hid ((Q13.out.other H17 3 (vI g) n13_17));replace Q14:=hid ((Q14.out.other H17 3 (vI g) n14_17));replace Q17:=hid (show Has (w4.setCell ⟨H17,3,none⟩ (vI g)) H17 (lzp am sm l.ta g 0 0 0 0 0 0 0 0 l.ph) from (Q17.out.set 3 (vI g) (by simp)));have r0:(w4.setCell ⟨H17,3,none⟩ (vI g)).cell? ⟨w.heap.size+1+1,0,none⟩=some (vI 0):=HS.out.at 2 _ rfl 0 _ rfl;have r1:(w4.setCell ⟨H17,3,none⟩ (vI g)).cell? ⟨w.heap.size+1+1,1,none⟩=some (vI 0):=HS.out.at 2 _ rfl 1 _ rfl;have r2:(w4.setCell ⟨H17,3,none⟩ (vI g)).cell? ⟨w.heap.size+1+1,2,none⟩=some (vI 0):=HS.out.at 2 _ rfl 2 _ rfl;have r3:(w4.setCell ⟨H17,3,none⟩ (vI g)).cell? ⟨w.heap.size+1+1,3,none⟩=some (vI 0):=HS.out.at 2 _ rfl 3 _ rfl;have r4:(w4.setCell ⟨H17,3,none⟩ (vI g)).cell? ⟨w.heap.size+1+1,4,none⟩=some (vI 0):=HS.out.at 2 _ rfl 4 _ rfl;have r5:(w4.setCell ⟨H17,3,none⟩ (vI g)).cell? ⟨w.heap.size+1+1,5,none⟩=some (vI 0):=HS.out.at 2 _ rfl 5 _ rfl;have r6:(w4.setCell ⟨H17,3,none⟩ (vI g)).cell? ⟨w.heap.size+1+1,6,none⟩=some (vI 0):=HS.out.at 2 _ rfl 6 _ rfl;have r7:(w4.setCell ⟨H17,3,none⟩ (vI g)).cell? ⟨w.heap.size+1+1,7,none⟩=some (vI 0):=HS.out.at 2 _ rfl 7 _ rfl;have r8:(w4.setCell ⟨H17,3,none⟩ (vI g)).cell? ⟨w.heap.size+1+1,8,none⟩=some (vI 0):=HS.out.at 2 _ rfl 8 _ rfl;have r9:(w4.setCell ⟨H17,3,none⟩ (vI g)).cell? ⟨w.heap.size+1+1,9,none⟩=some (vI 0):=HS.out.at 2 _ rfl 9 _ rfl;have r10:(w4.setCell ⟨H17,3,none⟩ (vI g)).cell? ⟨w.heap.size+1+1,10,none⟩=some (vI 0):=HS.out.at 2 _ rfl 10 _ rfl;have r11:(w4.setCell ⟨H17,3,none⟩ (vI g)).cell? ⟨w.heap.size+1+1,11,none⟩=some (vI 0):=HS.out.at 2 _ rfl 11 _ rfl;have r12:(w4.setCell ⟨H17,3,none⟩ (vI g)).cell? ⟨w.heap.size+1+1,12,none⟩=some (.int .u8 0):=HS.out.at 2 _ rfl 12 _ rfl;have rf:=fun o=>show (w4.setCell ⟨H17,3,none⟩ (vI g)).frozen? ⟨w.heap.size+1+1,o,none⟩=false from HS.out.fr 2 _ rfl o
  go_wp2_with fail
  exact bodyPost_ret (v:=.tuple #[.agg #[vI 0,vI 0,vI 0,vI 0,vI 0,vI 0,vI 0,vI 0,vI 0,vI 0,vI 0,vI 0,.int .u8 0],vI GE]) (by simp [results,Tryz.results43,go_sem,r0,r1,r2,r3,r4,r5,r6,r7,r8,r9,r10,r11,r12]) rfl (nxPost_err HF.out (by first | decide | exact HNE.out) (below_set (below_set (below_set (below_set (below_set (below_set (below_set (below_set (below_set (below_set (below_set (below_set (below_set (HS.out.B) _ _ (le_add2 _) _) _ _ (le_add2 _) _) _ _ (le_add2 _) _) _ _ (le_add2 _) _) _ _ (le_add2 _) _) _ _ (le_add2 _) _) _ _ (le_add2 _) _) _ _ (le_add2 _) _) _ _ (le_add2 _) _) _ _ (le_add2 _) _) _ _ (le_add2 _) _) _ _ (le_add2 _) _) _ _ (le_add2 _) _))
 replace HXE:=hid (HXE.out.trans (if_neg (fun h=>h hge)));have hg:=HG0.out hge;subst hge;replace HS:=hid ((HS.out.set H17 3 r17 (vI g)));replace Q12:=hid ((Q12.out.other H17 3 (vI g) n12_17));replace Q13:=hid ((Q13.out.other H17 3 (vI g) n13_17));replace Q14:=hid ((Q14.out.other H17 3 (vI g) n14_17));replace Q17:=hid (show Has (w4.setCell ⟨H17,3,none⟩ (vI g)) H17 (lzp am sm l.ta g 0 0 0 0 0 0 0 0 l.ph) from (Q17.out.set 3 (vI g) (by simp)));have c12_1:=Q12.out.cell 1 (vI l.co) rfl;have c13_0:=Q13.out.cell 0 (vI h.e0) rfl;have c13_1:=Q13.out.cell 1 (vI h.e1) rfl;have c13_2:=Q13.out.cell 2 (vI h.n0) rfl;have c13_3:=Q13.out.cell 3 (vI h.n1) rfl
 go_wp2_with fail
 refine (HGI.out _).mono ?_;rintro e' w4 ⟨rfl,hB⟩
 replace HS:=hid (HS.out.below hB);replace Q12:=hid (Q12.out.below hB);replace Q13:=hid (Q13.out.below hB);replace Q14:=hid (Q14.out.below hB);replace Q17:=hid (Q17.out.below hB);clear hB HGI;clear c17_3 fr17 c12_1 c13_0 c13_1 c13_2 c13_3;have c17_6:=Q17.out.cell 6 (vI 0) rfl;have c17_7:=Q17.out.cell 7 (vI 0) rfl;have fr17:=Q17.out.fr
 by_cases hie:IE=0
 rotate_left
 ·have HF:=hid (HXE.out.trans (if_pos hie))
  have HNE:=hid hie;have e1:=beq_of hie;have e2:=bne_of e1;clear hie;replace HS:=hid (((HS.out.set H17 6 r17 (vI gl)).set H17 7 r17 (vI gh)));replace Q12:=hid (((Q12.out.other H17 6 (vI gl) n12_17).other H17 7 (vI gh) n12_17));replace Q13:=hid (((Q13.out.other H17 6 (vI gl) n13_17).other H17 7 (vI gh) n13_17));replace Q14:=hid (((Q14.out.other H17 6 (vI gl) n14_17).other H17 7 (vI gh) n14_17));replace Q17:=hid (show Has ((w4.setCell ⟨H17,6,none⟩ (vI gl)).setCell ⟨H17,7,none⟩ (vI gh)) H17 (lzp am sm l.ta g 0 0 gl gh 0 0 0 0 l.ph) from ((Q17.out.set 6 (vI gl) (by simp)).set 7 (vI gh) (by simp)));have r0:((w4.setCell ⟨H17,6,none⟩ (vI gl)).setCell ⟨H17,7,none⟩ (vI gh)).cell? ⟨w.heap.size+1+1,0,none⟩=some (vI 0):=HS.out.at 2 _ rfl 0 _ rfl;have r1:((w4.setCell ⟨H17,6,none⟩ (vI gl)).setCell ⟨H17,7,none⟩ (vI gh)).cell? ⟨w.heap.size+1+1,1,none⟩=some (vI 0):=HS.out.at 2 _ rfl 1 _ rfl;have r2:((w4.setCell ⟨H17,6,none⟩ (vI gl)).setCell ⟨H17,7,none⟩ (vI gh)).cell? ⟨w.heap.size+1+1,2,none⟩=some (vI 0):=HS.out.at 2 _ rfl 2 _ rfl;have r3:((w4.setCell ⟨H17,6,none⟩ (vI gl)).setCell ⟨H17,7,none⟩ (vI gh)).cell? ⟨w.heap.size+1+1,3,none⟩=some (vI 0):=HS.out.at 2 _ rfl 3 _ rfl;have r4:((w4.setCell ⟨H17,6,none⟩ (vI gl)).setCell ⟨H17,7,none⟩ (vI gh)).cell? ⟨w.heap.size+1+1,4,none⟩=some (vI 0):=HS.out.at 2 _ rfl 4 _ rfl;have r5:((w4.setCell ⟨H17,6,none⟩ (vI gl)).setCell ⟨H17,7,none⟩ (vI gh)).cell? ⟨w.heap.size+1+1,5,none⟩=some (vI 0):=HS.out.at 2 _ rfl 5 _ rfl;have r6:((w4.setCell ⟨H17,6,none⟩ (vI gl)).setCell ⟨H17,7,none⟩ (vI gh)).cell? ⟨w.heap.size+1+1,6,none⟩=some (vI 0):=HS.out.at 2 _ rfl 6 _ rfl;have r7:((w4.setCell ⟨H17,6,none⟩ (vI gl)).setCell ⟨H17,7,none⟩ (vI gh)).cell? ⟨w.heap.size+1+1,7,none⟩=some (vI 0):=HS.out.at 2 _ rfl 7 _ rfl;have r8:((w4.setCell ⟨H17,6,none⟩ (vI gl)).setCell ⟨H17,7,none⟩ (vI gh)).cell? ⟨w.heap.size+1+1,8,none⟩=some (vI 0):=HS.out.at 2 _ rfl 8 _ rfl;have r9:((w4.setCell ⟨H17,6,none⟩ (vI gl)).setCell ⟨H17,7,none⟩ (vI gh)).cell? ⟨w.heap.size+1+1,9,none⟩=some (vI 0):=HS.out.at 2 _ rfl 9 _ rfl
  have r10:((w4.setCell ⟨H17,6,none⟩ (vI gl)).setCell ⟨H17,7,none⟩ (vI gh)).cell? ⟨w.heap.size+1+1,10,none⟩=some (vI 0):=HS.out.at 2 _ rfl 10 _ rfl;have r11:((w4.setCell ⟨H17,6,none⟩ (vI gl)).setCell ⟨H17,7,none⟩ (vI gh)).cell? ⟨w.heap.size+1+1,11,none⟩=some (vI 0):=HS.out.at 2 _ rfl 11 _ rfl;have r12:((w4.setCell ⟨H17,6,none⟩ (vI gl)).setCell ⟨H17,7,none⟩ (vI gh)).cell? ⟨w.heap.size+1+1,12,none⟩=some (.int .u8 0):=HS.out.at 2 _ rfl 12 _ rfl;have rf:=fun o=>show ((w4.setCell ⟨H17,6,none⟩ (vI gl)).setCell ⟨H17,7,none⟩ (vI gh)).frozen? ⟨w.heap.size+1+1,o,none⟩=false from HS.out.fr 2 _ rfl o
  go_wp2_with fail
  exact bodyPost_ret (v:=.tuple #[.agg #[vI 0,vI 0,vI 0,vI 0,vI 0,vI 0,vI 0,vI 0,vI 0,vI 0,vI 0,vI 0,.int .u8 0],vI IE]) (by simp [results,Tryz.results43,go_sem,r0,r1,r2,r3,r4,r5,r6,r7,r8,r9,r10,r11,r12]) rfl (nxPost_err HF.out (by first | decide | exact HNE.out) (below_set (below_set (below_set (below_set (below_set (below_set (below_set (below_set (below_set (below_set (below_set (below_set (below_set (HS.out.B) _ _ (le_add2 _) _) _ _ (le_add2 _) _) _ _ (le_add2 _) _) _ _ (le_add2 _) _) _ _ (le_add2 _) _) _ _ (le_add2 _) _) _ _ (le_add2 _) _) _ _ (le_add2 _) _) _ _ (le_add2 _) _) _ _ (le_add2 _) _) _ _ (le_add2 _) _) _ _ (le_add2 _) _) _ _ (le_add2 _) _))
 replace HXE:=hid (HXE.out.trans (if_neg (fun h=>h hie)));have hgi:=HI0.out hie;subst hie;replace HS:=hid (((HS.out.set H17 6 r17 (vI gl)).set H17 7 r17 (vI gh)));replace Q12:=hid (((Q12.out.other H17 6 (vI gl) n12_17).other H17 7 (vI gh) n12_17));replace Q13:=hid (((Q13.out.other H17 6 (vI gl) n13_17).other H17 7 (vI gh) n13_17));replace Q14:=hid (((Q14.out.other H17 6 (vI gl) n14_17).other H17 7 (vI gh) n14_17));replace Q17:=hid (show Has ((w4.setCell ⟨H17,6,none⟩ (vI gl)).setCell ⟨H17,7,none⟩ (vI gh)) H17 (lzp am sm l.ta g 0 0 gl gh 0 0 0 0 l.ph) from ((Q17.out.set 6 (vI gl) (by simp)).set 7 (vI gh) (by simp)));obtain ⟨k0,k1⟩:=HNS.out _ HS.out;have c17_3:=Q17.out.cell 3 (vI g) rfl;have HTK:=hid (fun W=>xPTicks (nodA s m).di g hdi.1 (by omega) hg.1 (by omega) W);have HTA:=hid (fun W=>xPTicks (nodA s m).di gh hdi.1 (by omega) (by omega) (by omega) W);have HTB:=hid (fun W=>xPTicks (nodA s m).di gl hdi.1 (by omega) (by omega) (by omega) W)
 rw [← HT0.out] at HTA
 rw [← HT1.out] at HTB
 have htk:=tck_bd hdi.1 hg.1
 have htA:0<=T0∧T0<=8000000:=by have:=tck_bd (d:=(nodA s m).di) (g:=gh) hdi.1 (by omega);rw [← HT0.out] at this;omega
 have htB:0<=T1∧T1<=8000000:=by have:=tck_bd (d:=(nodA s m).di) (g:=gl) hdi.1 (by omega);rw [← HT1.out] at this;omega
 replace htk:0<=tck (nodA s m).di g∧tck (nodA s m).di g<=8000000:=by omega
 clear hgi hg HT0 HT1 HI0 HG0 hdi HNS;generalize (nodA s m).di=di at *;generalize tck di g=T at *
 go_wp2_with fail
 refine (HTK.out _).mono ?_;rintro e' w4 ⟨rfl,hB⟩
 replace HS:=hid (HS.out.below hB);replace Q12:=hid (Q12.out.below hB);replace Q13:=hid (Q13.out.below hB);replace Q14:=hid (Q14.out.below hB);replace Q17:=hid (Q17.out.below hB);clear hB HTK k0 k1;clear c17_6 c17_7 fr17 c17_3
 go_wp2_with fail
 generalize w4=W10 at *;have qH12:=Q12.out.drew;have qH13:=Q13.out.drew;have qH14:=Q14.out.drew;have qH17:=Q17.out.drew
 refine rS (fun W=>BoxS w 3 [s.cells,(lzp p.alt p.cas p.tas p.ground p.tick p.fuel p.gl p.gh p.tl p.th p.fl p.fh p.phase),(lzp 0 0 0 0 0 0 0 0 0 0 0 0 0)] W∧Has W H17 (lzp am sm l.ta g 0 0 gl gh 0 0 0 0 l.ph)) 13 ((And.intro (HS.out.drew) (Q17.out.drew))) (fun hHeld=>?_)
 iterate 3 refine rQ ?_
 refine rT (fun W hW=>And.intro (hW.2.cell 6 (vI gl) rfl) (hW.2.cell 7 (vI gh) rfl)) ?_
 iterate 3 refine rQ ?_
 refine rT (fun W hW=>And.intro (hW.2.cell 6 (vI gl) rfl) (hW.2.cell 7 (vI gh) rfl)) ?_
 refine held_nameS ?_
 intro OPS QQ A0 SS hO hQ hA hSS
 have st_4_9_11:Hid (∀ (H21:Nat) (W:World) (qH12:Has W H12 (lzl l.al l.co l.ph l.sp l.ta l.we l.wn)) (qH13:Has W H13 (lz4 h.e0 h.e1 h.n0 h.n1)) (qH14:Has W H14 (lz2 h.d0 h.d1)) (qH17:Has W H17 (lzp am sm l.ta g 0 0 gl gh 0 0 0 0 l.ph)) (qH21:Has W H21 (lz2 0 0)) (rH21:w.heap.size+3<=H21) (nH12H21:H12≠H21) (nH13H21:H13≠H21) (nH14H21:H14≠H21) (nH17H21:H17≠H21),SS W→wpAnyH Tryz.prog .any OPS QQ SS 1 #[b1,b1,b1,b1,b1,b1,b1,b1,b1,b1,b1,b1,b0] ((((A0.put (some 106) (vI T0)).put (some 111) (vI T1)).put (some 112) (.agg #[vI T0,vI T1])).put (some 21) (.pointer (some ⟨H21,0,none⟩))) W):=by
  subst hO hQ hA hSS
  refine hid ?_
  intro H21 W qH12 qH13 qH14 qH17 qH21 rH21 nH12H21 nH13H21 nH14H21 nH17H21 hHeld
  (try simp only [Act.put,pa,pb,pc])
  have fz:=qH21.fr;have cz0:=qH21.cell 0 _ rfl;have cz1:=qH21.cell 1 _ rfl
  refine rEk ?_
  intro K hK
  have hNew:=(And.intro ((And.intro (hHeld.1.set H21 0 rH21 (vI T0)) (hHeld.2.other H21 0 (vI T0) nH17H21)).1.set H21 1 rH21 (vI T1)) ((And.intro (hHeld.1.set H21 0 rH21 (vI T0)) (hHeld.2.other H21 0 (vI T0) nH17H21)).2.other H21 1 (vI T1) nH17H21));have pH12:=((qH12.other H21 0 (vI T0) (by omega)).other H21 1 (vI T1) (by omega));have pH13:=((qH13.other H21 0 (vI T0) (by omega)).other H21 1 (vI T1) (by omega));have pH14:=((qH14.other H21 0 (vI T0) (by omega)).other H21 1 (vI T1) (by omega));have pH17:=((qH17.other H21 0 (vI T0) (by omega)).other H21 1 (vI T1) (by omega));have pH21:Has ((W.setCell ⟨H21,0,none⟩ (vI T0)).setCell ⟨H21,1,none⟩ (vI T1)) H21 (lz2 T0 T1):=((qH21.set 0 (vI T0) (by simp)).set 1 (vI T1) (by simp))
  refine rEt hK hNew ?_
  clear hK K hNew fz cz0 cz1 qH12 qH13 qH14 qH17 qH21 hHeld
  intro hHeld
  have qH12:=pH12;have qH13:=pH13;have qH14:=pH14;have qH17:=pH17;have qH21:=pH21;clear pH12 pH13 pH14 pH17 pH21;generalize ((W.setCell ⟨H21,0,none⟩ (vI T0)).setCell ⟨H21,1,none⟩ (vI T1))=W11 at *
  refine rD ?_
  replace HS:=hid (hHeld.1);replace Q12:=hid qH12;clear qH12;replace Q13:=hid qH13;clear qH13;replace Q14:=hid qH14;clear qH14;replace Q17:=hid qH17;clear qH17;have Q21:=hid qH21;have r21:=rH21;have n12_21:=nH12H21;have n13_21:=nH13H21;have n14_21:=nH14H21;have n17_21:=nH17H21;clear qH21 rH21 nH12H21 nH13H21 nH14H21 nH17H21 hHeld;have u1:IntKind.i64.wrap (p.tick+T)=p.tick+T:=IntWalk.i64_in _ (by omega);have u2:IntKind.i64.wrap (p.tl+T0)=p.tl+T0:=IntWalk.i64_in _ (by omega);have u3:IntKind.i64.wrap (p.th+T1)=p.th+T1:=IntWalk.i64_in _ (by omega);obtain ⟨l4,l8,l9⟩:=HLS.out _ HS.out;have c17_4:=Q17.out.cell 4 (vI 0) rfl;have fr17:=Q17.out.fr;replace HS:=hid ((HS.out.set H17 4 r17 (vI (p.tick+T))));replace Q12:=hid ((Q12.out.other H17 4 (vI (p.tick+T)) n12_17));replace Q13:=hid ((Q13.out.other H17 4 (vI (p.tick+T)) n13_17));replace Q14:=hid ((Q14.out.other H17 4 (vI (p.tick+T)) n14_17));replace Q17:=hid (show Has (W11.setCell ⟨H17,4,none⟩ (vI (p.tick+T))) H17 (lzp am sm l.ta g (p.tick+T) 0 gl gh 0 0 0 0 l.ph) from (Q17.out.set 4 (vI (p.tick+T)) (by simp)));replace Q21:=hid ((Q21.out.other H17 4 (vI (p.tick+T)) n17_21.symm));clear l8 l9;obtain ⟨-,l8,l9⟩:=HLS.out _ HS.out;have c17_8:=Q17.out.cell 8 (vI 0) rfl;have c17_9:=Q17.out.cell 9 (vI 0) rfl;have c21_0:=Q21.out.cell 0 (vI T0) rfl;have c21_1:=Q21.out.cell 1 (vI T1) rfl;have fs17:=Q17.out.fr
  go_wp2_with fail
  replace HS:=hid (((HS.out.set H17 8 r17 (vI (p.tl+T0))).set H17 9 r17 (vI (p.th+T1))));replace Q12:=hid (((Q12.out.other H17 8 (vI (p.tl+T0)) n12_17).other H17 9 (vI (p.th+T1)) n12_17));replace Q13:=hid (((Q13.out.other H17 8 (vI (p.tl+T0)) n13_17).other H17 9 (vI (p.th+T1)) n13_17));replace Q14:=hid (((Q14.out.other H17 8 (vI (p.tl+T0)) n14_17).other H17 9 (vI (p.th+T1)) n14_17));replace Q17:=hid (show Has (((W11.setCell ⟨H17,4,none⟩ (vI (p.tick+T))).setCell ⟨H17,8,none⟩ (vI (p.tl+T0))).setCell ⟨H17,9,none⟩ (vI (p.th+T1))) H17 (lzp am sm l.ta g (p.tick+T) 0 gl gh (p.tl+T0) (p.th+T1) 0 0 l.ph) from ((Q17.out.set 8 (vI (p.tl+T0)) (by simp)).set 9 (vI (p.th+T1)) (by simp)));replace Q21:=hid (((Q21.out.other H17 8 (vI (p.tl+T0)) n17_21.symm).other H17 9 (vI (p.th+T1)) n17_21.symm));generalize (((W11.setCell ⟨H17,4,none⟩ (vI (p.tick+T))).setCell ⟨H17,8,none⟩ (vI (p.tl+T0))).setCell ⟨H17,9,none⟩ (vI (p.th+T1)))=W13 at *;clear fs17;clear c17_4 fr17 c17_8 c17_9 c21_0 c21_1;clear l4 l8 l9 u1 u2 u3;have HFL1:=hid (fun W (h:Below w.heap.size w W)=>HFL.out W h l p.fuel l.ta hphl p4);have hfl:=HFB.out l p.fuel l.ta;generalize flw s l p.fuel l.ta=FW at *;have hpr:0<=T * FW∧T * FW<=400000000000:=mul_bd2 htk hfl;have u1:IntKind.i64.wrap (T * FW)=T * FW:=IntWalk.i64_in _ (by omega);have u2:IntKind.i64.wrap (p.fuel - T * FW)=p.fuel - T * FW:=IntWalk.i64_in _ (by omega);clear hfl
  refine rS (fun W=>BoxS w 3 [s.cells,(lzp p.alt p.cas p.tas p.ground p.tick p.fuel p.gl p.gh p.tl p.th p.fl p.fh p.phase),(lzp 0 0 0 0 0 0 0 0 0 0 0 0 0)] W∧Has W H12 (lzl l.al l.co l.ph l.sp l.ta l.we l.wn)∧Has W H13 (lz4 h.e0 h.e1 h.n0 h.n1)∧Has W H14 (lz2 h.d0 h.d1)∧Has W H21 (lz2 T0 T1)) 14 ((And.intro (HS.out.drew) ((And.intro (Q12.out.drew) ((And.intro (Q13.out.drew) ((And.intro (Q14.out.drew) (Q21.out.drew))))))))) (fun hHeld=>?_)
  replace Q17:=hid Q17.out.drew
  refine rQ ?_
  refine rT (fun W hW=>(HLF.out W hW.1).1) ?_
  refine rQ ?_
  refine rT (fun W hW=>And.intro (hW.2.1.cell 0 (vI l.al) rfl) (And.intro (hW.2.1.cell 1 (vI l.co) rfl) (And.intro (hW.2.1.cell 2 (.int .u8 l.ph) rfl) (And.intro (hW.2.1.cell 3 (vI l.sp) rfl) (And.intro (hW.2.1.cell 4 (vI l.ta) rfl) (And.intro (hW.2.1.cell 5 (vI l.we) rfl) (hW.2.1.cell 6 (vI l.wn) rfl))))))) ?_
  refine rY (yi_stp (.tmp 5) rfl rfl rfl (fun W hW=>hW.1.has 0 _ rfl)) ?_
  refine rQ ?_
  refine rT (fun W hW=>(HLF.out W hW.1).1) ?_
  refine rQ ?_
  refine rT (fun W hW=>And.intro (hW.2.1.cell 0 (vI l.al) rfl) (And.intro (hW.2.1.cell 1 (vI l.co) rfl) (And.intro (hW.2.1.cell 2 (.int .u8 l.ph) rfl) (And.intro (hW.2.1.cell 3 (vI l.sp) rfl) (And.intro (hW.2.1.cell 4 (vI l.ta) rfl) (And.intro (hW.2.1.cell 5 (vI l.we) rfl) (hW.2.1.cell 6 (vI l.wn) rfl))))))) ?_
  refine rEk ?_
  intro K hK
  refine (HFL1.out _ hHeld.1.B).mono ?_;rintro e2 w4 ⟨rfl,hB⟩
  go_wp2_with fail
  have hNew:=(And.intro (hHeld.1.below hB) ((And.intro (hHeld.2.1.below hB) ((And.intro (hHeld.2.2.1.below hB) ((And.intro (hHeld.2.2.2.1.below hB) (hHeld.2.2.2.2.below hB))))))));replace Q17:=hid (Q17.out.below hB);clear hB
  refine rEt hK hNew ?_
  clear hK K hNew hHeld
  intro hHeld
  iterate 3 refine rQ ?_
  have fz:=Q17.out.fr;have cz:=Q17.out.cell 5 (vI 0) rfl
  refine rEk ?_
  intro K hK
  have hNew:=(And.intro ((hHeld.1.set H17 5 r17 (vI (p.fuel - T * FW)))) ((And.intro ((hHeld.2.1.other H17 5 (vI (p.fuel - T * FW)) n12_17)) ((And.intro ((hHeld.2.2.1.other H17 5 (vI (p.fuel - T * FW)) n13_17)) ((And.intro ((hHeld.2.2.2.1.other H17 5 (vI (p.fuel - T * FW)) n14_17)) ((hHeld.2.2.2.2.other H17 5 (vI (p.fuel - T * FW)) n17_21.symm)))))))))
  refine rEt hK hNew ?_
  clear hK K hNew hHeld
  intro hHeld
  refine rD ?_
  clear fz cz;replace HS:=hid (hHeld.1);replace Q12:=hid (hHeld.2.1);replace Q13:=hid (hHeld.2.2.1);replace Q14:=hid (hHeld.2.2.2.1);replace Q21:=hid (hHeld.2.2.2.2);clear hHeld;replace Q17:=hid (show Has (w4.setCell ⟨H17,5,none⟩ (vI (p.fuel - T * FW))) H17 (lzp am sm l.ta g (p.tick+T) (p.fuel - T * FW) gl gh (p.tl+T0) (p.th+T1) 0 0 l.ph) from Q17.out.set 5 (vI (p.fuel - T * FW)) (by simp));generalize w4.setCell ⟨H17,5,none⟩ (vI (p.fuel - T * FW))=W14 at *;clear HFL1 u1 u2
  rw [HXF.out] at HXE HXP
  clear HXF;generalize p.fuel - T * FW=FV at *;have c17_5:=Q17.out.cell 5 (vI FV) rfl
  by_cases hn:FV<0
  ·have HF:=hid (HXE.out.trans (if_pos hn))
   have r0:W14.cell? ⟨w.heap.size+1+1,0,none⟩=some (vI 0):=HS.out.at 2 _ rfl 0 _ rfl;have r1:W14.cell? ⟨w.heap.size+1+1,1,none⟩=some (vI 0):=HS.out.at 2 _ rfl 1 _ rfl;have r2:W14.cell? ⟨w.heap.size+1+1,2,none⟩=some (vI 0):=HS.out.at 2 _ rfl 2 _ rfl;have r3:W14.cell? ⟨w.heap.size+1+1,3,none⟩=some (vI 0):=HS.out.at 2 _ rfl 3 _ rfl;have r4:W14.cell? ⟨w.heap.size+1+1,4,none⟩=some (vI 0):=HS.out.at 2 _ rfl 4 _ rfl;have r5:W14.cell? ⟨w.heap.size+1+1,5,none⟩=some (vI 0):=HS.out.at 2 _ rfl 5 _ rfl;have r6:W14.cell? ⟨w.heap.size+1+1,6,none⟩=some (vI 0):=HS.out.at 2 _ rfl 6 _ rfl;have r7:W14.cell? ⟨w.heap.size+1+1,7,none⟩=some (vI 0):=HS.out.at 2 _ rfl 7 _ rfl;have r8:W14.cell? ⟨w.heap.size+1+1,8,none⟩=some (vI 0):=HS.out.at 2 _ rfl 8 _ rfl;have r9:W14.cell? ⟨w.heap.size+1+1,9,none⟩=some (vI 0):=HS.out.at 2 _ rfl 9 _ rfl;have r10:W14.cell? ⟨w.heap.size+1+1,10,none⟩=some (vI 0):=HS.out.at 2 _ rfl 10 _ rfl;have r11:W14.cell? ⟨w.heap.size+1+1,11,none⟩=some (vI 0):=HS.out.at 2 _ rfl 11 _ rfl;have r12:W14.cell? ⟨w.heap.size+1+1,12,none⟩=some (.int .u8 0):=HS.out.at 2 _ rfl 12 _ rfl;have rf:=fun o=>show W14.frozen? ⟨w.heap.size+1+1,o,none⟩=false from HS.out.fr 2 _ rfl o
   go_wp2_with fail
   exact bodyPost_ret (v:=.tuple #[.agg #[vI 0,vI 0,vI 0,vI 0,vI 0,vI 0,vI 0,vI 0,vI 0,vI 0,vI 0,vI 0,.int .u8 0],vI 15]) (by simp [results,Tryz.results43,go_sem,r0,r1,r2,r3,r4,r5,r6,r7,r8,r9,r10,r11,r12]) rfl (nxPost_err HF.out (by first | decide | exact HNE.out) (below_set (below_set (below_set (below_set (below_set (below_set (below_set (below_set (below_set (below_set (below_set (below_set (below_set (HS.out.B) _ _ (le_add2 _) _) _ _ (le_add2 _) _) _ _ (le_add2 _) _) _ _ (le_add2 _) _) _ _ (le_add2 _) _) _ _ (le_add2 _) _) _ _ (le_add2 _) _) _ _ (le_add2 _) _) _ _ (le_add2 _) _) _ _ (le_add2 _) _) _ _ (le_add2 _) _) _ _ (le_add2 _) _) _ _ (le_add2 _) _))
  replace HXE:=hid (HXE.out.trans (if_neg hn))
  go_wp2_with fail
  clear hn;clear c17_5;have HFA:=hid (fun W (h:Below w.heap.size w W)=>HFL.out W h l p.fl sl hphl p5);have HFC:=hid (fun W (h:Below w.heap.size w W)=>HFL.out W h l p.fh fa hphl p6)
  rw [← HF0.out] at HFA
  rw [← HF1.out] at HFC
  clear HF0 HF1 HFL HFB;have qH12:=Q12.out.drew;have qH13:=Q13.out.drew;have qH14:=Q14.out.drew;have qH17:=Q17.out.drew;have qH21:=Q21.out.drew
  refine rS (fun W=>BoxS w 3 [s.cells,(lzp p.alt p.cas p.tas p.ground p.tick p.fuel p.gl p.gh p.tl p.th p.fl p.fh p.phase),(lzp 0 0 0 0 0 0 0 0 0 0 0 0 0)] W∧Has W H12 (lzl l.al l.co l.ph l.sp l.ta l.we l.wn)) 17 ((And.intro (HS.out.drew) (Q12.out.drew))) (fun hHeld=>?_)
  refine rT (fun W hW=>And.intro (hW.2.cell 0 (vI l.al) rfl) (And.intro (hW.2.cell 1 (vI l.co) rfl) (And.intro (hW.2.cell 2 (.int .u8 l.ph) rfl) (And.intro (hW.2.cell 3 (vI l.sp) rfl) (And.intro (hW.2.cell 4 (vI l.ta) rfl) (And.intro (hW.2.cell 5 (vI l.we) rfl) (hW.2.cell 6 (vI l.wn) rfl))))))) ?_
  refine rY (yi_stp (.tmp 5) rfl rfl rfl (fun W hW=>hW.1.has 0 _ rfl)) ?_
  iterate 2 refine rQ ?_
  refine rT (fun W hW=>(HLF.out W hW.1).2) ?_
  refine rQ ?_
  refine rT (fun W hW=>And.intro (hW.2.cell 0 (vI l.al) rfl) (And.intro (hW.2.cell 1 (vI l.co) rfl) (And.intro (hW.2.cell 2 (.int .u8 l.ph) rfl) (And.intro (hW.2.cell 3 (vI l.sp) rfl) (And.intro (hW.2.cell 4 (vI l.ta) rfl) (And.intro (hW.2.cell 5 (vI l.we) rfl) (hW.2.cell 6 (vI l.wn) rfl))))))) ?_
  refine rY (yi_stp (.tmp 5) rfl rfl rfl (fun W hW=>hW.1.has 0 _ rfl)) ?_
  iterate 2 refine rQ ?_
  refine rT (fun W hW=>(HLF.out W hW.1).2) ?_
  refine rQ ?_
  refine held_nameS ?_
  intro OPS QQ A0 SS hO hQ hA hSS
  have st_6_13_15:Hid (∀ (H22:Nat) (W:World) (qH12:Has W H12 (lzl l.al l.co l.ph l.sp l.ta l.we l.wn)) (qH13:Has W H13 (lz4 h.e0 h.e1 h.n0 h.n1)) (qH14:Has W H14 (lz2 h.d0 h.d1)) (qH17:Has W H17 (lzp am sm l.ta g (p.tick+T) FV gl gh (p.tl+T0) (p.th+T1) 0 0 l.ph)) (qH21:Has W H21 (lz2 T0 T1)) (qH22:Has W H22 (lz2 0 0)) (rH22:w.heap.size+3<=H22) (nH12H22:H12≠H22) (nH13H22:H13≠H22) (nH14H22:H14≠H22) (nH17H22:H17≠H22) (nH21H22:H21≠H22),SS W→wpAnyH Tryz.prog .any OPS QQ SS 1 #[b1,b1,b1,b1,b1,b1,b1,b1,b1,b1,b1,b1,b1,b1,b1,b1,b0] ((((A0.put (some 155) (vI F0)).put (some 162) (vI F1)).put (some 163) (.agg #[vI F0,vI F1])).put (some 22) (.pointer (some ⟨H22,0,none⟩))) W):=by
   subst hO hQ hA hSS
   refine hid ?_
   intro H22 W qH12 qH13 qH14 qH17 qH21 qH22 rH22 nH12H22 nH13H22 nH14H22 nH17H22 nH21H22 hHeld
   (try simp only [Act.put,pa,pb,pc])
   have fz:=qH22.fr;have cz0:=qH22.cell 0 _ rfl;have cz1:=qH22.cell 1 _ rfl
   refine rEk ?_
   intro K hK
   have hNew:=(And.intro ((And.intro (hHeld.1.set H22 0 rH22 (vI F0)) (hHeld.2.other H22 0 (vI F0) nH12H22)).1.set H22 1 rH22 (vI F1)) ((And.intro (hHeld.1.set H22 0 rH22 (vI F0)) (hHeld.2.other H22 0 (vI F0) nH12H22)).2.other H22 1 (vI F1) nH12H22));have pH12:=((qH12.other H22 0 (vI F0) (by omega)).other H22 1 (vI F1) (by omega));have pH13:=((qH13.other H22 0 (vI F0) (by omega)).other H22 1 (vI F1) (by omega));have pH14:=((qH14.other H22 0 (vI F0) (by omega)).other H22 1 (vI F1) (by omega));have pH17:=((qH17.other H22 0 (vI F0) (by omega)).other H22 1 (vI F1) (by omega));have pH21:=((qH21.other H22 0 (vI F0) (by omega)).other H22 1 (vI F1) (by omega));have pH22:Has ((W.setCell ⟨H22,0,none⟩ (vI F0)).setCell ⟨H22,1,none⟩ (vI F1)) H22 (lz2 F0 F1):=((qH22.set 0 (vI F0) (by simp)).set 1 (vI F1) (by simp))
   refine rEt hK hNew ?_
   clear hK K hNew fz cz0 cz1 qH12 qH13 qH14 qH17 qH21 qH22 hHeld
   intro hHeld
   have qH12:=pH12;have qH13:=pH13;have qH14:=pH14;have qH17:=pH17;have qH21:=pH21;have qH22:=pH22;clear pH12 pH13 pH14 pH17 pH21 pH22;generalize ((W.setCell ⟨H22,0,none⟩ (vI F0)).setCell ⟨H22,1,none⟩ (vI F1))=W15 at *
   refine rD ?_
   replace HS:=hid (hHeld.1);replace Q12:=hid qH12;clear qH12;replace Q13:=hid qH13;clear qH13;replace Q14:=hid qH14;clear qH14;replace Q17:=hid qH17;clear qH17;replace Q21:=hid qH21;clear qH21;have Q22:=hid qH22;have r22:=rH22;have n12_22:=nH12H22;have n13_22:=nH13H22;have n14_22:=nH14H22;have n17_22:=nH17H22;have n21_22:=nH21H22;clear qH22 rH22 nH12H22 nH13H22 nH14H22 nH17H22 nH21H22 hHeld;clear HFA HFC;have HBI:=hid (fun W=>xBurnIn p.fl p.fh F0 F1 T0 T1 W);generalize biE p.fl p.fh F0 F1 T0 T1=BE at *;generalize biL p.fl p.fh F0 F1 T0 T1=BL at *;generalize biH p.fl p.fh F0 F1 T0 T1=BH at *;have l10:=(HLF.out _ HS.out).2.1;have l11:=(HLF.out _ HS.out).2.2;have c21_0:=Q21.out.cell 0 (vI T0) rfl;have c21_1:=Q21.out.cell 1 (vI T1) rfl;have c22_0:=Q22.out.cell 0 (vI F0) rfl;have c22_1:=Q22.out.cell 1 (vI F1) rfl
   go_wp2_with fail
   refine (HBI.out _).mono ?_;rintro e' w4 ⟨rfl,hB⟩
   replace HS:=hid (HS.out.below hB);replace Q12:=hid (Q12.out.below hB);replace Q13:=hid (Q13.out.below hB);replace Q14:=hid (Q14.out.below hB);replace Q17:=hid (Q17.out.below hB);replace Q21:=hid (Q21.out.below hB);replace Q22:=hid (Q22.out.below hB);clear hB HBI l10 l11;clear c21_0 c21_1 c22_0 c22_1;have c17_10:=Q17.out.cell 10 (vI 0) rfl;have c17_11:=Q17.out.cell 11 (vI 0) rfl;have fr17:=Q17.out.fr
   by_cases hbe:BE=0
   rotate_left
   ·have HF:=HXE
    have HNE:=hid hbe;have e1:=beq_of hbe;have e2:=bne_of e1;clear hbe;replace HS:=hid (((HS.out.set H17 10 r17 (vI BL)).set H17 11 r17 (vI BH)));replace Q12:=hid (((Q12.out.other H17 10 (vI BL) n12_17).other H17 11 (vI BH) n12_17));replace Q13:=hid (((Q13.out.other H17 10 (vI BL) n13_17).other H17 11 (vI BH) n13_17));replace Q14:=hid (((Q14.out.other H17 10 (vI BL) n14_17).other H17 11 (vI BH) n14_17));replace Q17:=hid (show Has ((w4.setCell ⟨H17,10,none⟩ (vI BL)).setCell ⟨H17,11,none⟩ (vI BH)) H17 (lzp am sm l.ta g (p.tick+T) FV gl gh (p.tl+T0) (p.th+T1) BL BH l.ph) from ((Q17.out.set 10 (vI BL) (by simp)).set 11 (vI BH) (by simp)));replace Q21:=hid (((Q21.out.other H17 10 (vI BL) n17_21.symm).other H17 11 (vI BH) n17_21.symm));replace Q22:=hid (((Q22.out.other H17 10 (vI BL) n17_22.symm).other H17 11 (vI BH) n17_22.symm));have r0:((w4.setCell ⟨H17,10,none⟩ (vI BL)).setCell ⟨H17,11,none⟩ (vI BH)).cell? ⟨w.heap.size+1+1,0,none⟩=some (vI 0):=HS.out.at 2 _ rfl 0 _ rfl;have r1:((w4.setCell ⟨H17,10,none⟩ (vI BL)).setCell ⟨H17,11,none⟩ (vI BH)).cell? ⟨w.heap.size+1+1,1,none⟩=some (vI 0):=HS.out.at 2 _ rfl 1 _ rfl;have r2:((w4.setCell ⟨H17,10,none⟩ (vI BL)).setCell ⟨H17,11,none⟩ (vI BH)).cell? ⟨w.heap.size+1+1,2,none⟩=some (vI 0):=HS.out.at 2 _ rfl 2 _ rfl;have r3:((w4.setCell ⟨H17,10,none⟩ (vI BL)).setCell ⟨H17,11,none⟩ (vI BH)).cell? ⟨w.heap.size+1+1,3,none⟩=some (vI 0):=HS.out.at 2 _ rfl 3 _ rfl;have r4:((w4.setCell ⟨H17,10,none⟩ (vI BL)).setCell ⟨H17,11,none⟩ (vI BH)).cell? ⟨w.heap.size+1+1,4,none⟩=some (vI 0):=HS.out.at 2 _ rfl 4 _ rfl;have r5:((w4.setCell ⟨H17,10,none⟩ (vI BL)).setCell ⟨H17,11,none⟩ (vI BH)).cell? ⟨w.heap.size+1+1,5,none⟩=some (vI 0):=HS.out.at 2 _ rfl 5 _ rfl;have r6:((w4.setCell ⟨H17,10,none⟩ (vI BL)).setCell ⟨H17,11,none⟩ (vI BH)).cell? ⟨w.heap.size+1+1,6,none⟩=some (vI 0):=HS.out.at 2 _ rfl 6 _ rfl;have r7:((w4.setCell ⟨H17,10,none⟩ (vI BL)).setCell ⟨H17,11,none⟩ (vI BH)).cell? ⟨w.heap.size+1+1,7,none⟩=some (vI 0):=HS.out.at 2 _ rfl 7 _ rfl;have r8:((w4.setCell ⟨H17,10,none⟩ (vI BL)).setCell ⟨H17,11,none⟩ (vI BH)).cell? ⟨w.heap.size+1+1,8,none⟩=some (vI 0):=HS.out.at 2 _ rfl 8 _ rfl
    have r9:((w4.setCell ⟨H17,10,none⟩ (vI BL)).setCell ⟨H17,11,none⟩ (vI BH)).cell? ⟨w.heap.size+1+1,9,none⟩=some (vI 0):=HS.out.at 2 _ rfl 9 _ rfl;have r10:((w4.setCell ⟨H17,10,none⟩ (vI BL)).setCell ⟨H17,11,none⟩ (vI BH)).cell? ⟨w.heap.size+1+1,10,none⟩=some (vI 0):=HS.out.at 2 _ rfl 10 _ rfl;have r11:((w4.setCell ⟨H17,10,none⟩ (vI BL)).setCell ⟨H17,11,none⟩ (vI BH)).cell? ⟨w.heap.size+1+1,11,none⟩=some (vI 0):=HS.out.at 2 _ rfl 11 _ rfl;have r12:((w4.setCell ⟨H17,10,none⟩ (vI BL)).setCell ⟨H17,11,none⟩ (vI BH)).cell? ⟨w.heap.size+1+1,12,none⟩=some (.int .u8 0):=HS.out.at 2 _ rfl 12 _ rfl;have rf:=fun o=>show ((w4.setCell ⟨H17,10,none⟩ (vI BL)).setCell ⟨H17,11,none⟩ (vI BH)).frozen? ⟨w.heap.size+1+1,o,none⟩=false from HS.out.fr 2 _ rfl o
    go_wp2_with fail
    exact bodyPost_ret (v:=.tuple #[.agg #[vI 0,vI 0,vI 0,vI 0,vI 0,vI 0,vI 0,vI 0,vI 0,vI 0,vI 0,vI 0,.int .u8 0],vI BE]) (by simp [results,Tryz.results43,go_sem,r0,r1,r2,r3,r4,r5,r6,r7,r8,r9,r10,r11,r12]) rfl (nxPost_err HF.out (by first | decide | exact HNE.out) (below_set (below_set (below_set (below_set (below_set (below_set (below_set (below_set (below_set (below_set (below_set (below_set (below_set (HS.out.B) _ _ (le_add2 _) _) _ _ (le_add2 _) _) _ _ (le_add2 _) _) _ _ (le_add2 _) _) _ _ (le_add2 _) _) _ _ (le_add2 _) _) _ _ (le_add2 _) _) _ _ (le_add2 _) _) _ _ (le_add2 _) _) _ _ (le_add2 _) _) _ _ (le_add2 _) _) _ _ (le_add2 _) _) _ _ (le_add2 _) _))
   replace HXE:=hid (HXE.out.trans hbe);subst hbe;replace HS:=hid (((HS.out.set H17 10 r17 (vI BL)).set H17 11 r17 (vI BH)));replace Q12:=hid (((Q12.out.other H17 10 (vI BL) n12_17).other H17 11 (vI BH) n12_17));replace Q13:=hid (((Q13.out.other H17 10 (vI BL) n13_17).other H17 11 (vI BH) n13_17));replace Q14:=hid (((Q14.out.other H17 10 (vI BL) n14_17).other H17 11 (vI BH) n14_17));replace Q17:=hid (show Has ((w4.setCell ⟨H17,10,none⟩ (vI BL)).setCell ⟨H17,11,none⟩ (vI BH)) H17 (lzp am sm l.ta g (p.tick+T) FV gl gh (p.tl+T0) (p.th+T1) BL BH l.ph) from ((Q17.out.set 10 (vI BL) (by simp)).set 11 (vI BH) (by simp)));replace Q21:=hid (((Q21.out.other H17 10 (vI BL) n17_21.symm).other H17 11 (vI BH) n17_21.symm));replace Q22:=hid (((Q22.out.other H17 10 (vI BL) n17_22.symm).other H17 11 (vI BH) n17_22.symm));have d17_0:=Q17.out.cell 0 (vI am) rfl;have d17_1:=Q17.out.cell 1 (vI sm) rfl;have d17_2:=Q17.out.cell 2 (vI l.ta) rfl;have d17_3:=Q17.out.cell 3 (vI g) rfl;have d17_4:=Q17.out.cell 4 (vI (p.tick+T)) rfl;have d17_5:=Q17.out.cell 5 (vI FV) rfl;have d17_6:=Q17.out.cell 6 (vI gl) rfl;have d17_7:=Q17.out.cell 7 (vI gh) rfl;have d17_8:=Q17.out.cell 8 (vI (p.tl+T0)) rfl;have d17_9:=Q17.out.cell 9 (vI (p.th+T1)) rfl;have d17_10:=Q17.out.cell 10 (vI BL) rfl;have d17_11:=Q17.out.cell 11 (vI BH) rfl;have d17_12:=Q17.out.cell 12 (.int .u8 l.ph) rfl;have r0:((w4.setCell ⟨H17,10,none⟩ (vI BL)).setCell ⟨H17,11,none⟩ (vI BH)).cell? ⟨w.heap.size+1+1,0,none⟩=some (vI 0):=HS.out.at 2 _ rfl 0 _ rfl;have r1:((w4.setCell ⟨H17,10,none⟩ (vI BL)).setCell ⟨H17,11,none⟩ (vI BH)).cell? ⟨w.heap.size+1+1,1,none⟩=some (vI 0):=HS.out.at 2 _ rfl 1 _ rfl;have r2:((w4.setCell ⟨H17,10,none⟩ (vI BL)).setCell ⟨H17,11,none⟩ (vI BH)).cell? ⟨w.heap.size+1+1,2,none⟩=some (vI 0):=HS.out.at 2 _ rfl 2 _ rfl;have r3:((w4.setCell ⟨H17,10,none⟩ (vI BL)).setCell ⟨H17,11,none⟩ (vI BH)).cell? ⟨w.heap.size+1+1,3,none⟩=some (vI 0):=HS.out.at 2 _ rfl 3 _ rfl;have r4:((w4.setCell ⟨H17,10,none⟩ (vI BL)).setCell ⟨H17,11,none⟩ (vI BH)).cell? ⟨w.heap.size+1+1,4,none⟩=some (vI 0):=HS.out.at 2 _ rfl 4 _ rfl
   have r5:((w4.setCell ⟨H17,10,none⟩ (vI BL)).setCell ⟨H17,11,none⟩ (vI BH)).cell? ⟨w.heap.size+1+1,5,none⟩=some (vI 0):=HS.out.at 2 _ rfl 5 _ rfl;have r6:((w4.setCell ⟨H17,10,none⟩ (vI BL)).setCell ⟨H17,11,none⟩ (vI BH)).cell? ⟨w.heap.size+1+1,6,none⟩=some (vI 0):=HS.out.at 2 _ rfl 6 _ rfl;have r7:((w4.setCell ⟨H17,10,none⟩ (vI BL)).setCell ⟨H17,11,none⟩ (vI BH)).cell? ⟨w.heap.size+1+1,7,none⟩=some (vI 0):=HS.out.at 2 _ rfl 7 _ rfl;have r8:((w4.setCell ⟨H17,10,none⟩ (vI BL)).setCell ⟨H17,11,none⟩ (vI BH)).cell? ⟨w.heap.size+1+1,8,none⟩=some (vI 0):=HS.out.at 2 _ rfl 8 _ rfl;have r9:((w4.setCell ⟨H17,10,none⟩ (vI BL)).setCell ⟨H17,11,none⟩ (vI BH)).cell? ⟨w.heap.size+1+1,9,none⟩=some (vI 0):=HS.out.at 2 _ rfl 9 _ rfl;have r10:((w4.setCell ⟨H17,10,none⟩ (vI BL)).setCell ⟨H17,11,none⟩ (vI BH)).cell? ⟨w.heap.size+1+1,10,none⟩=some (vI 0):=HS.out.at 2 _ rfl 10 _ rfl;have r11:((w4.setCell ⟨H17,10,none⟩ (vI BL)).setCell ⟨H17,11,none⟩ (vI BH)).cell? ⟨w.heap.size+1+1,11,none⟩=some (vI 0):=HS.out.at 2 _ rfl 11 _ rfl;have r12:((w4.setCell ⟨H17,10,none⟩ (vI BL)).setCell ⟨H17,11,none⟩ (vI BH)).cell? ⟨w.heap.size+1+1,12,none⟩=some (.int .u8 0):=HS.out.at 2 _ rfl 12 _ rfl;have rf:=fun o=>show ((w4.setCell ⟨H17,10,none⟩ (vI BL)).setCell ⟨H17,11,none⟩ (vI BH)).frozen? ⟨w.heap.size+1+1,o,none⟩=false from HS.out.fr 2 _ rfl o
   go_wp2_with fail
   exact bodyPost_ret (v:=.tuple #[.agg #[vI am,vI sm,vI l.ta,vI g,vI (p.tick+T),vI FV,vI gl,vI gh,vI (p.tl+T0),vI (p.th+T1),vI BL,vI BH,.int .u8 l.ph],vI 0]) (by simp [results,Tryz.results43,go_sem,r0,r1,r2,r3,r4,r5,r6,r7,r8,r9,r10,r11,r12]) rfl (nxPost_ok HXE.out HXP.out (below_set (below_set (below_set (below_set (below_set (below_set (below_set (below_set (below_set (below_set (below_set (below_set (below_set (HS.out.B) _ _ (le_add2 _) _) _ _ (le_add2 _) _) _ _ (le_add2 _) _) _ _ (le_add2 _) _) _ _ (le_add2 _) _) _ _ (le_add2 _) _) _ _ (le_add2 _) _) _ _ (le_add2 _) _) _ _ (le_add2 _) _) _ _ (le_add2 _) _) _ _ (le_add2 _) _) _ _ (le_add2 _) _) _ _ (le_add2 _) _))
  have st_6_15:Hid (∀ (H22:Nat) (W:World) (qH12:Has W H12 (lzl l.al l.co l.ph l.sp l.ta l.we l.wn)) (qH13:Has W H13 (lz4 h.e0 h.e1 h.n0 h.n1)) (qH14:Has W H14 (lz2 h.d0 h.d1)) (qH17:Has W H17 (lzp am sm l.ta g (p.tick+T) FV gl gh (p.tl+T0) (p.th+T1) 0 0 l.ph)) (qH21:Has W H21 (lz2 T0 T1)) (qH22:Has W H22 (lz2 0 0)) (rH22:w.heap.size+3<=H22) (nH12H22:H12≠H22) (nH13H22:H13≠H22) (nH14H22:H14≠H22) (nH17H22:H17≠H22) (nH21H22:H21≠H22),SS W→wpAnyH Tryz.prog .any OPS QQ SS 3 #[b1,b1,b1,b1,b1,b1,b1,b1,b1,b1,b1,b1,b1,b0,b0,b1,b0] ((A0.put (some 155) (vI F0)).put (some 22) (.pointer (some ⟨H22,0,none⟩))) W):=by
   subst hO hQ hA hSS
   refine hid ?_
   intro H22 W qH12 qH13 qH14 qH17 qH21 qH22 rH22 nH12H22 nH13H22 nH14H22 nH17H22 nH21H22 hHeld
   (try simp only [Act.put,pa,pb,pc])
   refine wpAnyH_ready (rs:=[13]) (by kernel_rfl) (by simp) ?_
   refine AllReadyH.cons (o:=_) rfl (fun K hK=>?_) ?_
   ·go_simp
    refine (HFC.out _ hHeld.1.B).mono ?_;rintro e2 W2 ⟨rfl,hB⟩
    go_wp2_with fail
    have hNew:=(And.intro (hHeld.1.below hB) (hHeld.2.below hB))
    refine rEt hK hNew (fun hHeld2=>?_)
    refine rQ ?_
    exact mN st_6_13_15.out
   exact AllReadyH.nil
  have st_6_13:Hid (∀ (W:World) (qH12:Has W H12 (lzl l.al l.co l.ph l.sp l.ta l.we l.wn)) (qH13:Has W H13 (lz4 h.e0 h.e1 h.n0 h.n1)) (qH14:Has W H14 (lz2 h.d0 h.d1)) (qH17:Has W H17 (lzp am sm l.ta g (p.tick+T) FV gl gh (p.tl+T0) (p.th+T1) 0 0 l.ph)) (qH21:Has W H21 (lz2 T0 T1)),SS W→wpAnyH Tryz.prog .any OPS QQ SS 2 #[b1,b1,b1,b1,b1,b1,b1,b1,b1,b1,b1,b1,b1,b1,b1,b0,b0] (((A0.put (some 155) (vI F0)).put (some 162) (vI F1)).put (some 163) (.agg #[vI F0,vI F1])) W):=by
   subst hO hQ hA hSS
   refine hid ?_
   intro W qH12 qH13 qH14 qH17 qH21 hHeld
   (try simp only [Act.put,pa,pb,pc])
   refine wpAnyH_ready (rs:=[15]) (by kernel_rfl) (by simp) ?_
   refine aD rfl (fun K hK=>mA st_6_13_15.out) ?_
   exact AllReadyH.nil
  have st_6:Hid (∀ (W:World) (qH12:Has W H12 (lzl l.al l.co l.ph l.sp l.ta l.we l.wn)) (qH13:Has W H13 (lz4 h.e0 h.e1 h.n0 h.n1)) (qH14:Has W H14 (lz2 h.d0 h.d1)) (qH17:Has W H17 (lzp am sm l.ta g (p.tick+T) FV gl gh (p.tl+T0) (p.th+T1) 0 0 l.ph)) (qH21:Has W H21 (lz2 T0 T1)),SS W→wpAnyH Tryz.prog .any OPS QQ SS 4 #[b1,b1,b1,b1,b1,b1,b1,b1,b1,b1,b1,b1,b1,b0,b0,b0,b0] (A0.put (some 155) (vI F0)) W):=by
   subst hO hQ hA hSS
   refine hid ?_
   intro W qH12 qH13 qH14 qH17 qH21 hHeld
   (try simp only [Act.put,pa,pb,pc])
   refine wpAnyH_ready (rs:=[13,15]) (by kernel_rfl) (by simp) ?_
   refine AllReadyH.cons (o:=_) rfl (fun K hK=>?_) ?_
   ·go_simp
    refine (HFC.out _ hHeld.1.B).mono ?_;rintro e2 W2 ⟨rfl,hB⟩
    go_wp2_with fail
    have hNew:=(And.intro (hHeld.1.below hB) (hHeld.2.below hB))
    refine rEt hK hNew (fun hHeld2=>?_)
    refine rQ ?_
    exact mN st_6_13.out
   refine aD rfl (fun K hK=>mA st_6_15.out) ?_
   exact AllReadyH.nil
  have st_15:Hid (∀ (H22:Nat) (W:World) (qH12:Has W H12 (lzl l.al l.co l.ph l.sp l.ta l.we l.wn)) (qH13:Has W H13 (lz4 h.e0 h.e1 h.n0 h.n1)) (qH14:Has W H14 (lz2 h.d0 h.d1)) (qH17:Has W H17 (lzp am sm l.ta g (p.tick+T) FV gl gh (p.tl+T0) (p.th+T1) 0 0 l.ph)) (qH21:Has W H21 (lz2 T0 T1)) (qH22:Has W H22 (lz2 0 0)) (rH22:w.heap.size+3<=H22) (nH12H22:H12≠H22) (nH13H22:H13≠H22) (nH14H22:H14≠H22) (nH17H22:H17≠H22) (nH21H22:H21≠H22),SS W→wpAnyH Tryz.prog .any OPS QQ SS 4 #[b1,b1,b1,b1,b1,b1,b0,b1,b1,b1,b1,b1,b1,b0,b0,b1,b0] (A0.put (some 22) (.pointer (some ⟨H22,0,none⟩))) W):=by
   subst hO hQ hA hSS
   refine hid ?_
   intro H22 W qH12 qH13 qH14 qH17 qH21 qH22 rH22 nH12H22 nH13H22 nH14H22 nH17H22 nH21H22 hHeld
   (try simp only [Act.put,pa,pb,pc])
   refine wpAnyH_ready (rs:=[6]) (by kernel_rfl) (by simp) ?_
   refine aD rfl (fun K hK=>mK (HFA.out W hHeld.1.B) st_6_15.out) ?_
   exact AllReadyH.nil
  have st:Hid (∀ (W:World) (qH12:Has W H12 (lzl l.al l.co l.ph l.sp l.ta l.we l.wn)) (qH13:Has W H13 (lz4 h.e0 h.e1 h.n0 h.n1)) (qH14:Has W H14 (lz2 h.d0 h.d1)) (qH17:Has W H17 (lzp am sm l.ta g (p.tick+T) FV gl gh (p.tl+T0) (p.th+T1) 0 0 l.ph)) (qH21:Has W H21 (lz2 T0 T1)),SS W→wpAnyH Tryz.prog .any OPS QQ SS 5 #[b1,b1,b1,b1,b1,b1,b0,b1,b1,b1,b1,b1,b1,b0,b0,b0,b0] A0 W):=by
   subst hO hQ hA hSS
   refine hid ?_
   intro W qH12 qH13 qH14 qH17 qH21 hHeld
   (try simp only [Act.put,pa,pb,pc])
   refine wpAnyH_ready (rs:=[6,15]) (by kernel_rfl) (by simp) ?_
   refine aD rfl (fun K hK=>mK (HFA.out W hHeld.1.B) st_6.out) ?_
   refine aD rfl (fun K hK=>mA st_15.out) ?_
   exact AllReadyH.nil
  subst hO hQ hA hSS
  exact st.out _ qH12 qH13 qH14 qH17 qH21 hHeld
 have st_4_11:Hid (∀ (H21:Nat) (W:World) (qH12:Has W H12 (lzl l.al l.co l.ph l.sp l.ta l.we l.wn)) (qH13:Has W H13 (lz4 h.e0 h.e1 h.n0 h.n1)) (qH14:Has W H14 (lz2 h.d0 h.d1)) (qH17:Has W H17 (lzp am sm l.ta g 0 0 gl gh 0 0 0 0 l.ph)) (qH21:Has W H21 (lz2 0 0)) (rH21:w.heap.size+3<=H21) (nH12H21:H12≠H21) (nH13H21:H13≠H21) (nH14H21:H14≠H21) (nH17H21:H17≠H21),SS W→wpAnyH Tryz.prog .any OPS QQ SS 3 #[b1,b1,b1,b1,b1,b1,b1,b1,b1,b0,b0,b1,b0] ((A0.put (some 106) (vI T0)).put (some 21) (.pointer (some ⟨H21,0,none⟩))) W):=by
  subst hO hQ hA hSS
  refine hid ?_
  intro H21 W qH12 qH13 qH14 qH17 qH21 rH21 nH12H21 nH13H21 nH14H21 nH17H21 hHeld
  (try simp only [Act.put,pa,pb,pc])
  refine wpAnyH_ready (rs:=[9]) (by kernel_rfl) (by simp) ?_
  refine AllReadyH.cons (o:=_) rfl (fun K hK=>?_) ?_
  ·go_simp
   refine (HTB.out _).mono ?_;rintro e2 W2 ⟨rfl,hB⟩
   go_wp2_with fail
   have hNew:=(And.intro (hHeld.1.below hB) (hHeld.2.below hB))
   refine rEt hK hNew (fun hHeld2=>?_)
   refine rQ ?_
   exact mN st_4_9_11.out
  exact AllReadyH.nil
 have st_4_9:Hid (∀ (W:World) (qH12:Has W H12 (lzl l.al l.co l.ph l.sp l.ta l.we l.wn)) (qH13:Has W H13 (lz4 h.e0 h.e1 h.n0 h.n1)) (qH14:Has W H14 (lz2 h.d0 h.d1)) (qH17:Has W H17 (lzp am sm l.ta g 0 0 gl gh 0 0 0 0 l.ph)),SS W→wpAnyH Tryz.prog .any OPS QQ SS 2 #[b1,b1,b1,b1,b1,b1,b1,b1,b1,b1,b1,b0,b0] (((A0.put (some 106) (vI T0)).put (some 111) (vI T1)).put (some 112) (.agg #[vI T0,vI T1])) W):=by
  subst hO hQ hA hSS
  refine hid ?_
  intro W qH12 qH13 qH14 qH17 hHeld
  (try simp only [Act.put,pa,pb,pc])
  refine wpAnyH_ready (rs:=[11]) (by kernel_rfl) (by simp) ?_
  refine aD rfl (fun K hK=>mA st_4_9_11.out) ?_
  exact AllReadyH.nil
 have st_11:Hid (∀ (H21:Nat) (W:World) (qH12:Has W H12 (lzl l.al l.co l.ph l.sp l.ta l.we l.wn)) (qH13:Has W H13 (lz4 h.e0 h.e1 h.n0 h.n1)) (qH14:Has W H14 (lz2 h.d0 h.d1)) (qH17:Has W H17 (lzp am sm l.ta g 0 0 gl gh 0 0 0 0 l.ph)) (qH21:Has W H21 (lz2 0 0)) (rH21:w.heap.size+3<=H21) (nH12H21:H12≠H21) (nH13H21:H13≠H21) (nH14H21:H14≠H21) (nH17H21:H17≠H21),SS W→wpAnyH Tryz.prog .any OPS QQ SS 4 #[b1,b1,b1,b1,b0,b1,b1,b1,b1,b0,b0,b1,b0] (A0.put (some 21) (.pointer (some ⟨H21,0,none⟩))) W):=by
  subst hO hQ hA hSS
  refine hid ?_
  intro H21 W qH12 qH13 qH14 qH17 qH21 rH21 nH12H21 nH13H21 nH14H21 nH17H21 hHeld
  (try simp only [Act.put,pa,pb,pc])
  refine wpAnyH_ready (rs:=[4]) (by kernel_rfl) (by simp) ?_
  refine aD rfl (fun K hK=>mK (HTA.out W) st_4_11.out) ?_
  exact AllReadyH.nil
 have st_4:Hid (∀ (W:World) (qH12:Has W H12 (lzl l.al l.co l.ph l.sp l.ta l.we l.wn)) (qH13:Has W H13 (lz4 h.e0 h.e1 h.n0 h.n1)) (qH14:Has W H14 (lz2 h.d0 h.d1)) (qH17:Has W H17 (lzp am sm l.ta g 0 0 gl gh 0 0 0 0 l.ph)),SS W→wpAnyH Tryz.prog .any OPS QQ SS 4 #[b1,b1,b1,b1,b1,b1,b1,b1,b1,b0,b0,b0,b0] (A0.put (some 106) (vI T0)) W):=by
  subst hO hQ hA hSS
  refine hid ?_
  intro W qH12 qH13 qH14 qH17 hHeld
  (try simp only [Act.put,pa,pb,pc])
  refine wpAnyH_ready (rs:=[9,11]) (by kernel_rfl) (by simp) ?_
  refine AllReadyH.cons (o:=_) rfl (fun K hK=>?_) ?_
  ·go_simp
   refine (HTB.out _).mono ?_;rintro e2 W2 ⟨rfl,hB⟩
   go_wp2_with fail
   have hNew:=(And.intro (hHeld.1.below hB) (hHeld.2.below hB))
   refine rEt hK hNew (fun hHeld2=>?_)
   refine rQ ?_
   exact mN st_4_9.out
  refine aD rfl (fun K hK=>mA st_4_11.out) ?_
  exact AllReadyH.nil
 have st:Hid (∀ (W:World) (qH12:Has W H12 (lzl l.al l.co l.ph l.sp l.ta l.we l.wn)) (qH13:Has W H13 (lz4 h.e0 h.e1 h.n0 h.n1)) (qH14:Has W H14 (lz2 h.d0 h.d1)) (qH17:Has W H17 (lzp am sm l.ta g 0 0 gl gh 0 0 0 0 l.ph)),SS W→wpAnyH Tryz.prog .any OPS QQ SS 5 #[b1,b1,b1,b1,b0,b1,b1,b1,b1,b0,b0,b0,b0] A0 W):=by
  subst hO hQ hA hSS
  refine hid ?_
  intro W qH12 qH13 qH14 qH17 hHeld
  (try simp only [Act.put,pa,pb,pc])
  refine wpAnyH_ready (rs:=[4,11]) (by kernel_rfl) (by simp) ?_
  refine aD rfl (fun K hK=>mK (HTA.out W) st_4.out) ?_
  refine aD rfl (fun K hK=>mA st_11.out) ?_
  exact AllReadyH.nil
 subst hO hQ hA hSS
 exact st.out _ qH12 qH13 qH14 qH17 hHeld
end Go.Proofs.YtheepmnhpclimaaGreat
