
/- Layer 37: predictions, the program's functions: next. -/
import Derived.Test.YtedcanagfajcgaaGreatM29
import Derived.Test.YtedcanagfajcgaaGreatWg2
set_option linter.unusedSimpArgs false
set_option linter.unusedVariables false
set_option maxRecDepth 100000
set_option maxHeartbeats 16000000
namespace Go.Proofs.YtedcanagfajcgaaGreat
open Go.RowKit
open Go.Lib (hid)
structure PsI (p:Pass):Prop where
 tick:0<=p.tick∧p.tick<=1000000000
 tl:0<=p.tl∧p.tl<=1000000000
 th:0<=p.th∧p.th<=1000000000
 fuel:0<=p.fuel∧p.fuel<=3000000000
 fl:0<=p.fl∧p.fl<=3000000000
 fh:0<=p.fh∧p.fh<=3000000000
def Jk (E:Int) (q:Pass) (w:World) (e:Ending) (w':World):Prop:=e=.returned (.tuple #[.agg (if E=0 then q else Uk).cells.toArray,vI E])∧Below w.heap.size w w'
theorem QD {E E':Int} {q:Pass} {w w':World} (hE:E=E') (h0:E'≠0) (hb:Below w.heap.size w w'):Jk E q w (.returned (.tuple #[.agg #[vI 0,vI 0,vI 0,vI 0,vI 0,vI 0,vI 0,vI 0,vI 0,vI 0,vI 0,vI 0,.int .u8 0],vI E'])) w':=by
 unfold Jk
 rw [hE,if_neg h0]
 exact ⟨rfl,hb⟩
theorem UC {E:Int} {q:Pass} {w w':World} (hE:E=0) (hb:Below w.heap.size w w'):Jk E q w (.returned (.tuple #[.agg q.cells.toArray,vI 0])) w':=by
 unfold Jk
 rw [hE,if_pos rfl]
 exact ⟨rfl,hb⟩
theorem SV {a b:Int} (ha:0<=a∧a<=8000000) (hb:0<=b∧b<=50000):0<=a * b∧a * b<=400000000000 :=
 ⟨BM ha.1 hb.1,Int.le_trans (CR ha.2 hb.1) (by omega)⟩
theorem Bj (n:Nat):n<=n+1+1:=by omega
theorem JF {d g:Int} (hd:0<=d) (hg:1<=g):0<=tck d g∧tck d g<=d:=E8 hd hg
theorem AaJ {co t0 t1 e0 e1 n0 n1:Int} (h:giE co t0 t1 e0 e1 n0 n1=0):giH co t0 t1 e0 e1 n0 n1<=100000:=by
 have g:=NA h
 have hw:∀ i j,(i=e0∨i=e1)→(j=n0∨j=n1) → -819200<=alV co i j∧alV co i j<=819200:=fun i j hi hj=>(Il (co:=co) (by
  unfold wiB
  rw [Bool.and_eq_true,Al,Al]
  have:=g.he0;have:=g.he1;have:=g.hn0;have:=g.hn1;have:=g.hee;have:=g.hnn
  rcases hi with rfl | rfl <;> rcases hj with rfl | rfl <;> omega)).1
 have h1:=(KU hw).2.2
 have h2:sqV (t1 * 1024 * (t1 * 1024) - giN co e0 e1 n0 n1 * giN co e0 e1 n0 n1)<=4096000:=by
  have h3:sqV (t1 * 1024 * (t1 * 1024) - giN co e0 e1 n0 n1 * giN co e0 e1 n0 n1)<=sqV (4096000 * 4096000):=Cb (by
   have h4:=Bv (a:=t1 * 1024) (b:=4096000) (by have:=g.ht0;have:=g.htt;omega) (by have:=g.ht1;omega)
   have h5:0<=giN co e0 e1 n0 n1 * giN co e0 e1 n0 n1:=by
    rw [Kk];exact BM (Ky _) (Ky _)
   omega)
  rw [Oe (by decide)] at h3
  exact h3
 unfold giH
 rw [if_pos h]
 unfold FU
 omega
theorem NE (al:List Int) (k:Nat):lgP al k=1∨lgP al k=2∨lgP al k=3:=by
 unfold lgP
 split
 ·exact .inl rfl
 ·split
  ·exact .inr (.inr rfl)
  ·exact .inr (.inl rfl)
def nxZ (s:Stp) (p:Pass):List (List Value):=[s.cells,p.cells,(lzp 0 0 0 0 0 0 0 0 0 0 0 0 0)]
theorem IK {a:Int} (h:a=0):(a == 0)=true:=by rw [h];rfl
theorem nxR {s:Stp} {p:Pass} {w W:World} (h:BoxS w 3 (nxZ s p) W):W.cell? ⟨w.heap.size+1+1,0,none⟩=some (vI 0)∧W.cell? ⟨w.heap.size+1+1,1,none⟩=some (vI 0)∧W.cell? ⟨w.heap.size+1+1,2,none⟩=some (vI 0)∧W.cell? ⟨w.heap.size+1+1,3,none⟩=some (vI 0)∧W.cell? ⟨w.heap.size+1+1,4,none⟩=some (vI 0)∧W.cell? ⟨w.heap.size+1+1,5,none⟩=some (vI 0)∧W.cell? ⟨w.heap.size+1+1,6,none⟩=some (vI 0)∧W.cell? ⟨w.heap.size+1+1,7,none⟩=some (vI 0)∧W.cell? ⟨w.heap.size+1+1,8,none⟩=some (vI 0)∧W.cell? ⟨w.heap.size+1+1,9,none⟩=some (vI 0)∧W.cell? ⟨w.heap.size+1+1,10,none⟩=some (vI 0)∧W.cell? ⟨w.heap.size+1+1,11,none⟩=some (vI 0)∧W.cell? ⟨w.heap.size+1+1,12,none⟩=some (.int .u8 0)∧∀ o,W.frozen? ⟨w.heap.size+1+1,o,none⟩=false :=
 ⟨h.at 2 _ rfl 0 _ rfl,h.at 2 _ rfl 1 _ rfl,h.at 2 _ rfl 2 _ rfl,h.at 2 _ rfl 3 _ rfl,h.at 2 _ rfl 4 _ rfl,h.at 2 _ rfl 5 _ rfl,h.at 2 _ rfl 6 _ rfl,h.at 2 _ rfl 7 _ rfl,h.at 2 _ rfl 8 _ rfl,h.at 2 _ rfl 9 _ rfl,h.at 2 _ rfl 10 _ rfl,h.at 2 _ rfl 11 _ rfl,h.at 2 _ rfl 12 _ rfl,h.fr 2 _ rfl⟩
theorem nxX {G:Prop} (h:G:=by
  obtain ⟨r0,r1,r2,r3,r4,r5,r6,r7,r8,r9,r10,r11,r12,rf⟩:=nxR (HS.out.below hR.B);have HS:=hid (HS.out.below hR.B);have HNE:=hid (show _≠(0:Int) from HNE);have X:=fun W=>QD (w':=W) (q:=PP) (w:=w) HE.out HNE.out;clear hR
  go_wp2_with fail
  refine bodyPost_ret ?h rfl (X _ ?b)
  case h=>simp [results,Tryz.results20,go_sem,r0,r1,r2,r3,r4,r5,r6,r7,r8,r9,r10,r11,r12]
  case b=>exact Ab (Ab (Ab (Ab (Ab (Ab (Ab (Ab (Ab (Ab (Ab (Ab (Ab HS.out.B _ _ (Bj _) _) _ _ (Bj _) _) _ _ (Bj _) _) _ _ (Bj _) _) _ _ (Bj _) _) _ _ (Bj _) _) _ _ (Bj _) _) _ _ (Bj _) _) _ _ (Bj _) _) _ _ (Bj _) _) _ _ (Bj _) _) _ _ (Bj _) _) _ _ (Bj _) _):G:=h
theorem Ac5 (s:Stp) (k m:Nat) (hm:m=k+1) (A B:Option Addr) (n c n' d:Nat) (al sp:List Int) (p:Pass) (w:World) (hl:s.lies w) (hok:s.ok) (G:StG s) (hk:m<s.no.length) (hF:FcG s al sp) (ha:Ints w A n al) (hb:Ints w B n' sp) (hp:PsI p) :
  Calls Tryz.prog 20 #[.agg s.cells.toArray,.agg #[vI p.alt,vI p.cas,vI p.tas,vI p.ground,vI p.tick,vI p.fuel,vI p.gl,vI p.gh,vI p.tl,vI p.th,vI p.fl,vI p.fh,.int .u8 p.phase],.slice A n c,.slice B n' d,vI m] w (Jk (nxE s p al sp k) (nxP s p al sp k) w):=by
 have N:=StN.of hl;have hno:=N.no;have hmx:=hok.no
 unfold maxLen at hmx
 have la:=ha.len;have lb:=hb.len
 have hn1:n=s.no.length:=by have:=hF.la;omega
 have hn2:n'=s.no.length:=by have:=hF.ls;omega
 obtain ⟨b,off,hA⟩:=FC hl (by omega);obtain ⟨ba,oa,rfl⟩:=Eb ha (by omega);obtain ⟨bb,ob,rfl⟩:=Eb hb (by omega);have HS:=hid (show BoxS w 3 (nxZ s p) _ from OH w s.cells.toArray #[vI p.alt,vI p.cas,vI p.tas,vI p.ground,vI p.tick,vI p.fuel,vI p.gl,vI p.gh,vI p.tl,vI p.th,vI p.fl,vI p.fh,.int .u8 p.phase] #[vI 0,vI 0,vI 0,vI 0,vI 0,vI 0,vI 0,vI 0,vI 0,vI 0,vI 0,vI 0,.int .u8 0] 35 52 52);have hdi:=(AR G N (k:=m) hk).di;have hem:=(Dv G.ac).1
 have HAA:=hid (fun W (h:BoxS w 3 (nxZ s p) W) =>
  have q2:=Bu ha (k:=m) (by omega);have q4:=Bu hb (k:=m) (by omega)
  And.intro (And.intro ((h.B.cell (p:=⟨ba,oa+m,none⟩) q2.1).trans q2.2) ((h.B.cell (p:=⟨bb,ob+m,none⟩) q4.1).trans q4.2)) (And.intro (Dk (show Has W w.heap.size s.cells from h.has 0 _ rfl) hA) (Ce (hl.below h.B) hA (k:=m) hk).2.2.1))
 have HLO:=hid (fun W (h:Below w.heap.size w W)=>show Calls Tryz.prog 40 _ _ fun e' w'=>e'=.returned (.agg #[vI (nxV s al sp k).l.al,vI (nxV s al sp k).l.co,.int .u8 (nxV s al sp k).l.ph,vI (nxV s al sp k).l.sp,vI (nxV s al sp k).l.ta,vI (nxV s al sp k).l.we,vI (nxV s al sp k).l.wn])∧Below W.heap.size W w' from TY s k m hm (some ⟨ba,oa,none⟩) (some ⟨bb,ob,none⟩) n c n' d al sp W (hl.below h) hok G hk hF (ha.below h) (hb.below h));have HHU:=hid (fun W (h:Below w.heap.size w W)=>show Calls Tryz.prog 38 _ _ fun e' w'=>e'=.returned (.tuple #[.agg #[vI (nxV s al sp k).h.e0,vI (nxV s al sp k).h.e1,vI (nxV s al sp k).h.n0,vI (nxV s al sp k).h.n1],.agg #[vI (nxV s al sp k).h.d0,vI (nxV s al sp k).h.d1]])∧Below W.heap.size W w' from RB s k m hm W (hl.below h) hok G hk);have HSC:=hid (fun W d=>show Calls Tryz.prog 70 #[.agg #[vI (nxV s al sp k).l.al,vI (nxV s al sp k).l.co,.int .u8 (nxV s al sp k).l.ph,vI (nxV s al sp k).l.sp,vI (nxV s al sp k).l.ta,vI (nxV s al sp k).l.we,vI (nxV s al sp k).l.wn],.agg s.cells.toArray,vI d] W fun e' w'=>e'=.returned (vI (Ck (nxV s al sp k).l.sp s.mch (nxV s al sp k).l.al d))∧Below W.heap.size W w' from JQ s (nxV s al sp k).l d W);have HGR:=hid (fun W=>show Calls Tryz.prog 41 #[.agg #[vI (nxV s al sp k).l.al,vI (nxV s al sp k).l.co,.int .u8 (nxV s al sp k).l.ph,vI (nxV s al sp k).l.sp,vI (nxV s al sp k).l.ta,vI (nxV s al sp k).l.we,vI (nxV s al sp k).l.wn],.agg #[vI ((nxV s al sp k).l.we),vI ((nxV s al sp k).l.wn)]] W fun e' w'=>e'=.returned (.tuple #[vI (nxV s al sp k).g,vI (gsE (nxV s al sp k).l.co (nxV s al sp k).l.ta (nxV s al sp k).l.we (nxV s al sp k).l.wn)])∧Below W.heap.size W w' from MI (nxV s al sp k).l (nxV s al sp k).l.we (nxV s al sp k).l.wn (Gz _ _ _ _) W);have HFL:=hid (fun W (h:BoxS w 3 (nxZ s p) W) left tas (h2:0<=left∧left<=3000000000)=>show Calls Tryz.prog 43 #[.agg #[vI (nxV s al sp k).l.al,vI (nxV s al sp k).l.co,.int .u8 (nxV s al sp k).l.ph,vI (nxV s al sp k).l.sp,vI (nxV s al sp k).l.ta,vI (nxV s al sp k).l.we,vI (nxV s al sp k).l.wn],.agg s.cells.toArray,vI left,vI tas] W fun e' w'=>e'=.returned (vI (flw s (nxV s al sp k).l left tas))∧Below W.heap.size W w' from TU s (nxV s al sp k).l left tas W (hl.below h.B) hok (NE al k) (by omega))
 have HFB:=hid (Io G N (nxV s al sp k).l p.fuel (nxV s al sp k).l.ta);have HCO:=hid (show I64 (nxV s al sp k).l.co from Gz _ _ _ _);have HSL:=hid (show Ck (nxV s al sp k).l.sp s.mch (nxV s al sp k).l.al (nxV s al sp k).h.d0=(nxV s al sp k).slow∧Ck (nxV s al sp k).l.sp s.mch (nxV s al sp k).l.al (nxV s al sp k).h.d1=(nxV s al sp k).fast from ⟨rfl,rfl⟩)
 replace hdi:0<=(nxV s al sp k).di∧(nxV s al sp k).di<=8000000:=by subst hm;exact hdi
 have HDI:(Ac s m).di=(nxV s al sp k).di:=by subst hm;rfl
 rw [HDI] at HAA
 have HPP:=hid (show nxP s p al sp k=(nxV s al sp k).P s p (al.getD m 0) (sp.getD m 0) from by subst hm;rfl);have HEE:=hid (show nxE s p al sp k=(nxV s al sp k).E s p from rfl)
 have i2:(0:Int)<=(m:Int):=by omega
 have i3:(m:Int)<(s.sno.n:Int):=by omega
 have j2:(m:Int)<(n:Int):=by omega
 have j4:(m:Int)<(n':Int):=by omega
 obtain ⟨p1,p2,p3,p4,p5,p6⟩:=hp;clear hl hok G N hno hmx la lb hn1 hn2 hA hk hF ha hb hem hm HDI;generalize nxE s p al sp k=EE at *;generalize nxP s p al sp k=PP at *;generalize nxV s al sp k=x at *;generalize al.getD m 0=am at *;generalize sp.getD m 0=sm at *
 replace HEE:=hid (show EE=if x.l.ta=0∨x.slow=0 then 10 else if gsE x.l.co x.l.ta x.l.we x.l.wn≠0 then gsE x.l.co x.l.ta x.l.we x.l.wn else if giE x.l.co x.slow x.fast x.h.e0 x.h.e1 x.h.n0 x.h.n1≠0 then giE x.l.co x.slow x.fast x.h.e0 x.h.e1 x.h.n0 x.h.n1 else if x.fu s p<0 then 15 else biE p.fl p.fh (x.f0 s p) (x.f1 s p) x.t0 x.t1 from HEE.out)
 have HG0:=hid (show gsE x.l.co x.l.ta x.l.we x.l.wn=0→1<=x.g∧x.g<=4800 from fun h0=>by have q:=GH h0;have q1:=q.hlo;have q2:=q.hv;have q3:=(KQ x.l.co x.l.ta x.l.we x.l.wn).2;show 1<=gsV x.l.co x.l.ta x.l.we x.l.wn / 1024∧gsV x.l.co x.l.ta x.l.we x.l.wn / 1024<=4800;omega);have HI0:=hid (show giE x.l.co x.slow x.fast x.h.e0 x.h.e1 x.h.n0 x.h.n1=0→1<=x.gl∧x.gl<=x.gh∧x.gh<=100000 from fun h0=>by have q:=(SE h0).1;have q3:=AaJ h0;show 1<=giL x.l.co x.slow x.fast x.h.e0 x.h.e1 x.h.n0 x.h.n1∧giL x.l.co x.slow x.fast x.h.e0 x.h.e1 x.h.n0 x.h.n1<=giH x.l.co x.slow x.fast x.h.e0 x.h.e1 x.h.n0 x.h.n1∧giH x.l.co x.slow x.fast x.h.e0 x.h.e1 x.h.n0 x.h.n1<=100000;omega);have HGI:=hid (fun W=>show Calls Tryz.prog 71 _ _ fun e' w'=>e'=.returned (.tuple #[.agg #[vI x.gl,vI x.gh],vI (giE x.l.co x.slow x.fast x.h.e0 x.h.e1 x.h.n0 x.h.n1)])∧Below W.heap.size W w' from UW x.l.co x.slow x.fast x.h.e0 x.h.e1 x.h.n0 x.h.n1 HCO.out W);generalize gsE x.l.co x.l.ta x.l.we x.l.wn=GE at *;generalize giE x.l.co x.slow x.fast x.h.e0 x.h.e1 x.h.n0 x.h.n1=IE at *
 go_enter Tryz.func20,Tryz.ntmps20
 go_wp2_with (refine AC (.tmp 5) rfl rfl rfl (HS.out.has 0 _ rfl) ?_)
 refine (HLO.out _ HS.out.B).mono ?_;rintro e' W1 ⟨rfl,hB⟩
 have Q12:Has (W1.alloc (.cells #[vI x.l.al,vI x.l.co,.int .u8 x.l.ph,vI x.l.sp,vI x.l.ta,vI x.l.we,vI x.l.wn] 101)) W1.heap.size (lzl x.l.al x.l.co x.l.ph x.l.sp x.l.ta x.l.we x.l.wn):=Has.new _ _ _;replace HS:=hid ((HS.out.below hB).alloc (.cells #[vI x.l.al,vI x.l.co,.int .u8 x.l.ph,vI x.l.sp,vI x.l.ta,vI x.l.we,vI x.l.wn] 101));clear hB HLO
 go_wp2_with (refine AC (.tmp 5) rfl rfl rfl (HS.out.has 0 _ rfl) ?_)
 refine (HHU.out _ HS.out.B).mono ?_;rintro e' W3 ⟨rfl,hB⟩
 go_wp2_with fail
 replace Q12:=hid (((Q12.below hB).alloc (.cells #[vI x.h.e0,vI x.h.e1,vI x.h.n0,vI x.h.n1] 73)).alloc (.cells #[vI x.h.d0,vI x.h.d1] 50));have Q13:=hid (show Has ((W3.alloc (.cells #[vI x.h.e0,vI x.h.e1,vI x.h.n0,vI x.h.n1] 73)).alloc (.cells #[vI x.h.d0,vI x.h.d1] 50)) W3.heap.size (lz4 x.h.e0 x.h.e1 x.h.n0 x.h.n1) from (Has.new _ _ _).alloc _);have Q14:=hid (show Has ((W3.alloc (.cells #[vI x.h.e0,vI x.h.e1,vI x.h.n0,vI x.h.n1] 73)).alloc (.cells #[vI x.h.d0,vI x.h.d1] 50)) (W3.heap.size+1) (lz2 x.h.d0 x.h.d1) from Has.newAt _ _ _ _ (by simp));replace HS:=hid (((HS.out.below hB).alloc (.cells #[vI x.h.e0,vI x.h.e1,vI x.h.n0,vI x.h.n1] 73)).alloc (.cells #[vI x.h.d0,vI x.h.d1] 50));clear hB HHU;generalize (W3.alloc (.cells #[vI x.h.e0,vI x.h.e1,vI x.h.n0,vI x.h.n1] 73)).alloc (.cells #[vI x.h.d0,vI x.h.d1] 50)=W5 at *;generalize W1.heap.size=H12 at *;generalize W3.heap.size+1=H14 at *;generalize W3.heap.size=H13 at *;have HY:=hid (fun W (h:Bw W5 W)=>show Has W w.heap.size s.cells from (HS.out.below h.B).has 0 _ rfl);have HK:=hid (fun W (h:Bw W5 W)=>(And.intro (And.intro (And.intro (And.intro (HAA.out W (HS.out.below h.B)) ((Q12.out.below h.B).cell 0 (vI x.l.al) rfl)) (And.intro ((Q12.out.below h.B).cell 1 (vI x.l.co) rfl) (And.intro ((Q12.out.below h.B).cell 2 (.int .u8 x.l.ph) rfl) ((Q12.out.below h.B).cell 3 (vI x.l.sp) rfl)))) (And.intro (And.intro ((Q12.out.below h.B).cell 4 (vI x.l.ta) rfl) ((Q12.out.below h.B).cell 5 (vI x.l.we) rfl)) (And.intro ((Q12.out.below h.B).cell 6 (vI x.l.wn) rfl) (And.intro ((Q13.out.below h.B).cell 0 (vI x.h.e0) rfl) ((Q13.out.below h.B).cell 1 (vI x.h.e1) rfl))))) (And.intro (And.intro (And.intro ((Q13.out.below h.B).cell 2 (vI x.h.n0) rfl) ((Q13.out.below h.B).cell 3 (vI x.h.n1) rfl)) (And.intro ((Q14.out.below h.B).cell 0 (vI x.h.d0) rfl) (And.intro ((Q14.out.below h.B).cell 1 (vI x.h.d1) rfl) ((HS.out.below h.B).at 1 _ rfl 4 (vI p.tick) rfl)))) (And.intro (And.intro ((HS.out.below h.B).at 1 _ rfl 5 (vI p.fuel) rfl) ((HS.out.below h.B).at 1 _ rfl 8 (vI p.tl) rfl)) (And.intro ((HS.out.below h.B).at 1 _ rfl 9 (vI p.th) rfl) (And.intro ((HS.out.below h.B).at 1 _ rfl 10 (vI p.fl) rfl) ((HS.out.below h.B).at 1 _ rfl 11 (vI p.fh) rfl)))))))
 have hR:Bw W5 W5:=⟨AJ _ _⟩
 refine rS (fun W=>Bw W5 W) 12 hR.drew (fun hHeld=>?_)
 have FA:=HK.out;generalize hW0:World.drew _=W7 at *;clear hW0 hR
 repeat (first | refine rQ ?_ | refine rF ?_ | refine rY (FM (.tmp 5) rfl rfl rfl (fun W hW=>HY.out W hW)) ?_)
 refine rEk ?_
 intro K hK
 refine (HSC.out _ x.h.d0).mono ?_;rintro e2 W2 ⟨rfl,hB⟩
 go_wp2_with fail
 refine rEt hK (hHeld.below hB) ?_
 clear hK K hHeld hB
 intro hHeld
 repeat (first | refine rQ ?_ | refine rF ?_)
 refine rEk ?_
 intro K hK
 refine (HSC.out _ x.h.d1).mono ?_;rintro e2 W2 ⟨rfl,hB⟩
 go_wp2_with fail
 refine rEt hK (hHeld.below hB) ?_
 clear hK K hHeld hB
 intro hHeld
 repeat (first | refine rQ ?_ | refine rF ?_)
 refine rD ?_
 have hR:=hHeld;clear hHeld FA HSC
 rw [HSL.out.1,HSL.out.2]
 generalize W2=W6 at *
 by_cases hta:x.l.ta=0∨x.slow=0
 ·have HE:=hid (HEE.out.trans (if_pos hta))
  have HNE:(10:Int)≠0:=by decide
  have K:=HK.out _ hR
  by_cases h1:x.l.ta=0
  ·have e1:=IK h1
   exact nxX
  ·have e1:=Aw h1
   have e2:=IK (hta.resolve_left h1)
   exact nxX
 have e1:(x.l.ta == 0)=false:=Aw (fun h=>hta (.inl h));have e2:(x.slow == 0)=false:=Aw (fun h=>hta (.inr h));have K:=HK.out _ hR
 go_upto_region 6 with fail
 clear K e1 e2
 refine rS (fun W=>Bw W5 W) 15 hR.drew (fun hHeld=>?_)
 have FA:=HK.out;generalize hW0:World.drew _=W8 at *;clear hW0 hR
 repeat (first | refine rQ ?_ | refine rF ?_)
 refine rEk ?_
 intro K hK
 have r17:=hHeld.sz
 refine rEa hK (hHeld.alloc _) (fun W3 hHeld2 q17 old=>?_)
 clear hK K hHeld old;have hHeld:=hHeld2;clear hHeld2;generalize W8.heap.size=H17 at *;have f0:=q17.fr;have c0:=q17.cell 0 _ rfl;have c1:=q17.cell 1 _ rfl;have c2:=q17.cell 2 _ rfl;have c3:=q17.cell 3 _ rfl;have c4:=q17.cell 4 _ rfl;have c5:=q17.cell 5 _ rfl;have c6:=q17.cell 6 _ rfl;have c7:=q17.cell 7 _ rfl;have c8:=q17.cell 8 _ rfl;have c9:=q17.cell 9 _ rfl;have c10:=q17.cell 10 _ rfl;have c11:=q17.cell 11 _ rfl;have c12:=q17.cell 12 _ rfl
 refine rEk ?_
 intro K hK
 refine rEt hK (((((((((((((hHeld.set r17 0 (vI am)).set r17 1 (vI sm)).set r17 2 (vI x.l.ta)).set r17 3 (vI 0)).set r17 4 (vI 0)).set r17 5 (vI 0)).set r17 6 (vI 0)).set r17 7 (vI 0)).set r17 8 (vI 0)).set r17 9 (vI 0)).set r17 10 (vI 0)).set r17 11 (vI 0)).set r17 12 (.int .u8 x.l.ph)) ?_
 clear hK K hHeld f0 c0 c1 c2 c3 c4 c5 c6 c7 c8 c9 c10 c11 c12
 intro hHeld
 replace q17:=(((((((((((((q17.set 0 (vI am) (by simp)).set 1 (vI sm) (by simp)).set 2 (vI x.l.ta) (by simp)).set 3 (vI 0) (by simp)).set 4 (vI 0) (by simp)).set 5 (vI 0) (by simp)).set 6 (vI 0) (by simp)).set 7 (vI 0) (by simp)).set 8 (vI 0) (by simp)).set 9 (vI 0) (by simp)).set 10 (vI 0) (by simp)).set 11 (vI 0) (by simp)).set 12 (.int .u8 x.l.ph) (by simp));generalize hW0:World.setCell _ _ _=W9 at *;clear hW0
 repeat (first | refine rQ ?_ | refine rF ?_)
 refine rD ?_
 replace q17:=(show Has W9 H17 (lzp am sm x.l.ta 0 0 0 0 0 0 0 0 0 x.l.ph) from q17);have hR:=hHeld;clear hHeld FA HAA;have K:=HK.out _ hR
 go_wp2_with fail
 refine (HGR.out _).mono ?_;rintro e2 W10 ⟨rfl,hB⟩
 replace q17:=q17.below hB;replace hR:=hR.below hB;clear hB K;have f0:=q17.fr;have c3:=q17.cell 3 _ rfl;have K:=HK.out _ hR
 go_upto_region 9 with fail
 clear f0 K c3;replace q17:=(show Has _ H17 (lzp am sm x.l.ta x.g 0 0 0 0 0 0 0 0 x.l.ph) from (q17.set 3 (vI x.g) (by simp)));replace hR:=(hR.set r17 3 (vI x.g));generalize hW0:World.setCell _ _ _=W11 at *;clear hW0
 by_cases hge:GE=0
 rotate_left
 ·have HE:=hid (HEE.out.trans ((if_neg hta).trans (if_pos hge)))
  have e1:=AL (Aw hge);have HNE:=hge
  exact nxX
 have hg:=HG0.out hge;subst hge;clear HGR HG0
 go_upto_region 11 with fail
 have K:=HK.out _ hR
 go_wp2_with fail
 refine (HGI.out _).mono ?_;rintro e2 W12 ⟨rfl,hB⟩
 replace q17:=q17.below hB;replace hR:=hR.below hB;clear hB K;have f0:=q17.fr;have c6:=q17.cell 6 _ rfl;have c7:=q17.cell 7 _ rfl;have K:=HK.out _ hR
 go_upto_region 12 with fail
 clear f0 K c6 c7;replace q17:=(show Has _ H17 (lzp am sm x.l.ta x.g 0 0 x.gl x.gh 0 0 0 0 x.l.ph) from ((q17.set 6 (vI x.gl) (by simp)).set 7 (vI x.gh) (by simp)));replace hR:=((hR.set r17 6 (vI x.gl)).set r17 7 (vI x.gh));generalize hW0:World.setCell _ _ _=W13 at *;clear hW0
 by_cases hie:IE=0
 rotate_left
 ·have HE:=hid (HEE.out.trans ((if_neg hta).trans ((if_neg (by decide)).trans (if_pos hie))))
  have e1:=AL (Aw hie);have HNE:=hie
  exact nxX
 have hgi:=HI0.out hie;subst hie;clear HGI HI0;replace HEE:=hid (HEE.out.trans ((if_neg hta).trans ((if_neg (by decide)).trans (if_neg (by decide)))));have HTK:=hid (fun W=>show Calls Tryz.prog 42 _ _ fun e w'=>e=.returned (vI x.t)∧Below W.heap.size W w' from Kq x.di x.g hdi.1 (by omega) hg.1 (by omega) W);have HTA:=hid (fun W=>show Calls Tryz.prog 42 _ _ fun e w'=>e=.returned (vI x.t0)∧Below W.heap.size W w' from Kq x.di x.gh hdi.1 (by omega) (by omega) (by omega) W);have HTB:=hid (fun W=>show Calls Tryz.prog 42 _ _ fun e w'=>e=.returned (vI x.t1)∧Below W.heap.size W w' from Kq x.di x.gl hdi.1 (by omega) (by omega) (by omega) W);have ht:=(show 0<=x.t∧x.t<=x.di from JF hdi.1 hg.1);have htA:=(show 0<=x.t0∧x.t0<=x.di from JF hdi.1 (by omega));have htB:=(show 0<=x.t1∧x.t1<=x.di from JF hdi.1 (by omega));have c3:=q17.cell 3 _ rfl;have K:=HK.out _ hR
 go_wp2_with fail
 refine (HTK.out _).mono ?_;rintro e2 W14 ⟨rfl,hB⟩
 replace q17:=q17.below hB;replace hR:=hR.below hB;clear hB K c3;have K:=HK.out _ hR
 go_upto_region 16 with fail
 clear K HTK
 refine rS (fun W=>Bw W14 W) 13 ⟨(AJ _ _).drew⟩ (fun hHeld=>?_)
 have FA:=fun W (h:Bw W14 W)=>And.intro (HK.out W (hR.below h.B)) (And.intro ((q17.below h.B).cell 6 (vI x.gl) rfl) ((q17.below h.B).cell 7 (vI x.gh) rfl));generalize hW0:World.drew _=W15 at *;clear hW0
 repeat (first | refine rQ ?_ | refine rF ?_)
 have CA:=hid (fun W (h:Bw W14 W)=>HTA.out W);have CB:=hid (fun W (h:Bw W14 W)=>HTB.out W)
 refine Be ?_
 intro OPS QQ A0 SS hO hQ hA hSS
 have TAIL:Hid (∀ (H21:Nat) (W:World),Has W H21 (lz2 0 0)→W14.heap.size<=H21→Bw W14 W→wpAnyH Tryz.prog .any OPS QQ (fun W=>Bw W14 W) 1 #[b1,b1,b1,b1,b1,b1,b1,b1,b1,b1,b1,b1,b0] ((((A0.put (some 106) (vI x.t0)).put (some 111) (vI x.t1)).put (some 112) (.agg #[vI x.t0,vI x.t1])).put (some 21) (.pointer (some ⟨H21,0,none⟩))) W):=by
  subst hO hQ hA hSS
  refine hid ?_
  intro H21 W q21 r21 hHeld
  (try simp only [Act.put,pa,pb,pc])
  clear FA;have f0:=q21.fr;have c0:=q21.cell 0 _ rfl;have c1:=q21.cell 1 _ rfl
  refine rEk ?_
  intro K hK
  refine rEt hK ((hHeld.set r21 0 (vI x.t0)).set r21 1 (vI x.t1)) ?_
  clear hK K f0 c0 c1 hHeld
  intro hHeld
  replace q21:=(show Has _ H21 (lz2 x.t0 x.t1) from ((q21.set 0 (vI x.t0) (by simp)).set 1 (vI x.t1) (by simp)));generalize hW0:World.setCell _ _ _=W16 at *;clear hW0
  refine rD ?_
  replace hR:=hR.below hHeld.B;have n21:=Nat.ne_of_gt (Nat.lt_of_lt_of_le q17.lt r21);replace q17:=q17.below hHeld.B;clear hHeld HTA HTB r21;have w1:=iW (p.tick+x.t);have w2:=iW (p.tl+x.t0);have w3:=iW (p.th+x.t1);have f0:=q17.fr;have c4:=q17.cell 4 _ rfl;have K:=HK.out _ hR
  go_upto_region 18 with fail
  clear f0 K c4;replace q21:=(q21.other H17 4 (vI (p.tick+x.t)) n21);replace q17:=(show Has _ H17 (lzp am sm x.l.ta x.g (p.tick+x.t) 0 x.gl x.gh 0 0 0 0 x.l.ph) from (q17.set 4 (vI (p.tick+x.t)) (by simp)));replace hR:=(hR.set r17 4 (vI (p.tick+x.t)));generalize hW0:World.setCell _ _ _=W17 at *;clear hW0;have d0:=q21.cell 0 (vI x.t0) rfl;have d1:=q21.cell 1 (vI x.t1) rfl;have f0:=q17.fr;have c8:=q17.cell 8 _ rfl;have c9:=q17.cell 9 _ rfl;have K:=HK.out _ hR
  go_upto_region 19 with fail
  clear f0 K c8 c9;replace q21:=((q21.other H17 8 (vI (p.tl+x.t0)) n21).other H17 9 (vI (p.th+x.t1)) n21);replace q17:=(show Has _ H17 (lzp am sm x.l.ta x.g (p.tick+x.t) 0 x.gl x.gh (p.tl+x.t0) (p.th+x.t1) 0 0 x.l.ph) from ((q17.set 8 (vI (p.tl+x.t0)) (by simp)).set 9 (vI (p.th+x.t1)) (by simp)));replace hR:=((hR.set r17 8 (vI (p.tl+x.t0))).set r17 9 (vI (p.th+x.t1)));generalize hW0:World.setCell _ _ _=W18 at *;clear hW0;clear d0 d1 w1 w2 w3;have hfb:=HFB.out;have hmb:=SV (a:=x.t) (b:=flw s x.l p.fuel x.l.ta) (by omega) hfb;have HFX:=hid (fun W h=>HFL.out W h p.fuel x.l.ta p4);have HFU:=hid (show x.fu s p=p.fuel - x.t * flw s x.l p.fuel x.l.ta from rfl);generalize flw s x.l p.fuel x.l.ta=FL at *;have w1:=iW (x.t * FL);have w2:=iW (p.fuel - x.t * FL);replace q17:=q17.drew;replace q21:=q21.drew
  refine rS (fun W=>Bw W5 W) 14 hR.drew (fun hHeld=>?_)
  have FA:=HK.out;generalize hW0:World.drew _=W19 at *;clear hW0
  repeat (first | refine rQ ?_ | refine rF ?_ | refine rY (FM (.tmp 5) rfl rfl rfl (fun W hW=>HY.out W hW)) ?_)
  refine rEk ?_
  intro K hK
  refine (HFX.out _ (HS.out.below hHeld.B)).mono ?_;rintro e2 W2 ⟨rfl,hB⟩
  go_wp2_with fail
  replace q17:=q17.below hB;replace q21:=q21.below hB
  refine rEt hK (hHeld.below hB) ?_
  clear hK K hHeld hB hR
  intro hHeld
  repeat (first | refine rQ ?_ | refine rF ?_)
  have f0:=q17.fr;have c5:=q17.cell 5 _ rfl
  refine rEk ?_
  intro K hK
  refine rEt hK (hHeld.set r17 5 (vI (p.fuel - x.t * FL))) ?_
  clear hK K hHeld f0 c5
  intro hHeld
  replace q17:=(q17.set 5 (vI (p.fuel - x.t * FL)) (by simp));replace q21:=q21.other H17 5 (vI (p.fuel - x.t * FL)) n21;generalize hW0:World.setCell _ _ _=W20 at *;clear hW0
  refine rD ?_
  replace q17:=(show Has _ H17 (lzp am sm x.l.ta x.g (p.tick+x.t) (p.fuel - x.t * FL) x.gl x.gh (p.tl+x.t0) (p.th+x.t1) 0 0 x.l.ph) from q17);have hR:=hHeld;clear hHeld FA w1 w2;have c5:=q17.cell 5 _ rfl
  by_cases hfu:p.fuel - x.t * FL<0
  ·have HE:=hid (HEE.out.trans (if_pos (by rw [HFU.out];exact hfu)))
   have HNE:(15:Int)≠0:=by decide
   exact nxX
  go_upto_region 22 with fail
  clear c5;replace HEE:=hid (HEE.out.trans (if_neg (by rw [HFU.out];exact hfu)));have HF0:=hid (fun W h=>show Calls Tryz.prog 43 _ _ fun e w'=>e=.returned (vI (x.f0 s p))∧Below W.heap.size W w' from HFL.out W h p.fl x.slow p5);have HF1:=hid (fun W h=>show Calls Tryz.prog 43 _ _ fun e w'=>e=.returned (vI (x.f1 s p))∧Below W.heap.size W w' from HFL.out W h p.fh x.fast p6)
  refine rS (fun W=>Bw W20 W) 17 ⟨(AJ _ _).drew⟩ (fun hHeld=>?_)
  have FA:=fun W (h:Bw W20 W)=>HK.out W (hR.below h.B);generalize hW0:World.drew _=W21 at *;clear hW0
  repeat (first | refine rQ ?_ | refine rF ?_ | refine rY (FM (.tmp 5) rfl rfl rfl (fun W hW=>HY.out W (hR.below hW.B))) ?_)
  have CA:=hid (fun W (h:Bw W20 W)=>HF0.out W (HS.out.below (hR.below h.B).B));have CB:=hid (fun W (h:Bw W20 W)=>HF1.out W (HS.out.below (hR.below h.B).B))
  refine Be ?_
  intro OPS QQ A0 SS hO hQ hA hSS
  have TAIL:Hid (∀ (H22:Nat) (W:World),Has W H22 (lz2 0 0)→W20.heap.size<=H22→Bw W20 W→wpAnyH Tryz.prog .any OPS QQ (fun W=>Bw W20 W) 1 #[b1,b1,b1,b1,b1,b1,b1,b1,b1,b1,b1,b1,b1,b1,b1,b1,b0] ((((A0.put (some 155) (vI (x.f0 s p))).put (some 162) (vI (x.f1 s p))).put (some 163) (.agg #[vI (x.f0 s p),vI (x.f1 s p)])).put (some 22) (.pointer (some ⟨H22,0,none⟩))) W):=by
   subst hO hQ hA hSS
   refine hid ?_
   intro H22 W q22 r22 hHeld
   (try simp only [Act.put,pa,pb,pc])
   clear FA;have f0:=q22.fr;have c0:=q22.cell 0 _ rfl;have c1:=q22.cell 1 _ rfl
   refine rEk ?_
   intro K hK
   refine rEt hK ((hHeld.set r22 0 (vI (x.f0 s p))).set r22 1 (vI (x.f1 s p))) ?_
   clear hK K f0 c0 c1 hHeld
   intro hHeld
   replace q22:=(show Has _ H22 (lz2 (x.f0 s p) (x.f1 s p)) from ((q22.set 0 (vI (x.f0 s p)) (by simp)).set 1 (vI (x.f1 s p)) (by simp)));generalize hW0:World.setCell _ _ _=W22 at *;clear hW0
   refine rD ?_
   replace hR:=hR.below hHeld.B;have n22:=Nat.ne_of_gt (Nat.lt_of_lt_of_le q17.lt r22);replace q17:=q17.below hHeld.B;replace q21:=q21.below hHeld.B;clear hHeld HF0 HF1 HFL;have e0:=q22.cell 0 (vI (x.f0 s p)) rfl;have e1:=q22.cell 1 (vI (x.f1 s p)) rfl;have e2:=q21.cell 0 (vI x.t0) rfl;have e3:=q21.cell 1 (vI x.t1) rfl;have K:=HK.out _ hR
   go_wp2_with fail
   refine (ZW p.fl p.fh (x.f0 s p) (x.f1 s p) x.t0 x.t1 _).mono ?_;rintro e2 W23 ⟨rfl,hB⟩
   replace q17:=q17.below hB;replace hR:=hR.below hB;clear hB K e0 e1 e2 e3;have f0:=q17.fr;have c10:=q17.cell 10 _ rfl;have c11:=q17.cell 11 _ rfl;have K:=HK.out _ hR
   go_upto_region 24 with fail
   clear f0 K c10 c11;replace q17:=(show Has _ H17 (lzp am sm x.l.ta x.g (p.tick+x.t) (p.fuel - x.t * FL) x.gl x.gh (p.tl+x.t0) (p.th+x.t1) (biL p.fl p.fh (x.f0 s p) (x.f1 s p) x.t0 x.t1) (biH p.fl p.fh (x.f0 s p) (x.f1 s p) x.t0 x.t1) x.l.ph) from ((q17.set 10 (vI (biL p.fl p.fh (x.f0 s p) (x.f1 s p) x.t0 x.t1)) (by simp)).set 11 (vI (biH p.fl p.fh (x.f0 s p) (x.f1 s p) x.t0 x.t1)) (by simp)));replace hR:=((hR.set r17 10 (vI (biL p.fl p.fh (x.f0 s p) (x.f1 s p) x.t0 x.t1))).set r17 11 (vI (biH p.fl p.fh (x.f0 s p) (x.f1 s p) x.t0 x.t1)));generalize hW0:World.setCell _ _ _=W24 at *;clear hW0;generalize hbi:biE p.fl p.fh (x.f0 s p) (x.f1 s p) x.t0 x.t1=BE at *;clear hbi q21 q22
   by_cases hbe:BE=0
   rotate_left
   ·have HE:=hid (HEE.out.trans (rfl))
    have e1:=AL (Aw hbe);have HNE:=hbe
    exact nxX
   subst hbe;replace HS:=hid (HS.out.below hR.B);have c0:=q17.cell 0 _ rfl;have c1:=q17.cell 1 _ rfl;have c2:=q17.cell 2 _ rfl;have c3:=q17.cell 3 _ rfl;have c4:=q17.cell 4 _ rfl;have c5:=q17.cell 5 _ rfl;have c6:=q17.cell 6 _ rfl;have c7:=q17.cell 7 _ rfl;have c8:=q17.cell 8 _ rfl;have c9:=q17.cell 9 _ rfl;have c10:=q17.cell 10 _ rfl;have c11:=q17.cell 11 _ rfl;have c12:=q17.cell 12 _ rfl;clear hR HK HY;obtain ⟨r0,r1,r2,r3,r4,r5,r6,r7,r8,r9,r10,r11,r12,rf⟩:=nxR HS.out
   go_wp2_with fail
   exact bodyPost_ret (v:=.tuple #[.agg PP.cells.toArray,vI 0]) (by rw [HPP.out];simp [results,Tryz.results20,go_sem,r0,r1,r2,r3,r4,r5,r6,r7,r8,r9,r10,r11,r12,Nx.P,Pass.cells,HFU.out]) rfl (UC HEE.out (by exact Ab (Ab (Ab (Ab (Ab (Ab (Ab (Ab (Ab (Ab (Ab (Ab (Ab HS.out.B _ _ (Bj _) _) _ _ (Bj _) _) _ _ (Bj _) _) _ _ (Bj _) _) _ _ (Bj _) _) _ _ (Bj _) _) _ _ (Bj _) _) _ _ (Bj _) _) _ _ (Bj _) _) _ _ (Bj _) _) _ _ (Bj _) _) _ _ (Bj _) _) _ _ (Bj _) _))
  subst hO hQ hA hSS
  (try simp only [Act.put,pa,pb,pc] at TAIL)
  exact mR
 subst hO hQ hA hSS
 (try simp only [Act.put,pa,pb,pc] at TAIL)
 exact mR
