/- M16: ExP, Pr13 in one text. -/
import Derived.Test.YtheepmnhpclimaaGreatEx37
import Derived.Test.YtheepmnhpclimaaGreatM14
import Derived.ProofKit
import Derived.Test.YtheepmnhpclimaaGreatM21
import Derived.Test.YtheepmnhpclimaaGreatM29
import Derived.Test.YtheepmnhpclimaaGreatM32
import Derived.Test.YtheepmnhpclimaaGreatSpF
import Derived.RegionTactic
set_option linter.unusedSimpArgs false
set_option linter.unusedVariables false
set_option maxRecDepth 100000
set_option maxHeartbeats 8000000
namespace Go.Proofs.YtheepmnhpclimaaGreat
open Go.RowKit
theorem exe1 (H:Nat) (err:Int) (he:err=0∨err=30):suE (exS H 0 err)=0:=by rcases he with rfl | rfl <;> kernel_rfl
theorem exe2 (H:Nat) (err:Int) (he:err=0∨err=30):altE (exS H 0 err)=0:=by rcases he with rfl | rfl <;> kernel_rfl
theorem exe3 (H:Nat) (err:Int) (he:err=0∨err=30):altL (exS H 0 err)=[0,0]:=by rcases he with rfl | rfl <;> kernel_rfl
theorem exe4 (H:Nat) (err:Int) (he:err=0∨err=30):pnE (exS H 0 err)=0:=by rcases he with rfl | rfl <;> kernel_rfl
theorem exe5 (H:Nat) (err:Int) (he:err=0∨err=30):pnL (exS H 0 err)=[300,300]:=by rcases he with rfl | rfl <;> kernel_rfl
theorem exe6 (H:Nat) (err:Int) (he:err=0∨err=30):fcE (exS H 0 err) [0,0] [300,300]=0:=by rcases he with rfl | rfl <;> kernel_rfl
theorem exe7 (H:Nat):suH (exS H 0 30) 0=⟨-30,30,-30,30,0,0⟩:=by kernel_rfl
theorem exe70 (H:Nat):suH (exS H 0 0) 0=⟨0,0,0,0,0,0⟩:=by kernel_rfl
theorem exe8:scdV 300 900 0 0=300:=by
 have h:sdV 0 0=10583:=snd0
 have h2:omV 900 0 0=596:=by unfold omV;rw [h];decide
 have h3:tsV 300 0 0=300:=by decide
 unfold scdV
 rw [h2,h3]
 decide
theorem exgs_0:gsV 0 300 0 0=307200∧gsE 0 300 0 0=0:=by
 obtain ⟨h1,h2⟩:=al_e 0 0 (.inr (.inl rfl)) (.inr (.inl rfl))
 have h3:gsR 0 300 0 0=307200:=by unfold gsR;rw [h2];exact sqV_is (by decide) (by decide) (by decide)
 have h4:gsE 0 300 0 0=0:=by unfold gsE;rw [h1,h2,h3];decide
 refine ⟨?_,h4⟩
 unfold gsV
 rw [if_pos h4,h1,h3];decide
theorem gi_30:giE 0 300 300 (-30) 30 (-30) 30=0∧giL 0 300 300 (-30) 30 (-30) 30=268∧giH 0 300 300 (-30) 30 (-30) 30=330:=by
 have m1:mn4 (alV 0) (-30) 30 (-30) 30 = -30720:=by decide
 have m2:mx4 (alV 0) (-30) 30 (-30) 30=30720:=by decide
 have f1:giF 0 (-30) 30 (-30) 30=30720:=by decide
 have f2:giN 0 (-30) 30 (-30) 30=0:=by decide
 have l1:giLo 0 300 (-30) 30 (-30) 30=274940:=by unfold giLo;rw [m1,f1,sqV_is (r:=305660) (by decide) (by decide) (by decide)];decide
 have l2:giHi 0 300 (-30) 30 (-30) 30=337920:=by unfold giHi;rw [m2,f2,sqV_is (r:=307200) (by decide) (by decide) (by decide)];decide
 have h:giE 0 300 300 (-30) 30 (-30) 30=0:=by unfold giE;rw [f1,l1];decide
 refine ⟨h,?_,?_⟩
 ·unfold giL;rw [if_pos h,l1];decide
 ·unfold giH;rw [if_pos h,l2];decide
theorem gi_0:giE 0 300 300 0 0 0 0=0∧giL 0 300 300 0 0 0 0=300∧giH 0 300 300 0 0 0 0=300:=by
 have m1:mn4 (alV 0) 0 0 0 0=0:=by decide
 have m2:mx4 (alV 0) 0 0 0 0=0:=by decide
 have f1:giF 0 0 0 0 0=0:=by decide
 have f2:giN 0 0 0 0 0=0:=by decide
 have l1:giLo 0 300 0 0 0 0=307200:=by unfold giLo;rw [m1,f1,sqV_is (r:=307200) (by decide) (by decide) (by decide)];decide
 have l2:giHi 0 300 0 0 0 0=307200:=by unfold giHi;rw [m2,f2,sqV_is (r:=307200) (by decide) (by decide) (by decide)];decide
 have h:giE 0 300 300 0 0 0 0=0:=by unfold giE;rw [f1,l1];decide
 refine ⟨h,?_,?_⟩
 ·unfold giL;rw [if_pos h,l1];decide
 ·unfold giH;rw [if_pos h,l2];decide
theorem ex_lg (H:Nat) (err:Int):lgV (exS H 0 err) [0,0] [300,300] 0=⟨0,0,2,300,300,0,0⟩:=by
 have e1:lgA [0,0] 0=0:=by decide
 have e2:lgA [300,300] 0=300:=by decide
 have e3:lgP [0,0] 0=2:=by decide
 have e4:coV (nodA (exS H 0 err) 0).px (nodA (exS H 0 err) 0).py (nodA (exS H 0 err) (0+1)).px (nodA (exS H 0 err) (0+1)).py=0:=exc0
 have e5:gAt (exS H 0 err).gr (elE (exS H 0 err).gr) (lgX (exS H 0 err) 0) (lgY (exS H 0 err) 0) 0=0:=by kernel_rfl
 have e6:gAt (exS H 0 err).gr (elN (exS H 0 err).gr) (lgX (exS H 0 err) 0) (lgY (exS H 0 err) 0) 0=0:=by kernel_rfl
 have e7:gAt (exS H 0 err).gr (elD (exS H 0 err).gr) (lgX (exS H 0 err) 0) (lgY (exS H 0 err) 0) 0=0:=by kernel_rfl
 unfold lgV
 rw [e1,e2,e3,e4,e5,e6,e7]
 have e8':scdV 300 (exS H 0 err).mch 0 0=300:=exe8
 rw [e8']
def exP0:Pass:=⟨0,300,300,0,0,900000,0,0,0,0,900000,900000,0⟩
def exX0:Nx:=⟨⟨0,0,2,300,300,0,0⟩,⟨0,0,0,0,0,0⟩,300,300,60000⟩
def exX30:Nx:=⟨⟨0,0,2,300,300,0,0⟩,⟨-30,30,-30,30,0,0⟩,300,300,60000⟩
theorem ex_p0 (H:Nat) (err:Int):psP (exS H 0 err) [0,0] [300,300] 0=exP0:=by
 have e5:gAt (exS H 0 err).gr (elD (exS H 0 err).gr) (nodA (exS H 0 err) 0).px (nodA (exS H 0 err) 0).py 0=0:=by kernel_rfl
 have e6:(exS H 0 err).ac.left=900000:=by kernel_rfl
 show fstP (exS H 0 err) [0,0] [300,300]=exP0
 unfold fstP
 rw [show ([0,0]:List Int).getD 0 0=0 by decide,show ([300,300]:List Int).getD 0 0=300 by decide,e5,e6,show scdV 300 (exS H 0 err).mch 0 0=300 from exe8]
 rfl
theorem ex_x0 (H:Nat):nxV (exS H 0 0) [0,0] [300,300] 0=exX0:=by
 unfold nxV
 rw [ex_lg,exe70,show lgA [0,0] 0=0 by decide,show lgA [300,300] 0=300 by decide,show scdV 300 (exS H 0 0).mch 0 0=300 from exe8]
 rfl
theorem ex_x30 (H:Nat):nxV (exS H 0 30) [0,0] [300,300] 0=exX30:=by
 unfold nxV
 rw [ex_lg,exe7,show lgA [0,0] 0=0 by decide,show lgA [300,300] 0=300 by decide,show scdV 300 (exS H 0 30).mch 0 0=300 from exe8]
 rfl
theorem ex_fu (H:Nat) (err:Int) (x:Nx) (hx:x.l=⟨0,0,2,300,300,0,0⟩) (hd:x.di=60000):x.g=300∧x.t=200∧x.fu (exS H 0 err) exP0=500000:=by
 have h1:x.g=300:=by
  unfold Nx.g
  rw [hx]
  show gsV 0 300 0 0 / 1024=300
  rw [exgs_0.1];decide
 have h2:x.t=200:=by unfold Nx.t;rw [h1,hd];decide
 refine ⟨h1,h2,?_⟩
 unfold Nx.fu
 rw [h2,hx]
 kernel_rfl
theorem ex_E0 (H:Nat):exX0.E (exS H 0 0) exP0=0∧exX0.P (exS H 0 0) exP0 0 300=⟨0,300,300,300,200,500000,300,300,200,200,500000,500000,2⟩:=by
 obtain ⟨h1,h2,h3⟩:=ex_fu H 0 exX0 rfl rfl;have g1:giE exX0.l.co exX0.slow exX0.fast exX0.h.e0 exX0.h.e1 exX0.h.n0 exX0.h.n1=0:=gi_0.1;have l1:exX0.gl=300:=gi_0.2.1;have l2:exX0.gh=300:=gi_0.2.2
 have t0:exX0.t0=200:=by unfold Nx.t0;rw [l2];decide
 have t1:exX0.t1=200:=by unfold Nx.t1;rw [l1];decide
 have f0:exX0.f0 (exS H 0 0) exP0=2000:=by kernel_rfl
 have f1:exX0.f1 (exS H 0 0) exP0=2000:=by kernel_rfl
 constructor
 ·unfold Nx.E
  rw [if_neg (by decide),if_neg (by rw [show gsE exX0.l.co exX0.l.ta exX0.l.we exX0.l.wn=0 from exgs_0.2];decide),if_neg (by rw [g1];decide),if_neg (by rw [h3];decide),f0,f1,t0,t1]
  decide
 ·unfold Nx.P
  rw [h1,h2,h3,l1,l2,f0,f1,t0,t1]
  kernel_rfl
theorem ex_run0 (H:Nat):runE (exS H 0 0)=0∧runL (exS H 0 0)=[exP0,⟨0,300,300,300,200,500000,300,300,200,200,500000,500000,2⟩]:=by
 obtain ⟨a1,a2⟩:=ex_E0 H
 have he:(0:Int)=0∨(0:Int)=30:=by decide
 have p0:=ex_p0 H 0
 have p1:psP (exS H 0 0) [0,0] [300,300] 1=⟨0,300,300,300,200,500000,300,300,200,200,500000,500000,2⟩:=by
  show nxP (exS H 0 0) (psP (exS H 0 0) [0,0] [300,300] 0) [0,0] [300,300] 0=_
  unfold nxP
  rw [p0,ex_x0,← a2]
  rfl
 have e1:psE (exS H 0 0) [0,0] [300,300] 1=0:=by
  have h:psE (exS H 0 0) [0,0] [300,300] 1=nxE (exS H 0 0) (psP (exS H 0 0) [0,0] [300,300] 0) [0,0] [300,300] 0:=if_neg (fun h=>h rfl)
  rw [h]
  unfold nxE
  rw [p0,ex_x0,a1]
 have w:wtE (exS H 0 0) [0,0] [300,300]=0:=by
  unfold wtE
  rw [if_neg (by rw [exe1 H _ he];decide),if_neg (by rw [exe6 H _ he];decide)]
  exact e1
 have r:runE (exS H 0 0)=0:=by
  unfold runE
  rw [if_neg (by rw [exe2 H _ he];decide),if_neg (by rw [exe4 H _ he];decide),exe3 H _ he,exe5 H _ he,w]
 refine ⟨r,?_⟩
 unfold runL
 rw [if_pos r,exe3 H _ he,exe5 H _ he]
 show [psP (exS H 0 0) [0,0] [300,300] 0,psP (exS H 0 0) [0,0] [300,300] 1]=_
 rw [p0,p1]
theorem ex_E30 (H:Nat):exX30.E (exS H 0 30) exP0=0∧exX30.P (exS H 0 30) exP0 0 300=⟨0,300,300,300,200,500000,268,330,182,224,452000,536000,2⟩:=by
 obtain ⟨h1,h2,h3⟩:=ex_fu H 30 exX30 rfl rfl;have g1:giE exX30.l.co exX30.slow exX30.fast exX30.h.e0 exX30.h.e1 exX30.h.n0 exX30.h.n1=0:=gi_30.1;have l1:exX30.gl=268:=gi_30.2.1;have l2:exX30.gh=330:=gi_30.2.2
 have t0:exX30.t0=182:=by unfold Nx.t0;rw [l2];decide
 have t1:exX30.t1=224:=by unfold Nx.t1;rw [l1];decide
 have f0:exX30.f0 (exS H 0 30) exP0=2000:=by kernel_rfl
 have f1:exX30.f1 (exS H 0 30) exP0=2000:=by kernel_rfl
 constructor
 ·unfold Nx.E
  rw [if_neg (by decide),if_neg (by rw [show gsE exX30.l.co exX30.l.ta exX30.l.we exX30.l.wn=0 from exgs_0.2];decide),if_neg (by rw [g1];decide),if_neg (by rw [h3];decide),f0,f1,t0,t1]
  decide
 ·unfold Nx.P
  rw [h1,h2,h3,l1,l2,f0,f1,t0,t1]
  kernel_rfl
theorem ex_run30 (H:Nat):runE (exS H 0 30)=0∧runL (exS H 0 30)=[exP0,⟨0,300,300,300,200,500000,268,330,182,224,452000,536000,2⟩]:=by
 obtain ⟨a1,a2⟩:=ex_E30 H
 have he:(30:Int)=0∨(30:Int)=30:=by decide
 have p0:=ex_p0 H 30
 have p1:psP (exS H 0 30) [0,0] [300,300] 1=⟨0,300,300,300,200,500000,268,330,182,224,452000,536000,2⟩:=by
  show nxP (exS H 0 30) (psP (exS H 0 30) [0,0] [300,300] 0) [0,0] [300,300] 0=_
  unfold nxP
  rw [p0,ex_x30,← a2]
  rfl
 have e1:psE (exS H 0 30) [0,0] [300,300] 1=0:=by
  have h:psE (exS H 0 30) [0,0] [300,300] 1=nxE (exS H 0 30) (psP (exS H 0 30) [0,0] [300,300] 0) [0,0] [300,300] 0:=if_neg (fun h=>h rfl)
  rw [h]
  unfold nxE
  rw [p0,ex_x30,a1]
 have w:wtE (exS H 0 30) [0,0] [300,300]=0:=by
  unfold wtE
  rw [if_neg (by rw [exe1 H _ he];decide),if_neg (by rw [exe6 H _ he];decide)]
  exact e1
 have r:runE (exS H 0 30)=0:=by
  unfold runE
  rw [if_neg (by rw [exe2 H _ he];decide),if_neg (by rw [exe4 H _ he];decide),exe3 H _ he,exe5 H _ he,w]
 refine ⟨r,?_⟩
 unfold runL
 rw [if_pos r,exe3 H _ he,exe5 H _ he]
 show [psP (exS H 0 30) [0,0] [300,300] 0,psP (exS H 0 30) [0,0] [300,300] 1]=_
 rw [p0,p1]
theorem ex_ok (H:Nat) (lo err:Int):(exS H lo err).ok :=
 ⟨by show 2<=maxLen;decide,⟨by show 3<=maxLen;decide,by show 2<=maxLen;decide,by show 2<=maxLen;decide,by show 2<=maxLen;decide,by show 2<=maxLen;decide,by show 2<=maxLen;decide,by show 2<=maxLen;decide,by show 2<=maxLen;decide,by show 2<=maxLen;decide,by show 2<=maxLen;decide,
  ex_row H _ _ _ _,ex_row H _ _ _ _,ex_row H _ _ _ _⟩,
  ⟨by show I64 0;unfold I64;decide,by show I64 0;unfold I64;decide,by show I64 1;unfold I64;decide,by show I64 1;unfold I64;decide,by show I64 1;unfold I64;decide,by show 1<=maxLen;decide,by show 1<=maxLen;decide,by show 1<=maxLen;decide⟩,by show I64 900000;unfold I64;decide,by show I64 1000;unfold I64;decide⟩
end Go.Proofs.YtheepmnhpclimaaGreat
namespace Go.Proofs.YtheepmnhpclimaaGreat
open Go.RowKit
open Go.Lib (hid)
theorem info64:(Tryz.prog.info? 2).map (fun i=>(i.zero,i.size,i.bytes))=some (some (vI 0),1,8):=by kernel_rfl
def pnC (s:Stp):Int × Int:=if pnE s=11 then hdC (Cs.confL (sdL s (altL s)) (spS s)) else (0,0)
def PlnP (s:Stp) (w:World) (e:Ending) (w':World):Prop:=∃ A c,e=.returned (.tuple #[.slice A (okN (pnE s) s.no.length) c,.agg #[vI (pnC s).1,vI (pnC s).2],vI (pnE s)])∧Ints w' A (okN (pnE s) s.no.length) (okL (pnE s) (pnL s))∧Below w.heap.size w w'
theorem dstL_get {s:Stp} (G:StG s) (N:StN s) {k:Nat} (hk:k+1<s.no.length):(dstL s)[k]? = some (nodA s (k+1)).di:=by
 unfold dstL
 rw [List.getElem?_map,List.getElem?_drop,Nat.add_comm 1 k]
 obtain ⟨n,hn⟩:=get_ex rfl hk
 rw [hn,nodA_of hn];rfl
def PlnRel (s:Stp) (B0:World) (v1 v2 t:Value) (wr:World):Prop:=∃ k:Nat,k<=s.no.length∧t=vI (k:Int)∧OwII B0 ((dstL s).take (k - 1)) ((wsh s).take k) v1 v2 wr
theorem wsh_take {s:Stp} {k:Nat} (hk:k<s.no.length):(wsh s).take (k+1)=(wsh s).take k ++ [s.cas]:=take_succ_get _ k _ (by unfold wsh;rw [List.getElem?_replicate,if_pos hk])
theorem dstL_take {s:Stp} (G:StG s) (N:StN s) {k:Nat} (h0:0<k) (hk:k<s.no.length):(dstL s).take (k+1 - 1)=(dstL s).take (k - 1) ++ [(nodA s k).di]:=by
 obtain ⟨j,rfl⟩:∃ j,k=j+1:=⟨k - 1,by omega⟩
 exact take_succ_get _ j _ (dstL_get G N hk)
theorem xPPlan (s:Stp) (A:Option Addr) (n c:Nat) (w:World) (hl:s.lies w) (hok:s.ok) (hal:Ints w A n (altL s)) (hn:n<=maxLen) (h0:altE s=0):Calls Tryz.prog 67 #[.agg s.cells.toArray,.slice A n c] w (PlnP s w):=by
 obtain ⟨i0,hi,hz0,hz1,hz2⟩:=info_parts info64;have HS:=hid (boxS2 w s.cells.toArray #[vI 0,vI 0] 35 38);have hE:=(altE_su h0).1;have G:=su_good hE;have N:=StN.of hl;have hno:=N.no;have hn2:=no_len G N;have AG:=alt_good N h0;have hsd:=sd_0 G N hE AG
 have hnl:n=s.no.length:=by have:=hal.len;have:=AG.len;omega
 subst hnl;have HSP:=hid (fun W (h:BoxS w 2 [s.cells,(lz2 0 0)] W)=>xPSpeeds s A s.no.length c (altL s) W (hl.below h.B) hok (hal.below h.B) hn)
 rw [hsd] at HSP
 unfold PrRes at HSP
 simp only [okL_0,okN_0] at HSP
 obtain ⟨b,off,hA⟩:=su_A hl (by omega);have HNS:=hid (fun W (h:BoxS w 2 [s.cells,(lz2 0 0)] W)=>show W.cell? ⟨w.heap.size,0,none⟩=some (.slice (some ⟨b,off,none⟩) s.sno.n s.sno.c) from su_sl (h.has 0 _ rfl) hA);have HND:=hid (fun W (h:BoxS w 2 [s.cells,(lz2 0 0)] W) k (hk:k<s.no.length)=>su_nd (hl.below h.B) hA hk);have HSC:=hid (fun W (h:BoxS w 2 [s.cells,(lz2 0 0)] W)=>show W.cell? ⟨w.heap.size,30,none⟩=some (vI s.cas)∧W.cell? ⟨w.heap.size,32,none⟩=some (vI s.acc)∧W.cell? ⟨w.heap.size,33,none⟩=some (vI s.dec) from ⟨su_cas (h.has 0 _ rfl),su_acc (h.has 0 _ rfl),su_dec (h.has 0 _ rfl)⟩);have HCF:=hid (fun W (h:BoxS w 2 [s.cells,(lz2 0 0)] W)=>show (W.cell? ⟨w.heap.size+1,0,none⟩=some (vI 0)∧W.cell? ⟨w.heap.size+1,1,none⟩=some (vI 0))∧∀ o,W.frozen? ⟨w.heap.size+1,o,none⟩=false from ⟨⟨h.at 1 _ rfl 0 _ rfl,h.at 1 _ rfl 1 _ rfl⟩,h.fr 1 _ rfl⟩);have HGN:=hid (And.intro G N);have HNO:=hid hno;have HLL:=hid AG.len;have HST:=hid (stE_0s G N);have HDL:=hid (dst_bd G N).2;have HN2:=hid hn2;clear hl hok hE G N hA hno hn2 AG hsd hal hn h0
 go_enter Tryz.func67,Tryz.ntmps67
 go_wp2_with (refine at_stp (.tmp 2) rfl rfl rfl (HS.out.has 0 _ rfl) ?_)
 refine (HSP.out _ HS.out).mono ?_;rintro e' B0 ⟨A1,c1,rfl,hP1,hcap1,hB⟩
 replace HS:=hid (HS.out.below hB);have HP1:=hid hP1;have HC1:=hid hcap1;clear hB hP1 hcap1 HSP;have k0:=HNS.out _ HS.out
 go_wp2_with fail
 go_loopw [9,10,31] (fun v1 v2 t wr=>PlnRel s B0 v1 v2 t wr) (fun _ _ t _=>s.no.length - (intOf t).toNat)
 case atStart=>exact ⟨0,by omega,rfl,OwII.start B0⟩
 case round =>
  obtain ⟨k,hk,rfl,ho⟩:=hrel;have HO:=hid ho;have HSW:=hid (HS.out.below ho.bel);clear ho k0
  by_cases hlt:k<s.no.length
  ·have i1:(0:Int)<=(k:Int):=by omega
   have i2:(k:Int)<(s.sno.n:Int):=by have:=HNO.out;omega
   obtain ⟨c0,c1,c2,c3,c4,c5,c6⟩:=HND.out _ HSW.out k hlt
   have hlt64:k<64:=by have:=HN2.out;omega
   have HWT:=hid (wsh_take (s:=s) hlt)
   have hlen2:((wsh s).take k).length<=64:=by rw [List.length_take];have:=HN2.out;omega
   have hlen1:((dstL s).take (k - 1)).length<=64:=by rw [List.length_take];have:=HN2.out;omega
   obtain ⟨s30,-,-⟩:=HSC.out _ HSW.out;generalize hLW:(wsh s).take k=LW at *;have HLW:=hid hLW;clear hLW
   by_cases hk0:0<k
   ·have HDT:=hid (dstL_take HGN.out.1 HGN.out.2 hk0 hlt)
    have i5:(0:Int)<(k:Int):=by omega
    generalize hLD:(dstL s).take (k - 1)=LD at *;have HLD:=hid hLD;clear hLD;have hlen:=hlen1;have HBZ:=hid (show B0.heap.size<=wr.heap.size from HO.out.bel.size)
    go_wp2_with (first | (at_builtin;refine wpList_append_own_at _ rfl _ _ 23 rfl B0.heap.size 2 i0 (vI 0) 1 8 Tryz.underlying23 hi hz0 hz1 hz2 rfl (by decide) _ _ _ rfl (((HO.out.alloc _).alloc _).o1.own) ⟨wr.heap.size+1,0,none⟩ 1 1 [vI (nodA s k).di] rfl rfl (news_new _ _ (by first | rfl | simp) _ _ _ rfl) (by intro u hu;simp at hu;subst hu;rfl) (by unfold maxLen;omega) (by omega) (by have:=HBZ.out;simp;omega) ?_;intro v1 w7 hown hgrow hnil hblk;have hoo:=hid (OwII.app1 (x:=(nodA s k).di) ((HO.out.alloc _).alloc _) hown hgrow hblk);have s30w:=(HSC.out _ (HS.out.below hoo.out.bel)).1;have HBZ2:=hid (show B0.heap.size<=w7.heap.size from hoo.out.bel.size)) | (at_builtin;refine wpList_append_own_at _ rfl _ _ 23 rfl B0.heap.size 2 i0 (vI 0) 1 8 Tryz.underlying23 hi hz0 hz1 hz2 rfl (by decide) _ _ _ rfl ((hoo.out.alloc _).o2.own) ⟨w7.heap.size,0,none⟩ 1 1 [vI s.cas] rfl rfl (news_new _ _ (by first | rfl | simp) _ _ _ rfl) (by intro u hu;simp at hu;subst hu;rfl) (by unfold maxLen;omega) (by omega) (by have:=HBZ2.out;simp;omega) ?_;intro v2 w9 hown2 hgrow2 hnil2 hblk2))
    replace HO:=hid (OwII.app2 (x:=s.cas) (hoo.out.alloc _) hown2 hgrow2 hblk2);clear hown hgrow hnil hblk hown2 hgrow2 hnil2 hblk2 s30 s30w hoo HBZ2
    go_roundw
    case rel=>exact ⟨k+1,by omega,by go_num,by rw [HDT.out,HWT.out];exact HO.out⟩
    case measure=>simp only [intOf];omega
   ·have i5:¬ (0:Int)<(k:Int):=by omega
    have HD0:=hid (show (dstL s).take (k+1 - 1)=(dstL s).take (k - 1) from by rw [show k=0 by omega]);have hlen:=hlen2;have s30w:=(HSC.out _ (HSW.out.alloc (.cells #[vI (nodA s k).px,vI (nodA s k).py,vI (nodA s k).di,vI (nodA s k).a0,vI (nodA s k).a1,vI (nodA s k).s0,vI (nodA s k).s1] 45))).1;have HBZ:=hid (show B0.heap.size<=wr.heap.size from HO.out.bel.size)
    go_wp2_with (at_builtin;refine wpList_append_own_at _ rfl _ _ 23 rfl B0.heap.size 2 i0 (vI 0) 1 8 Tryz.underlying23 hi hz0 hz1 hz2 rfl (by decide) _ _ _ rfl (((HO.out.alloc _).alloc _).o2.own) ⟨wr.heap.size+1,0,none⟩ 1 1 [vI s.cas] rfl rfl (news_new _ _ (by first | rfl | simp) _ _ _ rfl) (by intro u hu;simp at hu;subst hu;rfl) (by unfold maxLen;omega) (by omega) (by have:=HBZ.out;simp;omega) ?_;intro v2 w9 hown hgrow hnil hblk)
    replace HO:=hid (OwII.app2 (x:=s.cas) ((HO.out.alloc _).alloc _) hown hgrow hblk);clear hown hgrow hnil hblk s30
    go_roundw
    case rel=>exact ⟨k+1,by omega,by go_num,by rw [HD0.out,HWT.out];exact HO.out⟩
    case measure=>simp only [intOf];omega
  ·have hkn:=hid (show k=s.no.length by omega)
   have i2:¬ (k:Int)<(s.sno.n:Int):=by have:=HNO.out;omega
   have h1:(dstL s).take (k - 1)=dstL s:=List.take_of_length_le (by rw [HDL.out];omega);have h2:(wsh s).take k=wsh s:=List.take_of_length_le (by unfold wsh;simp;omega)
   rw [h1,h2] at HO
   obtain ⟨⟨A2,c2,hv1,hI2,hc2⟩,A3,c3,hv2,hI3,hc3⟩:=HO.out.ints (n:=s.no.length - 1) (m:=s.no.length) HDL.out (by unfold wsh;simp);have HI2:=hid hI2;have HI3:=hid hI3;have HBL:=hid HO.out.bel;obtain ⟨-,k33,k34⟩:=HSC.out _ HSW.out;have HX1:=hid (fun W (h:Below wr.heap.size wr W)=>xSpSteps A2 (s.no.length - 1) c2 (dstL s) s.acc s.dec W (HI2.out.below h) (by have:=HN2.out;unfold maxLen;omega))
   rw [HST.out] at HX1
   unfold PrRes at HX1
   simp only [okL_0,okN_0] at HX1
   clear h1 h2 hI2 hI3 hc2 hc3 HO hlt hk HND HNS HST HDL;subst hv1;subst hv2;generalize hN:s.no.length=nn at *;have HNN:=hid hN;clear hN
   go_wp2_with fail
   refine (HX1.out _ (Below.refl _ _)).mono ?_;rintro e' w5 ⟨A5,c5,rfl,hP5,hcap5,hB⟩
   replace HSW:=hid (HSW.out.below hB);have HP5:=hid hP5;have HC5:=hid hcap5;have HP1':=hid (HP1.out.below (bel_trans HBL.out hB));have HI3':=hid (HI3.out.below hB);clear hB hP5 hcap5 HX1 HI2 HI3 k33 k34;have HPL:=hid (xSpPlan A1 A5 A3 nn c1 (nn - 1) c5 nn c3 (sdL s (altL s)) (Sp.stL (dstL s) s.acc s.dec) (wsh s) w5 HP1'.out HP5.out HI3'.out (by have:=HN2.out;unfold maxLen;omega) (by have:=HN2.out;unfold maxLen;omega) (by have:=HN2.out;unfold maxLen;omega) HC5.out.le HC5.out.mx)
   go_wp2_with fail
   rcases pl_011 HGN.out.1 HGN.out.2 (HLL.out.trans HNN.out.symm) with ⟨hz,hcl⟩ | ⟨hz,hcl⟩
   ·have HPE:=hid (show pnE s=0 from hz)
    have HPC:=hid (show pnC s=(0,0) from if_neg (by rw [show pnE s=0 from hz];decide))
    have HR:=hid (show Calls Tryz.prog _ _ w5 (SlRes (pnL s) nn 0 w5) from by
     have h:=HPL.out
     rw [show plE (sdL s (altL s)) (Sp.stL (dstL s) s.acc s.dec) (wsh s)=0 from hz,okL_0,okN_0] at h
     exact h)
    unfold SlRes at HR
    clear HPL hz hcl
    refine HR.out.mono ?_;rintro e' w6 ⟨A6,c6,rfl,hI6,hB⟩
    replace HSW:=hid (HSW.out.below hB);have HI6:=hid hI6;clear hB hI6 HR;obtain ⟨⟨z0,z1⟩,zf⟩:=HCF.out _ HSW.out
    go_wp2_with fail
    exact bodyPost_ret (v:=.tuple #[.slice A6 nn c6,.agg #[vI 0,vI 0],vI 0]) (by simp [results,Tryz.results67,go_sem,z0,z1]) rfl (by
     unfold PlnP
     rw [HPE.out,HPC.out,okN_0,okL_0,HNN.out]
     exact ⟨A6,c6,rfl,(HI6.out.same z0).same (cell_same z0 z1),(HSW.out.B.setCell (p:=⟨w.heap.size+1,0,none⟩) (by show w.heap.size<=w.heap.size+1;omega) _).setCell (p:=⟨w.heap.size+1,1,none⟩) (by show w.heap.size<=w.heap.size+1;omega) _⟩)
   ·have HPE:=hid (show pnE s=11 from hz)
    have HPC:=hid (show pnC s=hdC (Cs.confL (sdL s (altL s)) (spS s)) from if_pos hz)
    have HR:=hid (show Calls Tryz.prog _ _ w5 (SlRes (okL 11 (pnL s)) (okN 11 nn) 11 w5) from by
     have h:=HPL.out
     rw [show plE (sdL s (altL s)) (Sp.stL (dstL s) s.acc s.dec) (wsh s)=11 from hz] at h
     exact h)
    unfold SlRes at HR
    clear HPL hz
    refine HR.out.mono ?_;rintro e' w6 ⟨A6,c6,rfl,-,hB⟩
    replace HSW:=hid (HSW.out.below hB);have HCO:=hid (xConflicts A1 A5 nn c1 (nn - 1) c5 (sdL s (altL s)) (spS s) w6 (HP1'.out.below hB) (HP5.out.below hB) (by have:=HN2.out;unfold maxLen;omega) (by have:=HN2.out;unfold maxLen;omega) HC5.out.le HC5.out.mx (Sp.rdE_0 (sp_ok HGN.out.1 HGN.out.2 (HLL.out.trans HNN.out.symm))).1 hcl);clear hB HR hcl;generalize hdC (Cs.confL (sdL s (altL s)) (spS s))=p at *
    go_wp2_with fail
    refine (HCO.out).mono ?_;rintro e' w4 ⟨rfl,hB⟩
    replace HSW:=hid (HSW.out.below hB);clear hB HCO
    go_wp2_with fail
    have HT:Hid (Has (w4.alloc (.cells #[vI p.1,vI p.2] 38)) w4.heap.size (lz2 p.1 p.2)):=hid (Has.new _ _ _);have hge:=HSW.out.sz;replace HSW:=hid (HSW.out.alloc (.cells #[vI p.1,vI p.2] 38));generalize w4.alloc (.cells #[vI p.1,vI p.2] 38)=w5' at *;generalize w4.heap.size=HB5 at *
    refine rS (fun W=>Has W HB5 (lz2 p.1 p.2)) 5 (HT.out.drew) (fun hHeld=>?_)
    replace HSW:=hid HSW.out.drew;generalize w5'.drew=w6' at *;obtain ⟨⟨z0,z1⟩,zf⟩:=HCF.out _ HSW.out;have HB:=hid HSW.out.B
    refine rT (fun W hW=>And.intro ((show Has W HB5 (lz2 p.1 p.2) from hW).cell 0 _ rfl) ((show Has W HB5 (lz2 p.1 p.2) from hW).cell 1 _ rfl)) ?_
    iterate 2 refine rQ ?_
    refine rEk ?_
    intro K hK
    have hNew:=((hHeld.other (w.heap.size+1) 0 (vI p.1) (by omega)).other (w.heap.size+1) 1 (vI p.2) (by omega))
    refine rEt hK hNew ?_
    clear hK K hNew hHeld
    intro hHeld
    refine rQ ?_
    refine rD ?_
    clear hHeld
    go_wp2_with fail
    exact bodyPost_ret (v:=.tuple #[.slice none 0 0,.agg #[vI p.1,vI p.2],vI 11]) (by simp [results,Tryz.results67,go_sem,z0,z1]) rfl (by
     unfold PlnP
     rw [HPE.out,HPC.out]
     unfold okN okL
     rw [if_neg (by decide),if_neg (by decide)]
     exact ⟨none,0,rfl,Ints.nil _,(HB.out.setCell (p:=⟨w.heap.size+1,0,none⟩) (by show w.heap.size<=w.heap.size+1;omega) _).setCell (p:=⟨w.heap.size+1,1,none⟩) (by show w.heap.size<=w.heap.size+1;omega) _⟩)
end Go.Proofs.YtheepmnhpclimaaGreat
