/- M5: ExR, Aw38 in one text. -/
import Derived.Test.YtgneijdjlahgbaaGreatEx38
import Derived.Test.YtgneijdjlahgbaaGreatM14
import Derived.Test.YtgneijdjlahgbaaGreatRtS
import Derived.ProofKit
import Derived.Test.YtgneijdjlahgbaaGreatRtB
import Derived.RegionTactic
namespace Go.Proofs.YtgneijdjlahgbaaGreat
set_option linter.unusedSimpArgs false
set_option linter.unusedVariables false
open Go.RowKit
theorem er1 (H:Nat):suE (erS H)=0:=by kernel_rfl
theorem er2 (H:Nat):altE (erS H)=0:=by kernel_rfl
theorem er3 (H:Nat):altL (erS H)=[0,0]:=by kernel_rfl
theorem er4 (H:Nat):spn (erS H)=100:=by unfold spn sdA;rw [er3];kernel_rfl
theorem er5 (H:Nat):opE (erS H) 1 false=0:=by
 unfold opE
 rw [if_neg (by rw [er1];decide),if_neg (show ¬ ((1:Int)<1∨(((erS H).no.length:Nat):Int)≤1∨false=true) from by show ¬ ((1:Int)<1∨((2:Nat):Int)≤1∨false=true);decide),if_neg (by rw [er2];decide)]
 unfold sdA
 rw [er3]
 kernel_rfl
theorem er6 (H:Nat) (k:Int):fam (erS H) k=(([(200,300),(200,300)]:Cs.Wins)).map (fun p=>min p.2 (p.1+k)):=by
 have h:Cs.tight (sdA (erS H)) (spS (erS H))=[(200,300),(200,300)]:=by unfold sdA;rw [er3];kernel_rfl
 unfold fam Sp.faL
 rw [h];rfl
theorem er7 (H:Nat):suH (erS H) 0=⟨0,0,0,0,0,0⟩:=by kernel_rfl
theorem er8 (H:Nat):bdV (erS H) 1=1:=by
 unfold bdV
 rw [if_neg (by rw [er5];decide)]
 have h:tgt (erS H) ((1:Int) - (0:Nat))=true:=by
  unfold tgt sdA
  rw [er3]
  kernel_rfl
 show (if tgt (erS H) ((1:Int) - (0:Nat))=true then _ else _)=_
 rw [if_pos h];rfl
def erP0 (v:Int):Pass:=⟨0,v,v,0,0,900000,0,0,0,0,900000,900000,0⟩
def erX (v:Int):Nx:=⟨⟨0,0,2,v,v,0,0⟩,⟨0,0,0,0,0,0⟩,v,v,60000⟩
/-! ### speed 200 -/
theorem er_s200:scdV 200 900 0 0=200:=by
 have h:sdV 0 0=10583:=snd0
 have h2:omV 900 0 0=596:=by unfold omV;rw [h];decide
 have h3:tsV 200 0 0=200:=by decide
 unfold scdV
 rw [h2,h3]
 decide
theorem er_g200:gsV 0 200 0 0=204800∧gsE 0 200 0 0=0:=by
 obtain ⟨h1,h2⟩:=al_e 0 0 (.inr (.inl rfl)) (.inr (.inl rfl))
 have h3:gsR 0 200 0 0=204800:=by unfold gsR;rw [h2];exact sqV_is (by decide) (by decide) (by decide)
 have h4:gsE 0 200 0 0=0:=by unfold gsE;rw [h1,h2,h3];decide
 refine ⟨?_,h4⟩
 unfold gsV
 rw [if_pos h4,h1,h3];decide
theorem er_i200:giE 0 200 200 0 0 0 0=0∧giL 0 200 200 0 0 0 0=200∧giH 0 200 200 0 0 0 0=200:=by
 have m1:mn4 (alV 0) 0 0 0 0=0:=by decide
 have m2:mx4 (alV 0) 0 0 0 0=0:=by decide
 have f1:giF 0 0 0 0 0=0:=by decide
 have f2:giN 0 0 0 0 0=0:=by decide
 have l1:giLo 0 200 0 0 0 0=204800:=by unfold giLo;rw [m1,f1,sqV_is (r:=204800) (by decide) (by decide) (by decide)];decide
 have l2:giHi 0 200 0 0 0 0=204800:=by unfold giHi;rw [m2,f2,sqV_is (r:=204800) (by decide) (by decide) (by decide)];decide
 have h:giE 0 200 200 0 0 0 0=0:=by unfold giE;rw [f1,l1];decide
 refine ⟨h,?_,?_⟩
 ·unfold giL;rw [if_pos h,l1];decide
 ·unfold giH;rw [if_pos h,l2];decide
theorem er_l200 (H:Nat):lgV (erS H) [0,0] [200,200] 0=⟨0,0,2,200,200,0,0⟩:=by
 have e1:lgA [0,0] 0=0:=by decide
 have e2:lgA [200,200] 0=200:=by decide
 have e3:lgP [0,0] 0=2:=by decide
 have e4:coV (nodA (erS H) 0).px (nodA (erS H) 0).py (nodA (erS H) (0+1)).px (nodA (erS H) (0+1)).py=0:=exc0
 have e5:gAt (erS H).gr (elE (erS H).gr) (lgX (erS H) 0) (lgY (erS H) 0) 0=0:=by kernel_rfl
 have e6:gAt (erS H).gr (elN (erS H).gr) (lgX (erS H) 0) (lgY (erS H) 0) 0=0:=by kernel_rfl
 have e7:gAt (erS H).gr (elD (erS H).gr) (lgX (erS H) 0) (lgY (erS H) 0) 0=0:=by kernel_rfl
 unfold lgV
 rw [e1,e2,e3,e4,e5,e6,e7,show scdV 200 (erS H).mch 0 0=200 from er_s200]
theorem er_p200 (H:Nat):psP (erS H) [0,0] [200,200] 0=erP0 200:=by
 have e5:gAt (erS H).gr (elD (erS H).gr) (nodA (erS H) 0).px (nodA (erS H) 0).py 0=0:=by kernel_rfl
 have e6:(erS H).ac.left=900000:=by kernel_rfl
 show fstP (erS H) [0,0] [200,200]=erP0 200
 unfold fstP
 rw [show ([0,0]:List Int).getD 0 0=0 by decide,show ([200,200]:List Int).getD 0 0=200 by decide,e5,e6,show scdV 200 (erS H).mch 0 0=200 from er_s200]
 rfl
theorem er_x200 (H:Nat):nxV (erS H) [0,0] [200,200] 0=erX 200:=by
 unfold nxV
 rw [er_l200,er7,show lgA [0,0] 0=0 by decide,show lgA [200,200] 0=200 by decide,show scdV 200 (erS H).mch 0 0=200 from er_s200]
 rfl
theorem er_E200 (H:Nat):(erX 200).E (erS H) (erP0 200)=0∧(erX 200).P (erS H) (erP0 200) 0 200=⟨0,200,200,200,300,300000,200,200,300,300,300000,300000,2⟩:=by
 have h1:(erX 200).g=200:=by
  show gsV 0 200 0 0 / 1024=200
  rw [er_g200.1];decide
 have h2:(erX 200).t=300:=by unfold Nx.t;rw [h1];decide
 have h3:(erX 200).fu (erS H) (erP0 200)=300000:=by
  unfold Nx.fu
  rw [h2]
  kernel_rfl
 have g1:giE (erX 200).l.co (erX 200).slow (erX 200).fast (erX 200).h.e0 (erX 200).h.e1 (erX 200).h.n0 (erX 200).h.n1=0:=er_i200.1
 have l1:(erX 200).gl=200:=er_i200.2.1
 have l2:(erX 200).gh=200:=er_i200.2.2
 have t0:(erX 200).t0=300:=by unfold Nx.t0;rw [l2];decide
 have t1:(erX 200).t1=300:=by unfold Nx.t1;rw [l1];decide
 have f0:(erX 200).f0 (erS H) (erP0 200)=2000:=by kernel_rfl
 have f1:(erX 200).f1 (erS H) (erP0 200)=2000:=by kernel_rfl
 constructor
 ·unfold Nx.E
  rw [if_neg (by decide),if_neg (by rw [show gsE (erX 200).l.co (erX 200).l.ta (erX 200).l.we (erX 200).l.wn=0 from er_g200.2];decide),if_neg (by rw [g1];decide),if_neg (by rw [h3];decide),f0,f1,t0,t1]
  decide
 ·unfold Nx.P
  rw [h1,h2,h3,l1,l2,f0,f1,t0,t1]
  kernel_rfl
theorem er_f200 (H:Nat):fkE (erS H) 0=0∧fkL (erS H) 0=[erP0 200,⟨0,200,200,200,300,300000,200,200,300,300,300000,300000,2⟩]∧fkT (erS H) 0 1=300:=by
 obtain ⟨a1,a2⟩:=er_E200 H
 have hf:fam (erS H) 0=[200,200]:=by rw [er6];decide
 have p0:=er_p200 H
 have p1:psP (erS H) [0,0] [200,200] 1=⟨0,200,200,200,300,300000,200,200,300,300,300000,300000,2⟩:=by
  show nxP (erS H) (psP (erS H) [0,0] [200,200] 0) [0,0] [200,200] 0=_
  unfold nxP
  rw [p0,er_x200,← a2]
  rfl
 have e1:psE (erS H) [0,0] [200,200] 1=0:=by
  have h:psE (erS H) [0,0] [200,200] 1=nxE (erS H) (psP (erS H) [0,0] [200,200] 0) [0,0] [200,200] 0:=if_neg (fun h=>h rfl)
  rw [h]
  unfold nxE
  rw [p0,er_x200,a1]
 have w:wtE (erS H) [0,0] [200,200]=0:=by
  unfold wtE
  rw [if_neg (by rw [er1 H];decide),if_neg (by rw [show fcE (erS H) [0,0] [200,200]=0 by kernel_rfl];decide)]
  exact e1
 refine ⟨by unfold fkE;rw [er3,hf];exact w,?_,by unfold fkT;rw [er3,hf,p1]⟩
 unfold fkL
 rw [er3,hf]
 show [psP (erS H) [0,0] [200,200] 0,psP (erS H) [0,0] [200,200] 1]=_
 rw [p0,p1]
/-! ### speed 249 -/
theorem er_s249:scdV 249 900 0 0=249:=by
 have h:sdV 0 0=10583:=snd0
 have h2:omV 900 0 0=596:=by unfold omV;rw [h];decide
 have h3:tsV 249 0 0=249:=by decide
 unfold scdV
 rw [h2,h3]
 decide
theorem er_g249:gsV 0 249 0 0=254976∧gsE 0 249 0 0=0:=by
 obtain ⟨h1,h2⟩:=al_e 0 0 (.inr (.inl rfl)) (.inr (.inl rfl))
 have h3:gsR 0 249 0 0=254976:=by unfold gsR;rw [h2];exact sqV_is (by decide) (by decide) (by decide)
 have h4:gsE 0 249 0 0=0:=by unfold gsE;rw [h1,h2,h3];decide
 refine ⟨?_,h4⟩
 unfold gsV
 rw [if_pos h4,h1,h3];decide
theorem er_i249:giE 0 249 249 0 0 0 0=0∧giL 0 249 249 0 0 0 0=249∧giH 0 249 249 0 0 0 0=249:=by
 have m1:mn4 (alV 0) 0 0 0 0=0:=by decide
 have m2:mx4 (alV 0) 0 0 0 0=0:=by decide
 have f1:giF 0 0 0 0 0=0:=by decide
 have f2:giN 0 0 0 0 0=0:=by decide
 have l1:giLo 0 249 0 0 0 0=254976:=by unfold giLo;rw [m1,f1,sqV_is (r:=254976) (by decide) (by decide) (by decide)];decide
 have l2:giHi 0 249 0 0 0 0=254976:=by unfold giHi;rw [m2,f2,sqV_is (r:=254976) (by decide) (by decide) (by decide)];decide
 have h:giE 0 249 249 0 0 0 0=0:=by unfold giE;rw [f1,l1];decide
 refine ⟨h,?_,?_⟩
 ·unfold giL;rw [if_pos h,l1];decide
 ·unfold giH;rw [if_pos h,l2];decide
theorem er_l249 (H:Nat):lgV (erS H) [0,0] [249,249] 0=⟨0,0,2,249,249,0,0⟩:=by
 have e1:lgA [0,0] 0=0:=by decide
 have e2:lgA [249,249] 0=249:=by decide
 have e3:lgP [0,0] 0=2:=by decide
 have e4:coV (nodA (erS H) 0).px (nodA (erS H) 0).py (nodA (erS H) (0+1)).px (nodA (erS H) (0+1)).py=0:=exc0
 have e5:gAt (erS H).gr (elE (erS H).gr) (lgX (erS H) 0) (lgY (erS H) 0) 0=0:=by kernel_rfl
 have e6:gAt (erS H).gr (elN (erS H).gr) (lgX (erS H) 0) (lgY (erS H) 0) 0=0:=by kernel_rfl
 have e7:gAt (erS H).gr (elD (erS H).gr) (lgX (erS H) 0) (lgY (erS H) 0) 0=0:=by kernel_rfl
 unfold lgV
 rw [e1,e2,e3,e4,e5,e6,e7,show scdV 249 (erS H).mch 0 0=249 from er_s249]
theorem er_p249 (H:Nat):psP (erS H) [0,0] [249,249] 0=erP0 249:=by
 have e5:gAt (erS H).gr (elD (erS H).gr) (nodA (erS H) 0).px (nodA (erS H) 0).py 0=0:=by kernel_rfl
 have e6:(erS H).ac.left=900000:=by kernel_rfl
 show fstP (erS H) [0,0] [249,249]=erP0 249
 unfold fstP
 rw [show ([0,0]:List Int).getD 0 0=0 by decide,show ([249,249]:List Int).getD 0 0=249 by decide,e5,e6,show scdV 249 (erS H).mch 0 0=249 from er_s249]
 rfl
theorem er_x249 (H:Nat):nxV (erS H) [0,0] [249,249] 0=erX 249:=by
 unfold nxV
 rw [er_l249,er7,show lgA [0,0] 0=0 by decide,show lgA [249,249] 0=249 by decide,show scdV 249 (erS H).mch 0 0=249 from er_s249]
 rfl
theorem er_E249 (H:Nat):(erX 249).E (erS H) (erP0 249)=0∧(erX 249).P (erS H) (erP0 249) 0 249=⟨0,249,249,249,241,418000,249,249,241,241,418000,418000,2⟩:=by
 have h1:(erX 249).g=249:=by
  show gsV 0 249 0 0 / 1024=249
  rw [er_g249.1];decide
 have h2:(erX 249).t=241:=by unfold Nx.t;rw [h1];decide
 have h3:(erX 249).fu (erS H) (erP0 249)=418000:=by
  unfold Nx.fu
  rw [h2]
  kernel_rfl
 have g1:giE (erX 249).l.co (erX 249).slow (erX 249).fast (erX 249).h.e0 (erX 249).h.e1 (erX 249).h.n0 (erX 249).h.n1=0:=er_i249.1
 have l1:(erX 249).gl=249:=er_i249.2.1
 have l2:(erX 249).gh=249:=er_i249.2.2
 have t0:(erX 249).t0=241:=by unfold Nx.t0;rw [l2];decide
 have t1:(erX 249).t1=241:=by unfold Nx.t1;rw [l1];decide
 have f0:(erX 249).f0 (erS H) (erP0 249)=2000:=by kernel_rfl
 have f1:(erX 249).f1 (erS H) (erP0 249)=2000:=by kernel_rfl
 constructor
 ·unfold Nx.E
  rw [if_neg (by decide),if_neg (by rw [show gsE (erX 249).l.co (erX 249).l.ta (erX 249).l.we (erX 249).l.wn=0 from er_g249.2];decide),if_neg (by rw [g1];decide),if_neg (by rw [h3];decide),f0,f1,t0,t1]
  decide
 ·unfold Nx.P
  rw [h1,h2,h3,l1,l2,f0,f1,t0,t1]
  kernel_rfl
theorem er_f249 (H:Nat):fkE (erS H) 49=0∧fkL (erS H) 49=[erP0 249,⟨0,249,249,249,241,418000,249,249,241,241,418000,418000,2⟩]∧fkT (erS H) 49 1=241:=by
 obtain ⟨a1,a2⟩:=er_E249 H
 have hf:fam (erS H) 49=[249,249]:=by rw [er6];decide
 have p0:=er_p249 H
 have p1:psP (erS H) [0,0] [249,249] 1=⟨0,249,249,249,241,418000,249,249,241,241,418000,418000,2⟩:=by
  show nxP (erS H) (psP (erS H) [0,0] [249,249] 0) [0,0] [249,249] 0=_
  unfold nxP
  rw [p0,er_x249,← a2]
  rfl
 have e1:psE (erS H) [0,0] [249,249] 1=0:=by
  have h:psE (erS H) [0,0] [249,249] 1=nxE (erS H) (psP (erS H) [0,0] [249,249] 0) [0,0] [249,249] 0:=if_neg (fun h=>h rfl)
  rw [h]
  unfold nxE
  rw [p0,er_x249,a1]
 have w:wtE (erS H) [0,0] [249,249]=0:=by
  unfold wtE
  rw [if_neg (by rw [er1 H];decide),if_neg (by rw [show fcE (erS H) [0,0] [249,249]=0 by kernel_rfl];decide)]
  exact e1
 refine ⟨by unfold fkE;rw [er3,hf];exact w,?_,by unfold fkT;rw [er3,hf,p1]⟩
 unfold fkL
 rw [er3,hf]
 show [psP (erS H) [0,0] [249,249] 0,psP (erS H) [0,0] [249,249] 1]=_
 rw [p0,p1]
/-! ### speed 250 -/
theorem er_s250:scdV 250 900 0 0=250:=by
 have h:sdV 0 0=10583:=snd0
 have h2:omV 900 0 0=596:=by unfold omV;rw [h];decide
 have h3:tsV 250 0 0=250:=by decide
 unfold scdV
 rw [h2,h3]
 decide
theorem er_g250:gsV 0 250 0 0=256000∧gsE 0 250 0 0=0:=by
 obtain ⟨h1,h2⟩:=al_e 0 0 (.inr (.inl rfl)) (.inr (.inl rfl))
 have h3:gsR 0 250 0 0=256000:=by unfold gsR;rw [h2];exact sqV_is (by decide) (by decide) (by decide)
 have h4:gsE 0 250 0 0=0:=by unfold gsE;rw [h1,h2,h3];decide
 refine ⟨?_,h4⟩
 unfold gsV
 rw [if_pos h4,h1,h3];decide
theorem er_i250:giE 0 250 250 0 0 0 0=0∧giL 0 250 250 0 0 0 0=250∧giH 0 250 250 0 0 0 0=250:=by
 have m1:mn4 (alV 0) 0 0 0 0=0:=by decide
 have m2:mx4 (alV 0) 0 0 0 0=0:=by decide
 have f1:giF 0 0 0 0 0=0:=by decide
 have f2:giN 0 0 0 0 0=0:=by decide
 have l1:giLo 0 250 0 0 0 0=256000:=by unfold giLo;rw [m1,f1,sqV_is (r:=256000) (by decide) (by decide) (by decide)];decide
 have l2:giHi 0 250 0 0 0 0=256000:=by unfold giHi;rw [m2,f2,sqV_is (r:=256000) (by decide) (by decide) (by decide)];decide
 have h:giE 0 250 250 0 0 0 0=0:=by unfold giE;rw [f1,l1];decide
 refine ⟨h,?_,?_⟩
 ·unfold giL;rw [if_pos h,l1];decide
 ·unfold giH;rw [if_pos h,l2];decide
theorem er_l250 (H:Nat):lgV (erS H) [0,0] [250,250] 0=⟨0,0,2,250,250,0,0⟩:=by
 have e1:lgA [0,0] 0=0:=by decide
 have e2:lgA [250,250] 0=250:=by decide
 have e3:lgP [0,0] 0=2:=by decide
 have e4:coV (nodA (erS H) 0).px (nodA (erS H) 0).py (nodA (erS H) (0+1)).px (nodA (erS H) (0+1)).py=0:=exc0
 have e5:gAt (erS H).gr (elE (erS H).gr) (lgX (erS H) 0) (lgY (erS H) 0) 0=0:=by kernel_rfl
 have e6:gAt (erS H).gr (elN (erS H).gr) (lgX (erS H) 0) (lgY (erS H) 0) 0=0:=by kernel_rfl
 have e7:gAt (erS H).gr (elD (erS H).gr) (lgX (erS H) 0) (lgY (erS H) 0) 0=0:=by kernel_rfl
 unfold lgV
 rw [e1,e2,e3,e4,e5,e6,e7,show scdV 250 (erS H).mch 0 0=250 from er_s250]
theorem er_p250 (H:Nat):psP (erS H) [0,0] [250,250] 0=erP0 250:=by
 have e5:gAt (erS H).gr (elD (erS H).gr) (nodA (erS H) 0).px (nodA (erS H) 0).py 0=0:=by kernel_rfl
 have e6:(erS H).ac.left=900000:=by kernel_rfl
 show fstP (erS H) [0,0] [250,250]=erP0 250
 unfold fstP
 rw [show ([0,0]:List Int).getD 0 0=0 by decide,show ([250,250]:List Int).getD 0 0=250 by decide,e5,e6,show scdV 250 (erS H).mch 0 0=250 from er_s250]
 rfl
theorem er_x250 (H:Nat):nxV (erS H) [0,0] [250,250] 0=erX 250:=by
 unfold nxV
 rw [er_l250,er7,show lgA [0,0] 0=0 by decide,show lgA [250,250] 0=250 by decide,show scdV 250 (erS H).mch 0 0=250 from er_s250]
 rfl
theorem er_E250 (H:Nat):(erX 250).E (erS H) (erP0 250)=0∧(erX 250).P (erS H) (erP0 250) 0 250=⟨0,250,250,250,240,420000,250,250,240,240,420000,420000,2⟩:=by
 have h1:(erX 250).g=250:=by
  show gsV 0 250 0 0 / 1024=250
  rw [er_g250.1];decide
 have h2:(erX 250).t=240:=by unfold Nx.t;rw [h1];decide
 have h3:(erX 250).fu (erS H) (erP0 250)=420000:=by
  unfold Nx.fu
  rw [h2]
  kernel_rfl
 have g1:giE (erX 250).l.co (erX 250).slow (erX 250).fast (erX 250).h.e0 (erX 250).h.e1 (erX 250).h.n0 (erX 250).h.n1=0:=er_i250.1
 have l1:(erX 250).gl=250:=er_i250.2.1
 have l2:(erX 250).gh=250:=er_i250.2.2
 have t0:(erX 250).t0=240:=by unfold Nx.t0;rw [l2];decide
 have t1:(erX 250).t1=240:=by unfold Nx.t1;rw [l1];decide
 have f0:(erX 250).f0 (erS H) (erP0 250)=2000:=by kernel_rfl
 have f1:(erX 250).f1 (erS H) (erP0 250)=2000:=by kernel_rfl
 constructor
 ·unfold Nx.E
  rw [if_neg (by decide),if_neg (by rw [show gsE (erX 250).l.co (erX 250).l.ta (erX 250).l.we (erX 250).l.wn=0 from er_g250.2];decide),if_neg (by rw [g1];decide),if_neg (by rw [h3];decide),f0,f1,t0,t1]
  decide
 ·unfold Nx.P
  rw [h1,h2,h3,l1,l2,f0,f1,t0,t1]
  kernel_rfl
theorem er_f250 (H:Nat):fkE (erS H) 50=0∧fkL (erS H) 50=[erP0 250,⟨0,250,250,250,240,420000,250,250,240,240,420000,420000,2⟩]∧fkT (erS H) 50 1=240:=by
 obtain ⟨a1,a2⟩:=er_E250 H
 have hf:fam (erS H) 50=[250,250]:=by rw [er6];decide
 have p0:=er_p250 H
 have p1:psP (erS H) [0,0] [250,250] 1=⟨0,250,250,250,240,420000,250,250,240,240,420000,420000,2⟩:=by
  show nxP (erS H) (psP (erS H) [0,0] [250,250] 0) [0,0] [250,250] 0=_
  unfold nxP
  rw [p0,er_x250,← a2]
  rfl
 have e1:psE (erS H) [0,0] [250,250] 1=0:=by
  have h:psE (erS H) [0,0] [250,250] 1=nxE (erS H) (psP (erS H) [0,0] [250,250] 0) [0,0] [250,250] 0:=if_neg (fun h=>h rfl)
  rw [h]
  unfold nxE
  rw [p0,er_x250,a1]
 have w:wtE (erS H) [0,0] [250,250]=0:=by
  unfold wtE
  rw [if_neg (by rw [er1 H];decide),if_neg (by rw [show fcE (erS H) [0,0] [250,250]=0 by kernel_rfl];decide)]
  exact e1
 refine ⟨by unfold fkE;rw [er3,hf];exact w,?_,by unfold fkT;rw [er3,hf,p1]⟩
 unfold fkL
 rw [er3,hf]
 show [psP (erS H) [0,0] [250,250] 0,psP (erS H) [0,0] [250,250] 1]=_
 rw [p0,p1]
/-! ### speed 300 -/
theorem er_s300:scdV 300 900 0 0=300:=by
 have h:sdV 0 0=10583:=snd0
 have h2:omV 900 0 0=596:=by unfold omV;rw [h];decide
 have h3:tsV 300 0 0=300:=by decide
 unfold scdV
 rw [h2,h3]
 decide
theorem er_g300:gsV 0 300 0 0=307200∧gsE 0 300 0 0=0:=by
 obtain ⟨h1,h2⟩:=al_e 0 0 (.inr (.inl rfl)) (.inr (.inl rfl))
 have h3:gsR 0 300 0 0=307200:=by unfold gsR;rw [h2];exact sqV_is (by decide) (by decide) (by decide)
 have h4:gsE 0 300 0 0=0:=by unfold gsE;rw [h1,h2,h3];decide
 refine ⟨?_,h4⟩
 unfold gsV
 rw [if_pos h4,h1,h3];decide
theorem er_i300:giE 0 300 300 0 0 0 0=0∧giL 0 300 300 0 0 0 0=300∧giH 0 300 300 0 0 0 0=300:=by
 have m1:mn4 (alV 0) 0 0 0 0=0:=by decide
 have m2:mx4 (alV 0) 0 0 0 0=0:=by decide
 have f1:giF 0 0 0 0 0=0:=by decide
 have f2:giN 0 0 0 0 0=0:=by decide
 have l1:giLo 0 300 0 0 0 0=307200:=by unfold giLo;rw [m1,f1,sqV_is (r:=307200) (by decide) (by decide) (by decide)];decide
 have l2:giHi 0 300 0 0 0 0=307200:=by unfold giHi;rw [m2,f2,sqV_is (r:=307200) (by decide) (by decide) (by decide)];decide
 have h:giE 0 300 300 0 0 0 0=0:=by unfold giE;rw [f1,l1];decide
 refine ⟨h,?_,?_⟩
 ·unfold giL;rw [if_pos h,l1];decide
 ·unfold giH;rw [if_pos h,l2];decide
theorem er_l300 (H:Nat):lgV (erS H) [0,0] [300,300] 0=⟨0,0,2,300,300,0,0⟩:=by
 have e1:lgA [0,0] 0=0:=by decide
 have e2:lgA [300,300] 0=300:=by decide
 have e3:lgP [0,0] 0=2:=by decide
 have e4:coV (nodA (erS H) 0).px (nodA (erS H) 0).py (nodA (erS H) (0+1)).px (nodA (erS H) (0+1)).py=0:=exc0
 have e5:gAt (erS H).gr (elE (erS H).gr) (lgX (erS H) 0) (lgY (erS H) 0) 0=0:=by kernel_rfl
 have e6:gAt (erS H).gr (elN (erS H).gr) (lgX (erS H) 0) (lgY (erS H) 0) 0=0:=by kernel_rfl
 have e7:gAt (erS H).gr (elD (erS H).gr) (lgX (erS H) 0) (lgY (erS H) 0) 0=0:=by kernel_rfl
 unfold lgV
 rw [e1,e2,e3,e4,e5,e6,e7,show scdV 300 (erS H).mch 0 0=300 from er_s300]
theorem er_p300 (H:Nat):psP (erS H) [0,0] [300,300] 0=erP0 300:=by
 have e5:gAt (erS H).gr (elD (erS H).gr) (nodA (erS H) 0).px (nodA (erS H) 0).py 0=0:=by kernel_rfl
 have e6:(erS H).ac.left=900000:=by kernel_rfl
 show fstP (erS H) [0,0] [300,300]=erP0 300
 unfold fstP
 rw [show ([0,0]:List Int).getD 0 0=0 by decide,show ([300,300]:List Int).getD 0 0=300 by decide,e5,e6,show scdV 300 (erS H).mch 0 0=300 from er_s300]
 rfl
theorem er_x300 (H:Nat):nxV (erS H) [0,0] [300,300] 0=erX 300:=by
 unfold nxV
 rw [er_l300,er7,show lgA [0,0] 0=0 by decide,show lgA [300,300] 0=300 by decide,show scdV 300 (erS H).mch 0 0=300 from er_s300]
 rfl
theorem er_E300 (H:Nat):(erX 300).E (erS H) (erP0 300)=0∧(erX 300).P (erS H) (erP0 300) 0 300=⟨0,300,300,300,200,500000,300,300,200,200,500000,500000,2⟩:=by
 have h1:(erX 300).g=300:=by
  show gsV 0 300 0 0 / 1024=300
  rw [er_g300.1];decide
 have h2:(erX 300).t=200:=by unfold Nx.t;rw [h1];decide
 have h3:(erX 300).fu (erS H) (erP0 300)=500000:=by
  unfold Nx.fu
  rw [h2]
  kernel_rfl
 have g1:giE (erX 300).l.co (erX 300).slow (erX 300).fast (erX 300).h.e0 (erX 300).h.e1 (erX 300).h.n0 (erX 300).h.n1=0:=er_i300.1
 have l1:(erX 300).gl=300:=er_i300.2.1
 have l2:(erX 300).gh=300:=er_i300.2.2
 have t0:(erX 300).t0=200:=by unfold Nx.t0;rw [l2];decide
 have t1:(erX 300).t1=200:=by unfold Nx.t1;rw [l1];decide
 have f0:(erX 300).f0 (erS H) (erP0 300)=2000:=by kernel_rfl
 have f1:(erX 300).f1 (erS H) (erP0 300)=2000:=by kernel_rfl
 constructor
 ·unfold Nx.E
  rw [if_neg (by decide),if_neg (by rw [show gsE (erX 300).l.co (erX 300).l.ta (erX 300).l.we (erX 300).l.wn=0 from er_g300.2];decide),if_neg (by rw [g1];decide),if_neg (by rw [h3];decide),f0,f1,t0,t1]
  decide
 ·unfold Nx.P
  rw [h1,h2,h3,l1,l2,f0,f1,t0,t1]
  kernel_rfl
theorem er_f300 (H:Nat):fkE (erS H) 100=0∧fkL (erS H) 100=[erP0 300,⟨0,300,300,300,200,500000,300,300,200,200,500000,500000,2⟩]∧fkT (erS H) 100 1=200:=by
 obtain ⟨a1,a2⟩:=er_E300 H
 have hf:fam (erS H) 100=[300,300]:=by rw [er6];decide
 have p0:=er_p300 H
 have p1:psP (erS H) [0,0] [300,300] 1=⟨0,300,300,300,200,500000,300,300,200,200,500000,500000,2⟩:=by
  show nxP (erS H) (psP (erS H) [0,0] [300,300] 0) [0,0] [300,300] 0=_
  unfold nxP
  rw [p0,er_x300,← a2]
  rfl
 have e1:psE (erS H) [0,0] [300,300] 1=0:=by
  have h:psE (erS H) [0,0] [300,300] 1=nxE (erS H) (psP (erS H) [0,0] [300,300] 0) [0,0] [300,300] 0:=if_neg (fun h=>h rfl)
  rw [h]
  unfold nxE
  rw [p0,er_x300,a1]
 have w:wtE (erS H) [0,0] [300,300]=0:=by
  unfold wtE
  rw [if_neg (by rw [er1 H];decide),if_neg (by rw [show fcE (erS H) [0,0] [300,300]=0 by kernel_rfl];decide)]
  exact e1
 refine ⟨by unfold fkE;rw [er3,hf];exact w,?_,by unfold fkT;rw [er3,hf,p1]⟩
 unfold fkL
 rw [er3,hf]
 show [psP (erS H) [0,0] [300,300] 0,psP (erS H) [0,0] [300,300] 1]=_
 rw [p0,p1]
/-! ### what the functions answer -/
theorem er_N (H:Nat):StN (erS H):=⟨rfl,rfl,rfl,rfl,rfl,rfl,rfl,rfl,rfl,rfl⟩
theorem er_w (H:Nat):wdE (erS H) 1=0∧fkT (erS H) (spn (erS H)) (1:Int).toNat=200∧fkT (erS H) 0 (1:Int).toNat=300:=by
 have a:=er_f300 H
 have b:=er_f200 H
 refine ⟨?_,by rw [er4];exact a.2.2,b.2.2⟩
 unfold wdE
 rw [if_neg (by rw [er5];decide),if_neg (by rw [er4,a.1];decide)]
 exact b.1
theorem er_op (H:Nat) {lo hi:Int} (h:lo≤hi):opE (erS H) 1 (decide (hi<lo))=0:=by rw [decide_eq_false (by omega)];exact er5 H
theorem er_a (H:Nat):soE (erS H) 1 210 240=0∧soL (erS H) 1 210 240=fkL (erS H) 50∧soV (erS H) 1 210 240=0:=by
 have o:=er_op H (lo:=210) (hi:=240) (by decide)
 obtain ⟨O,-⟩:=op_good (er_N H) (er5 H)
 have a:=er_f300 H
 have b:=er_f250 H
 have c:=er_f249 H
 have h:=soE_0 (k:=50) o (by rw [er4];rintro ⟨-,h2⟩;rw [show fkT (erS H) 100 (1:Int).toNat=200 from a.2.2] at h2;omega) (by
  unfold fnd
  rw [er4]
  refine fnd_at (Nat.zero_le _) (by decide) (fun i _ hi=>?_) ⟨b.1,by rw [show fkT (erS H) ((50:Nat):Int) (1:Int).toNat=240 from b.2.2];decide⟩
  rintro ⟨h1,h2⟩
  have h3:=fk_mono O (er_N H) (j:=(i:Int)) (k:=49) (by omega) (by omega) h1 c.1 (i:=1) (by show 1<2;decide)
  rw [c.2.2] at h3
  have h4:fkT (erS H) (i:Int) 1≤240:=h2
  omega)
 exact ⟨h.1,h.2.1,by rw [h.2.2,show fkT (erS H) ((50:Nat):Int) (1:Int).toNat=240 from b.2.2];decide⟩
theorem er_b (H:Nat):soE (erS H) 1 0 199=16:=by
 have a:=er_f300 H
 exact soE_t (er_op H (by decide)) (by rw [er4];exact ⟨a.1,by rw [show fkT (erS H) 100 (1:Int).toNat=200 from a.2.2];decide⟩)
theorem er_c (H:Nat):soE (erS H) 1 400 500=0∧soL (erS H) 1 400 500=fkL (erS H) 0∧soV (erS H) 1 400 500=100:=by
 have a:=er_f300 H
 have b:=er_f200 H
 have h:=soE_0 (k:=0) (er_op H (lo:=400) (hi:=500) (by decide)) (by rw [er4];rintro ⟨-,h2⟩;rw [show fkT (erS H) 100 (1:Int).toNat=200 from a.2.2] at h2;omega) (by
  unfold fnd
  exact fnd_at (Nat.zero_le _) (by omega) (fun i _ hi=>by omega) ⟨b.1,by rw [show fkT (erS H) ((0:Nat):Int) (1:Int).toNat=300 from b.2.2];decide⟩)
 exact ⟨h.1,h.2.1,by rw [h.2.2,show fkT (erS H) ((0:Nat):Int) (1:Int).toNat=300 from b.2.2];decide⟩
end Go.Proofs.YtgneijdjlahgbaaGreat

namespace Go.Proofs.YtgneijdjlahgbaaGreat
set_option maxRecDepth 100000
set_option maxHeartbeats 16000000
set_option linter.unusedSimpArgs false
set_option linter.unusedVariables false
open Go.RowKit
theorem er_ok (H:Nat):(erS H).ok :=
 ⟨by show 2≤maxLen;decide,⟨by show 3≤maxLen;decide,by show 2≤maxLen;decide,by show 2≤maxLen;decide,by show 2≤maxLen;decide,by show 2≤maxLen;decide,by show 2≤maxLen;decide,by show 2≤maxLen;decide,by show 2≤maxLen;decide,by show 2≤maxLen;decide,by show 2≤maxLen;decide,
  ex_row H _ _ _ _,ex_row H _ _ _ _,ex_row H _ _ _ _⟩,
  ⟨by show I64 0;unfold I64;decide,by show I64 0;unfold I64;decide,by show I64 1;unfold I64;decide,by show I64 1;unfold I64;decide,by show I64 1;unfold I64;decide,by show 1≤maxLen;decide,by show 1≤maxLen;decide,by show 1≤maxLen;decide⟩,by show I64 900000;unfold I64;decide,by show I64 1000;unfold I64;decide⟩
theorem er_cap (H:Nat):CapOk (erS H).sno.A (erS H).sno.n (erS H).sno.c:=⟨Nat.le_refl _,by show 2≤maxLen;decide,fun h=>by cases h⟩
theorem i64_1:I64 1:=by unfold I64;decide
theorem er_L (H:Nat):soL (erS H) 1 210 240=[erP0 250,⟨0,250,250,250,240,420000,250,250,240,240,420000,420000,2⟩]∧soL (erS H) 1 400 500=[erP0 200,⟨0,200,200,200,300,300000,200,200,300,300,300000,300000,2⟩]:=by
 rw [(er_a H).2.1,(er_c H).2.1]
 exact ⟨(er_f250 H).2.1,(er_f200 H).2.1⟩
theorem awake38 (w:World):Calls Tryz.prog 32 #[] w fun e w'=>e=.returned (.bool true)∧Below w.heap.size w w':=by
 have HB0:=Lib.hid (Below.refl w.heap.size w)
 go_enter Tryz.func32,Tryz.ntmps32
 go_wp2_with fail
 refine (xExample38 _).mono ?_;rintro e' w1 ⟨H,rfl,hl,hB⟩
 have HS:=Lib.hid (show BoxS w 0 [] w1 from ⟨fun i cs hi=>by simp at hi,by simp,hB,hB.size⟩)
 have HL:=Lib.hid hl
 clear hB hl HB0
 have HNW:=Lib.hid (show Has (w1.alloc (.cells #[.slice none 0 0,.string ⟨#[]⟩,.int .i64 0,.int .i64 0,.slice none 0 0,.slice none 0 0,.slice none 0 0,.slice none 0 0,.slice none 0 0,.slice none 0 0,.slice none 0 0,.slice none 0 0,.slice none 0 0,.int .i64 0,.int .i64 0,.int .i64 0,.int .i64 0,.int .i64 0,.int .i64 0,.int .i64 0,.int .i64 0,.slice none 0 0,.slice none 0 0,.slice none 0 0,.int .i64 0,.int .i64 0,.int .i64 0,.int .i64 0,.int .i64 0,.int .i64 0,.int .i64 0,.int .i64 0,.int .i64 0,.int .i64 0,.int .i64 0,.int .i64 0] 35)) w1.heap.size [.slice none 0 0,.string ⟨#[]⟩,.int .i64 0,.int .i64 0,.slice none 0 0,.slice none 0 0,.slice none 0 0,.slice none 0 0,.slice none 0 0,.slice none 0 0,.slice none 0 0,.slice none 0 0,.slice none 0 0,.int .i64 0,.int .i64 0,.int .i64 0,.int .i64 0,.int .i64 0,.int .i64 0,.int .i64 0,.int .i64 0,.slice none 0 0,.slice none 0 0,.slice none 0 0,.int .i64 0,.int .i64 0,.int .i64 0,.int .i64 0,.int .i64 0,.int .i64 0,.int .i64 0,.int .i64 0,.int .i64 0,.int .i64 0,.int .i64 0,.int .i64 0] from Has.new w1 _ _)
 have HSW:=Lib.hid (HS.out.alloc (.cells #[.slice none 0 0,.string ⟨#[]⟩,.int .i64 0,.int .i64 0,.slice none 0 0,.slice none 0 0,.slice none 0 0,.slice none 0 0,.slice none 0 0,.slice none 0 0,.slice none 0 0,.slice none 0 0,.slice none 0 0,.int .i64 0,.int .i64 0,.int .i64 0,.int .i64 0,.int .i64 0,.int .i64 0,.int .i64 0,.int .i64 0,.slice none 0 0,.slice none 0 0,.slice none 0 0,.int .i64 0,.int .i64 0,.int .i64 0,.int .i64 0,.int .i64 0,.int .i64 0,.int .i64 0,.int .i64 0,.int .i64 0,.int .i64 0,.int .i64 0,.int .i64 0] 35))
 have HLW:=Lib.hid (HL.out.below (below_alloc1 w1 (.cells #[.slice none 0 0,.string ⟨#[]⟩,.int .i64 0,.int .i64 0,.slice none 0 0,.slice none 0 0,.slice none 0 0,.slice none 0 0,.slice none 0 0,.slice none 0 0,.slice none 0 0,.slice none 0 0,.slice none 0 0,.int .i64 0,.int .i64 0,.int .i64 0,.int .i64 0,.int .i64 0,.int .i64 0,.int .i64 0,.int .i64 0,.slice none 0 0,.slice none 0 0,.slice none 0 0,.int .i64 0,.int .i64 0,.int .i64 0,.int .i64 0,.int .i64 0,.int .i64 0,.int .i64 0,.int .i64 0,.int .i64 0,.int .i64 0,.int .i64 0,.int .i64 0] 35)))
 go_wp2_with (refine store_named 35 (.tmp 1) (.tmp 15) rfl rfl w1.heap.size (erS H).cells.toArray rfl rfl (by kernel_rfl) (by kernel_rfl) ?_)
 refine Named.mk fun W hW=>?_
 subst hW
 refine ⟨HNW.out.there rfl,Named.mk fun w2 hW2=>?_⟩
 have Q1:Hid (Has w2 w1.heap.size (erS H).cells):=Lib.hid (by rw [hW2];exact HNW.out.setCells_same rfl)
 have HS2:=Lib.hid (show BoxS w 0 [] w2 from by
  rw [hW2]
  refine ⟨fun i cs hi=>by simp at hi,by simp,below_setCells _ HSW.out.B _ _ (Nat.le_trans HS.out.sz (Nat.le_refl _)),?_⟩
  rw [size_setCells];exact HSW.out.sz)
 have HL2:=Lib.hid (show (erS H).lies w2 from (HL.out.below (by
  rw [hW2]
  exact below_setCells _ (below_alloc1 w1 _) _ _ (Nat.le_refl _))))
 clear hW2 HNW HSW HLW HS HL
 have HS:=HS2
 have HL:=HL2
 clear HS2 HL2
 generalize w1.heap.size=H1 at *
 go_wp2_with (refine at_stp (.tmp 1) rfl rfl rfl Q1.out ?_)
 have h1:=xRtWindow (erS H) 1 w2 HL.out (er_ok H) (er_cap H) i64_1
 unfold WdP at h1
 rw [(er_w H).1,(er_w H).2.1,(er_w H).2.2] at h1
 simp only [show ∀ i,okI 0 i=i from fun i=>if_pos rfl] at h1
 refine h1.mono ?_;rintro e' w3 ⟨rfl,hB⟩
 clear h1
 replace HS:=Lib.hid (HS.out.below hB)
 replace Q1:=Lib.hid (Q1.out.below hB)
 replace HL:=Lib.hid (HL.out.below hB)
 clear hB
 have HBA:=Lib.hid (below_alloc1 w3 (.cells #[.int .i64 200,.int .i64 300] 58))
 replace Q1:=Lib.hid (Q1.out.below HBA.out)
 replace HL:=Lib.hid (HL.out.below HBA.out)
 clear HBA
 have Q2:Hid (Has ((w3.alloc (.cells #[.int .i64 200,.int .i64 300] 58))) w3.heap.size (lz2 200 300)):=Lib.hid (Has.new _ _ _)
 have r2:w.heap.size+0≤w3.heap.size:=HS.out.sz
 replace HS:=Lib.hid ((HS.out.alloc (.cells #[.int .i64 200,.int .i64 300] 58)))
 go_wp2_with (refine at_stp (.tmp 1) rfl rfl rfl Q1.out ?_)
 generalize (w3.alloc (.cells #[.int .i64 200,.int .i64 300] 58))=w4 at *
 generalize w3.heap.size=H2 at *
 have h1:=xRtSolve (erS H) 1 210 240 w4 HL.out (er_ok H) (er_cap H) i64_1 (by unfold I64;decide) (by unfold I64;decide)
 unfold SoP at h1
 rw [(er_a H).1,(er_a H).2.2] at h1
 rw [(er_L H).1] at h1
 simp only [okN_0] at h1
 refine h1.mono ?_;rintro e' w5 ⟨A4,c4,rfl,hp,-,hB⟩
 rw [show (erS H).no.length=2 from rfl] at hp ⊢
 have PA4:=Lib.hid hp
 clear h1 hp
 replace HS:=Lib.hid (HS.out.below hB)
 replace Q2:=Lib.hid (Q2.out.below hB)
 replace Q1:=Lib.hid (Q1.out.below hB)
 replace HL:=Lib.hid (HL.out.below hB)
 clear hB
 
 have HBA:=Lib.hid (below_alloc1 w5 (.cells #[.slice A4 2 c4,.int .i64 0,.int .i64 0,.bool false] 42))
 replace Q1:=Lib.hid (Q1.out.below HBA.out)
 replace HL:=Lib.hid (HL.out.below HBA.out)
 replace PA4:=Lib.hid (PA4.out.below HBA.out)
 clear HBA
 have Q4:Hid (Has ((w5.alloc (.cells #[.slice A4 2 c4,.int .i64 0,.int .i64 0,.bool false] 42))) w5.heap.size [.slice A4 2 c4,.int .i64 0,.int .i64 0,.bool false]):=Lib.hid (Has.new _ _ _)
 have r4:w.heap.size+0≤w5.heap.size:=HS.out.sz
 have n2_4:H2≠w5.heap.size:=by have:=Q2.out.lt;omega
 replace HS:=Lib.hid ((HS.out.alloc (.cells #[.slice A4 2 c4,.int .i64 0,.int .i64 0,.bool false] 42)))
 replace Q2:=Lib.hid ((Q2.out.alloc (.cells #[.slice A4 2 c4,.int .i64 0,.int .i64 0,.bool false] 42)))
 go_wp2_with (refine at_stp (.tmp 1) rfl rfl rfl Q1.out ?_)
 generalize (w5.alloc (.cells #[.slice A4 2 c4,.int .i64 0,.int .i64 0,.bool false] 42))=w6 at *
 generalize w5.heap.size=H4 at *
 have h1:=xRtSolve (erS H) 1 0 199 w6 HL.out (er_ok H) (er_cap H) i64_1 (by unfold I64;decide) (by unfold I64;decide)
 unfold SoP at h1
 have hv:soV (erS H) 1 0 199=0:=if_neg (by rw [er_b H];decide)
 rw [er_b H,hv] at h1
 rw [show okN 16 (erS H).no.length=0 from if_neg (by decide)] at h1
 refine h1.mono ?_;rintro e' w7 ⟨A7,c7,rfl,-,-,hB⟩
 clear h1 hv
 replace HS:=Lib.hid (HS.out.below hB)
 replace Q2:=Lib.hid (Q2.out.below hB)
 replace Q4:=Lib.hid (Q4.out.below hB)
 replace Q1:=Lib.hid (Q1.out.below hB)
 replace HL:=Lib.hid (HL.out.below hB)
 replace PA4:=Lib.hid (PA4.out.below hB)
 clear hB
 have HBA:=Lib.hid (below_alloc1 w7 (.cells #[.slice A7 0 c7,.int .i64 0,.int .i64 0,.bool false] 42))
 replace Q1:=Lib.hid (Q1.out.below HBA.out)
 replace HL:=Lib.hid (HL.out.below HBA.out)
 replace PA4:=Lib.hid (PA4.out.below HBA.out)
 clear HBA
 have Q7:Hid (Has ((w7.alloc (.cells #[.slice A7 0 c7,.int .i64 0,.int .i64 0,.bool false] 42))) w7.heap.size [.slice A7 0 c7,.int .i64 0,.int .i64 0,.bool false]):=Lib.hid (Has.new _ _ _)
 have r7:w.heap.size+0≤w7.heap.size:=HS.out.sz
 have n2_7:H2≠w7.heap.size:=by have:=Q2.out.lt;omega
 have n4_7:H4≠w7.heap.size:=by have:=Q4.out.lt;omega
 replace HS:=Lib.hid ((HS.out.alloc (.cells #[.slice A7 0 c7,.int .i64 0,.int .i64 0,.bool false] 42)))
 replace Q2:=Lib.hid ((Q2.out.alloc (.cells #[.slice A7 0 c7,.int .i64 0,.int .i64 0,.bool false] 42)))
 replace Q4:=Lib.hid ((Q4.out.alloc (.cells #[.slice A7 0 c7,.int .i64 0,.int .i64 0,.bool false] 42)))
 go_wp2_with (refine at_stp (.tmp 1) rfl rfl rfl Q1.out ?_)
 generalize (w7.alloc (.cells #[.slice A7 0 c7,.int .i64 0,.int .i64 0,.bool false] 42))=w8 at *
 generalize w7.heap.size=H7 at *
 have h1:=xRtSolve (erS H) 1 400 500 w8 HL.out (er_ok H) (er_cap H) i64_1 (by unfold I64;decide) (by unfold I64;decide)
 unfold SoP at h1
 rw [(er_c H).1,(er_c H).2.2] at h1
 rw [(er_L H).2] at h1
 simp only [okN_0] at h1
 refine h1.mono ?_;rintro e' w9 ⟨A10,c10,rfl,hp,-,hB⟩
 rw [show (erS H).no.length=2 from rfl] at hp ⊢
 have PA10:=Lib.hid hp
 clear h1 hp
 replace HS:=Lib.hid (HS.out.below hB)
 replace Q2:=Lib.hid (Q2.out.below hB)
 replace Q4:=Lib.hid (Q4.out.below hB)
 replace Q7:=Lib.hid (Q7.out.below hB)
 replace Q1:=Lib.hid (Q1.out.below hB)
 replace HL:=Lib.hid (HL.out.below hB)
 replace PA4:=Lib.hid (PA4.out.below hB)
 clear hB
 have HBA:=Lib.hid (below_alloc1 w9 (.cells #[.slice A10 2 c10,.int .i64 0,.int .i64 0,.bool false] 42))
 replace Q1:=Lib.hid (Q1.out.below HBA.out)
 replace HL:=Lib.hid (HL.out.below HBA.out)
 replace PA4:=Lib.hid (PA4.out.below HBA.out)
 replace PA10:=Lib.hid (PA10.out.below HBA.out)
 clear HBA
 have Q10:Hid (Has ((w9.alloc (.cells #[.slice A10 2 c10,.int .i64 0,.int .i64 0,.bool false] 42))) w9.heap.size [.slice A10 2 c10,.int .i64 0,.int .i64 0,.bool false]):=Lib.hid (Has.new _ _ _)
 have r10:w.heap.size+0≤w9.heap.size:=HS.out.sz
 have n2_10:H2≠w9.heap.size:=by have:=Q2.out.lt;omega
 have n4_10:H4≠w9.heap.size:=by have:=Q4.out.lt;omega
 have n7_10:H7≠w9.heap.size:=by have:=Q7.out.lt;omega
 replace HS:=Lib.hid ((HS.out.alloc (.cells #[.slice A10 2 c10,.int .i64 0,.int .i64 0,.bool false] 42)))
 replace Q2:=Lib.hid ((Q2.out.alloc (.cells #[.slice A10 2 c10,.int .i64 0,.int .i64 0,.bool false] 42)))
 replace Q4:=Lib.hid ((Q4.out.alloc (.cells #[.slice A10 2 c10,.int .i64 0,.int .i64 0,.bool false] 42)))
 replace Q7:=Lib.hid ((Q7.out.alloc (.cells #[.slice A10 2 c10,.int .i64 0,.int .i64 0,.bool false] 42)))
 go_wp2_with (refine at_stp (.tmp 1) rfl rfl rfl Q1.out ?_)
 generalize (w9.alloc (.cells #[.slice A10 2 c10,.int .i64 0,.int .i64 0,.bool false] 42))=w10 at *
 generalize w9.heap.size=H10 at *
 have h1:=xRtBinding (erS H) 1 w10 HL.out (er_ok H) (er_cap H) i64_1
 unfold BdP at h1
 rw [er8,er5] at h1
 refine h1.mono ?_;rintro e' w11 ⟨rfl,hB⟩
 clear h1
 replace HS:=Lib.hid (HS.out.below hB)
 replace Q2:=Lib.hid (Q2.out.below hB)
 replace Q4:=Lib.hid (Q4.out.below hB)
 replace Q7:=Lib.hid (Q7.out.below hB)
 replace Q10:=Lib.hid (Q10.out.below hB)
 replace Q1:=Lib.hid (Q1.out.below hB)
 replace HL:=Lib.hid (HL.out.below hB)
 replace PA4:=Lib.hid (PA4.out.below hB)
 replace PA10:=Lib.hid (PA10.out.below hB)
 clear hB
 obtain ⟨b4,o4,rfl⟩:=pass_A PA4.out (by decide)
 obtain ⟨b5,o5,rfl⟩:=pass_A PA10.out (by decide)
 have p4:=(pass_at PA4.out (k:=1) rfl).2
 have p5:=(pass_at PA10.out (k:=1) rfl).2
 have a1:w11.cell? ⟨b4,o4+13+1,none⟩=some (.int .i64 250):=p4 1 _ rfl
 have a4:w11.cell? ⟨b4,o4+13+4,none⟩=some (.int .i64 240):=p4 4 _ rfl
 have d1:w11.cell? ⟨b5,o5+13+1,none⟩=some (.int .i64 200):=p5 1 _ rfl
 have d4:w11.cell? ⟨b5,o5+13+4,none⟩=some (.int .i64 300):=p5 4 _ rfl
 clear p4 p5
 have c2_0:=Q2.out.cell 0 (.int .i64 200) rfl
 have c2_1:=Q2.out.cell 1 (.int .i64 300) rfl
 have c4_0:=Q4.out.cell 0 (.slice (some ⟨b4,o4,none⟩) 2 c4) rfl
 have c10_0:=Q10.out.cell 0 (.slice (some ⟨b5,o5,none⟩) 2 c10) rfl
 go_wp2_with fail
 go_ret
 exact ⟨by simp,HS.out.B⟩
end Go.Proofs.YtgneijdjlahgbaaGreat

