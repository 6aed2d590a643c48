/- M51: RgP, RfWn, Pr15, RfFy, FlW in one text. -/
import Derived.Test.YtedcanagfajcgaaGreatM42
import Derived.Test.YtedcanagfajcgaaGreatM52
import Derived.Test.YtedcanagfajcgaaGreatM45
import Derived.Test.YtedcanagfajcgaaGreatM21
import Derived.Test.YtedcanagfajcgaaGreatRfWt
import Derived.Test.YtedcanagfajcgaaGreatM49
import Derived.Test.YtedcanagfajcgaaGreatM20
set_option linter.unusedSimpArgs false
set_option linter.unusedVariables false
set_option maxRecDepth 100000
set_option maxHeartbeats 16000000
namespace Go.Proofs
theorem AbG{G:Prop}(h:G:=by
  have j2:((np:Int) != (s.sno.n:Int))=false:=by rw [bne,j1];rfl
  have j3:((nw:Int) == (s.sno.n:Int) - 1)=false:=BA.2 (by omega);have j4:=AL j3;clear h1 hnn
  go_wp2_with fail
  go_ret3
  exact CK HX.out (by decide) HS.out.B):G:=h
theorem AbH{G:Prop}(h:G:=by
  go_wp2_with (refine AC (.tmp 3) rfl rfl rfl (HX0.out _ HS.out) ?_)
  refine (HC.out _ HS.out).mono ?_;rintro e' w1 ⟨rfl,hB⟩
  replace HS:=hid (HS.out.below hB);clear hB
  go_wp2_with fail
  go_ret3
  exact CK HX.out HE.out HS.out.B):G:=h
theorem Ui{G:Prop}(h:G:=by
  go_wp2_with fail
  go_ret3
  exact CK HX.out (by decide) HBB.out):G:=h
theorem AbI{G:Prop}(h:G:=by
  have HNE:=hid hF;generalize fcE s al sp=E at *;have e1:=Aw hF;have e2:=AL e1;clear hF
  go_wp2_with fail
  go_ret3
  exact CK HX.out HNE.out HS.out.B):G:=h
end Go.Proofs
namespace Go.Proofs.YtedcanagfajcgaaGreat
def evP:Op→Bool
  | .call ⟨.builtin .append,_,_⟩=>true
  | o=>evK o
def evQ (A:List Bool):List Oper→List Bool→Nat→List (Nat × Oper)
  | o :: os,false :: l,i=>match evP o.op with
    | true=>match Un A o.after.toList with
      | true=>(i,o) :: evQ A os l (i+1)
      | false=>evQ A os l (i+1)
    | false=>evQ A os l (i+1)
  | _ :: os,true :: l,i=>evQ A os l (i+1)
  | _,_,_=>[]
theorem rN {P:Program} {md:Region.Mode} {os:List Oper} {Q:Exit→Act→World→Prop} {S:World→Prop} {fuel:Nat} {L:List Bool} {a:Act} {w:World} (h:AllReadyH P md os.toArray Q S fuel L.toArray a w ((evQ L os L 0).map (·.1))) (hr:Region.ready md os.toArray L.toArray=(evQ L os L 0).map (·.1):=by kernel_rfl) (hn:(evQ L os L 0).isEmpty=false:=by kernel_rfl):wpAnyH P md os.toArray Q S (fuel+1) L.toArray a w :=
  wpAnyH_ready (rs:=(evQ L os L 0).map (·.1)) hr (by cases h0:evQ L os L 0 with | nil=>rw [h0] at hn;simp at hn | cons x y=>simp) h
theorem WQ {B W:World} {l1 l2:List Int} {v1 v2:Value} (h:OwII B l1 l2 v1 v2 W) (x:Int) (t:TypeId):OwII B l1 l2 v1 v2 (W.alloc (.cells #[vI x] t))∧Has (W.alloc (.cells #[vI x] t)) W.heap.size [vI x]∧(some W.heap.size≠v1.ownBlock)∧some W.heap.size≠v2.ownBlock :=
  ⟨h.alloc _,Has.new _ _ _,fun e=>Nat.lt_irrefl _ (h.o1.lt e.symm).2,fun e=>Nat.lt_irrefl _ (h.o2.lt e.symm).2⟩
theorem mP {G:Prop} (x:G:=by
    repeat' first
      | ((with_reducible apply TAIL.out) <;> assumption)
      | refine rN ?_
      | exact evN rfl
      | refine evC rfl ?_ ?_
      | (intro K hK
         refine Uy rfl _ _ rfl oW rfl X1 _ 1 rfl qa hn1 (fun u1 W1 oN hg=>?_)
         (try replace qb:=qb.grown hg nb1)
         refine rEt hK (SG.out _ _ _ hHeld hg (.inl rfl)) ?_
         clear hK K hHeld hg oW
         intro hHeld
         have oW:=oN
         clear oN)
      | (intro K hK
         refine UA rfl _ _ rfl oW rfl X2 _ 1 rfl qb hn2 (fun u2 W1 oN hg=>?_)
         (try replace qa:=qa.grown hg na2)
         refine rEt hK (SG.out _ _ _ hHeld hg (.inr rfl)) ?_
         clear hK K hHeld hg oW
         intro hHeld
         have oW:=oN
         clear oN)
      | (intro K hK
         go_simp
         obtain ⟨oN,qa,na1,na2⟩:=WQ oW X1 2
         refine rEt hK (SA.out _ (.cells #[vI X1] 2) hHeld) ?_
         (try replace qb:=qb.alloc (.cells #[vI X1] 2))
         clear hK K hHeld oW
         intro hHeld
         have oW:=oN;clear oN;generalize hW0:World.alloc _ _=W3 at *
         clear hW0)
      | (intro K hK
         go_simp
         obtain ⟨oN,qb,nb1,nb2⟩:=WQ oW X2 2
         refine rEt hK (SA.out _ (.cells #[vI X2] 2) hHeld) ?_
         (try replace qa:=qa.alloc (.cells #[vI X2] 2))
         clear hK K hHeld oW
         intro hHeld
         have oW:=oN;clear oN;generalize hW0:World.alloc _ _=W3 at *
         clear hW0)):G:=x
open Go.RowKit
open Go.Lib (hid)
theorem Zr (e0 e1 n0 n1 e n:Int) (w:World):Calls Tryz.prog 45 #[.agg #[vI e0,vI e1,vI n0,vI n1],.agg #[vI e,vI n]] w fun e' w'=>e'=.returned (.bool (wnB e0 e1 n0 n1 e n))∧Below w.heap.size w w':=by
 have HV:=hid (show wnB e0 e1 n0 n1 e n=(bxB e0 e1 n0 n1 && decide (e0<=e) && decide (e<=e1) && decide (n0<=n) && decide (n<=n1)) from rfl);have HS:=hid (Dt w #[vI e0,vI e1,vI n0,vI n1] #[vI e,vI n] 73 62);have HC:=hid (Aa0 e0 e1 n0 n1);generalize wnB e0 e1 n0 n1 e n=V at *
 cases g:bxB e0 e1 n0 n1 <;> rw [g] at HV HC
 all_goals
  clear g
  go_enter Tryz.func45,Tryz.ntmps45
  go_wp2_with fail
  refine (HC.out _).mono ?_;rintro e' w1 ⟨rfl,hB⟩
  replace HS:=hid (HS.out.below hB);have q0:=show Has w1 w.heap.size _ from HS.out.has 0 _ rfl;have q1:=HS.out.has 1 _ rfl;have k0:=q0.cell 0 (vI e0) rfl;have k1:=q0.cell 1 (vI e1) rfl;have k2:=q0.cell 2 (vI n0) rfl;have k3:=q0.cell 3 (vI n1) rfl;have k4:=q1.cell 0 (vI e) rfl;have k5:=q1.cell 1 (vI n) rfl;clear q0 q1 hB
  go_wp2
  all_goals (go_ret;exact ⟨Ao (by rw [HV.out];simp;try omega),HS.out.B⟩)
def XfC (s:Stp) (ps:List Pass) (al sp:List Int) (ws:Cs.Wins) (B:World) (v1 v2 t:Value) (wr:World):Prop:=∃ k:Nat,k<=ws.length∧t=vI (k:Int)∧DV s al sp ws k=0∧OwII B ((DY s ps ws).take (k+1)) ((DX s ps ws).take (k+1)) v1 v2 wr
theorem AeN (s:Stp) (A C:Option Addr) (np cp nw cw:Nat) (x y:Int) (bb:Bool) (ps:List Pass) (ws:Cs.Wins) (w:World) (hl:s.lies w) (hok:s.ok) (hp:Passes w A np ps) (hw:Pairs w C nw ws) (hnp:np<=maxLen) (hnw:nw<=maxLen):Calls Tryz.prog 10 #[.agg s.cells.toArray,.agg #[.slice A np cp,vI x,vI y,.bool bb],.slice C nw cw] w (Um s ps ws w):=by
 have N:=StN.of hl;have hno:=N.no;have lp:=hp.len;have lw:=hw.len;have hmx:=hok.no
 unfold maxLen at hmx hnw
 obtain ⟨PC,hPC⟩:∃ PC,[Value.slice A np cp,vI x,vI y,.bool bb]=PC:=⟨_,rfl⟩;have HS:=hid (show BoxS w 2 [s.cells,PC] ((w.alloc (.cells s.cells.toArray 35)).alloc (.cells #[.slice A np cp,vI x,vI y,.bool bb] 46)) from by rw [← hPC];exact Dt w s.cells.toArray #[.slice A np cp,vI x,vI y,.bool bb] 35 46);have HPR:=hid (fun W (h:BoxS w 2 [s.cells,PC] W)=>show W.cell? ⟨w.heap.size+1,0,none⟩=some (.slice A np cp) from by have q:=h.has 1 _ rfl;rw [← hPC] at q;exact q.cell 0 _ rfl);clear hPC;have HX0:=hid (fun W (h:BoxS w 2 [s.cells,PC] W)=>show Has W w.heap.size s.cells from h.has 0 _ rfl);have HC:=hid (fun W (h:BoxS w 2 [s.cells,PC] W)=>Jj s W (hl.below h.B) hok)
 by_cases hE:suE s=0
 rotate_left
 ·have HX:=hid (Si (ps:=ps) (ws:=ws) hE)
  generalize suE s=E at *;have e1:=Aw hE;have e2:=AL e1;have HE:=hid hE;clear hl hok hE hp hw hnp hnw N hno lp lw hmx
  go_enter Tryz.func10,Tryz.ntmps10
  exact AbH
 rw [hE] at HC
 have G:=Cm hE;have hn2:=Cq G N;obtain ⟨b,off,hA⟩:=FC hl (by omega);have HNS:=hid (fun W (h:BoxS w 2 [s.cells,PC] W)=>show W.cell? ⟨w.heap.size,0,none⟩=some (.slice (some ⟨b,off,none⟩) s.sno.n s.sno.c) from Dk (HX0.out _ h) hA);have g0:=iW ((s.sno.n:Int) - 1)
 by_cases hnn:np=s.sno.n∧nw+1=s.sno.n
 rotate_left
 ·have HX:=hid (VN (ps:=ps) (ws:=ws) hE (by omega))
  clear hl hok hE hp hw hnp N hno lp lw G hA
  go_enter Tryz.func10,Tryz.ntmps10
  go_wp2_with (refine AC (.tmp 3) rfl rfl rfl (HX0.out _ HS.out) ?_)
  refine (HC.out _ HS.out).mono ?_;rintro e' w1 ⟨rfl,hB⟩
  replace HS:=hid (HS.out.below hB);clear hB;have k0:=HNS.out _ HS.out;have k1:=HPR.out _ HS.out
  by_cases h1:np=s.sno.n
  ·have j1:((np:Int) == (s.sno.n:Int))=true:=by rw [h1];simp
   exact AbG
  ·have j1:((np:Int) == (s.sno.n:Int))=false:=BA.2 (by omega)
   have j2:=AL j1;clear h1 hnn
   go_wp2_with fail
   go_ret3
   exact CK HX.out (by decide) HS.out.B
 obtain ⟨h0,h1⟩:=hnn;subst h0;obtain ⟨bp,op,rfl,hbp,hcp⟩:=hp.cells (by omega);obtain ⟨bw,ow,rfl,hbw,hcw⟩:=hw.cells (by omega);have HPC:=hid (fun W (h:BoxS w 2 [s.cells,PC] W) k p (hk:ps[k]? = some p) j u hj=>(h.B.cell (p:=⟨bp,op+k * 13+j,none⟩) hbp).trans (hcp k p hk j u hj))
 have HWC:=hid (fun W (h:BoxS w 2 [s.cells,PC] W) k (hk:k<ws.length)=>show W.cell? ⟨bw,ow+k * 2,none⟩=some (vI (ws.getD k (0,0)).1)∧W.cell? ⟨bw,ow+k * 2+1,none⟩=some (vI (ws.getD k (0,0)).2) from by
  have hx:=AQ hk
  rw [Ah (d:=(0,0)) hx]
  exact ⟨(h.B.cell (p:=⟨bw,ow+k * 2,none⟩) hbw).trans (hcw k _ hx 0 _ rfl),(h.B.cell (p:=⟨bw,ow+k * 2+1,none⟩) hbw).trans (hcw k _ hx 1 _ rfl)⟩)
 have HCF:=hid (fun W (h:BoxS w 2 [s.cells,PC] W) A1 c1 A2 c2 (ha:Ints W A1 s.sno.n (ps.map Pass.alt)) (hb:Ints W A2 s.sno.n (ps.map Pass.cas))=>Ia s A1 A2 s.sno.n c1 s.sno.n c2 (ps.map Pass.alt) (ps.map Pass.cas) W hno ha hb hmx hmx);have HHU:=hid (fun W (h:BoxS w 2 [s.cells,PC] W) k m (hm:m=k+1) (hk:m<s.no.length)=>RB s k m hm W (hl.below h.B) hok G hk);have HNO:=hid (And.intro hno (And.intro lp (And.intro lw h1)));have HLK:=hid (And.intro hl hok);have HEE:=hid hE
 have i2:s.sno.n<=64:=by omega
 have i3:2<=s.sno.n:=by omega
 have HLL:=hid (show ps.length=s.no.length∧ws.length=s.no.length - 1 by omega)
 have j1:((s.sno.n:Int) == (s.sno.n:Int))=true:=by simp
 have j3:((nw:Int) == (s.sno.n:Int) - 1)=true:=beq_iff_eq.2 (by omega)
 have j4:((nw:Int) != (s.sno.n:Int) - 1)=false:=by rw [bne,j3];rfl
 have HAC:=hid (And.intro (Dv G.ac) (show s.ac.left=s.ac.ld - s.ac.bu from if_pos G.ac));have HGN:=hid (And.intro G N);clear hl hok hE hp hw hnp lp lw hbp hcp hbw hcw G N hno hmx hn2;have HA:=hid hA;clear hA h1
 go_enter Tryz.func10,Tryz.ntmps10
 go_wp2_with (refine AC (.tmp 3) rfl rfl rfl (HX0.out _ HS.out) ?_)
 refine (HC.out _ HS.out).mono ?_;rintro e' w1 ⟨rfl,hB⟩
 replace HS:=hid (HS.out.below hB);clear hB HC;have k0:=HNS.out _ HS.out;have k1:=HPR.out _ HS.out
 go_wp2_with fail
 clear k0 k1 g0 j1 j3 j4;have HYA:=hid (fun l1 l2 v1 v2 W (h:OwII w1 l1 l2 v1 v2 W)=>HS.out.below h.bel)
 go_loopw [10,11,50] (fun v1 v2 t wr=>FlA ps w1 v1 v2 t wr) (fun _ _ t _=>s.sno.n - (intOf t).toNat)
 case atStart=>exact ⟨0,by omega,rfl,OwII.start w1⟩
 case round =>
 clear HS;obtain ⟨k,hk,rfl,ho⟩:=hrel;have HO:=hid ho;clear ho;have HS:=hid (HYA.out _ _ _ _ _ HO.out)
 by_cases hlt:k<s.sno.n
 ·have hlt':(k:Int)<(s.sno.n:Int):=by omega
  obtain ⟨p,hpk⟩:∃ p,ps[k]? = some p:=⟨_,AQ (by have:=HNO.out;omega)⟩;have hcp:=HPC.out _ HS.out k p hpk;have HT:=hid (And.intro (Fq Pass.alt ps k p hpk) (Fq Pass.cas ps k p hpk))
  have hn1:((ps.map Pass.alt).take k).length+1<=1000:=by rw [List.length_take];omega
  have hn2:((ps.map Pass.cas).take k).length+1<=1000:=by rw [List.length_take];omega
  generalize (ps.map Pass.alt).take k=l1 at *;generalize (ps.map Pass.cas).take k=l2 at *;clear hpk;have p0:wr.cell? ⟨bp,op+k * 13,none⟩=some (vI p.alt):=hcp 0 _ rfl;have p1:wr.cell? ⟨bp,op+k * 13+1,none⟩=some (vI p.cas):=hcp 1 _ rfl;have p2:wr.cell? ⟨bp,op+k * 13+2,none⟩=some (vI p.tas):=hcp 2 _ rfl;have p3:wr.cell? ⟨bp,op+k * 13+3,none⟩=some (vI p.ground):=hcp 3 _ rfl;have p4:wr.cell? ⟨bp,op+k * 13+4,none⟩=some (vI p.tick):=hcp 4 _ rfl;have p5:wr.cell? ⟨bp,op+k * 13+5,none⟩=some (vI p.fuel):=hcp 5 _ rfl;have p6:wr.cell? ⟨bp,op+k * 13+6,none⟩=some (vI p.gl):=hcp 6 _ rfl;have p7:wr.cell? ⟨bp,op+k * 13+7,none⟩=some (vI p.gh):=hcp 7 _ rfl;have p8:wr.cell? ⟨bp,op+k * 13+8,none⟩=some (vI p.tl):=hcp 8 _ rfl;have p9:wr.cell? ⟨bp,op+k * 13+9,none⟩=some (vI p.th):=hcp 9 _ rfl;have p10:wr.cell? ⟨bp,op+k * 13+10,none⟩=some (vI p.fl):=hcp 10 _ rfl;have p11:wr.cell? ⟨bp,op+k * 13+11,none⟩=some (vI p.fh):=hcp 11 _ rfl;have p12:wr.cell? ⟨bp,op+k * 13+12,none⟩=some (.int .u8 p.phase):=hcp 12 _ rfl;clear hcp;generalize p.alt=X1 at *;generalize p.cas=X2 at *;have oW:=HO.out.alloc (.cells #[vI X1,vI X2,vI p.tas,vI p.ground,vI p.tick,vI p.fuel,vI p.gl,vI p.gh,vI p.tl,vI p.th,vI p.fl,vI p.fh,.int .u8 p.phase] 52);have q13:Has (wr.alloc (.cells #[vI X1,vI X2,vI p.tas,vI p.ground,vI p.tick,vI p.fuel,vI p.gl,vI p.gh,vI p.tl,vI p.th,vI p.fl,vI p.fh,.int .u8 p.phase] 52)) wr.heap.size (lzp X1 X2 p.tas p.ground p.tick p.fuel p.gl p.gh p.tl p.th p.fl p.fh p.phase):=Has.new _ _ _;have HV:=hid (show (∀ k,u10.ownBlock=some k→k<wr.heap.size)∧∀ k,u11.ownBlock=some k→k<wr.heap.size from ⟨fun k (h:u10.ownBlock=some k)=>(HO.out.o1.lt h).2,fun k (h:u11.ownBlock=some k)=>(HO.out.o2.lt h).2⟩)
  go_wp2_with fail
  clear p0 p1 p2 p3 p4 p5 p6 p7 p8 p9 p10 p11 p12 HS HO;generalize wr.alloc (.cells #[vI X1,vI X2,vI p.tas,vI p.ground,vI p.tick,vI p.fuel,vI p.gl,vI p.gh,vI p.tl,vI p.th,vI p.fl,vI p.fh,.int .u8 p.phase] 52)=w4 at *;generalize wr.heap.size=H13 at *
  refine rS (fun W=>Has W H13 (lzp X1 X2 p.tas p.ground p.tick p.fuel p.gl p.gh p.tl p.th p.fl p.fh p.phase)) 12 q13.drew (fun hHeld=>?_)
  replace oW:=oW.drew;generalize hW0:World.drew _=w5 at *;clear hW0 q13;have FA:=fun W (h:Has W H13 (lzp X1 X2 p.tas p.ground p.tick p.fuel p.gl p.gh p.tl p.th p.fl p.fh p.phase))=>And.intro (h.cell 0 (vI X1) rfl) (h.cell 1 (vI X2) rfl);have SA:=hid (fun W o (h:Has W H13 (lzp X1 X2 p.tas p.ground p.tick p.fuel p.gl p.gh p.tl p.th p.fl p.fh p.phase))=>show Has (W.alloc o) H13 (lzp X1 X2 p.tas p.ground p.tick p.fuel p.gl p.gh p.tl p.th p.fl p.fh p.phase) from h.alloc o)
  have SG:=hid (fun W W1 r (h:Has W H13 (lzp X1 X2 p.tas p.ground p.tick p.fuel p.gl p.gh p.tl p.th p.fl p.fh p.phase)) (hg:W.grownBy W1 r) (hr:r=u10.ownBlock∨r=u11.ownBlock)=>show Has W1 H13 (lzp X1 X2 p.tas p.ground p.tick p.fuel p.gl p.gh p.tl p.th p.fl p.fh p.phase) from h.grown hg (fun e=>by
   subst e
   rcases hr with e | e
   ·exact Nat.lt_irrefl _ (HV.out.1 _ e.symm)
   ·exact Nat.lt_irrefl _ (HV.out.2 _ e.symm)))
  repeat (first | refine rQ ?_ | refine rF ?_)
  refine Be ?_
  intro OPS QQ A0 SS hO hQ hA hSS
  have TAIL:Hid (∀ (Ha Hb:Nat) (u1 u2:Value) (W:World),OwII w1 (l1 ++ [X1]) (l2 ++ [X2]) u1 u2 W→(fun W=>Has W H13 (lzp X1 X2 p.tas p.ground p.tick p.fuel p.gl p.gh p.tl p.th p.fl p.fh p.phase)) W→wpAnyH Tryz.prog .any OPS QQ (fun W=>Has W H13 (lzp X1 X2 p.tas p.ground p.tick p.fuel p.gl p.gh p.tl p.th p.fl p.fh p.phase)) 2 #[b1,b1,b1,b1,b1,b1,b1,b1,b1,b1,b0,b0] ((((A0.put (some 57) (.slice (some ⟨Ha,0,none⟩) 1 1)).put (some 58) u1).put (some 62) (.slice (some ⟨Hb,0,none⟩) 1 1)).put (some 63) u2) W):=by
   subst hO hQ hA hSS
   refine hid ?_
   intro Ha Hb u1 u2 W oN hHeld
   (try simp only [Act.put,pa,pb,pc])
   repeat refine rQ ?_
   refine rD ?_
   have HN:=hid oN;clear oN hHeld oW FA SA SG
   go_wp2_with fail
   go_roundw
   case rel=>exact ⟨k+1,by have:=HNO.out;omega,by go_num,by rw [HT.out.1,HT.out.2];exact HN.out⟩
   case measure=>exact zMs
  subst hO hQ hA hSS
  (try simp only [Act.put,pa,pb,pc] at TAIL)
  exact mP
 have hlt':¬ (k:Int)<(s.sno.n:Int):=by omega
 have hkn:k=s.sno.n:=by have:=HNO.out;omega
 have HL2:=hid (show OwII w1 (ps.map Pass.alt) (ps.map Pass.cas) u10 u11 wr from by
  have h:=HO.out
  rwa [CY (by rw [List.length_map];have:=HNO.out;omega),CY (by rw [List.length_map];have:=HNO.out;omega)] at h)
 obtain ⟨⟨A1,c1,hv1,hI1,-⟩,A2,c2,hv2,hI2,-⟩:=HL2.out.ints (n:=s.sno.n) (m:=s.sno.n) (by rw [List.length_map];have:=HNO.out;omega) (by rw [List.length_map];have:=HNO.out;omega);have I1:=hid hI1;have I2:=hid hI2;clear hI1 hI2 HL2 HO hkn;subst hv1 hv2;obtain ⟨al,hal⟩:∃ al,ps.map Pass.alt=al:=⟨_,rfl⟩;obtain ⟨sp,hsp⟩:∃ sp,ps.map Pass.cas=sp:=⟨_,rfl⟩;have HAL:=hid (And.intro hal hsp)
 rw [hal] at I1 HCF
 rw [hsp] at I2 HCF
 clear hal hsp
 go_wp2_with (refine AC (.tmp 3) rfl rfl rfl (HX0.out _ HS.out) ?_)
 refine (HCF.out _ HS.out _ _ _ _ I1.out I2.out).mono ?_;rintro e' w2 ⟨rfl,hB⟩
 replace HS:=hid (HS.out.below hB);replace I1:=hid (I1.out.below hB);replace I2:=hid (I2.out.below hB);clear hB HCF HYA HPC
 by_cases hF:fcE s al sp=0
 rotate_left
 ·have HX:=hid (show CX s ps ws=fcE s al sp from by rw [← HAL.out.1,← HAL.out.2];exact Sg HEE.out HLL.out.1 HLL.out.2 (by rw [HAL.out.1,HAL.out.2];exact hF))
  exact AbI
 have HF:=hid hF
 rw [hF]
 clear hF hlt hlt' hk
 go_wp2_with fail
 have HYB:=hid (fun W (h:BoxS w2 0 [] W)=>HS.out.below h.B)
 have j1:(0:Int)<(nw:Int):=by have:=HNO.out;omega
 go_loopw [74] (fun t wr=>FlB s ws w2 t wr) (fun t _=>nw - (intOf t).toNat)
 case atStart=>exact ⟨0,by omega,rfl,fun j hj=>by omega,Vm _⟩
 case round =>
 clear HS;obtain ⟨k,hk,rfl,hall,hs⟩:=hrel;have HA2:=hid hall;have HR:=hid hs;have HS:=hid (HYB.out _ HR.out);clear hall hs
 by_cases hlt:k<nw
 ·have hlt':(k:Int)<(nw:Int):=by omega
  have hkw:k<ws.length:=by have:=HNO.out;omega
  obtain ⟨x0,x1⟩:=HWC.out _ HS.out k hkw
  have HAK:=hid (fun (h:wnB (suH s k).e0 (suH s k).e1 (suH s k).n0 (suH s k).n1 (ws.getD k (0,0)).1 (ws.getD k (0,0)).2=true) j (hj:j<k+1)=>show wnB (suH s j).e0 (suH s j).e1 (suH s j).n0 (suH s j).n1 (ws.getD j (0,0)).1 (ws.getD j (0,0)).2=true from by
   by_cases e:j=k
   ·subst e;exact h
   ·exact HA2.out j (by omega))
  have HAF:=hid (fun (h:wnB (suH s k).e0 (suH s k).e1 (suH s k).n0 (suH s k).n1 (ws.getD k (0,0)).1 (ws.getD k (0,0)).2=false)=>VP HEE.out HLL.out.1 HLL.out.2 (by rw [HAL.out.1,HAL.out.2];exact HF.out) hkw h);have HHK:=hid (fun W (h:BoxS w 2 [s.cells,PC] W)=>HHU.out W h k (k+1) rfl (by have:=HNO.out;omega));have hg:=iW ((k:Int)+1)
  have hc:((k+1:Nat):Int)=(k:Int)+1:=by omega
  rw [hc] at HHK
  have HWN:=hid (fun W a b c d e n=>X8 a b c d e n W);generalize (ws.getD k (0,0)).1=e0 at *;generalize (ws.getD k (0,0)).2=n0 at *;generalize suH s k=h at *;have Q:=hid (show Has (wr.alloc (.cells #[vI e0,vI n0] 62)) wr.heap.size (lz2 e0 n0) from Has.new _ _ _);replace HR:=hid (HR.out.alloc (.cells #[vI e0,vI n0] 62));clear HS
  go_wp2_with (refine AC (.tmp 3) rfl rfl rfl (HX0.out _ (HYB.out _ HR.out)) ?_)
  clear x0 x1;generalize wr.alloc (.cells #[vI e0,vI n0] 62)=w4 at *;generalize wr.heap.size=H16 at *
  refine (HHK.out _ (HYB.out _ HR.out)).mono ?_;rintro e' w5 ⟨rfl,hB⟩
  replace HR:=hid ((HR.out.below hB).alloc (.cells #[vI h.e0,vI h.e1,vI h.n0,vI h.n1] 73) |>.alloc (.cells #[vI h.d0,vI h.d1] 50));have Q2:=hid (show Has ((w5.alloc (.cells #[vI h.e0,vI h.e1,vI h.n0,vI h.n1] 73)).alloc (.cells #[vI h.d0,vI h.d1] 50)) w5.heap.size (lz4 h.e0 h.e1 h.n0 h.n1) from (Has.new _ _ _).alloc _);replace Q:=hid (show Has ((w5.alloc (.cells #[vI h.e0,vI h.e1,vI h.n0,vI h.n1] 73)).alloc (.cells #[vI h.d0,vI h.d1] 50)) H16 (lz2 e0 n0) from ((Q.out.below hB).alloc _).alloc _);clear hB HHK;have c0:=Q2.out.cell 0 (vI h.e0) rfl;have c1:=Q2.out.cell 1 (vI h.e1) rfl;have c2:=Q2.out.cell 2 (vI h.n0) rfl;have c3:=Q2.out.cell 3 (vI h.n1) rfl;have c4:=Q.out.cell 0 (vI e0) rfl;have c5:=Q.out.cell 1 (vI n0) rfl
  go_wp2_with fail
  refine (HWN.out _ _ _ _ _ _ _).mono ?_;rintro e' w6 ⟨rfl,hB⟩
  replace HR:=hid (HR.out.below hB);clear hB c0 c1 c2 c3 c4 c5 Q Q2
  cases hwn:wnB h.e0 h.e1 h.n0 h.n1 e0 n0
  ·have HX:=hid (HAF.out hwn)
   clear hwn
   go_wp2_with fail
   go_ret3
   exact CK HX.out (by decide) (HYB.out _ HR.out).B
  ·have HZ:=hid (HAK.out hwn)
   clear hwn
   go_wp2_with fail
   go_roundw
   case rel=>exact ⟨k+1,by omega,by go_num,HZ.out,HR.out⟩
   case measure=>exact zMs
 have hlt':¬ (k:Int)<(nw:Int):=by omega
 have HFE:=hid (show CX s ps ws=DV s al sp ws ws.length from by
  rw [VQ HEE.out HLL.out.1 HLL.out.2 (by rw [HAL.out.1,HAL.out.2];exact HF.out) (fun j hj=>HA2.out j (by have:=HNO.out;omega)),HAL.out.1,HAL.out.2])
 have HLF:=hid (fun W=>Oo s.ac W);replace I1:=hid (I1.out.below HR.out.B);replace I2:=hid (I2.out.below HR.out.B);clear HR HA2 HYB HHU hlt j1;generalize hwr:wr=w8 at *;clear hwr;have HYC:=hid (fun W (h:BoxS w8 0 [] W)=>HS.out.below h.B);replace HS:=hid (HS.out.alloc (.cells #[vI 0] 2))
 go_wp2_with (refine FZ (.tmp 92) rfl rfl rfl (HX0.out _ HS.out) ?_)
 clear hlt' hk
 refine (HLF.out _).mono ?_;rintro e' w10 ⟨rfl,hB⟩
 have HBB:=hid hB;clear hB HLF HS
 have HOO:=hid (show OwII w8 ((DY s ps ws).take (0+1)) ((DX s ps ws).take (0+1)) (.slice (some ⟨w8.heap.size,0,none⟩) 1 1) (.slice (some ⟨w10.heap.size,0,none⟩) 1 1) (w10.alloc (.cells #[vI s.ac.left] 2)) from by
  obtain ⟨t1,t2,-,-⟩:=Ga (ps:=ps) (ws:=ws) (s:=s) (k:=0) (by have:=HNO.out;omega)
  rw [t1,t2]
  have hsz:w8.heap.size+1<=w10.heap.size:=by have:=HBB.out.size;simpa using this
  have hb:Below w8.heap.size w8 w10:=Ap HBB.out;have o1:Ow G9 1 2 w8.heap.size [0] (.slice (some ⟨w8.heap.size,0,none⟩) 1 1) (w8.alloc (.cells #[vI 0] 2)):=⟨World.ownsRow_lit (size:=1) w8 #[vI 0] 1 (Bn _) (by unfold maxLen;omega) rfl⟩;have o2:Ow G9 1 2 w8.heap.size [s.ac.left] (.slice (some ⟨w10.heap.size,0,none⟩) 1 1) (w10.alloc (.cells #[vI s.ac.left] 2)):=⟨World.ownsRow_lit (size:=1) w10 #[vI s.ac.left] 1 (by omega) (by unfold maxLen;omega) rfl⟩
  exact ⟨hb.alloc hb.size _,(o1.below HBB.out).below (Aa _ _),o2,fun k h1 h2=>by
   simp [Value.ownBlock] at h1 h2
   omega⟩)
 have HLG:=hid (fun W (h:BoxS w8 0 [] W) k m (hm:m=k+1) (hk:m<s.no.length)=>show Calls Tryz.prog 40 #[.agg s.cells.toArray,.slice A1 s.sno.n c1,.slice A2 s.sno.n c2,vI m] W fun e' w'=>e'=.returned (.agg #[vI (lgV s al sp k).al,vI (lgV s al sp k).co,.int .u8 (lgV s al sp k).ph,vI (lgV s al sp k).sp,vI (lgV s al sp k).ta,vI (lgV s al sp k).we,vI (lgV s al sp k).wn])∧Below W.heap.size W w' from TY s k m hm A1 A2 s.sno.n c1 s.sno.n c2 al sp W (HLK.out.1.below (HYC.out W h).B) HLK.out.2 HGN.out.1 hk (J7 HF.out) (I1.out.below h.B) (I2.out.below h.B));have HFL:=hid (fun W (h:BoxS w8 0 [] W) (l:Lg) left tas hp hb=>show Calls Tryz.prog 43 #[.agg #[vI l.al,vI l.co,.int .u8 l.ph,vI l.sp,vI l.ta,vI l.we,vI l.wn],.agg s.cells.toArray,vI left,vI tas] W fun e w'=>e=.returned (vI (flw s l left tas))∧Below W.heap.size W w' from TU s l left tas W (HLK.out.1.below (HYC.out W h).B) HLK.out.2 hp hb);have HDI:=hid (fun W (h:BoxS w8 0 [] W) k (hk:k<s.no.length)=>(Ce (HLK.out.1.below (HYC.out W h).B) HA.out hk).2.2.1);have HKK:=hid (fun W (h:BoxS w8 0 [] W)=>HNS.out W (HYC.out W h))
 go_wp2_with fail
 generalize w10.alloc (.cells #[vI s.ac.left] 2)=w11 at *
 have i5:(0:Int)<(nw:Int):=by have:=HNO.out;omega
 go_loopw [6,7,98] (fun v1 v2 t wr=>XfC s ps al sp ws w8 v1 v2 t wr) (fun _ _ t _=>nw - (intOf t).toNat)
 case atStart=>exact ⟨0,by omega,rfl,rfl,HOO.out⟩
 case round =>
 clear HOO HBB;obtain ⟨k,hk,rfl,hfl,ho⟩:=hrel;have HFL0:=hid hfl;have HO:=hid ho;have HSR:=hid (show BoxS w8 0 [] wr from ⟨fun i cs hi=>by simp at hi,by simp,ho.bel,ho.bel.size⟩);clear hfl ho
 by_cases hlt:k<nw
 rotate_left
 ·have hlt':¬ (k:Int)<(nw:Int):=by omega
  have hk2:k+1=s.no.length:=by have:=HNO.out;omega
  have HE:=hid (show CX s ps ws=0 from HFE.out.trans (by rw [show ws.length=k by have:=HNO.out;omega];exact HFL0.out))
  have HO2:=hid (show OwII w8 (DY s ps ws) (DX s ps ws) _ _ wr from by
   have h:=HO.out
   rwa [hk2,CY (by rw [(Fv s ps ws).1];omega),CY (by rw [(Fv s ps ws).2];omega)] at h)
  obtain ⟨⟨A6,c6,hv6,hI6,-⟩,A7,c7,hv7,hI7,-⟩:=HO2.out.ints (Fv s ps ws).1 (Fv s ps ws).2;have HI6:=hid hI6;have HI7:=hid hI7;clear hI6 hI7 HO HO2;subst hv6 hv7
  go_wp2_with fail
  go_ret3
  exact Sv HE.out rfl HI6.out HI7.out (HYC.out _ HSR.out).B
 have hlt':(k:Int)<(nw:Int):=by omega
 obtain ⟨m,hm⟩:∃ m,k+1=m:=⟨_,rfl⟩
 have hlm:m<s.no.length:=by have:=HNO.out;omega
 have hkw:k<ws.length:=by have:=HNO.out;omega
 have hkn:k+1<s.no.length:=by omega
 have hc:(m:Int)=(k:Int)+1:=by omega
 have hg:=iW ((k:Int)+1);obtain ⟨x0,x1⟩:=HWC.out _ (HYC.out _ HSR.out) k hkw;have HLX:=hid (fun W (h:BoxS w8 0 [] W)=>HLG.out W h k m hm.symm hlm)
 rw [hc] at HLX
 have hfb:=VK HGN.out.1 HGN.out.2 (ws:=ws) (al:=al) (sp:=sp) (k:=k) (by omega) HFL0.out;have HTB:=hid (fun h=>Qs HGN.out.1 HGN.out.2 (ws:=ws) (al:=al) (sp:=sp) hkn h);have HFB:=hid (fun left tas=>Io HGN.out.1 HGN.out.2 (lgV s al sp k) left tas);have HK0:=hid (fun (h:CJ s al sp ws k≠0)=>show CX s ps ws=CJ s al sp ws k from HFE.out.trans (Nz (by omega) HFL0.out h));have HK1:=hid (fun h=>show DV s al sp ws m=0 from hm ▸ VR (s:=s) (al:=al) (sp:=sp) (ws:=ws) (k:=k) HFL0.out h);have HPH:=hid (show (lgV s al sp k).ph=1∨(lgV s al sp k).ph=2∨(lgV s al sp k).ph=3 from NE al k);have HCO:=hid (show I64 (lgV s al sp k).co from Gz _ _ _ _)
 have HTT:=hid (show (DY s ps ws).take (m+1)=(DY s ps ws).take m ++ [DT s al sp ws m]∧(DX s ps ws).take (m+1)=(DX s ps ws).take m ++ [Cc s al sp ws m] from by
  have q:=Ga (s:=s) (ps:=ps) (ws:=ws) (k:=m) hlm
  rw [HAL.out.1,HAL.out.2] at q
  exact ⟨q.1,q.2.1⟩)
 have HSX:=hid (show DT s al sp ws m=DT s al sp ws k+flT s al sp ws k∧Cc s al sp ws m=Cc s al sp ws k - flT s al sp ws k * flw s (lgV s al sp k) (Cc s al sp ws k) (lgV s al sp k).ta∧flT s al sp ws k=tck (Ac s m).di (gsV (lgV s al sp k).co (lgV s al sp k).ta (ws.getD k (0,0)).1 (ws.getD k (0,0)).2 / 1024) from by subst hm;exact ⟨rfl,rfl,rfl⟩);have HKE:=hid (show ((lgV s al sp k).ta=0→CJ s al sp ws k=10)∧(¬ (lgV s al sp k).ta=0→gsE (lgV s al sp k).co (lgV s al sp k).ta (ws.getD k (0,0)).1 (ws.getD k (0,0)).2≠0→CJ s al sp ws k=gsE (lgV s al sp k).co (lgV s al sp k).ta (ws.getD k (0,0)).1 (ws.getD k (0,0)).2)∧(¬ (lgV s al sp k).ta=0→gsE (lgV s al sp k).co (lgV s al sp k).ta (ws.getD k (0,0)).1 (ws.getD k (0,0)).2=0→Cc s al sp ws m<0→CJ s al sp ws k=15)∧(¬ (lgV s al sp k).ta=0→gsE (lgV s al sp k).co (lgV s al sp k).ta (ws.getD k (0,0)).1 (ws.getD k (0,0)).2=0→¬ Cc s al sp ws m<0→CJ s al sp ws k=0) from by subst hm;exact ⟨Sk,VX,Sn,VS⟩);have HDB:=hid (AR HGN.out.1 HGN.out.2 hlm).di;have HDK:=hid (fun W (h:BoxS w8 0 [] W)=>show W.cell? ⟨b,off+(k+1) * 7+2,none⟩=some (vI (Ac s m).di) from by subst hm;exact HDI.out W h (k+1) hlm)
 have hlen:((DY s ps ws).take m).length=k+1∧((DX s ps ws).take m).length=k+1:=by
  obtain ⟨a,b⟩:=Fv s ps ws
  rw [List.length_take,List.length_take];omega
 rw [hm] at HO
 obtain ⟨⟨A6,c6,hv6,hI6,-⟩,A7,c7,hv7,hI7,-⟩:=HO.out.ints hlen.1 hlen.2;obtain ⟨b6,o6,rfl⟩:=Eb hI6 (by omega);obtain ⟨b7,o7,rfl⟩:=Eb hI7 (by omega);have q6:=Bu hI6 (k:=k) (by omega);have q7:=Bu hI7 (k:=k) (by omega);have hT0:=Ga (s:=s) (ps:=ps) (ws:=ws) (k:=k) (by omega)
 rw [HAL.out.1,HAL.out.2] at hT0
 rw [Ah (show ((DY s ps ws).take m)[k]? = some (DT s al sp ws k) from by rw [List.getElem?_take,if_pos (by omega)];exact hT0.2.2.1)] at q6
 rw [Ah (show ((DX s ps ws).take m)[k]? = some (Cc s al sp ws k) from by rw [List.getElem?_take,if_pos (by omega)];exact hT0.2.2.2)] at q7
 have HC6:=hid (fun W (h:Below wr.heap.size wr W)=>(h.cell (p:=⟨b6,o6+k,none⟩) q6.1).trans q6.2);have HC7:=hid (fun W (h:Below wr.heap.size wr W)=>(h.cell (p:=⟨b7,o7+k,none⟩) q7.1).trans q7.2)
 have hn1:((DY s ps ws).take m).length+1<=1000:=by have:=HNO.out;omega
 have hn2:((DX s ps ws).take m).length+1<=1000:=by have:=HNO.out;omega
 have j2:(k:Int)<(k:Int)+1:=by omega
 have j3:(k:Int)+1<(s.sno.n:Int):=by have:=HNO.out;omega
 have j5:(0:Int)<=(k:Int)+1:=by omega
 have HM:=hid hm;clear hkn hkw HLG HFL0 HDI hI6 hI7 q6 q7 hT0 hm;generalize lgV s al sp k=l at *;generalize CJ s al sp ws k=FK at *;generalize DT s al sp ws k=T0 at *;generalize Cc s al sp ws k=L0 at *;generalize hX1:DT s al sp ws m=X1 at *;generalize hX2:Cc s al sp ws m=X2 at *;have HXX:=hid (And.intro hX1 hX2);clear hX1 hX2;generalize flT s al sp ws k=TK at *;generalize (Ac s m).di=di at *;generalize (ws.getD k (0,0)).1=e0 at *;generalize (ws.getD k (0,0)).2=n0 at *;generalize (DY s ps ws).take m=l1 at *;generalize (DX s ps ws).take m=l2 at *;subst hv6 hv7;have HB0:=hid (Aa wr (.cells #[vI e0,vI n0] 62));have HQ2:=hid (show Has (wr.alloc (.cells #[vI e0,vI n0] 62)) wr.heap.size (lz2 e0 n0) from Has.new _ _ _);have HR:=hid (HSR.out.alloc (.cells #[vI e0,vI n0] 62));have OW:=hid (HO.out.alloc (.cells #[vI e0,vI n0] 62));clear HSR HO;clear hc
 go_wp2_with (refine AC (.tmp 3) rfl rfl rfl (HX0.out _ (HYC.out _ HR.out)) ?_)
 clear x0 x1;generalize hw12:wr.alloc (.cells #[vI e0,vI n0] 62)=w12 at *;clear hw12;generalize hh20:wr.heap.size=H20 at HQ2 ⊢;clear hh20
 refine (HLX.out _ HR.out).mono ?_;rintro e' V1 ⟨rfl,hB⟩
 have HQ:=hid (show Has (V1.alloc (.cells #[vI l.al,vI l.co,.int .u8 l.ph,vI l.sp,vI l.ta,vI l.we,vI l.wn] 101)) V1.heap.size (lzl l.al l.co l.ph l.sp l.ta l.we l.wn) from Has.new _ _ _);replace HQ2:=hid ((HQ2.out.below hB).alloc (.cells #[vI l.al,vI l.co,.int .u8 l.ph,vI l.sp,vI l.ta,vI l.we,vI l.wn] 101));replace HR:=hid ((HR.out.below hB).alloc (.cells #[vI l.al,vI l.co,.int .u8 l.ph,vI l.sp,vI l.ta,vI l.we,vI l.wn] 101));replace OW:=hid ((OW.out.below hB).alloc (.cells #[vI l.al,vI l.co,.int .u8 l.ph,vI l.sp,vI l.ta,vI l.we,vI l.wn] 101));replace HB0:=hid (Bh (Ae HB0.out hB) (.cells #[vI l.al,vI l.co,.int .u8 l.ph,vI l.sp,vI l.ta,vI l.we,vI l.wn] 101));clear hB HLX;have q0:=HQ.out.cell 0 (vI l.al) rfl;have q1:=HQ.out.cell 1 (vI l.co) rfl;have q2:=HQ.out.cell 2 (.int .u8 l.ph) rfl;have q3:=HQ.out.cell 3 (vI l.sp) rfl;have q4:=HQ.out.cell 4 (vI l.ta) rfl;have q5:=HQ.out.cell 5 (vI l.we) rfl;have q6:=HQ.out.cell 6 (vI l.wn) rfl;have c4:=HQ2.out.cell 0 (vI e0) rfl;have c5:=HQ2.out.cell 1 (vI n0) rfl
 by_cases h10:l.ta=0
 ·have HX:=hid ((HK0.out (by rw [HKE.out.1 h10];decide)).trans (HKE.out.1 h10))
  have e10:(l.ta == 0)=true:=by rw [h10];rfl
  have HBB:=hid (HYC.out _ HR.out).B;clear h10
  exact Ui
 have e10:=Aw h10;have HGR:=hid (fun W=>show Calls Tryz.prog 41 #[.agg #[vI l.al,vI l.co,.int .u8 l.ph,vI l.sp,vI l.ta,vI l.we,vI l.wn],.agg #[vI e0,vI n0]] W (fun e' w'=>e'=.returned (.tuple #[vI (gsV l.co l.ta e0 n0 / 1024),vI (gsE l.co l.ta e0 n0)])∧Below W.heap.size W w') from MI l e0 n0 HCO.out W)
 go_wp2_with fail
 clear e10 q0 q1 q2 q3 q4 q5 q6 c4 c5;generalize hh21:V1.heap.size=H21 at *;clear hh21
 refine (HGR.out _).mono ?_;rintro e' V2 ⟨rfl,hB⟩
 replace HQ:=hid (HQ.out.below hB);replace HR:=hid (HR.out.below hB);replace OW:=hid (OW.out.below hB);replace HB0:=hid (Ae HB0.out hB);clear hB HQ2 HGR
 by_cases hge:gsE l.co l.ta e0 n0=0
 rotate_left
 ·have HX:=hid ((HK0.out (by rw [HKE.out.2.1 h10 hge];exact hge)).trans (HKE.out.2.1 h10 hge))
  have HNE:=hid hge;have HBB:=hid (HYC.out _ HR.out).B;generalize gsE l.co l.ta e0 n0=E at *;have e1:=Aw hge;have e2:=AL e1;clear hge
  go_wp2_with fail
  go_ret3
  exact CK HX.out HNE.out HBB.out
 have htb:=HTB.out hge;have hgb:=KQ l.co l.ta e0 n0;have HK15:=hid (HKE.out.2.2.1 h10 hge);have HK00:=hid (HKE.out.2.2.2 h10 hge);have hsx:=HSX.out
 rw [hge]
 clear hge HTB HKE h10;have HTC:=hid (fun W=>show Calls Tryz.prog 42 #[vI di,vI (gsV l.co l.ta e0 n0 / 1024)] W (fun e' w'=>e'=.returned (vI TK)∧Below W.heap.size W w') from by rw [hsx.2.2];exact Kq di _ HDB.out.1 (by have:=HDB.out;omega) htb.1 (by omega) W);generalize gsV l.co l.ta e0 n0 / 1024=g at *;have k0:=HKK.out _ HR.out;have k1:=HDK.out _ HR.out
 go_wp2_with fail
 clear k0 k1
 refine (HTC.out _).mono ?_;rintro e' V3 ⟨rfl,hB⟩
 replace HQ:=hid (HQ.out.below hB);replace HR:=hid (HR.out.below hB);replace OW:=hid (OW.out.below hB);replace HB0:=hid (Ae HB0.out hB);clear hB HTC;have htf:=HFB.out L0 l.ta;have hem:=HAC.out;have hpr:=BM htb.2.1 htf.1;have hpr2:TK * flw s l L0 l.ta<=8000000 * 50000:=Int.mul_le_mul htb.2.2 htf.2 htf.1 (by decide);have HFF:=hid (fun W (hb:BoxS w8 0 [] W)=>HFL.out W hb l L0 l.ta HPH.out (by omega));generalize flw s l L0 l.ta=fw at *;have wm:=iW (TK * fw)
 have ws1:IntKind.i64.wrap (L0 - TK * fw)=X2:=by rw [hsx.2.1];exact (iW _)
 have ws2:IntKind.i64.wrap (T0+TK)=X1:=by rw [hsx.1];exact IntWalk.i64_in _ (by have:=HNO.out;omega)
 clear htf hem hpr hpr2 HFB HSX hsx htb hgb hfb
 go_wp2_with fail
 refine rS (fun W=>BoxS w8 0 [] W∧Has W H21 (lzl l.al l.co l.ph l.sp l.ta l.we l.wn)∧Below wr.heap.size wr W) 17 ⟨HR.out.drew,HQ.out.drew,HB0.out.drew⟩ (fun hHeld=>?_)
 replace OW:=hid OW.out.drew;generalize hW0:World.drew _=V4 at *;clear hW0 HR HQ HB0;have FA:=fun W (hh:BoxS w8 0 [] W∧Has W H21 (lzl l.al l.co l.ph l.sp l.ta l.we l.wn)∧Below wr.heap.size wr W)=>And.intro (HC7.out W hh.2.2) (And.intro (And.intro (And.intro (hh.2.1.cell 0 (vI l.al) rfl) (hh.2.1.cell 1 (vI l.co) rfl)) (And.intro (hh.2.1.cell 2 (.int .u8 l.ph) rfl) (hh.2.1.cell 3 (vI l.sp) rfl))) (And.intro (And.intro (hh.2.1.cell 4 (vI l.ta) rfl) (hh.2.1.cell 5 (vI l.we) rfl)) (hh.2.1.cell 6 (vI l.wn) rfl)))
 iterate 6 (first | refine rQ ?_ | refine rF ?_)
 refine rY (FM (.tmp 3) rfl rfl rfl (fun W hW=>HX0.out W (HYC.out W hW.1))) ?_
 repeat (first | refine rQ ?_ | refine rF ?_)
 refine rEk ?_
 intro K hK
 refine (HFF.out _ hHeld.1).mono ?_;rintro e2 V5 ⟨rfl,hB⟩
 go_wp2_with fail
 replace OW:=hid (OW.out.below hB)
 refine rEt hK ⟨hHeld.1.below hB,hHeld.2.1.below hB,Ae hHeld.2.2 hB⟩ ?_
 clear hK K hHeld hB
 intro hHeld
 repeat (first | refine rQ ?_ | refine rF ?_)
 refine rD ?_
 have HR:=hid hHeld.1;have c6:=HC6.out _ hHeld.2.2;clear hHeld FA HFF
 by_cases hneg:X2<0
 ·have HX:=hid ((HK0.out (by rw [HK15.out (by omega)];decide)).trans (HK15.out (by omega)))
  have HBB:=hid (HYC.out _ HR.out).B;clear HR OW
  exact Ui
 have HFK:=hid (HK1.out (HK00.out (by omega)));obtain ⟨i0,hi,hz0,hz1,hz2⟩:=info_parts CU;have HO2:=hid (OW.out.alloc (.cells #[vI X1] 2))
 go_wp2_with (first | (at_builtin;(refine wpList_append_own_at _ rfl _ _ 23 rfl w8.heap.size 2 i0 (vI 0) 1 8 Tryz.underlying23 hi hz0 hz1 hz2 rfl (by decide) _ _ _ rfl HO2.out.o1.own ⟨V5.heap.size,0,none⟩ 1 1 [vI X1] rfl rfl (AY _ _ (by first | rfl | simp) _ _ _ rfl) (by intro u hu;simp at hu;subst hu;rfl) (by unfold maxLen;omega) (by omega) (by have:=HO2.out.bel.size;simpa using this) ?_);intro v1 w18 hown hgrow hnil hblk;have HO3:=hid ((HO2.out.app1 hown hgrow hblk).alloc (.cells #[vI X2] 2));clear hown hgrow hnil hblk c6) | (at_builtin;(refine wpList_append_own_at _ rfl _ _ 23 rfl w8.heap.size 2 i0 (vI 0) 1 8 Tryz.underlying23 hi hz0 hz1 hz2 rfl (by decide) _ _ _ rfl HO3.out.o2.own ⟨w18.heap.size,0,none⟩ 1 1 [vI X2] rfl rfl (AY _ _ (by first | rfl | simp) _ _ _ rfl) (by intro u hu;simp at hu;subst hu;rfl) (by unfold maxLen;omega) (by omega) (by have:=HO3.out.bel.size;simpa using this) ?_);intro v2 w19 hown hgrow hnil hblk))
 have HO4:=hid (HO3.out.app2 hown hgrow hblk);clear hown hgrow hnil hblk HO3
 go_roundw
 case rel=>exact ⟨k+1,by have:=HNO.out;omega,by go_num,by rw [HM.out];exact HFK.out,by rw [HM.out,HTT.out.1,HTT.out.2];exact HO4.out⟩
 case measure=>exact zMs
def RfC (s:Stp) (ps:List Pass) (al sp:List Int) (ws:Cs.Wins) (B:World) (a b v1 v2 t:Value) (wr:World):Prop:=∃ k:Nat,k+1<=s.no.length∧t=vI ((k+1:Nat):Int)∧a=vI (DT s al sp ws k)∧b=vI (Cc s al sp ws k)∧DV s al sp ws k=0∧OwII B ((DY s ps ws).take (k+1)) ((DX s ps ws).take (k+1)) v1 v2 wr
theorem AfA (s:Stp) (A C:Option Addr) (np cp nw cw:Nat) (x y:Int) (bb:Bool) (ps:List Pass) (ws:Cs.Wins) (w:World) (hl:s.lies w) (hok:s.ok) (hp:Passes w A np ps) (hw:Pairs w C nw ws) (hnp:np<=maxLen) (hnw:nw<=maxLen):Calls Tryz.prog 11 #[.agg s.cells.toArray,.agg #[.slice A np cp,vI x,vI y,.bool bb],.slice C nw cw] w (Um s ps ws w):=by
 have N:=StN.of hl;have hno:=N.no;have lp:=hp.len;have lw:=hw.len;have hmx:=hok.no
 unfold maxLen at hmx hnw
 obtain ⟨PC,hPC⟩:∃ PC,[Value.slice A np cp,vI x,vI y,.bool bb]=PC:=⟨_,rfl⟩;have HS:=hid (show BoxS w 2 [s.cells,PC] ((w.alloc (.cells s.cells.toArray 35)).alloc (.cells #[.slice A np cp,vI x,vI y,.bool bb] 46)) from by rw [← hPC];exact Dt w s.cells.toArray #[.slice A np cp,vI x,vI y,.bool bb] 35 46);have HPR:=hid (fun W (h:BoxS w 2 [s.cells,PC] W)=>show W.cell? ⟨w.heap.size+1,0,none⟩=some (.slice A np cp) from by have q:=h.has 1 _ rfl;rw [← hPC] at q;exact q.cell 0 _ rfl);clear hPC;have HX0:=hid (fun W (h:BoxS w 2 [s.cells,PC] W)=>show Has W w.heap.size s.cells from h.has 0 _ rfl);have HC:=hid (fun W (h:BoxS w 2 [s.cells,PC] W)=>I5 s W (hl.below h.B) hok)
 by_cases hE:suE s=0
 rotate_left
 ·have HX:=hid (Si (ps:=ps) (ws:=ws) hE)
  generalize suE s=E at *;have e1:=Aw hE;have e2:=AL e1;have HE:=hid hE;clear hl hok hE hp hw hnp hnw N hno lp lw hmx
  go_enter Tryz.func11,Tryz.ntmps11
  exact AbH
 rw [hE] at HC
 have G:=Cm hE;have hn2:=Cq G N;obtain ⟨b,off,hA⟩:=FC hl (by omega);have HNS:=hid (fun W (h:BoxS w 2 [s.cells,PC] W)=>show W.cell? ⟨w.heap.size,0,none⟩=some (.slice (some ⟨b,off,none⟩) s.sno.n s.sno.c) from Dk (HX0.out _ h) hA);have g0:=iW ((s.sno.n:Int) - 1)
 by_cases hnn:np=s.sno.n∧nw+1=s.sno.n
 rotate_left
 ·have HX:=hid (VN (ps:=ps) (ws:=ws) hE (by omega))
  clear hl hok hE hp hw hnp N hno lp lw G hA
  go_enter Tryz.func11,Tryz.ntmps11
  go_wp2_with (refine AC (.tmp 3) rfl rfl rfl (HX0.out _ HS.out) ?_)
  refine (HC.out _ HS.out).mono ?_;rintro e' w1 ⟨rfl,hB⟩
  replace HS:=hid (HS.out.below hB);clear hB;have k0:=HNS.out _ HS.out;have k1:=HPR.out _ HS.out
  by_cases h1:np=s.sno.n
  ·have j1:((np:Int) == (s.sno.n:Int))=true:=by rw [h1];simp
   exact AbG
  ·have j1:((np:Int) == (s.sno.n:Int))=false:=BA.2 (by omega)
   have j2:=AL j1;clear h1 hnn
   go_wp2_with fail
   go_ret3
   exact CK HX.out (by decide) HS.out.B
 obtain ⟨h0,h1⟩:=hnn;subst h0;obtain ⟨bp,op,rfl,hbp,hcp⟩:=hp.cells (by omega);obtain ⟨bw,ow,rfl,hbw,hcw⟩:=hw.cells (by omega);have HPC:=hid (fun W (h:BoxS w 2 [s.cells,PC] W) k p (hk:ps[k]? = some p) j u hj=>(h.B.cell (p:=⟨bp,op+k * 13+j,none⟩) hbp).trans (hcp k p hk j u hj))
 have HWC:=hid (fun W (h:BoxS w 2 [s.cells,PC] W) k (hk:k<ws.length)=>show W.cell? ⟨bw,ow+k * 2,none⟩=some (vI (ws.getD k (0,0)).1)∧W.cell? ⟨bw,ow+k * 2+1,none⟩=some (vI (ws.getD k (0,0)).2) from by
  have hx:=AQ hk
  rw [Ah (d:=(0,0)) hx]
  exact ⟨(h.B.cell (p:=⟨bw,ow+k * 2,none⟩) hbw).trans (hcw k _ hx 0 _ rfl),(h.B.cell (p:=⟨bw,ow+k * 2+1,none⟩) hbw).trans (hcw k _ hx 1 _ rfl)⟩)
 have HCF:=hid (fun W (h:BoxS w 2 [s.cells,PC] W) A1 c1 A2 c2 (ha:Ints W A1 s.sno.n (ps.map Pass.alt)) (hb:Ints W A2 s.sno.n (ps.map Pass.cas))=>Xc s A1 A2 s.sno.n c1 s.sno.n c2 (ps.map Pass.alt) (ps.map Pass.cas) W hno ha hb hmx hmx);have HHU:=hid (fun W (h:BoxS w 2 [s.cells,PC] W) k m (hm:m=k+1) (hk:m<s.no.length)=>QT s k m hm W (hl.below h.B) hok G hk);have HNO:=hid (And.intro hno (And.intro lp (And.intro lw h1)));have HLK:=hid (And.intro hl hok);have HEE:=hid hE
 have i2:s.sno.n<=64:=by omega
 have i3:2<=s.sno.n:=by omega
 have HLL:=hid (show ps.length=s.no.length∧ws.length=s.no.length - 1 by omega)
 have j1:((s.sno.n:Int) == (s.sno.n:Int))=true:=by simp
 have j3:((nw:Int) == (s.sno.n:Int) - 1)=true:=beq_iff_eq.2 (by omega)
 have j4:((nw:Int) != (s.sno.n:Int) - 1)=false:=by rw [bne,j3];rfl
 have HAC:=hid (And.intro (Dv G.ac) (show s.ac.left=s.ac.ld - s.ac.bu from if_pos G.ac));have HGN:=hid (And.intro G N);clear hl hok hE hp hw hnp lp lw hbp hcp hbw hcw G N hno hmx hn2;have HA:=hid hA;clear hA h1
 go_enter Tryz.func11,Tryz.ntmps11
 go_wp2_with (refine AC (.tmp 3) rfl rfl rfl (HX0.out _ HS.out) ?_)
 refine (HC.out _ HS.out).mono ?_;rintro e' w1 ⟨rfl,hB⟩
 replace HS:=hid (HS.out.below hB);clear hB HC;have k0:=HNS.out _ HS.out;have k1:=HPR.out _ HS.out
 go_wp2_with fail
 clear k0 k1 g0 j1 j3 j4;have HYA:=hid (fun l1 l2 v1 v2 W (h:OwII w1 l1 l2 v1 v2 W)=>HS.out.below h.bel)
 go_loopw [10,11,55] (fun v1 v2 t wr=>FlA ps w1 v1 v2 t wr) (fun _ _ t _=>s.sno.n - (intOf t).toNat)
 case atStart=>exact ⟨0,by omega,rfl,OwII.start w1⟩
 case round =>
 clear HS;obtain ⟨k,hk,rfl,ho⟩:=hrel;have HO:=hid ho;clear ho;have HS:=hid (HYA.out _ _ _ _ _ HO.out)
 by_cases hlt:k<s.sno.n
 ·have hlt':(k:Int)<(s.sno.n:Int):=by omega
  obtain ⟨p,hpk⟩:∃ p,ps[k]? = some p:=⟨_,AQ (by have:=HNO.out;omega)⟩;have hcp:=HPC.out _ HS.out k p hpk;have HT:=hid (And.intro (Fq Pass.alt ps k p hpk) (Fq Pass.cas ps k p hpk))
  have hn1:((ps.map Pass.alt).take k).length+1<=1000:=by rw [List.length_take];omega
  have hn2:((ps.map Pass.cas).take k).length+1<=1000:=by rw [List.length_take];omega
  generalize (ps.map Pass.alt).take k=l1 at *;generalize (ps.map Pass.cas).take k=l2 at *;clear hpk;have p0:wr.cell? ⟨bp,op+k * 13,none⟩=some (vI p.alt):=hcp 0 _ rfl;have p1:wr.cell? ⟨bp,op+k * 13+1,none⟩=some (vI p.cas):=hcp 1 _ rfl;have p2:wr.cell? ⟨bp,op+k * 13+2,none⟩=some (vI p.tas):=hcp 2 _ rfl;have p3:wr.cell? ⟨bp,op+k * 13+3,none⟩=some (vI p.ground):=hcp 3 _ rfl;have p4:wr.cell? ⟨bp,op+k * 13+4,none⟩=some (vI p.tick):=hcp 4 _ rfl;have p5:wr.cell? ⟨bp,op+k * 13+5,none⟩=some (vI p.fuel):=hcp 5 _ rfl;have p6:wr.cell? ⟨bp,op+k * 13+6,none⟩=some (vI p.gl):=hcp 6 _ rfl;have p7:wr.cell? ⟨bp,op+k * 13+7,none⟩=some (vI p.gh):=hcp 7 _ rfl;have p8:wr.cell? ⟨bp,op+k * 13+8,none⟩=some (vI p.tl):=hcp 8 _ rfl;have p9:wr.cell? ⟨bp,op+k * 13+9,none⟩=some (vI p.th):=hcp 9 _ rfl;have p10:wr.cell? ⟨bp,op+k * 13+10,none⟩=some (vI p.fl):=hcp 10 _ rfl;have p11:wr.cell? ⟨bp,op+k * 13+11,none⟩=some (vI p.fh):=hcp 11 _ rfl;have p12:wr.cell? ⟨bp,op+k * 13+12,none⟩=some (.int .u8 p.phase):=hcp 12 _ rfl;clear hcp;generalize p.alt=X1 at *;generalize p.cas=X2 at *;have oW:=HO.out.alloc (.cells #[vI X1,vI X2,vI p.tas,vI p.ground,vI p.tick,vI p.fuel,vI p.gl,vI p.gh,vI p.tl,vI p.th,vI p.fl,vI p.fh,.int .u8 p.phase] 52);have q13:Has (wr.alloc (.cells #[vI X1,vI X2,vI p.tas,vI p.ground,vI p.tick,vI p.fuel,vI p.gl,vI p.gh,vI p.tl,vI p.th,vI p.fl,vI p.fh,.int .u8 p.phase] 52)) wr.heap.size (lzp X1 X2 p.tas p.ground p.tick p.fuel p.gl p.gh p.tl p.th p.fl p.fh p.phase):=Has.new _ _ _;have HV:=hid (show (∀ k,u10.ownBlock=some k→k<wr.heap.size)∧∀ k,u11.ownBlock=some k→k<wr.heap.size from ⟨fun k (h:u10.ownBlock=some k)=>(HO.out.o1.lt h).2,fun k (h:u11.ownBlock=some k)=>(HO.out.o2.lt h).2⟩)
  go_wp2_with fail
  clear p0 p1 p2 p3 p4 p5 p6 p7 p8 p9 p10 p11 p12 HS HO;generalize wr.alloc (.cells #[vI X1,vI X2,vI p.tas,vI p.ground,vI p.tick,vI p.fuel,vI p.gl,vI p.gh,vI p.tl,vI p.th,vI p.fl,vI p.fh,.int .u8 p.phase] 52)=w4 at *;generalize wr.heap.size=H13 at *
  refine rS (fun W=>Has W H13 (lzp X1 X2 p.tas p.ground p.tick p.fuel p.gl p.gh p.tl p.th p.fl p.fh p.phase)) 12 q13.drew (fun hHeld=>?_)
  replace oW:=oW.drew;generalize hW0:World.drew _=w5 at *;clear hW0 q13;have FA:=fun W (h:Has W H13 (lzp X1 X2 p.tas p.ground p.tick p.fuel p.gl p.gh p.tl p.th p.fl p.fh p.phase))=>And.intro (h.cell 0 (vI X1) rfl) (h.cell 1 (vI X2) rfl);have SA:=hid (fun W o (h:Has W H13 (lzp X1 X2 p.tas p.ground p.tick p.fuel p.gl p.gh p.tl p.th p.fl p.fh p.phase))=>show Has (W.alloc o) H13 (lzp X1 X2 p.tas p.ground p.tick p.fuel p.gl p.gh p.tl p.th p.fl p.fh p.phase) from h.alloc o)
  have SG:=hid (fun W W1 r (h:Has W H13 (lzp X1 X2 p.tas p.ground p.tick p.fuel p.gl p.gh p.tl p.th p.fl p.fh p.phase)) (hg:W.grownBy W1 r) (hr:r=u10.ownBlock∨r=u11.ownBlock)=>show Has W1 H13 (lzp X1 X2 p.tas p.ground p.tick p.fuel p.gl p.gh p.tl p.th p.fl p.fh p.phase) from h.grown hg (fun e=>by
   subst e
   rcases hr with e | e
   ·exact Nat.lt_irrefl _ (HV.out.1 _ e.symm)
   ·exact Nat.lt_irrefl _ (HV.out.2 _ e.symm)))
  repeat (first | refine rQ ?_ | refine rF ?_)
  refine Be ?_
  intro OPS QQ A0 SS hO hQ hA hSS
  have TAIL:Hid (∀ (Ha Hb:Nat) (u1 u2:Value) (W:World),OwII w1 (l1 ++ [X1]) (l2 ++ [X2]) u1 u2 W→(fun W=>Has W H13 (lzp X1 X2 p.tas p.ground p.tick p.fuel p.gl p.gh p.tl p.th p.fl p.fh p.phase)) W→wpAnyH Tryz.prog .any OPS QQ (fun W=>Has W H13 (lzp X1 X2 p.tas p.ground p.tick p.fuel p.gl p.gh p.tl p.th p.fl p.fh p.phase)) 2 #[b1,b1,b1,b1,b1,b1,b1,b1,b1,b1,b0,b0] ((((A0.put (some 62) (.slice (some ⟨Ha,0,none⟩) 1 1)).put (some 63) u1).put (some 67) (.slice (some ⟨Hb,0,none⟩) 1 1)).put (some 68) u2) W):=by
   subst hO hQ hA hSS
   refine hid ?_
   intro Ha Hb u1 u2 W oN hHeld
   (try simp only [Act.put,pa,pb,pc])
   repeat refine rQ ?_
   refine rD ?_
   have HN:=hid oN;clear oN hHeld oW FA SA SG
   go_wp2_with fail
   go_roundw
   case rel=>exact ⟨k+1,by have:=HNO.out;omega,by go_num,by rw [HT.out.1,HT.out.2];exact HN.out⟩
   case measure=>exact zMs
  subst hO hQ hA hSS
  (try simp only [Act.put,pa,pb,pc] at TAIL)
  exact mP
 have hlt':¬ (k:Int)<(s.sno.n:Int):=by omega
 have hkn:k=s.sno.n:=by have:=HNO.out;omega
 have HL2:=hid (show OwII w1 (ps.map Pass.alt) (ps.map Pass.cas) u10 u11 wr from by
  have h:=HO.out
  rwa [CY (by rw [List.length_map];have:=HNO.out;omega),CY (by rw [List.length_map];have:=HNO.out;omega)] at h)
 obtain ⟨⟨A1,c1,hv1,hI1,-⟩,A2,c2,hv2,hI2,-⟩:=HL2.out.ints (n:=s.sno.n) (m:=s.sno.n) (by rw [List.length_map];have:=HNO.out;omega) (by rw [List.length_map];have:=HNO.out;omega);have I1:=hid hI1;have I2:=hid hI2;clear hI1 hI2 HL2 HO hkn;subst hv1 hv2;obtain ⟨al,hal⟩:∃ al,ps.map Pass.alt=al:=⟨_,rfl⟩;obtain ⟨sp,hsp⟩:∃ sp,ps.map Pass.cas=sp:=⟨_,rfl⟩;have HAL:=hid (And.intro hal hsp)
 rw [hal] at I1 HCF
 rw [hsp] at I2 HCF
 clear hal hsp
 go_wp2_with (refine AC (.tmp 3) rfl rfl rfl (HX0.out _ HS.out) ?_)
 refine (HCF.out _ HS.out _ _ _ _ I1.out I2.out).mono ?_;rintro e' w2 ⟨rfl,hB⟩
 replace HS:=hid (HS.out.below hB);replace I1:=hid (I1.out.below hB);replace I2:=hid (I2.out.below hB);clear hB HCF HYA HPC
 by_cases hF:fcE s al sp=0
 rotate_left
 ·have HX:=hid (show CX s ps ws=fcE s al sp from by rw [← HAL.out.1,← HAL.out.2];exact Sg HEE.out HLL.out.1 HLL.out.2 (by rw [HAL.out.1,HAL.out.2];exact hF))
  exact AbI
 have HF:=hid hF
 rw [hF]
 clear hF hlt hlt' hk
 go_wp2_with fail
 have HYB:=hid (fun W (h:BoxS w2 0 [] W)=>HS.out.below h.B)
 have j1:(0:Int)<(nw:Int):=by have:=HNO.out;omega
 go_loopw [79] (fun t wr=>FlB s ws w2 t wr) (fun t _=>nw - (intOf t).toNat)
 case atStart=>exact ⟨0,by omega,rfl,fun j hj=>by omega,Vm _⟩
 case round =>
 clear HS;obtain ⟨k,hk,rfl,hall,hs⟩:=hrel;have HA2:=hid hall;have HR:=hid hs;have HS:=hid (HYB.out _ HR.out);clear hall hs
 by_cases hlt:k<nw
 ·have hlt':(k:Int)<(nw:Int):=by omega
  have hkw:k<ws.length:=by have:=HNO.out;omega
  obtain ⟨x0,x1⟩:=HWC.out _ HS.out k hkw
  have HAK:=hid (fun (h:wnB (suH s k).e0 (suH s k).e1 (suH s k).n0 (suH s k).n1 (ws.getD k (0,0)).1 (ws.getD k (0,0)).2=true) j (hj:j<k+1)=>show wnB (suH s j).e0 (suH s j).e1 (suH s j).n0 (suH s j).n1 (ws.getD j (0,0)).1 (ws.getD j (0,0)).2=true from by
   by_cases e:j=k
   ·subst e;exact h
   ·exact HA2.out j (by omega))
  have HAF:=hid (fun (h:wnB (suH s k).e0 (suH s k).e1 (suH s k).n0 (suH s k).n1 (ws.getD k (0,0)).1 (ws.getD k (0,0)).2=false)=>VP HEE.out HLL.out.1 HLL.out.2 (by rw [HAL.out.1,HAL.out.2];exact HF.out) hkw h);have HHK:=hid (fun W (h:BoxS w 2 [s.cells,PC] W)=>HHU.out W h k (k+1) rfl (by have:=HNO.out;omega));have hg:=iW ((k:Int)+1)
  have hc:((k+1:Nat):Int)=(k:Int)+1:=by omega
  rw [hc] at HHK
  have HWN:=hid (fun W a b c d e n=>Zr a b c d e n W);generalize (ws.getD k (0,0)).1=e0 at *;generalize (ws.getD k (0,0)).2=n0 at *;generalize suH s k=h at *;have Q:=hid (show Has (wr.alloc (.cells #[vI e0,vI n0] 62)) wr.heap.size (lz2 e0 n0) from Has.new _ _ _);replace HR:=hid (HR.out.alloc (.cells #[vI e0,vI n0] 62));clear HS
  go_wp2_with (refine AC (.tmp 3) rfl rfl rfl (HX0.out _ (HYB.out _ HR.out)) ?_)
  clear x0 x1;generalize wr.alloc (.cells #[vI e0,vI n0] 62)=w4 at *;generalize wr.heap.size=H16 at *
  refine (HHK.out _ (HYB.out _ HR.out)).mono ?_;rintro e' w5 ⟨rfl,hB⟩
  replace HR:=hid ((HR.out.below hB).alloc (.cells #[vI h.e0,vI h.e1,vI h.n0,vI h.n1] 73) |>.alloc (.cells #[vI h.d0,vI h.d1] 50));have Q2:=hid (show Has ((w5.alloc (.cells #[vI h.e0,vI h.e1,vI h.n0,vI h.n1] 73)).alloc (.cells #[vI h.d0,vI h.d1] 50)) w5.heap.size (lz4 h.e0 h.e1 h.n0 h.n1) from (Has.new _ _ _).alloc _);replace Q:=hid (show Has ((w5.alloc (.cells #[vI h.e0,vI h.e1,vI h.n0,vI h.n1] 73)).alloc (.cells #[vI h.d0,vI h.d1] 50)) H16 (lz2 e0 n0) from ((Q.out.below hB).alloc _).alloc _);clear hB HHK;have c0:=Q2.out.cell 0 (vI h.e0) rfl;have c1:=Q2.out.cell 1 (vI h.e1) rfl;have c2:=Q2.out.cell 2 (vI h.n0) rfl;have c3:=Q2.out.cell 3 (vI h.n1) rfl;have c4:=Q.out.cell 0 (vI e0) rfl;have c5:=Q.out.cell 1 (vI n0) rfl
  go_wp2_with fail
  refine (HWN.out _ _ _ _ _ _ _).mono ?_;rintro e' w6 ⟨rfl,hB⟩
  replace HR:=hid (HR.out.below hB);clear hB c0 c1 c2 c3 c4 c5 Q Q2
  cases hwn:wnB h.e0 h.e1 h.n0 h.n1 e0 n0
  ·have HX:=hid (HAF.out hwn)
   clear hwn
   go_wp2_with fail
   go_ret3
   exact CK HX.out (by decide) (HYB.out _ HR.out).B
  ·have HZ:=hid (HAK.out hwn)
   clear hwn
   go_wp2_with fail
   go_roundw
   case rel=>exact ⟨k+1,by omega,by go_num,HZ.out,HR.out⟩
   case measure=>exact zMs
 have hlt':¬ (k:Int)<(nw:Int):=by omega
 have HFE:=hid (show CX s ps ws=DV s al sp ws (s.no.length - 1) from by
  rw [VQ HEE.out HLL.out.1 HLL.out.2 (by rw [HAL.out.1,HAL.out.2];exact HF.out) (fun j hj=>HA2.out j (by have:=HNO.out;omega)),HAL.out.1,HAL.out.2,HLL.out.2])
 have HLF:=hid (fun W=>Tg s.ac W);replace I1:=hid (I1.out.below HR.out.B);replace I2:=hid (I2.out.below HR.out.B);clear HR HA2 HYB HHU hlt j1
 go_wp2_with (refine FZ (.tmp 96) rfl rfl rfl (HX0.out _ HS.out) ?_)
 clear hlt' hk
 refine (HLF.out _).mono ?_;rintro e' w8 ⟨rfl,hB⟩
 replace HS:=hid (HS.out.below hB);replace I1:=hid (I1.out.below hB);replace I2:=hid (I2.out.below hB);clear hB HLF
 have HOO:=hid (show OwII w8 ((DY s ps ws).take (0+1)) ((DX s ps ws).take (0+1)) (.slice (some ⟨w8.heap.size,0,none⟩) 1 1) (.slice (some ⟨w8.heap.size+1,0,none⟩) 1 1) ((w8.alloc (.cells #[vI 0] 2)).alloc (.cells #[vI s.ac.left] 2)) from by
  obtain ⟨t1,t2,-,-⟩:=Ga (ps:=ps) (ws:=ws) (s:=s) (k:=0) (by have:=HNO.out;omega)
  rw [t1,t2]
  have e:(w8.alloc (.cells #[vI 0] 2)).heap.size=w8.heap.size+1:=by simp
  have o1:Ow G9 1 2 w8.heap.size [0] (.slice (some ⟨w8.heap.size,0,none⟩) 1 1) (w8.alloc (.cells #[vI 0] 2)):=⟨World.ownsRow_lit (size:=1) w8 #[vI 0] 1 (Bn _) (by unfold maxLen;omega) rfl⟩;have o2:Ow G9 1 2 w8.heap.size [s.ac.left] (.slice (some ⟨(w8.alloc (.cells #[vI 0] 2)).heap.size,0,none⟩) 1 1) ((w8.alloc (.cells #[vI 0] 2)).alloc (.cells #[vI s.ac.left] 2)):=⟨World.ownsRow_lit (size:=1) _ #[vI s.ac.left] 1 (by omega) (by unfold maxLen;omega) rfl⟩
  rw [e] at o2
  exact ⟨Cg w8 _ _,o1.alloc _,o2,fun k h1 h2=>by
   simp [Value.ownBlock] at h1 h2
   omega⟩)
 have HYC:=hid (fun W (h:BoxS w8 0 [] W)=>HS.out.below h.B);have HLG:=hid (fun W (h:BoxS w8 0 [] W) k m (hm:m=k+1) (hk:m<s.no.length)=>show Calls Tryz.prog 26 #[.agg s.cells.toArray,.slice A1 s.sno.n c1,.slice A2 s.sno.n c2,vI m] W fun e' w'=>e'=.returned (.agg #[vI (lgV s al sp k).co,vI (lgV s al sp k).al,vI (lgV s al sp k).sp,vI (wtD s al k),vI (lgV s al sp k).we,vI (lgV s al sp k).wn,vI (suH s k).e0,vI (suH s k).e1,vI (suH s k).n0,vI (suH s k).n1,vI (suH s k).d0,vI (suH s k).d1,.int .u8 (lgV s al sp k).ph])∧Below W.heap.size W w' from Aep s k m hm A1 A2 s.sno.n c1 s.sno.n c2 al sp W (HLK.out.1.below (HYC.out W h).B) HLK.out.2 HGN.out.1 hk (J7 HF.out) (I1.out.below h.B) (I2.out.below h.B));have HSC:=hid (fun W a b c d=>QU a b c d W);have HFL:=hid (fun W (h:BoxS w8 0 [] W) (l:Lg) dv (hh:Hul) left tas hp=>show Calls Tryz.prog 30 #[.agg s.cells.toArray,.agg #[vI l.co,vI l.al,vI l.sp,vI dv,vI l.we,vI l.wn,vI hh.e0,vI hh.e1,vI hh.n0,vI hh.n1,vI hh.d0,vI hh.d1,.int .u8 l.ph],vI (s.ac.em+left),vI tas] W fun e w'=>e=.returned (vI (flw s l left tas))∧Below W.heap.size W w' from Tf s l dv hh left tas W (HLK.out.1.below (HYC.out W h).B) HLK.out.2 hp);have HKK:=hid (fun W (h:BoxS w8 0 [] W)=>show (W.cell? ⟨w.heap.size,0,none⟩=some (.slice (some ⟨b,off,none⟩) s.sno.n s.sno.c)∧W.cell? ⟨w.heap.size,31,none⟩=some (vI s.mch))∧W.cell? ⟨w.heap.size,25,none⟩=some (vI s.ac.em) from ⟨⟨HNS.out W (HYC.out W h),JE (HX0.out W (HYC.out W h))⟩,Xx (HX0.out W (HYC.out W h))⟩);have HDI:=hid (fun W (h:BoxS w8 0 [] W) k (hk:k<s.no.length)=>(Ce (HLK.out.1.below (HYC.out W h).B) HA.out hk).2.2.1)
 go_wp2_with fail
 generalize (w8.alloc (.cells #[vI 0] 2)).alloc (.cells #[vI s.ac.left] 2)=w9 at *;generalize w8.heap.size+1=g9 at *
 go_loopw [19,20,21,22,23] (fun a b v1 v2 t wr=>RfC s ps al sp ws w8 a b v1 v2 t wr) (fun _ _ _ _ t _=>s.no.length - (intOf t).toNat)
 case atStart=>exact ⟨0,by have:=HNO.out;omega,rfl,rfl,rfl,rfl,HOO.out⟩
 case round =>
 clear HS HOO;obtain ⟨k,hk,rfl,rfl,rfl,hfl,ho⟩:=hrel;have HFL0:=hid hfl;have HO:=hid ho;have HSR:=hid (show BoxS w8 0 [] wr from ⟨fun i cs hi=>by simp at hi,by simp,ho.bel,ho.bel.size⟩);clear hfl ho;obtain ⟨m,hm⟩:∃ m,k+1=m:=⟨_,rfl⟩
 rw [hm] at HO ⊢
 by_cases hlt:m<s.no.length
 rotate_left
 ·have hlt':¬ (m:Int)<(s.sno.n:Int):=by have:=HNO.out;omega
  have HE:=hid (show CX s ps ws=0 from HFE.out.trans (by rw [show s.no.length - 1=k by omega];exact HFL0.out))
  have HO2:=hid (show OwII w8 (DY s ps ws) (DX s ps ws) _ _ wr from by
   have h:=HO.out
   rwa [CY (by rw [(Fv s ps ws).1];omega),CY (by rw [(Fv s ps ws).2];omega)] at h)
  obtain ⟨⟨A6,c6,hv6,hI6,-⟩,A7,c7,hv7,hI7,-⟩:=HO2.out.ints (Fv s ps ws).1 (Fv s ps ws).2;have HI6:=hid hI6;have HI7:=hid hI7;have k0:=(HKK.out _ HSR.out).1.1;clear hI6 hI7 HO HO2;subst hv6 hv7
  go_wp2_with fail
  go_ret3
  exact Sv HE.out rfl HI6.out HI7.out (HYC.out _ HSR.out).B
 have hlt':(m:Int)<(s.sno.n:Int):=by have:=HNO.out;omega
 have hkw:k<ws.length:=by have:=HNO.out;omega
 have hkn:k+1<s.no.length:=by omega
 have HWK:=hid (fun W (h:BoxS w8 0 [] W)=>HWC.out W (HYC.out W h) k hkw);have HLX:=hid (fun W (h:BoxS w8 0 [] W)=>HLG.out W h k m hm.symm hlt);have hfb:=VK HGN.out.1 HGN.out.2 (ws:=ws) (al:=al) (sp:=sp) (k:=k) (by omega) HFL0.out;have HTB:=hid (fun h=>Qs HGN.out.1 HGN.out.2 (ws:=ws) (al:=al) (sp:=sp) hkn h);have HFB:=hid (fun left tas=>Io HGN.out.1 HGN.out.2 (lgV s al sp k) left tas);have HK0:=hid (fun (h:CJ s al sp ws k≠0)=>show CX s ps ws=CJ s al sp ws k from HFE.out.trans (Nz (by omega) HFL0.out h));have HK1:=hid (fun h=>show DV s al sp ws m=0 from hm ▸ VR (s:=s) (al:=al) (sp:=sp) (ws:=ws) (k:=k) HFL0.out h);have HPH:=hid (show (lgV s al sp k).ph=1∨(lgV s al sp k).ph=2∨(lgV s al sp k).ph=3 from NE al k);have HCO:=hid (show I64 (lgV s al sp k).co from Gz _ _ _ _)
 have HTT:=hid (show (DY s ps ws).take (m+1)=(DY s ps ws).take m ++ [DT s al sp ws m]∧(DX s ps ws).take (m+1)=(DX s ps ws).take m ++ [Cc s al sp ws m] from by
  have q:=Ga (s:=s) (ps:=ps) (ws:=ws) (k:=m) hlt
  rw [HAL.out.1,HAL.out.2] at q
  exact ⟨q.1,q.2.1⟩)
 have HSX:=hid (show DT s al sp ws m=DT s al sp ws k+flT s al sp ws k∧Cc s al sp ws m=Cc s al sp ws k - flT s al sp ws k * flw s (lgV s al sp k) (Cc s al sp ws k) (lgV s al sp k).ta∧flT s al sp ws k=tck (Ac s m).di (gsV (lgV s al sp k).co (lgV s al sp k).ta (ws.getD k (0,0)).1 (ws.getD k (0,0)).2 / 1024) from by subst hm;exact ⟨rfl,rfl,rfl⟩);have HKE:=hid (show ((lgV s al sp k).ta=0→CJ s al sp ws k=10)∧(¬ (lgV s al sp k).ta=0→gsE (lgV s al sp k).co (lgV s al sp k).ta (ws.getD k (0,0)).1 (ws.getD k (0,0)).2≠0→CJ s al sp ws k=gsE (lgV s al sp k).co (lgV s al sp k).ta (ws.getD k (0,0)).1 (ws.getD k (0,0)).2)∧(¬ (lgV s al sp k).ta=0→gsE (lgV s al sp k).co (lgV s al sp k).ta (ws.getD k (0,0)).1 (ws.getD k (0,0)).2=0→Cc s al sp ws m<0→CJ s al sp ws k=15)∧(¬ (lgV s al sp k).ta=0→gsE (lgV s al sp k).co (lgV s al sp k).ta (ws.getD k (0,0)).1 (ws.getD k (0,0)).2=0→¬ Cc s al sp ws m<0→CJ s al sp ws k=0) from by subst hm;exact ⟨Sk,VX,Sn,VS⟩);have HDK:=hid (fun W (h:BoxS w8 0 [] W)=>HDI.out W h m hlt);have HDB:=hid (AR HGN.out.1 HGN.out.2 hlt).di;have HSE:=hid (show Ck (lgV s al sp k).sp s.mch (lgV s al sp k).al (wtD s al k)=(lgV s al sp k).ta from rfl)
 have hn1:((DY s ps ws).take m).length+1<=1000:=by rw [List.length_take];have:=HNO.out;omega
 have hn2:((DX s ps ws).take m).length+1<=1000:=by rw [List.length_take];have:=HNO.out;omega
 have w1:IntKind.i64.wrap ((m:Int) - 1)=(k:Int):=by rw [IntWalk.i64_in _ (by have:=HNO.out;omega)];omega
 have j0:(0:Int)<=(k:Int):=by omega
 have j1:(k:Int)<(nw:Int):=by have:=HNO.out;omega
 have j2:(0:Int)<=(m:Int):=by omega
 have HM:=hid hm;clear hkn hkw HLG HFL0 HWC HDI hm;generalize lgV s al sp k=l at *;generalize wtD s al k=dv at *;generalize suH s k=h at *;generalize CJ s al sp ws k=FK at *;generalize DT s al sp ws k=T0 at *;generalize Cc s al sp ws k=L0 at *;generalize hX1:DT s al sp ws m=X1 at *;generalize hX2:Cc s al sp ws m=X2 at *;have HXX:=hid (And.intro hX1 hX2);clear hX1 hX2;generalize flT s al sp ws k=TK at *;generalize (Ac s m).di=di at *;generalize (ws.getD k (0,0)).1=e0 at *;generalize (ws.getD k (0,0)).2=n0 at *;generalize (DY s ps ws).take m=l1 at *;generalize (DX s ps ws).take m=l2 at *;have k0:=(HKK.out _ HSR.out).1.1
 go_wp2_with (refine AC (.tmp 3) rfl rfl rfl (HX0.out _ (HYC.out _ HSR.out)) ?_)
 clear k0
 refine (HLX.out _ HSR.out).mono ?_;rintro e' V1 ⟨rfl,hB⟩
 have HQ:=hid (show Has (V1.alloc (.cells #[vI l.co,vI l.al,vI l.sp,vI dv,vI l.we,vI l.wn,vI h.e0,vI h.e1,vI h.n0,vI h.n1,vI h.d0,vI h.d1,.int .u8 l.ph] 75)) V1.heap.size (lzp l.co l.al l.sp dv l.we l.wn h.e0 h.e1 h.n0 h.n1 h.d0 h.d1 l.ph) from Has.new _ _ _);have HR:=hid ((HSR.out.below hB).alloc (.cells #[vI l.co,vI l.al,vI l.sp,vI dv,vI l.we,vI l.wn,vI h.e0,vI h.e1,vI h.n0,vI h.n1,vI h.d0,vI h.d1,.int .u8 l.ph] 75));have OW:=hid ((HO.out.below hB).alloc (.cells #[vI l.co,vI l.al,vI l.sp,vI dv,vI l.we,vI l.wn,vI h.e0,vI h.e1,vI h.n0,vI h.n1,vI h.d0,vI h.d1,.int .u8 l.ph] 75));clear hB HLX HSR HO;have q0:=HQ.out.cell 0 (vI l.co) rfl;have q1:=HQ.out.cell 1 (vI l.al) rfl;have q2:=HQ.out.cell 2 (vI l.sp) rfl;have q3:=HQ.out.cell 3 (vI dv) rfl;have q4:=HQ.out.cell 4 (vI l.we) rfl;have q5:=HQ.out.cell 5 (vI l.wn) rfl;have q6:=HQ.out.cell 6 (vI h.e0) rfl;have q7:=HQ.out.cell 7 (vI h.e1) rfl;have q8:=HQ.out.cell 8 (vI h.n0) rfl;have q9:=HQ.out.cell 9 (vI h.n1) rfl;have q10:=HQ.out.cell 10 (vI h.d0) rfl;have q11:=HQ.out.cell 11 (vI h.d1) rfl;have q12:=HQ.out.cell 12 (.int .u8 l.ph) rfl;have K:=HKK.out _ HR.out
 go_wp2_with fail
 clear q0 q1 q2 q3 q4 q5 q6 q7 q8 q9 q10 q11 q12 K
 refine (HSC.out _ _ _ _ _).mono ?_;rintro e' V2 ⟨rfl,hB⟩
 replace HQ:=hid (HQ.out.below hB);replace HR:=hid (HR.out.below hB);replace OW:=hid (OW.out.below hB);clear hB HSC;generalize V1.heap.size=H24 at *
 rw [HSE.out]
 by_cases h10:l.ta=0
 ·have HX:=hid ((HK0.out (by rw [HKE.out.1 h10];decide)).trans (HKE.out.1 h10))
  have e10:(l.ta == 0)=true:=by rw [h10];rfl
  have HBB:=hid (HYC.out _ HR.out).B;clear h10
  exact Ui
 have e10:=Aw h10
 go_wp2_with fail
 clear e10;have HGR:=hid (fun W=>show Calls Tryz.prog 27 #[vI l.co,vI l.ta,.agg #[vI e0,vI n0]] W (fun e' w'=>∃ dd:Int,e'=.returned (.tuple #[vI (gsV l.co l.ta e0 n0),vI dd,vI (gsE l.co l.ta e0 n0)])∧Below W.heap.size W w') from Tk l.co l.ta e0 n0 HCO.out W)
 refine rS (fun W=>BoxS w8 0 [] W∧Has W H24 (lzp l.co l.al l.sp dv l.we l.wn h.e0 h.e1 h.n0 h.n1 h.d0 h.d1 l.ph)) 16 ⟨HR.out.drew,HQ.out.drew⟩ (fun hHeld=>?_)
 replace OW:=hid OW.out.drew;generalize hW0:World.drew _=V3 at *;clear hW0 HR HQ;have FA:=fun W (hh:BoxS w8 0 [] W∧Has W H24 (lzp l.co l.al l.sp dv l.we l.wn h.e0 h.e1 h.n0 h.n1 h.d0 h.d1 l.ph))=>And.intro (HWK.out W hh.1) (hh.2.cell 0 (vI l.co) rfl)
 repeat (first | refine rQ ?_ | refine rF ?_)
 refine rEk ?_
 intro K hK
 refine (HGR.out _).mono ?_;rintro e2 V4 ⟨dd,rfl,hB⟩
 go_wp2_with fail
 replace OW:=hid (OW.out.below hB)
 refine rEt hK ⟨hHeld.1.below hB,hHeld.2.below hB⟩ ?_
 clear hK K hHeld hB
 intro hHeld
 repeat (first | refine rQ ?_ | refine rF ?_)
 refine rD ?_
 clear FA HGR
 by_cases hge:gsE l.co l.ta e0 n0=0
 rotate_left
 ·have HX:=hid ((HK0.out (by rw [HKE.out.2.1 h10 hge];exact hge)).trans (HKE.out.2.1 h10 hge))
  have HNE:=hid hge;have HBB:=hid (HYC.out _ hHeld.1).B;generalize gsE l.co l.ta e0 n0=E at *;have e1:=Aw hge;have e2:=AL e1;clear hge
  go_wp2_with fail
  go_ret3
  exact CK HX.out HNE.out HBB.out
 have htb:=HTB.out hge;have hgb:=KQ l.co l.ta e0 n0;have HK15:=hid (HKE.out.2.2.1 h10 hge);have HK00:=hid (HKE.out.2.2.2 h10 hge);have hsx:=HSX.out
 rw [hge]
 clear hge HTB HKE h10;have HTC:=hid (fun W=>show Calls Tryz.prog 29 #[vI di,vI (gsV l.co l.ta e0 n0 / 1024)] W (fun e w'=>e=.returned (vI TK)∧W=w') from by rw [hsx.2.2];exact Tq di _ HDB.out.1 (by have:=HDB.out;omega) htb.1 (by omega) W);have q1:(gsV l.co l.ta e0 n0).tdiv 1024=gsV l.co l.ta e0 n0 / 1024:=Int.tdiv_eq_ediv_of_nonneg hgb.1;have q2:=iW (gsV l.co l.ta e0 n0 / 1024);generalize gsV l.co l.ta e0 n0 / 1024=g at *;generalize gsV l.co l.ta e0 n0=GV at *;have k0:=(HKK.out _ hHeld.1).1.1;have k1:=HDK.out _ hHeld.1
 go_wp2_with fail
 clear k0 k1 q1 q2
 refine (HTC.out _).mono ?_;rintro e' W6 ⟨rfl,rfl⟩
 clear HTC;have htf:=HFB.out L0 l.ta;have hem:=HAC.out;have hpr:=BM htb.2.1 htf.1;have hpr2:TK * flw s l L0 l.ta<=8000000 * 50000:=Int.mul_le_mul htb.2.2 htf.2 htf.1 (by decide);have HFF:=hid (fun W (hb:BoxS w8 0 [] W)=>HFL.out W hb l dv h L0 l.ta HPH.out);generalize flw s l L0 l.ta=fw at *;have we:=iW (s.ac.em+L0);have wm:=iW (TK * fw)
 have ws1:IntKind.i64.wrap (L0 - TK * fw)=X2:=by rw [hsx.2.1];exact (iW _)
 have ws2:IntKind.i64.wrap (T0+TK)=X1:=by rw [hsx.1];exact IntWalk.i64_in _ (by have:=HNO.out;omega)
 clear htf hem hpr hpr2 HFB HSX hsx htb hgb hfb;have HQ:=hid hHeld.2;have HR:=hid hHeld.1;have q0:=HQ.out.cell 0 (vI l.co) rfl;have q1:=HQ.out.cell 1 (vI l.al) rfl;have q2:=HQ.out.cell 2 (vI l.sp) rfl;have q3:=HQ.out.cell 3 (vI dv) rfl;have q4:=HQ.out.cell 4 (vI l.we) rfl;have q5:=HQ.out.cell 5 (vI l.wn) rfl;have q6:=HQ.out.cell 6 (vI h.e0) rfl;have q7:=HQ.out.cell 7 (vI h.e1) rfl;have q8:=HQ.out.cell 8 (vI h.n0) rfl;have q9:=HQ.out.cell 9 (vI h.n1) rfl;have q10:=HQ.out.cell 10 (vI h.d0) rfl;have q11:=HQ.out.cell 11 (vI h.d1) rfl;have q12:=HQ.out.cell 12 (.int .u8 l.ph) rfl;have K:=HKK.out _ HR.out;clear hHeld
 go_wp2_with (refine AC (.tmp 3) rfl rfl rfl (HX0.out _ (HYC.out _ HR.out)) ?_)
 refine (HFF.out _ HR.out).mono ?_;rintro e' V5 ⟨rfl,hB⟩
 replace HR:=hid (HR.out.below hB);replace OW:=hid (OW.out.below hB);clear hB HFF q0 q1 q2 q3 q4 q5 q6 q7 q8 q9 q10 q11 q12 K HQ we
 by_cases hneg:X2<0
 ·have HX:=hid ((HK0.out (by rw [HK15.out (by omega)];decide)).trans (HK15.out (by omega)))
  have HBB:=hid (HYC.out _ HR.out).B;clear HR OW
  exact Ui
 have HFK:=hid (HK1.out (HK00.out (by omega)));obtain ⟨i0,hi,hz0,hz1,hz2⟩:=info_parts CU;have HO2:=hid (OW.out.alloc (.cells #[vI X1] 2))
 go_wp2_with (first | (at_builtin;(refine wpList_append_own_at _ rfl _ _ 23 rfl w8.heap.size 2 i0 (vI 0) 1 8 Tryz.underlying23 hi hz0 hz1 hz2 rfl (by decide) _ _ _ rfl HO2.out.o1.own ⟨V5.heap.size,0,none⟩ 1 1 [vI X1] rfl rfl (AY _ _ (by first | rfl | simp) _ _ _ rfl) (by intro u hu;simp at hu;subst hu;rfl) (by unfold maxLen;omega) (by omega) (by have:=HO2.out.bel.size;simpa using this) ?_);intro v1 w18 hown hgrow hnil hblk;have HO3:=hid ((HO2.out.app1 hown hgrow hblk).alloc (.cells #[vI X2] 2));clear hown hgrow hnil hblk) | (at_builtin;(refine wpList_append_own_at _ rfl _ _ 23 rfl w8.heap.size 2 i0 (vI 0) 1 8 Tryz.underlying23 hi hz0 hz1 hz2 rfl (by decide) _ _ _ rfl HO3.out.o2.own ⟨w18.heap.size,0,none⟩ 1 1 [vI X2] rfl rfl (AY _ _ (by first | rfl | simp) _ _ _ rfl) (by intro u hu;simp at hu;subst hu;rfl) (by unfold maxLen;omega) (by omega) (by have:=HO3.out.bel.size;simpa using this) ?_);intro v2 w19 hown hgrow hnil hblk))
 have HO4:=hid (HO3.out.app2 hown hgrow hblk);clear hown hgrow hnil hblk HO3
 go_roundw
 case rel=>exact ⟨k+1,by have:=HM.out;omega,by rw [← HM.out];go_num,by rw [HM.out,HXX.out.1],by rw [HM.out,HXX.out.2],by rw [HM.out];exact HFK.out,by rw [HM.out,HTT.out.1,HTT.out.2];exact HO4.out⟩
 case measure=>simp only [intOf];have:=HM.out;omega
def Adu (m:Nat) (B:World) (i t:Value) (wr:World):Prop:=∃ k:Nat,k<=m∧t=vI (k:Int)∧BoxS B 0 [] wr
theorem TW (A B:Option Addr) (m c d:Nat) (l:List Int) (w:World) (ha:Ints w A m l) (hb:Ints w B m l) (hn:m<=maxLen):Calls Tryz.prog 12 #[.slice A m c,.slice B m d] w fun e w'=>e=.returned (.bool true)∧Below w.heap.size w w':=by
 have P:=hid ha;have Q:=hid hb
 unfold maxLen at hn
 clear ha hb
 go_enter Tryz.func12,Tryz.ntmps12
 go_wp2_with fail
 go_loopw [5,13] (fun i t wr=>Adu m w i t wr) (fun _ t _=>m - (intOf t).toNat)
 case atStart=>exact ⟨0,by omega,rfl,Vn _⟩
 case round =>
 obtain ⟨k,hk,rfl,hs⟩:=hrel;have HR:=hid hs;clear hs
 by_cases hlt:k<m
 rotate_left
 ·have hlt':¬ (k:Int)<(m:Int):=by omega
  go_wp2_with fail
  go_ret
  exact ⟨rfl,HR.out.B⟩
 obtain ⟨x,hx⟩:=Am P.out.len hlt;obtain ⟨b,off,hA,hb,hc⟩:=P.out.cells (by omega);obtain ⟨b2,o2,hA2,hb2,hc2⟩:=Q.out.cells (by omega);have FA:=fun W (h:BoxS w 0 [] W)=>And.intro (show W.cell? ⟨b,off+k,none⟩=some (vI x) from (h.B.cell (p:=⟨b,off+k,none⟩) hb).trans (hc k x hx)) (show W.cell? ⟨b2,o2+k,none⟩=some (vI x) from (h.B.cell (p:=⟨b2,o2+k,none⟩) hb2).trans (hc2 k x hx))
 have i0:(0:Int)<=(k:Int):=by omega
 have i1:(k:Int)<(m:Int):=by omega
 rw [hA,hA2]
 clear hA hA2 hc hc2 hx hb hb2
 go_wp2_with fail
 refine rS (fun W=>BoxS w 0 [] W) 9 HR.out.drew (fun hHeld=>?_)
 repeat (first | refine rQ ?_ | refine rF ?_)
 refine rD ?_
 go_wp2_with fail
 go_roundw
 case rel=>exact ⟨k+1,by omega,by go_num,hHeld⟩
 case measure=>exact zMs
theorem Mi {α:Type} {f:α→List Value} {sz:Nat} (hf:∀ x,(f x).length=sz) {j:Nat} (hj:j<sz) {x x':α} {v:Value} (hx:f x'=(f x).set j v):∀ (l:List α) (k:Nat),l[k]? = some x→(l.flatMap f).set (k * sz+j) v=(l.set k x').flatMap f
 | [],k,h=>by simp at h
 | y :: l,0,h=>by
  injection h with h
  subst h
  rw [List.set_cons_zero,List.flatMap_cons,List.flatMap_cons,hx,Nat.zero_mul,Nat.zero_add,List.set_append_left _ _ (by rw [hf];exact hj)]
 | y :: l,k+1,h=>by
  rw [List.set_cons_succ,List.flatMap_cons,List.flatMap_cons,← Mi hf hj hx l k h,List.set_append_right _ _ (by rw [hf,Nat.succ_mul];omega)]
  congr 2
  rw [hf,Nat.succ_mul];omega
theorem flZ {G:Prop} (h:G:=by
 have c0:=H7.out.cell 0 _ rfl;have c1:=H7.out.cell 1 _ rfl;have c2:=H7.out.cell 2 _ rfl;have c3:=H7.out.cell 3 _ rfl
 go_wp2_with (refine AC (.tmp 3) rfl rfl rfl (HX0.out _ HS.out) ?_)
 refine (HXF.out _ HS.out _ HP.out).mono ?_;rintro e1 V1 ⟨A1,k1,A2,k2,rfl,i1,i2,hB⟩
 have I1:=hid i1;have I2:=hid i2;replace HS:=hid (HS.out.below hB);replace HP:=hid (HP.out.below hB);replace H7:=hid (H7.out.below hB);clear hB HXF i1 i2 c0 c1 c2 c3;have c0:=H7.out.cell 0 _ rfl;have c1:=H7.out.cell 1 _ rfl;have c2:=H7.out.cell 2 _ rfl;have c3:=H7.out.cell 3 _ rfl
 go_wp2_with (refine AC (.tmp 3) rfl rfl rfl (HX0.out _ HS.out) ?_)
 refine (HRF.out _ HS.out _ HP.out).mono ?_;rintro e1 V2 ⟨A3,k3,A4,k4,rfl,i3,i4,hB⟩
 have I3:=hid i3;have I4:=hid i4;replace HS:=hid (HS.out.below hB);replace I1:=hid (I1.out.below hB);replace I2:=hid (I2.out.below hB);clear hB HRF i3 i4 c0 c1 c2 c3 HP H7
 have hM:okN (CX s PS ws) s.no.length<=maxLen:=by have:=HMX.out;unfold okN;split;exact this;exact Nat.zero_le _
 generalize okN (CX s PS ws) s.no.length=M at *;generalize okL (CX s PS ws) (DY s PS ws)=L1 at *;generalize okL (CX s PS ws) (DX s PS ws)=L2 at *;generalize CX s PS ws=E at *
 go_wp2_with fail
 refine (TW _ _ _ _ _ L1 _ I1.out I3.out hM).mono ?_;rintro e1 V3 ⟨rfl,hB⟩
 replace HS:=hid (HS.out.below hB);replace I2:=hid (I2.out.below hB);replace I4:=hid (I4.out.below hB);clear hB
 go_wp2_with fail
 refine (TW _ _ _ _ _ L2 _ I2.out I4.out hM).mono ?_;rintro e1 V4 ⟨rfl,hB⟩
 have HB:=hid (HS.out.below hB).B;clear hB
 go_wp2_with fail
 go_ret
 exact ⟨rfl,HB.out⟩):G:=h
theorem walk_PredictFlies (s:Stp) (C:Option Addr) (nw cw:Nat) (ws:List (Int × Int)) (x:Int) (w:World) (hl:s.lies w) (hok:s.ok) (hsw:AbQ s) (hw:Pairs w C nw ws) (_:∀ x ∈ ws,OA x) (hnw:nw<=maxLen) (_:nw * 16<=reachBytes) (hx:(Lit.int .i64 x).wf=true):Calls Tryz.prog 4 #[.agg s.cells.toArray,.slice C nw cw,vI x] w fun e w'=>e=.returned (.bool true)∧Below w.heap.size w w':=by
 have HS:=hid (DR w s.cells.toArray 35);have HAW:=hid YI;have HX0:=hid (fun W (h:BoxS w 1 [s.cells] W)=>show Has W w.heap.size s.cells from h.has 0 _ rfl);have HR:=hid (fun W (h:BoxS w 1 [s.cells] W)=>AfD s W (hl.below h.B) hok hsw.cap.le);have HXG:=hid (fun A n c X Y BB ps (hn:n<=maxLen) W (h:BoxS w 1 [s.cells] W) (hp:Passes W A n ps)=>AeN s A C n c nw cw X Y BB ps ws W (hl.below h.B) hok hp (hw.below h.B) hn hnw);have HRG:=hid (fun A n c X Y BB ps (hn:n<=maxLen) W (h:BoxS w 1 [s.cells] W) (hp:Passes W A n ps)=>AfA s A C n c nw cw X Y BB ps ws W (hl.below h.B) hok hp (hw.below h.B) hn hnw);have HMX:=hid (show s.no.length<=maxLen from by rw [(StN.of hl).no];exact hok.no);have hxb:=Az hx;clear hl hok hsw hw hnw hx
 go_enter Tryz.func4,Tryz.ntmps4
 go_wp2_with fail
 refine (HAW.out _).mono ?_;rintro e' w1 ⟨rfl,hB⟩
 replace HS:=hid (HS.out.below hB);clear hB HAW
 go_wp2_with (refine AC (.tmp 3) rfl rfl rfl (HX0.out _ HS.out) ?_)
 have HSB:=hid HS.out.sz
 refine (HR.out _ HS.out).mono ?_;rintro e' w2 ⟨PS,n,A,c,X,Y,BB,ER,rfl,hP,hn,hB,hO⟩
 replace HS:=hid ((HS.out.below hB).alloc (.cells #[.slice A n c,vI X,vI Y,.bool BB] 46));have H7:=hid (Has.new w2 #[.slice A n c,vI X,vI Y,.bool BB] 46);have HP:=hid (hP.below (Aa w2 (.cells #[.slice A n c,vI X,vI Y,.bool BB] 46)));have HSZ:=hid (show w.heap.size+1<=w2.heap.size from Nat.le_trans HSB.out hB.size);have HO:=hid (hO.alloc (.cells #[.slice A n c,vI X,vI Y,.bool BB] 46));have HGL:=hid (fun k (h:(Value.slice A n c).ownBlock=some k)=>hO.lt h);have HXF:=hid (fun W h ps hp=>HXG.out A n c X Y BB ps hn W h hp);have HRF:=hid (fun W h ps hp=>HRG.out A n c X Y BB ps hn W h hp);have hle:=Nat.ne_of_gt (HS.out.has 0 _ rfl).lt;have hn':=hn
 unfold maxLen at hn'
 have h7:=(HS.out.B.size);have hsz:w.heap.size+1<=w2.heap.size:=HSZ.out;clear hB hP hO HR HXG HRG hn hle h7
 go_upto_region 4 with fail
 generalize w2.heap.size=G7 at *;generalize w2.alloc (.cells #[.slice A n c,vI X,vI Y,.bool BB] 46)=w3 at *;have c0:=H7.out.cell 0 _ rfl
 by_cases hb:0<n∧0<x∧x<=n
 rotate_left
 ·clear HO c0
  by_cases b1:0<n
  ·by_cases b2:0<x
   ·have b3:¬ x<=(n:Int):=by omega
    exact flZ
   ·exact flZ
  ·have b5:¬ (0:Int)<(n:Int):=by omega
   exact flZ
 obtain ⟨b1,b2,b3⟩:=hb;obtain ⟨j,rfl⟩:∃ j:Nat,x=(j:Int)+1:=⟨(x - 1).toNat,by omega⟩;have hlen:=HP.out.len;obtain ⟨q,hq⟩:∃ q,PS[j]? = some q:=⟨_,AQ (by omega)⟩;have ho:=HO.out.own
 rw [hlen] at ho
 obtain ⟨g,cap,hv,-,-⟩:=ho.form (by omega)
 injection hv with hv1 _ hv2
 subst hv1 hv2;have OW:=hid ho;clear ho;have hgl:=HGL.out g rfl;have hsb:=HSB.out
 have HV:=hid (show Passes (w3.setCell ⟨g,j * 13+1,none⟩ (vI (wrap64 (q.cas+7)))) (some ⟨g,0,none⟩) n (PS.set j { q with cas:=wrap64 (q.cas+7) }) from by
  have h:=(OW.out.stored (j * 13+1) (vI (wrap64 (q.cas+7)))).1
  rw [Mi (f:=Pass.cells) (sz:=13) (fun _=>rfl) (j:=1) (by decide) (x:=q) (x':={ q with cas:=wrap64 (q.cas+7) }) rfl PS j hq] at h
  exact Recs.of_own (f:=Pass.cells) (sz:=13) (fun _=>rfl) (by rw [List.length_set];exact hlen) h)
 have cc:w3.cell? ⟨g,j * 13+1,none⟩=some (vI q.cas):=by
  rw [OW.out.cellAt (j * 13+1) (by omega)]
  exact DU (f:=Pass.cells) (sz:=13) (fun _=>rfl) (j:=1) (x:=q) rfl _ j hq
 have fr:=OW.out.frozenAt
 have y1:IntKind.i64.wrap ((j:Int)+1 - 1)=(j:Int):=by rw [(iW _)];omega
 have y2:(0:Int)<=(j:Int):=by omega
 have y3:(j:Int)<(n:Int):=by omega
 replace HS:=hid (HS.out.set g (j * 13+1) (by omega) (vI (wrap64 (q.cas+7))));replace H7:=hid (H7.out.other g (j * 13+1) (vI (wrap64 (q.cas+7))) (by omega));clear HO HP hsb hgl HGL HSB HSZ hq OW
 go_upto_region 7 with fail
 clear cc fr y1 y2 y3 c0;obtain ⟨PS,hps⟩:∃ PS,Passes (w3.setCell ⟨g,j * 13+1,none⟩ (vI (wrap64 (q.cas+7)))) (some ⟨g,0,none⟩) n PS:=⟨_,HV.out⟩;have HP:=hid hps;clear hps HV;generalize World.setCell _ _ _=w4 at *
 exact flZ
