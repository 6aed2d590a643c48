
/- Layer 37: PredictFaster, the walk. -/
import Derived.Test.YtgneijdjlahgbaaGreatM20
import Derived.Test.YtgneijdjlahgbaaGreatM21
import Derived.Test.YtgneijdjlahgbaaGreatM3
import Derived.Test.YtgneijdjlahgbaaGreatM14
import Derived.RegionTactic
import Derived.BigRegion
import Derived.Deep.DeepCutAuto
import Derived.Deep.RegionHeld3
namespace Go.Proofs.YtgneijdjlahgbaaGreat
set_option maxRecDepth 100000
set_option maxHeartbeats 16000000
set_option linter.unusedSimpArgs false
set_option linter.unusedVariables false
open Go.RowKit
theorem RowI.set_other {w0 w:World} {g h n k:Nat} {G:Nat→Int} (hr:RowI w0 h n G w) (hne:g≠h) (hge:w0.heap.size≤g) (v:Value):RowI w0 h n G (w.setCell ⟨g,k,none⟩ v) :=
 ⟨fun j hj=>by rw [World.cell?_setCell_other w ⟨g,k,none⟩ ⟨h,j,none⟩ _ (by intro e;injection e with e;exact hne e)];exact hr.cell j hj,fun o=>by rw [World.frozen?_setCell];exact hr.fr o,by simpa [World.setCell] using hr.lt,hr.ge,hr.bel.setCell (p:=⟨g,k,none⟩) hge _⟩
def laMin (p q:List Int) (n:Nat):List Int:=(List.range n).map fun i=>min (p.getD i 0) (q.getD i 0)
def laMax (p q:List Int) (n:Nat):List Int:=(List.range n).map fun i=>max (p.getD i 0) (q.getD i 0)
theorem laMin_get {p q:List Int} {n i:Nat} (h:i<n):(laMin p q n)[i]? = some (min (p.getD i 0) (q.getD i 0)):=by unfold laMin;rw [List.getElem?_map,List.getElem?_range h];rfl
theorem laMax_get {p q:List Int} {n i:Nat} (h:i<n):(laMax p q n)[i]? = some (max (p.getD i 0) (q.getD i 0)):=by unfold laMax;rw [List.getElem?_map,List.getElem?_range h];rfl
theorem laMin_len (p q:List Int) (n:Nat):(laMin p q n).length=n:=by simp [laMin]
theorem laMax_len (p q:List Int) (n:Nat):(laMax p q n).length=n:=by simp [laMax]
structure Two (w0:World) (g h n:Nat) (F G:Nat→Int) (w:World):Prop where
 ne:g≠h
 a:RowI w0 g n F w
 b:RowI w0 h n G w
def TwoMk (w0:World) (n:Nat) (x y:Value) (w:World):Prop:=∃ g h:Nat,x=.slice (some ⟨g,0,none⟩) n n∧y=.slice (some ⟨h,0,none⟩) n n∧Two w0 g h n (fun _=>0) (fun _=>0) w
theorem Two.drew {w0 w:World} {g h n:Nat} {F G:Nat→Int} (x:Two w0 g h n F G w):Two w0 g h n F G w.drew:=⟨x.ne,x.a.drew,x.b.drew⟩
theorem Two.swap {w0 w:World} {g h n:Nat} {F G:Nat→Int} (x:Two w0 g h n F G w):Two w0 h g n G F w:=⟨fun e=>x.ne e.symm,x.b,x.a⟩
theorem Two.step {w0 w:World} {g h n k:Nat} {l m:List Int} {x y:Int} (t:Two w0 g h n (fillF l k) (fillF m k) w) (hk:k<n) (hx:l[k]? = some x) (hy:m[k]? = some y):Two w0 g h n (fillF l (k+1)) (fillF m (k+1)) ((w.setCell ⟨g,k,none⟩ (.int .i64 x)).setCell ⟨h,k,none⟩ (.int .i64 y)) :=
 ⟨t.ne,((t.a.set hk x).set_other (fun e=>t.ne e.symm) t.b.ge _).congr fun j _=>fillF_step hx j,((t.b.set_other t.ne t.a.ge _).set hk y).congr fun j _=>fillF_step hy j⟩
theorem two_made (w:World) (n:Nat) (t u:TypeId):Two w w.heap.size (w.heap.size+1) n (fun _=>0) (fun _=>0) ((w.alloc (.cells (madeCells #[.int .i64 0] n) t)).alloc (.cells (madeCells #[.int .i64 0] n) u)):=by
 have h1:=RowI.made n (Below.refl w.heap.size w) t
 have h2:=RowI.made (w0:=w) (w:=w.alloc (.cells (madeCells #[.int .i64 0] n) t)) n ((Below.refl _ w).alloc (Nat.le_refl _) _) u
 rw [show (w.alloc (.cells (madeCells #[.int .i64 0] n) t)).heap.size=w.heap.size+1 by simp] at h2
 exact ⟨by omega,h1.alloc _,h2⟩
def LtRel (w0:World) (g h n:Nat) (p q:List Int) (t:Value) (wr:World):Prop:=∃ k:Nat,k≤n∧t=.int .i64 k∧Two w0 g h n (fillF (laMin p q n) k) (fillF (laMax p q n) k) wr
theorem boxS0f (w:World):BoxS w 0 [] w:=⟨fun i cs hi=>by simp at hi,by simp,Below.refl _ _,by simp⟩
theorem la_le (p q:List Int) (n k:Nat):(laMin p q n).getD k 0≤(laMax p q n).getD k 0:=by
 by_cases h:k<n
 ·rw [getD_of_get (laMin_get h),getD_of_get (laMax_get h)];omega
 ·rw [List.getD_eq_getElem?_getD,List.getElem?_eq_none (by rw [laMin_len];omega),List.getD_eq_getElem?_getD,List.getElem?_eq_none (by rw [laMax_len];omega)];exact Int.le_refl _
theorem ft_le {s:Stp} (N:StN s) {al p q:List Int} (hpq:∀ k,p.getD k 0≤q.getD k 0) (h1:wtE s al p=0) (h2:wtE s al q=0) {k:Nat} (hk:k<s.no.length):((psP s al q k).tick≤(psP s al p k).tick∧(psP s al p k).tas≤(psP s al q k).tas)∧(psP s al q k).tl≤(psP s al p k).tl∧(psP s al q k).th≤(psP s al p k).th:=by
 have hs:suE s=0:=by
  unfold wtE at h1
  by_cases h:suE s=0
  ·exact h
  ·rw [if_pos h] at h1;exact absurd h1 h
 have f1:∀ {r:List Int},wtE s al r=0→fcE s al r=0∧psE s al r (s.no.length - 1)=0:=fun {r} hr=>by
  unfold wtE at hr
  rw [if_neg (by rw [hs];decide)] at hr
  by_cases h:fcE s al r=0
  ·rw [if_neg (by rw [h];decide)] at hr;exact ⟨h,hr⟩
  ·rw [if_pos h] at hr;exact absurd hr h
 obtain ⟨a1,a2⟩:=f1 h1
 obtain ⟨b1,b2⟩:=f1 h2
 exact faster (su_good hs) N (fc_good a1) (fc_good b1) (fun i _=>hpq i) k hk (psE_le (by omega) a2) (psE_le (by omega) b2)
def FtR (n:Nat) (B:World) (t:Value) (wr:World):Prop:=∃ k:Nat,k≤n∧t=.int .i64 (k:Int)∧BoxS B 0 [] wr
theorem ret_tt_ft {v:Bool} (h:v=true):Ending.returned (.bool v)=.returned (.bool true):=by rw [h]
theorem walk_PredictFaster (s:Stp) (Aa:Option Addr) (na ca:Nat) (al:List Int) (A:Option Addr) (nA cA:Nat) (p0:List Int) (B:Option Addr) (nB cB:Nat) (q0:List Int) (w:World) (hl:s.lies w) (hok:s.ok) (_:StpW s) (ha:Ints w Aa na al) (_:∀ x ∈ al,(Lit.int .i64 x).wf=true) (hna:na≤maxLen) (_:na * 8≤reachBytes) (hp:Ints w A nA p0) (hq:Ints w B nB q0) (hnA:nA≤maxLen) (hnB:nB≤maxLen) (zA:nA * 8≤reachBytes) (zB:nB * 8≤reachBytes):Calls Tryz.prog 6 #[.agg s.cells.toArray,.slice Aa na ca,.agg #[.slice A nA cA,.slice B nB cB]] w fun e w'=>e=.returned (.bool true)∧Below w.heap.size w w':=by
 have HS:=Lib.hid (boxS2 w s.cells.toArray #[.slice A nA cA,.slice B nB cB] 35 65)
 have HAW:=Lib.hid awake37
 have N:=StN.of hl
 obtain ⟨n,hn,hn1,hn2⟩:∃ n:Nat,min (nA:Int) (nB:Int)=(n:Int)∧n≤nA∧n≤nB:=⟨min nA nB,by omega,by omega,by omega⟩
 have HLE:=Lib.hid (fun h1 h2 k (hk:k<s.no.length)=>ft_le N (al:=al) (la_le p0 q0 n) h1 h2 hk)
 have hnm:n≤maxLen:=by omega
 have HW:=Lib.hid (fun W (h:BoxS w 2 [s.cells,[.slice A nA cA,.slice B nB cB]] W) A' c' r (hr:Ints W A' n r)=>xPWith s Aa A' na ca n c' al r W (hl.below h.B) hok (ha.below h.B) hr hna hnm)
 have HV:=Lib.hid hp
 have HU:=Lib.hid hq
 have HNO:=Lib.hid N.no
 have HNL:=Lib.hid hok.no
 unfold maxLen at hna hnA hnB hnm
 unfold reachBytes at zA zB
 have hmk:=run_make_row' (P:=Tryz.prog) 23 2 (.int .i64 0) 8 Tryz.underlying23 infoI64 rfl .i64 .i64 n (by omega) (by omega)
 clear hl hok ha hp hq hna N
 go_enter Tryz.func6,Tryz.ntmps6
 go_wp2_with fail
 refine (HAW.out _).mono ?_;rintro e' w1 ⟨rfl,hB⟩
 replace HS:=Lib.hid (HS.out.below hB)
 clear hB HAW
 have k0:=HS.out.at 1 _ rfl 0 _ rfl
 have k1:=HS.out.at 1 _ rfl 1 _ rfl
 go_upto_region 4 with fail
 go_cut [8,9] (fun s8 s9 wx=>TwoMk w1 n s8 s9 wx)
 case first =>
  go_region
  all_goals (go_wp2_with fail;go_meet;first | exact ⟨_,_,rfl,rfl,(two_made w1 n _ _).drew⟩ | exact ⟨_,_,rfl,rfl,(two_made w1 n _ _).swap.drew⟩)
 case rest =>
  clear hmk
  obtain ⟨g,h,rfl,rfl,hT⟩:=hcut
  have HT:=Lib.hid (Two.mk hT.ne (hT.a.congr fun j _=>fillF_zero (laMin p0 q0 n) j) (hT.b.congr fun j _=>fillF_zero (laMax p0 q0 n) j))
  clear hT
  go_wp2_with fail
  go_loopw [30] (fun t wr=>LtRel w1 g h n p0 q0 t wr) (fun t _=>n - (intOf t).toNat)
  case atStart=>exact ⟨0,by omega,rfl,HT.out⟩
  case round =>
   obtain ⟨k,hk,rfl,hT⟩:=hrel
   replace HT:=Lib.hid hT
   clear hT
   by_cases hlt:k<n
   ·obtain ⟨x,hx⟩:=get_ex (k:=k) HV.out.len (by omega)
    obtain ⟨y,hy⟩:=get_ex (k:=k) HU.out.len (by omega)
    obtain ⟨bv,ov,rfl,hbv,cx0⟩:=HV.out.cell hx
    obtain ⟨bu,ou,rfl,hbu,cy0⟩:=HU.out.cell hy
    have sx:=Lib.hid (show (laMin p0 q0 n)[k]? = some (min x y) by rw [laMin_get hlt,getD_of hx,getD_of hy])
    have sy:=Lib.hid (show (laMax p0 q0 n)[k]? = some (max x y) by rw [laMax_get hlt,getD_of hx,getD_of hy])
    have hb1:=HS.out.B.size
    have cx:=(HT.out.a.bel.cell (p:=⟨bv,ov+k,none⟩) (Nat.lt_of_lt_of_le hbv hb1)).trans ((HS.out.B.cell (p:=⟨bv,ov+k,none⟩) hbv).trans cx0)
    have cy:=(HT.out.a.bel.cell (p:=⟨bu,ou+k,none⟩) (Nat.lt_of_lt_of_le hbu hb1)).trans ((HS.out.B.cell (p:=⟨bu,ou+k,none⟩) hbu).trans cy0)
    have hlt0:w.heap.size+1<w1.heap.size:=HS.out.sz
    have l0:=(HT.out.a.bel.cell (p:=⟨w.heap.size+1,0,none⟩) hlt0).trans k0
    have l1:=(HT.out.a.bel.cell (p:=⟨w.heap.size+1,1,none⟩) hlt0).trans k1
    clear hx hy cx0 cy0
    have i0:(0:Int)≤(k:Int):=by omega
    have i1:(k:Int)<(n:Int):=by omega
    have i2:(k:Int)<(nA:Int):=by omega
    have i3:(k:Int)<(nB:Int):=by omega
    have d0:=HT.out.a.cell k hlt
    have d1:=HT.out.a.fr k
    have d2:=HT.out.b.cell k hlt
    have d3:=HT.out.b.fr k
    have dne:=HT.out.ne
    generalize fillF (laMin p0 q0 n) k k=Z0 at *
    generalize fillF (laMax p0 q0 n) k k=Z1 at *
    have n0:bv≠g:=by have:=HT.out.a.ge;omega
    have n1:bu≠g:=by have:=HT.out.a.ge;omega
    have n2:w.heap.size+1≠g:=by have:=HT.out.a.ge;omega
    have n3:bv≠h:=by have:=HT.out.b.ge;omega
    have n4:bu≠h:=by have:=HT.out.b.ge;omega
    have n5:w.heap.size+1≠h:=by have:=HT.out.b.ge;omega
    clear hb1 hlt0
    go_wp2_with fail
    go_region_held3 (fun w'=>w'.cell? ⟨w.heap.size+1,0,none⟩=some (.slice (some ⟨bv,ov,none⟩) nA cA)∧w'.cell? ⟨w.heap.size+1,1,none⟩=some (.slice (some ⟨bu,ou,none⟩) nB cB)∧w'.cell? ⟨bv,ov+k,none⟩=some (.int .i64 x)∧w'.cell? ⟨bu,ou+k,none⟩=some (.int .i64 y)) ((refine ⟨?_,?_,?_,?_⟩ <;> (simp only [World.cell?_drew];(repeat rw [World.cell?_setCell_other _ _ _ _ (by intro e;injection e with e;first | exact n0 e.symm | exact n1 e.symm | exact n2 e.symm | exact n3 e.symm | exact n4 e.symm | exact n5 e.symm)]);assumption))) (fail)
    all_goals
     go_wp2_with fail
     go_roundw
     case rel=>exact ⟨k+1,by omega,by go_num,(HT.out.step hlt sx.out sy.out).drew⟩
     case measure=>simp only [intOf];omega
   ·have hkn:=Lib.hid (show k=n by omega)
    have hT:=HT.out
    rw [hkn.out] at hT
    have IL:=Lib.hid (hT.a.ints (laMin_len p0 q0 n))
    have IH:=Lib.hid (hT.b.ints (laMax_len p0 q0 n))
    have HBR:=Lib.hid hT.a.bel
    replace HS:=Lib.hid (HS.out.below HBR.out)
    clear hT HT k0 k1
    go_wp2_with (refine at_stp (.tmp 3) rfl rfl rfl (HS.out.has 0 _ rfl) ?_)
    refine (HW.out _ HS.out _ _ _ IL.out).mono ?_;rintro e' w2 ⟨A1,c1,rfl,hP1,-,hB⟩
    replace HS:=Lib.hid (HS.out.below hB)
    replace IH:=Lib.hid (IH.out.below hB)
    have P1:=Lib.hid hP1
    clear hB hP1
    go_wp2_with (refine at_stp (.tmp 3) rfl rfl rfl (HS.out.has 0 _ rfl) ?_)
    refine (HW.out _ HS.out _ _ _ IH.out).mono ?_;rintro e' w3 ⟨A2,c2,rfl,hP2,-,hB⟩
    replace HS:=Lib.hid (HS.out.below hB)
    replace P1:=Lib.hid (P1.out.below hB)
    have P2:=Lib.hid hP2
    clear hB hP2 HW IL IH
    by_cases h1:wtE s al (laMin p0 q0 n)=0
    rotate_left
    ·have e1:=bne_of (beq_of h1)
     have e2:=beq_of h1
     rw [show okN (wtE s al (laMin p0 q0 n)) s.no.length=0 from if_neg h1]
     generalize wtE s al (laMin p0 q0 n)=E1 at *
     generalize wtE s al (laMax p0 q0 n)=E2 at *
     generalize okN E2 s.no.length=M2 at *
     go_wp2_with fail
     go_ret
     exact ⟨ret_tt_ft (by simp),HS.out.B⟩
    rw [h1] at P1 ⊢
    simp only [okN_0,okL_0] at P1 ⊢
    by_cases h2:wtE s al (laMax p0 q0 n)=0
    rotate_left
    ·have e1:=bne_of (beq_of h2)
     have e2:=beq_of h2
     rw [show okN (wtE s al (laMax p0 q0 n)) s.no.length=0 from if_neg h2]
     generalize wtE s al (laMax p0 q0 n)=E2 at *
     go_wp2_with fail
     all_goals (go_ret;exact ⟨ret_tt_ft (by simp),HS.out.B⟩)
    rw [h2] at P2 ⊢
    simp only [okN_0,okL_0] at P2 ⊢
    have HL:=Lib.hid (fun k (hk:k<s.no.length)=>HLE.out h1 h2 k hk)
    clear h1 h2 HLE
    have HGA:=Lib.hid (fun k (hk:k<s.no.length)=>wtL_get (s:=s) (al:=al) (sp:=laMin p0 q0 n) hk)
    have HGB:=Lib.hid (fun k (hk:k<s.no.length)=>wtL_get (s:=s) (al:=al) (sp:=laMax p0 q0 n) hk)
    generalize hNO:s.no.length=m at *
    have HM:=Lib.hid (show m≤9223372036854775807 from by have:=HNO.out;have:=HNL.out;unfold maxLen at this;omega)
    clear hNO
    have hm9:(m:Int)≤9223372036854775807:=by have:=HM.out;omega
    go_wp2_with fail
    go_loopw [97] (fun t wr=>FtR m w3 t wr) (fun t _=>m - (intOf t).toNat)
    case atStart=>exact ⟨0,by omega,rfl,boxS0f _⟩
    case round =>
     obtain ⟨k,hk,rfl,hs⟩:=hrel
     have HR:=Lib.hid hs
     clear hs
     by_cases hlt:k<m
     rotate_left
     ·have i1:¬ (k:Int)<(m:Int):=by omega
      go_wp2_with fail
      go_ret
      exact ⟨rfl,bel_trans HS.out.B HR.out.B⟩
     obtain ⟨bv,ov,rfl,hbv,hcv⟩:=P1.out.cells (by omega)
     obtain ⟨bu,ou,rfl,hbu,hcu⟩:=P2.out.cells (by omega)
     have hle:=HL.out k hlt
     have g1:=HGA.out k hlt
     have g2:=HGB.out k hlt
     have HCA:=Lib.hid (fun W (h:BoxS w3 0 [] W) j u hj=>(h.B.cell (p:=⟨bv,ov+k * 13+j,none⟩) hbv).trans (hcv k _ g1 j u hj))
     have HCB:=Lib.hid (fun W (h:BoxS w3 0 [] W) j u hj=>(h.B.cell (p:=⟨bu,ou+k * 13+j,none⟩) hbu).trans (hcu k _ g2 j u hj))
     clear hcv hcu hbv hbu g1 g2
     generalize psP s al (laMin p0 q0 n) k=a at *
     generalize psP s al (laMax p0 q0 n) k=b at *
     obtain ⟨⟨f1,f2⟩,f3,f4⟩:=hle
     have d1:decide (a.tick<b.tick)=false:=decide_eq_false (by omega)
     have d2:decide (b.tas<a.tas)=false:=decide_eq_false (by omega)
     have d3:decide (a.tl<b.tl)=false:=decide_eq_false (by omega)
     have d4:decide (a.th<b.th)=false:=decide_eq_false (by omega)
     clear f1 f2 f3 f4
     have i0:(0:Int)≤(k:Int):=by omega
     have i1:(k:Int)<(m:Int):=by omega
     go_wp2_with fail
     refine held_start (S:=fun W=>BoxS w3 0 [] W) 54 #[false,false,false,false,false,false,false,false,false,false,false,false,false,false,false,false,false,false,false,false,false,false,false,false,false,false,false,false,false,false,false,false,false,false,false,false,false,false,false,false,false,false,false,false,false,false,false,false,false,false,false,false,false,false] rfl rfl (by kernel_rfl) (HR.out.drew) (fun hHeld=>?_)
     refine hL 0 100 (v:=?_) rfl rfl ?_ ?_
     rotate_left
     ·intro W hW
      go_simp;try with_reducible rfl
     (try simp only [Act.put,pa,pb,pc])
     refine hL 1 101 (v:=?_) rfl rfl ?_ ?_
     rotate_left
     ·intro W hW
      go_simp;try with_reducible rfl
     (try simp only [Act.put,pa,pb,pc])
     refine hL 2 102 (v:=?_) rfl rfl ?_ ?_
     rotate_left
     ·intro W hW
      go_simp;try with_reducible rfl
     (try simp only [Act.put,pa,pb,pc])
     refine hL 3 103 (v:=?_) rfl rfl ?_ ?_
     rotate_left
     ·intro W hW
      go_simp;try with_reducible rfl
     (try simp only [Act.put,pa,pb,pc])
     refine hL 4 104 (v:=?_) rfl rfl ?_ ?_
     rotate_left
     ·intro W hW
      have kk:=show W.cell? ⟨bu,ou+k * 13+4,none⟩=some (.int .i64 b.tick) from HCB.out W hW 4 (.int .i64 b.tick) rfl;clear hW;go_simp;try with_reducible rfl
     (try simp only [Act.put,pa,pb,pc])
     refine hL 5 105 (v:=?_) rfl rfl ?_ ?_
     rotate_left
     ·intro W hW
      go_simp;try with_reducible rfl
     (try simp only [Act.put,pa,pb,pc])
     refine hL 6 106 (v:=?_) rfl rfl ?_ ?_
     rotate_left
     ·intro W hW
      go_simp;try with_reducible rfl
     (try simp only [Act.put,pa,pb,pc])
     refine hL 7 107 (v:=?_) rfl rfl ?_ ?_
     rotate_left
     ·intro W hW
      go_simp;try with_reducible rfl
     (try simp only [Act.put,pa,pb,pc])
     refine hL 8 108 (v:=?_) rfl rfl ?_ ?_
     rotate_left
     ·intro W hW
      go_simp;try with_reducible rfl
     (try simp only [Act.put,pa,pb,pc])
     refine hL 9 109 (v:=?_) rfl rfl ?_ ?_
     rotate_left
     ·intro W hW
      have kk:=show W.cell? ⟨bv,ov+k * 13+4,none⟩=some (.int .i64 a.tick) from HCA.out W hW 4 (.int .i64 a.tick) rfl;clear hW;go_simp;try with_reducible rfl
     (try simp only [Act.put,pa,pb,pc])
     refine hL 10 110 (v:=?_) rfl rfl ?_ ?_
     rotate_left
     ·intro W hW
      go_simp;try with_reducible rfl
     (try simp only [Act.put,pa,pb,pc])
     refine hL 11 111 (v:=?_) rfl rfl ?_ ?_
     rotate_left
     ·intro W hW
      go_simp;try with_reducible rfl
     (try simp only [Act.put,pa,pb,pc])
     refine hL 12 112 (v:=?_) rfl rfl ?_ ?_
     rotate_left
     ·intro W hW
      go_simp;try with_reducible rfl
     (try simp only [Act.put,pa,pb,pc])
     refine hL 13 113 (v:=?_) rfl rfl ?_ ?_
     rotate_left
     ·intro W hW
      go_simp;try with_reducible rfl
     (try simp only [Act.put,pa,pb,pc])
     refine hL 14 114 (v:=?_) rfl rfl ?_ ?_
     rotate_left
     ·intro W hW
      go_simp;try with_reducible rfl
     (try simp only [Act.put,pa,pb,pc])
     refine hL 15 115 (v:=?_) rfl rfl ?_ ?_
     rotate_left
     ·intro W hW
      go_simp;try with_reducible rfl
     (try simp only [Act.put,pa,pb,pc])
     refine hL 16 116 (v:=?_) rfl rfl ?_ ?_
     rotate_left
     ·intro W hW
      have kk:=show W.cell? ⟨bu,ou+k * 13+2,none⟩=some (.int .i64 b.tas) from HCB.out W hW 2 (.int .i64 b.tas) rfl;clear hW;go_simp;try with_reducible rfl
     (try simp only [Act.put,pa,pb,pc])
     refine hL 17 117 (v:=?_) rfl rfl ?_ ?_
     rotate_left
     ·intro W hW
      go_simp;try with_reducible rfl
     (try simp only [Act.put,pa,pb,pc])
     refine hL 18 118 (v:=?_) rfl rfl ?_ ?_
     rotate_left
     ·intro W hW
      go_simp;try with_reducible rfl
     (try simp only [Act.put,pa,pb,pc])
     refine hL 19 119 (v:=?_) rfl rfl ?_ ?_
     rotate_left
     ·intro W hW
      go_simp;try with_reducible rfl
     (try simp only [Act.put,pa,pb,pc])
     refine hL 20 120 (v:=?_) rfl rfl ?_ ?_
     rotate_left
     ·intro W hW
      go_simp;try with_reducible rfl
     (try simp only [Act.put,pa,pb,pc])
     refine hL 21 121 (v:=?_) rfl rfl ?_ ?_
     rotate_left
     ·intro W hW
      have kk:=show W.cell? ⟨bv,ov+k * 13+2,none⟩=some (.int .i64 a.tas) from HCA.out W hW 2 (.int .i64 a.tas) rfl;clear hW;go_simp;try with_reducible rfl
     (try simp only [Act.put,pa,pb,pc])
     refine hL 22 122 (v:=?_) rfl rfl ?_ ?_
     rotate_left
     ·intro W hW
      go_simp;try with_reducible rfl
     (try simp only [Act.put,pa,pb,pc])
     refine hL 23 123 (v:=?_) rfl rfl ?_ ?_
     rotate_left
     ·intro W hW
      go_simp;try with_reducible rfl
     (try simp only [Act.put,pa,pb,pc])
     refine hL 24 124 (v:=?_) rfl rfl ?_ ?_
     rotate_left
     ·intro W hW
      go_simp;try with_reducible rfl
     (try simp only [Act.put,pa,pb,pc])
     refine hL 25 125 (v:=?_) rfl rfl ?_ ?_
     rotate_left
     ·intro W hW
      go_simp;try with_reducible rfl
     (try simp only [Act.put,pa,pb,pc])
     refine hL 26 126 (v:=?_) rfl rfl ?_ ?_
     rotate_left
     ·intro W hW
      go_simp;try with_reducible rfl
     (try simp only [Act.put,pa,pb,pc])
     refine hL 27 127 (v:=?_) rfl rfl ?_ ?_
     rotate_left
     ·intro W hW
      go_simp;try with_reducible rfl
     (try simp only [Act.put,pa,pb,pc])
     refine hL 28 128 (v:=?_) rfl rfl ?_ ?_
     rotate_left
     ·intro W hW
      go_simp;try with_reducible rfl
     (try simp only [Act.put,pa,pb,pc])
     refine hL 29 129 (v:=?_) rfl rfl ?_ ?_
     rotate_left
     ·intro W hW
      go_simp;try with_reducible rfl
     (try simp only [Act.put,pa,pb,pc])
     refine hL 30 130 (v:=?_) rfl rfl ?_ ?_
     rotate_left
     ·intro W hW
      have kk:=show W.cell? ⟨bu,ou+k * 13+8,none⟩=some (.int .i64 b.tl) from HCB.out W hW 8 (.int .i64 b.tl) rfl;clear hW;go_simp;try with_reducible rfl
     (try simp only [Act.put,pa,pb,pc])
     refine hL 31 131 (v:=?_) rfl rfl ?_ ?_
     rotate_left
     ·intro W hW
      go_simp;try with_reducible rfl
     (try simp only [Act.put,pa,pb,pc])
     refine hL 32 132 (v:=?_) rfl rfl ?_ ?_
     rotate_left
     ·intro W hW
      go_simp;try with_reducible rfl
     (try simp only [Act.put,pa,pb,pc])
     refine hL 33 133 (v:=?_) rfl rfl ?_ ?_
     rotate_left
     ·intro W hW
      go_simp;try with_reducible rfl
     (try simp only [Act.put,pa,pb,pc])
     refine hL 34 134 (v:=?_) rfl rfl ?_ ?_
     rotate_left
     ·intro W hW
      go_simp;try with_reducible rfl
     (try simp only [Act.put,pa,pb,pc])
     refine hL 35 135 (v:=?_) rfl rfl ?_ ?_
     rotate_left
     ·intro W hW
      go_simp;try with_reducible rfl
     (try simp only [Act.put,pa,pb,pc])
     refine hL 36 136 (v:=?_) rfl rfl ?_ ?_
     rotate_left
     ·intro W hW
      have kk:=show W.cell? ⟨bv,ov+k * 13+8,none⟩=some (.int .i64 a.tl) from HCA.out W hW 8 (.int .i64 a.tl) rfl;clear hW;go_simp;try with_reducible rfl
     (try simp only [Act.put,pa,pb,pc])
     refine hL 37 137 (v:=?_) rfl rfl ?_ ?_
     rotate_left
     ·intro W hW
      go_simp;try with_reducible rfl
     (try simp only [Act.put,pa,pb,pc])
     refine hL 38 138 (v:=?_) rfl rfl ?_ ?_
     rotate_left
     ·intro W hW
      go_simp;try with_reducible rfl
     (try simp only [Act.put,pa,pb,pc])
     refine hL 39 139 (v:=?_) rfl rfl ?_ ?_
     rotate_left
     ·intro W hW
      go_simp;try with_reducible rfl
     (try simp only [Act.put,pa,pb,pc])
     refine hL 40 140 (v:=?_) rfl rfl ?_ ?_
     rotate_left
     ·intro W hW
      go_simp;try with_reducible rfl
     (try simp only [Act.put,pa,pb,pc])
     refine hL 41 141 (v:=?_) rfl rfl ?_ ?_
     rotate_left
     ·intro W hW
      go_simp;try with_reducible rfl
     (try simp only [Act.put,pa,pb,pc])
     refine hL 42 142 (v:=?_) rfl rfl ?_ ?_
     rotate_left
     ·intro W hW
      go_simp;try with_reducible rfl
     (try simp only [Act.put,pa,pb,pc])
     refine hL 43 143 (v:=?_) rfl rfl ?_ ?_
     rotate_left
     ·intro W hW
      go_simp;try with_reducible rfl
     (try simp only [Act.put,pa,pb,pc])
     refine hL 44 144 (v:=?_) rfl rfl ?_ ?_
     rotate_left
     ·intro W hW
      go_simp;try with_reducible rfl
     (try simp only [Act.put,pa,pb,pc])
     refine hL 45 145 (v:=?_) rfl rfl ?_ ?_
     rotate_left
     ·intro W hW
      have kk:=show W.cell? ⟨bu,ou+k * 13+9,none⟩=some (.int .i64 b.th) from HCB.out W hW 9 (.int .i64 b.th) rfl;clear hW;go_simp;try with_reducible rfl
     (try simp only [Act.put,pa,pb,pc])
     refine hL 46 146 (v:=?_) rfl rfl ?_ ?_
     rotate_left
     ·intro W hW
      go_simp;try with_reducible rfl
     (try simp only [Act.put,pa,pb,pc])
     refine hL 47 147 (v:=?_) rfl rfl ?_ ?_
     rotate_left
     ·intro W hW
      go_simp;try with_reducible rfl
     (try simp only [Act.put,pa,pb,pc])
     refine hL 48 148 (v:=?_) rfl rfl ?_ ?_
     rotate_left
     ·intro W hW
      go_simp;try with_reducible rfl
     (try simp only [Act.put,pa,pb,pc])
     refine hL 49 149 (v:=?_) rfl rfl ?_ ?_
     rotate_left
     ·intro W hW
      go_simp;try with_reducible rfl
     (try simp only [Act.put,pa,pb,pc])
     refine hL 50 150 (v:=?_) rfl rfl ?_ ?_
     rotate_left
     ·intro W hW
      go_simp;try with_reducible rfl
     (try simp only [Act.put,pa,pb,pc])
     refine hL 51 151 (v:=?_) rfl rfl ?_ ?_
     rotate_left
     ·intro W hW
      have kk:=show W.cell? ⟨bv,ov+k * 13+9,none⟩=some (.int .i64 a.th) from HCA.out W hW 9 (.int .i64 a.th) rfl;clear hW;go_simp;try with_reducible rfl
     (try simp only [Act.put,pa,pb,pc])
     refine hL 52 152 (v:=?_) rfl rfl ?_ ?_
     rotate_left
     ·intro W hW
      go_simp;try with_reducible rfl
     (try simp only [Act.put,pa,pb,pc])
     refine hL 53 153 (v:=?_) rfl rfl ?_ ?_
     rotate_left
     ·intro W hW
      go_simp;try with_reducible rfl
     (try simp only [Act.put,pa,pb,pc])
     refine wpAnyH_done (by kernel_rfl) ?_ _
     go_wp2_with fail
     go_roundw
     case rel=>exact ⟨k+1,by omega,by go_num,hHeld⟩
     case measure=>simp only [intOf];omega
end Go.Proofs.YtgneijdjlahgbaaGreat
