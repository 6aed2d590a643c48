/- M21: OpenSu, Pr6 in one text. -/
import Derived.Test.YtheepmnhpclimaaGreatM28
import Derived.Test.YtheepmnhpclimaaGreatM14
import Derived.Test.YtheepmnhpclimaaGreatM7
import Derived.RegionTactic
import Derived.Test.YtheepmnhpclimaaGreatM37
namespace Go.Proofs.YtheepmnhpclimaaGreat
set_option maxRecDepth 100000
set_option maxHeartbeats 8000000
set_option linter.unusedSimpArgs false
set_option linter.unusedVariables false
open Go.RowKit
open Go.Lib (hid)
def AltP (s:Stp) (w:World) (e:Ending) (w':World):Prop:=∃ A c,e=.returned (.tuple #[.slice A (okN (altE s) s.no.length) c,.agg #[vI (altC s).1,vI (altC s).2],vI (altE s)])∧Ints w' A (okN (altE s) s.no.length) (okL (altE s) (altL s))∧Below w.heap.size w w'
theorem altP_err {s:Stp} {w w':World} {x y E:Int} (hE:altE s=E) (h0:E≠0) (hx:altC s=(x,y)) (hb:Below w.heap.size w w'):AltP s w (.returned (.tuple #[.slice none 0 0,.agg #[vI x,vI y],vI E])) w':=by
 unfold AltP
 rw [hE,hx]
 unfold okN okL
 rw [if_neg h0,if_neg h0]
 exact ⟨none,0,rfl,Ints.nil w',hb⟩
def AlrRel (s:Stp) (w w1:World) (g n:Nat) (t:Value) (wr:World):Prop:=∃ k:Nat,k≤n∧t=vI (k:Int)∧BoxS w 2 [s.cells,(lz2 0 0)] wr∧RowF w1 g n (Cs.lowF (awL s) (List.replicate n s.lv) k) wr
theorem RowF.below {w0 w w':World} {g n:Nat} {F:Nat→Int × Int} (h:RowF w0 g n F w) (hb:Below w.heap.size w w'):RowF w0 g n F w' :=
 ⟨fun j hj=>(hb.cell (p:=⟨g,j * 2,none⟩) h.lt).trans (h.lo j hj),fun j hj=>(hb.cell (p:=⟨g,j * 2+1,none⟩) h.lt).trans (h.hi j hj),fun o=>(hb.frozen (p:=⟨g,o,none⟩) h.lt).trans (h.fr o),Nat.lt_of_lt_of_le h.lt hb.size,h.ge,bel_trans h.bel hb⟩
theorem cell_same {W:World} {a p:Addr} {v u:Value} (hv:W.cell? a=some v) (h:W.cell? p=some u):(W.setCell a v).cell? p=some u:=by
 by_cases e:a=p
 ·subst e;rw [World.cell?_setCell_same _ _ _ hv];rw [hv] at h;exact h
 ·rw [World.cell?_setCell_other _ a p v e];exact h
theorem Ints.same {W:World} {A:Option Addr} {n:Nat} {l:List Int} {a:Addr} {v:Value} (h:Ints W A n l) (hv:W.cell? a=some v):Ints (W.setCell a v) A n l :=
 ⟨h.len,fun hn=>by
  obtain ⟨b,off,h1,h2,h3⟩:=h.cells hn
  exact ⟨b,off,h1,by simpa [World.setCell] using h2,fun k x hk=>cell_same hv (h3 k x hk)⟩⟩
theorem altE_of {s:Stp} (h:suE s=0):altE s=crE (awL s) (stpL s) s.lv:=by unfold altE;rw [if_neg (by rw [h];decide)]
theorem altC_of {s:Stp} (h:suE s=0):altC s=if crE (awL s) (stpL s) s.lv=0 then (0,0) else hdC (Cs.confL (awC s) (stpL s)):=by unfold altC;rw [if_neg (by rw [h];decide)]
theorem okL_0 {α:Type} (l:List α):okL 0 l=l:=if_pos rfl
theorem okN_0 (n:Nat):okN 0 n=n:=if_pos rfl
theorem xPAltitudes (s:Stp) (w:World) (hl:s.lies w) (hok:s.ok):Calls Tryz.prog 9 #[.agg s.cells.toArray] w (AltP s w):=by
 have HS:=hid (boxS2 w s.cells.toArray #[vI 0,vI 0] 35 38);have HC:=hid (fun W (h:BoxS w 2 [s.cells,(lz2 0 0)] W)=>xPSteps s W (hl.below h.B) hok);have HCF:=hid (fun W (h:BoxS w 2 [s.cells,(lz2 0 0)] W)=>show (W.cell? ⟨w.heap.size+1,0,none⟩=some (vI 0)∧W.cell? ⟨w.heap.size+1,1,none⟩=some (vI 0))∧∀ o,W.frozen? ⟨w.heap.size+1,o,none⟩=false from ⟨⟨h.at 1 _ rfl 0 _ rfl,h.at 1 _ rfl 1 _ rfl⟩,h.fr 1 _ rfl⟩)
 by_cases hE:suE s=0
 rotate_left
 ·have HE:=hid (show altE s=suE s from if_pos hE)
  have HX:=hid (show altC s=(0,0) from if_pos hE);have e1:=beq_of hE;have e2:=bne_of e1;have H0:=hid hE;have hR:∀ {α:Type} (l:List α),okL (suE s) l=[]:=fun l=>if_neg hE;have hN:∀ n,okN (suE s) n=0:=fun n=>if_neg hE
  unfold PrRes at HC
  simp only [hN,hR] at HC
  generalize suE s=E at *;clear hl hok hE hN hR
  go_enter Tryz.func9,Tryz.ntmps9
  go_wp2_with (refine at_stp (.tmp 1) rfl rfl rfl (HS.out.has 0 _ rfl) ?_)
  refine (HC.out _ HS.out).mono ?_;rintro e' w1 ⟨A',c',rfl,_,_,hB⟩
  replace HS:=hid (HS.out.below hB);obtain ⟨⟨z0,z1⟩,zf⟩:=HCF.out _ HS.out;clear hB
  go_wp2_with fail
  exact bodyPost_ret (v:=.tuple #[.slice none 0 0,.agg #[vI 0,vI 0],vI E]) (by simp [results,Tryz.results9,go_sem,z0,z1]) rfl (altP_err HE.out H0.out HX.out ((HS.out.B.setCell (p:=⟨w.heap.size+1,0,none⟩) (by show w.heap.size≤w.heap.size+1;omega) _).setCell (p:=⟨w.heap.size+1,1,none⟩) (by show w.heap.size≤w.heap.size+1;omega) _))
 have G:=su_good hE;have N:=StN.of hl;have hn2:=no_len G N;have HAE:=hid (altE_of hE);have HAC:=hid (altC_of hE);have HLV:=hid (fun W (h:BoxS w 2 [s.cells,(lz2 0 0)] W)=>show W.cell? ⟨w.heap.size,29,none⟩=some (vI s.lv) from su_lv (h.has 0 _ rfl));have HW:=hid (fun W (h:BoxS w 2 [s.cells,(lz2 0 0)] W)=>xPWindows s W (hl.below h.B) hok G);have HGN:=hid (And.intro G N)
 rw [hE] at HC
 unfold PrRes at HC
 simp only [okL_0,okN_0] at HC
 clear hl hok hE G N
 go_enter Tryz.func9,Tryz.ntmps9
 go_wp2_with (refine at_stp (.tmp 1) rfl rfl rfl (HS.out.has 0 _ rfl) ?_)
 refine (HC.out _ HS.out).mono ?_;rintro e' w1 ⟨A1,c1,rfl,hP1,hcap1,hB⟩
 replace HS:=hid (HS.out.below hB);have HP1:=hid hP1;have HC1:=hid hcap1;have HSZ:=hid HS.out.sz;clear hB hP1 hcap1
 go_wp2_with (refine at_stp (.tmp 1) rfl rfl rfl (HS.out.has 0 _ rfl) ?_)
 refine (HW.out _ HS.out).mono ?_;rintro e' w2 ⟨g,cap,rfl,hown,hnc,hcm,hB⟩
 replace HS:=hid (HS.out.below hB);have HP2:=hid (HP1.out.below hB);have HR:=hid (RowF.of_own (w0:=w1) (awL_len s) hown hB)
 have hmx:s.no.length≤maxLen:=by unfold maxLen;omega
 have hgw:w.heap.size+2≤g:=Nat.le_trans HSZ.out (hown.lt g rfl).1;have k29:=HLV.out _ HS.out
 have HPR:=hid (show Pairs w2 (some ⟨g,0,none⟩) s.no.length (awL s) from by
  have h:=HR.out.pairs
  rwa [show (List.range s.no.length).map (fun j=>(awL s).getD j (0,0))=awL s from by
   refine List.ext_getElem? fun k=>?_
   rw [List.getElem?_map]
   by_cases hk:k<s.no.length
   ·rw [List.getElem?_range hk,awL_get hk]
    show some ((awL s).getD k (0,0))=_
    rw [List.getD_eq_getElem?_getD,awL_get hk];rfl
   ·rw [List.getElem?_eq_none (by simpa using hk),List.getElem?_eq_none (by rw [awL_len];omega)];rfl] at h)
 have HCR:=hid (xCruise (some ⟨g,0,none⟩) A1 s.no.length cap (s.no.length - 1) c1 (awL s) (stpL s) s.lv w2 HPR.out HP2.out (by omega) (by omega) HC1.out.le HC1.out.mx (fun h=>by cases h));clear hown hnc hB
 go_wp2_with fail
 rcases cr_011 HGN.out.1 HGN.out.2 with ⟨hz,hcl⟩ | ⟨hz,hcl⟩
 ·have HE0:=hid (HAE.out.trans hz)
  have HCC:=hid (HAC.out.trans (if_pos hz))
  refine (HCR.out).mono ?_;rintro e' w3 ⟨h1,_,hB⟩
  obtain ⟨A2,c2,rfl,hI⟩:=h1 hz;replace HS:=hid (HS.out.below hB);have HI:=hid hI;clear hB h1 hI hz hcl k29 HAE HAC HCR;obtain ⟨⟨z0,z1⟩,zf⟩:=HCF.out _ HS.out
  go_wp2_with fail
  exact bodyPost_ret (v:=.tuple #[.slice A2 s.no.length c2,.agg #[vI 0,vI 0],vI 0]) (by simp [results,Tryz.results9,go_sem,z0,z1]) rfl (by
   unfold AltP
   rw [HE0.out,HCC.out,okN_0,okL_0]
   exact ⟨A2,c2,rfl,(HI.out.same z0).same (cell_same z0 z1),(HS.out.B.setCell (p:=⟨w.heap.size+1,0,none⟩) (by show w.heap.size≤w.heap.size+1;omega) _).setCell (p:=⟨w.heap.size+1,1,none⟩) (by show w.heap.size≤w.heap.size+1;omega) _⟩)
 ·have HE1:=hid (HAE.out.trans hz)
  have HCC:=hid (HAC.out.trans (if_neg (by rw [hz];decide)))
  refine (HCR.out).mono ?_;rintro e' w3 ⟨_,h2,hB⟩
  have h2':=h2 (by rw [hz];decide)
  rw [hz] at h2'
  subst h2';replace HS:=hid (HS.out.below hB);replace HR:=hid (HR.out.below hB);have HCL:=hid hcl;clear hB h2 hz hcl k29 HAE HAC HCR HPR HP2 hmx;have HNN:=hid hn2;generalize hN:s.no.length=n at *;have HNL:=hid hN;clear hN
  go_wp2_with fail
  go_loopw [42] (fun t wr=>AlrRel s w w1 g n t wr) (fun t _=>n - (intOf t).toNat)
  case atStart=>exact ⟨0,by omega,rfl,HS.out,HR.out.congr fun j hj=>Cs.lowF_zero j⟩
  case round =>
   obtain ⟨k,hk,rfl,hs,hR⟩:=hrel;replace HS:=hid hs;replace HR:=hid hR;clear hs hR
   by_cases hlt:k<n
   ·have e1:=HR.out.hi k hlt
    rw [Cs.lowF_cells] at e1
    replace e1:wr.cell? ⟨g,k * 2+1,none⟩=some (vI (Cs.hi (awL s) k)):=e1;have E1:=hid e1;have FR:=hid (HR.out.fr);have hstep:=hid (low_step (ws:=awL s) (wish:=List.replicate n s.lv) (k:=k) (x:=s.lv) (by rw [List.getElem?_replicate,if_pos hlt]))
    have i1:(0:Int)≤(k:Int):=by omega
    have i2:(k:Int)<(n:Int):=by omega
    have hlt64:k<64:=by omega
    have HLT:=hid hlt;have HGW:=hid hgw;generalize Cs.hi (awL s) k=HH at *;clear e1 hlt hk hgw
    go_wp2_with fail
    have e1:wr.drew.cell? ⟨g,k * 2+1,none⟩=some (vI HH):=E1.out;have fr:wr.drew.frozen? ⟨g,k * 2+1,none⟩=false:=FR.out _;replace HR:=hid (HR.out.drew)
    refine held_start (S:=fun W=>BoxS w 2 [s.cells,(lz2 0 0)] W∧W.cell? ⟨w.heap.size,29,none⟩=some (vI s.lv)) 13 #[false,false,false,false,false,false,false,false,false,false,false,false,false] rfl rfl (by kernel_rfl) (⟨HS.out.drew,HLV.out _ HS.out.drew⟩) (fun hHeld=>?_)
    generalize wr.drew=w8 at *
    iterate 6 (refine hF (L:=_) (v:=?_) rfl rfl ?_ ?_;rotate_left;(intro W hW;go_simp;try with_reducible rfl);try simp only [Act.put,pa,pb,pc,setF])
    refine hL 7 52 (v:=?_) rfl rfl ?_ ?_
    rotate_left
    ·intro W hW
     go_simp;try with_reducible rfl
    (try simp only [Act.put,pa,pb,pc])
    refine hL 8 53 (v:=?_) rfl rfl ?_ ?_
    rotate_left
    ·intro W hW
     have kk:=hW.2;go_simp;try with_reducible rfl
    (try simp only [Act.put,pa,pb,pc])
    refine wpAnyH_ready (rs:=[6]) (by kernel_rfl) (by simp) ?_
    refine AllReadyH.cons (o:=_) rfl (fun K hK=>?_) AllReadyH.nil
    go_simp
    refine hK.out _ _ hHeld (fun _=>?_)
    clear hK K
    (try simp only [Act.put,pa,pb,pc])
    iterate 3 (refine hF (L:=_) (v:=?_) rfl rfl ?_ ?_;rotate_left;(intro W hW;go_simp;try with_reducible rfl);try simp only [Act.put,pa,pb,pc,setF])
    refine wpAnyH_ready (rs:=[12]) (by kernel_rfl) (by simp) ?_
    refine AllReadyH.cons (o:=_) rfl (fun K hK=>?_) AllReadyH.nil
    go_simp
    have hNew:=And.intro (hHeld.1.set g (k * 2+1) HGW.out (vI (min HH s.lv))) (HLV.out _ (hHeld.1.set g (k * 2+1) HGW.out (vI (min HH s.lv))))
    refine hK.out _ _ hNew (fun hHeld2=>?_)
    clear hK K hNew hHeld;have hHeld:=hHeld2;clear hHeld2
    (try simp only [Act.put,pa,pb,pc])
    refine wpAnyH_done (by kernel_rfl) ?_ _
    replace HR:=hid ((HR.out.setH HLT.out (min HH s.lv)).congr fun j _=>hstep.out j);replace HS:=hid hHeld.1;clear hHeld e1 fr E1 FR;generalize w8.setCell ⟨g,k * 2+1,none⟩ (vI (min HH s.lv))=w9 at *
    go_wp2_with fail
    go_roundw
    case rel=>exact ⟨k+1,by have:=HLT.out;omega,by go_num,HS.out,HR.out⟩
    case measure=>simp only [intOf];have:=HLT.out;omega
   ·have hkn:=hid (show k=n by omega)
    have hp:=HR.out.pairs
    rw [hkn.out] at hp
    have HP2:=hid (show Pairs wr (some ⟨g,0,none⟩) n (awC s) from by rw [awC_eq,awL_len,HNL.out];unfold Cs.lowL;rw [awL_len,HNL.out];exact hp);have HP3:=hid (HP1.out.below HR.out.bel);have HCO:=hid (xConflicts (some ⟨g,0,none⟩) A1 n cap (n - 1) c1 (awC s) (stpL s) wr HP2.out HP3.out (by unfold maxLen;omega) (by unfold maxLen;omega) HC1.out.le HC1.out.mx (awC_ok HGN.out.1 HGN.out.2).err HCL.out)
    have i2:¬ (k:Int)<(n:Int):=by have:=hkn.out;omega
    clear hp HP2 HP3 hlt hk hgw;generalize hdC (Cs.confL (awC s) (stpL s))=p at *
    go_wp2_with fail
    refine (HCO.out).mono ?_;rintro e' w4 ⟨rfl,hB⟩
    replace HS:=hid (HS.out.below hB);clear hB HCO
    go_wp2_with fail
    have HT:Hid (Has (w4.alloc (.cells #[vI p.1,vI p.2] 38)) w4.heap.size (lz2 p.1 p.2)):=hid (Has.new _ _ _);have hge:=HS.out.sz;replace HS:=hid (HS.out.alloc (.cells #[vI p.1,vI p.2] 38));generalize w4.alloc (.cells #[vI p.1,vI p.2] 38)=w5 at *;generalize w4.heap.size=HB5 at *
    refine held_start (S:=fun W=>Has W HB5 (lz2 p.1 p.2)) 5 #[false,false,false,false,false] rfl rfl (by kernel_rfl) (HT.out.drew) (fun hHeld=>?_)
    replace HS:=hid HS.out.drew;generalize w5.drew=w6 at *;obtain ⟨⟨z0,z1⟩,zf⟩:=HCF.out _ HS.out;have HB:=hid HS.out.B
    iterate 3 (refine hF (L:=_) (v:=?_) rfl rfl ?_ ?_;rotate_left;(intro W hW;have y0:=(show Has W HB5 (lz2 p.1 p.2) from hW).cell 0 _ rfl;have y1:=(show Has W HB5 (lz2 p.1 p.2) from hW).cell 1 _ rfl;clear hW;go_simp;try with_reducible rfl);try simp only [Act.put,pa,pb,pc,setF])
    refine wpAnyH_ready (rs:=[3]) (by kernel_rfl) (by simp) ?_
    refine AllReadyH.cons (o:=_) rfl (fun K hK=>?_) AllReadyH.nil
    go_simp
    have hNew:=((hHeld.other (w.heap.size+1) 0 (vI p.1) (by omega)).other (w.heap.size+1) 1 (vI p.2) (by omega))
    refine hK.out _ _ hNew (fun hHeld2=>?_)
    clear hK K hNew hHeld;have hHeld:=hHeld2;clear hHeld2
    (try simp only [Act.put,pa,pb,pc])
    refine hL 4 4 (v:=?_) rfl rfl ?_ ?_
    rotate_left
    ·intro W hW
     go_simp;try with_reducible rfl
    (try simp only [Act.put,pa,pb,pc])
    refine wpAnyH_done (by kernel_rfl) ?_ _
    clear hHeld
    go_wp2_with fail
    exact bodyPost_ret (v:=.tuple #[.slice none 0 0,.agg #[vI p.1,vI p.2],vI 11]) (by simp [results,Tryz.results9,go_sem,z0,z1]) rfl (altP_err HE1.out (by decide) HCC.out ((HB.out.setCell (p:=⟨w.heap.size+1,0,none⟩) (by show w.heap.size≤w.heap.size+1;omega) _).setCell (p:=⟨w.heap.size+1,1,none⟩) (by show w.heap.size≤w.heap.size+1;omega) _))
end Go.Proofs.YtheepmnhpclimaaGreat

