/- M35: BwW, TaH in one text. -/
import Derived.Test.YtgneijdjlahgbaaGreatM33
import Derived.Test.YtgneijdjlahgbaaGreatGd4
import Derived.Test.YtgneijdjlahgbaaGreatM32
import Derived.Test.YtgneijdjlahgbaaGreatM1
import Derived.Test.YtgneijdjlahgbaaGreatM14
import Derived.Test.YtgneijdjlahgbaaGreatPr3
import Derived.RegionTactic
import Derived.Test.YtgneijdjlahgbaaGreatM37
import Derived.Test.YtgneijdjlahgbaaGreatTpB
import Derived.Test.YtgneijdjlahgbaaGreatM15
namespace Go.Proofs.YtgneijdjlahgbaaGreat
set_option maxRecDepth 100000
set_option maxHeartbeats 16000000
set_option linter.unusedSimpArgs false
set_option linter.unusedVariables false
open Go.RowKit
theorem bw_at {s:Stp} (G:StG s) (N:StN s) (l:List Wea) (k:Nat):(-340≤gAt s.gr (elE s.gr) (bwPx s l k) (bwPy s l k) (bwAl s l k)∧gAt s.gr (elE s.gr) (bwPx s l k) (bwPy s l k) (bwAl s l k)≤340) ∧ -340≤gAt s.gr (elN s.gr) (bwPx s l k) (bwPy s l k) (bwAl s l k)∧gAt s.gr (elN s.gr) (bwPx s l k) (bwPy s l k) (bwAl s l k)≤340:=by
 have GG:=gd_good G.gr
 have hE:=hul_in GG N.gal (E:=elE s.gr) (px:=bwPx s l k) (py:=bwPy s l k) (alt:=bwAl s l k) (ax:=bwPx s l k) (bx:=bwPx s l k) (ay:=bwPy s l k) (by_:=bwPy s l k) (lo:=bwAl s l k) (hi:=bwAl s l k) (by omega) (by omega) (by omega)
 have hN:=hul_in GG N.gal (E:=elN s.gr) (px:=bwPx s l k) (py:=bwPy s l k) (alt:=bwAl s l k) (ax:=bwPx s l k) (bx:=bwPx s l k) (ay:=bwPy s l k) (by_:=bwPy s l k) (lo:=bwAl s l k) (hi:=bwAl s l k) (by omega) (by omega) (by omega)
 have bE:=hul_bd (E:=elE s.gr) (h:=hbx s.gr (bwPx s l k) (bwPy s l k) (bwPx s l k) (bwPy s l k) (bwAl s l k) (bwAl s l k)) (A := -340) (B:=340) (fun x y z=>elE_bd GG x y z)
 have bN:=hul_bd (E:=elN s.gr) (h:=hbx s.gr (bwPx s l k) (bwPy s l k) (bwPx s l k) (bwPy s l k) (bwAl s l k) (bwAl s l k)) (A := -340) (B:=340) (fun x y z=>elN_bd GG x y z)
 omega
theorem infoWindT:(Tryz.prog.info? 87).map (fun i=>(i.zero,i.size,i.bytes))=some (some (.agg #[.int .i64 0,.int .i64 0]),2,16):=by kernel_rfl
theorem boxS0w (w:World):BoxS w 0 [] w:=⟨fun i cs hi=>by simp at hi,by simp,Below.refl _ _,by simp⟩
def BwR (s:Stp) (l:List Wea) (B:World) (v t:Value) (wr:World):Prop:=∃ k:Nat,k+1≤s.no.length∧t=.int .i64 ((k+1:Nat):Int)∧BoxS B 0 [] wr∧Ow win 2 87 B.heap.size ((bwL s l).take k) v wr
def BwPo (s:Stp) (l:List Wea) (w:World) (e:Ending) (w':World):Prop:=∃ A c,e=.returned (.tuple #[.slice A (s.no.length - 1) c,.bool true])∧Pairs w' A (s.no.length - 1) (bwL s l)∧Below w.heap.size w w'
theorem xBWinds (s:Stp) (Lw:Option Addr) (nl cl:Nat) (l:List Wea) (w:World) (hl:s.lies w) (hok:s.ok) (hE:suE s=0) (hw:Recs Wea.cells 4 w Lw nl l) (hwo:∀ x ∈ l,x.ok) (hnl:nl≤maxLen):Calls Tryz.prog 17 #[.agg s.cells.toArray,.slice Lw nl cl] w (BwPo s l w):=by
 obtain ⟨i0,hi,hz0,hz1,hz2⟩:=info_parts infoWindT
 have HS:=Lib.hid (boxS1 w s.cells.toArray 35)
 have G:=su_good hE
 have N:=StN.of hl
 have hno:=N.no
 have hn2:=no_len G N
 obtain ⟨b,off,hA⟩:=su_A hl (by omega)
 have HNS:=Lib.hid (fun W (h:BoxS w 1 [s.cells] W)=>show W.cell? ⟨w.heap.size,0,none⟩=some (.slice (some ⟨b,off,none⟩) s.sno.n s.sno.c) from su_sl (h.has 0 _ rfl) hA)
 have HNV:=Lib.hid (fun W (h:BoxS w 1 [s.cells] W) k (hk:k<s.no.length)=>su_nd (hl.below h.B) hA hk)
 have HLV:=Lib.hid (fun W (h:BoxS w 1 [s.cells] W)=>show W.cell? ⟨w.heap.size,29,none⟩=some (.int .i64 s.lv) from su_lv (h.has 0 _ rfl))
 have HER:=Lib.hid (fun W (h:BoxS w 1 [s.cells] W)=>show W.cell? ⟨w.heap.size,24,none⟩=some (.int .i64 s.gr.er) from (h.has 0 _ rfl).cell 24 _ (stp_gr s 8 _ rfl))
 have HWC:=Lib.hid (fun (h0:0<nl)=>show ∃ bl ol,Lw=some ⟨bl,ol,none⟩∧∀ W,BoxS w 1 [s.cells] W→∀ k,k<nl→∀ j u,(weA l k).cells[j]? = some u→W.cell? ⟨bl,ol+k * 4+j,none⟩=some u from by
  obtain ⟨bl,ol,h1,h2,h3⟩:=hw.cells h0
  refine ⟨bl,ol,h1,fun W h k hk j u hj=>(h.B.cell (p:=⟨bl,ol+k * 4+j,none⟩) h2).trans ?_⟩
  have hx:=List.getElem?_eq_getElem (show k<l.length by have:=hw.len;omega)
  exact h3 k _ hx j u (by rw [← getD_of_get (d:=⟨0,0,0,0⟩) hx];exact hj))
 have HW0:=Lib.hid (fun k (hk:¬ k<nl)=>show weA l k=⟨0,0,0,0⟩ from by
  unfold weA
  rw [List.getD_eq_getElem?_getD,List.getElem?_eq_none (by have:=hw.len;omega)];rfl)
 have HWK:=Lib.hid (fun k=>weA_ok hwo k)
 have HND:=Lib.hid (fun k (hk:k<s.no.length)=>show NodG (nodA s k) from by
  have h:=List.getElem?_eq_getElem hk
  rw [nodA_of h]
  exact G.no k _ h)
 have HAT:=Lib.hid (fun W (h:BoxS w 1 [s.cells] W) px py alt h1 h2=>xGAt s.gr px py alt W (hl.below h.B).gr hok.gr G.gr h1 h2)
 have HIN:=Lib.hid (fun k (hk:k+1<s.no.length)=>show (-340≤gAt s.gr (elE s.gr) (bwPx s l k) (bwPy s l k) (bwAl s l k)∧gAt s.gr (elE s.gr) (bwPx s l k) (bwPy s l k) (bwAl s l k)≤340) ∧ -340≤gAt s.gr (elN s.gr) (bwPx s l k) (bwPy s l k) (bwAl s l k)∧gAt s.gr (elN s.gr) (bwPx s l k) (bwPy s l k) (bwAl s l k)≤340 from bw_at G N l k)
 have lv0:=G.lv
 have er0:=(gd_good G.gr).er
 have HNO:=Lib.hid hno
 have HLN:=Lib.hid (bwL_len s l)
 have i1:2≤s.sno.n:=by omega
 have i2:s.sno.n≤64:=by omega
 have i3:nl≤9223372036854775807:=by unfold maxLen at hnl;omega
 clear hl hok hE G N hno hn2 hA hw hwo hnl
 go_enter Tryz.func17,Tryz.ntmps17
 go_wp2_with fail
 generalize (w.alloc (.cells s.cells.toArray 35))=w6 at *
 have HY:=Lib.hid (fun W (h:BoxS w6 0 [] W)=>HS.out.below h.B)
 go_loopw [6,7] (fun v t wr=>BwR s l w6 v t wr) (fun _ t _=>s.sno.n - (intOf t).toNat)
 case atStart=>exact ⟨0,by have:=HNO.out;omega,rfl,boxS0w _,Ow.start _ _ _ _ _⟩
 case round =>
  obtain ⟨k,hk,rfl,hs,ho⟩:=hrel
  have HR:=Lib.hid hs
  have HO:=Lib.hid ho
  clear hs ho HS
  obtain ⟨m,hm⟩:∃ m,k+1=m:=⟨_,rfl⟩
  rw [hm]
  have Hm:=Lib.hid hm
  have hkm:(k:Int)+1=(m:Int):=by omega
  have k0:=HNS.out _ (HY.out _ HR.out)
  by_cases hlt:m<s.sno.n
  rotate_left
  ·have hlt':¬ (m:Int)<(s.sno.n:Int):=by omega
   have HL:=Lib.hid (show Ow win 2 87 w6.heap.size (bwL s l) _ wr from by have h:=HO.out;rwa [List.take_of_length_le (by have:=HLN.out;have:=HNO.out;omega)] at h)
   obtain ⟨A',c',hv,hD,-⟩:=HL.out.res (n:=s.no.length - 1) (show ∀ x:Int × Int,(win x).length=2 from fun _=>rfl) HLN.out
   subst hv
   have HB:=Lib.hid (HY.out _ HR.out).B
   have HD:=Lib.hid hD
   clear hD HL HO
   go_wp2_with fail
   go_ret2
   exact ⟨A',c',rfl,HD.out,HB.out⟩
  have hlt':(m:Int)<(s.sno.n:Int):=by omega
  have hk1:(k:Int)<(s.sno.n:Int):=by omega
  have hk0:(0:Int)≤(k:Int):=by omega
  have hm0:(0:Int)≤(m:Int):=by omega
  have hgm:IntKind.i64.wrap ((m:Int) - 1)=(k:Int):=by rw [show (m:Int) - 1=(k:Int) by omega];exact IntWalk.i64_in _ (by omega)
  have hg:IntKind.i64.wrap ((m:Int)+1)=(m:Int)+1:=IntWalk.i64_in _ (by omega)
  have hkn:k+1<s.no.length:=by have:=HNO.out;omega
  have gk:=HND.out k (by omega)
  have gm:=HND.out m (by omega)
  have gx:=gk.px
  have gy:=gk.py
  have hx:=gm.px
  have hy:=gm.py
  have HWX:=Lib.hid (HWK.out k)
  have HTK:=Lib.hid (bwL_take (l:=l) hkn)
  have hlen:((bwL s l).take k).length≤64:=by rw [List.length_take];omega
  have HVI:=Lib.hid (HIN.out k hkn)
  have HPX:=Lib.hid (show bwPx s l k=bwX (nodA s k).px (nodA s m).px ((weA l k).pa % 1001) from by rw [← hm];rfl)
  have HPY:=Lib.hid (show bwPy s l k=bwX (nodA s k).py (nodA s m).py ((weA l k).pa % 1001) from by rw [← hm];rfl)
  have HAL:=Lib.hid (show bwAl s l k=bwH s.lv ((weA l k).al % 1001) from rfl)
  have HBF:=Lib.hid (show bwF s l k=(gAt s.gr (elE s.gr) (bwPx s l k) (bwPy s l k) (bwAl s l k)+bwC (weA l k).me s.gr.er,gAt s.gr (elN s.gr) (bwPx s l k) (bwPy s l k) (bwAl s l k)+bwC (weA l k).mn s.gr.er) from rfl)
  have HNK:=Lib.hid (fun W (h:BoxS wr 0 [] W)=>HNV.out _ (HY.out _ (HR.out.below h.B)) k (by omega))
  have HNM:=Lib.hid (fun W (h:BoxS wr 0 [] W)=>HNV.out _ (HY.out _ (HR.out.below h.B)) m (by omega))
  have HYR:=Lib.hid (fun W (h:BoxS wr 0 [] W)=>HY.out _ (HR.out.below h.B))
  generalize (bwL s l).take k=LL at *
  generalize bwF s l k=ef at *
  clear gk gm hkn hm HIN
  by_cases hin:k<nl
  ·obtain ⟨bl,ol,rfl,hlc⟩:=HWC.out (by omega)
   have hin':(m:Int)≤(nl:Int):=by omega
   have hin2:(k:Int)<(nl:Int):=by omega
   have hlr:=fun j x hj=>hlc _ (HY.out _ (HR.out.alloc (.cells #[.int .u16 0,.int .u16 0,.int .i64 0,.int .i64 0] 108))) k hin j x hj
   have x0:(wr.alloc (.cells #[.int .u16 0,.int .u16 0,.int .i64 0,.int .i64 0] 108)).cell? ⟨bl,ol+k * 4,none⟩=some (.int .u16 (weA l k).pa):=hlr 0 _ rfl
   have x1:(wr.alloc (.cells #[.int .u16 0,.int .u16 0,.int .i64 0,.int .i64 0] 108)).cell? ⟨bl,ol+k * 4+1,none⟩=some (.int .u16 (weA l k).al):=hlr 1 _ rfl
   have x2:(wr.alloc (.cells #[.int .u16 0,.int .u16 0,.int .i64 0,.int .i64 0] 108)).cell? ⟨bl,ol+k * 4+2,none⟩=some (.int .i64 (weA l k).me):=hlr 2 _ rfl
   have x3:(wr.alloc (.cells #[.int .u16 0,.int .u16 0,.int .i64 0,.int .i64 0] 108)).cell? ⟨bl,ol+k * 4+3,none⟩=some (.int .i64 (weA l k).mn):=hlr 3 _ rfl
   clear hlr hlc hin
   have HS:=Lib.hid (boxS0w wr)
   have Q8:Hid (Has ((wr.alloc (.cells #[.int .u16 (weA l k).pa,.int .u16 (weA l k).al,.int .i64 (weA l k).me,.int .i64 (weA l k).mn] 108))) wr.heap.size [.int .u16 (weA l k).pa,.int .u16 (weA l k).al,.int .i64 (weA l k).me,.int .i64 (weA l k).mn]):=Lib.hid (Has.new _ _ _)
   have r8:wr.heap.size+0≤wr.heap.size:=HS.out.sz
   replace HS:=Lib.hid ((HS.out.alloc (.cells #[.int .u16 (weA l k).pa,.int .u16 (weA l k).al,.int .i64 (weA l k).me,.int .i64 (weA l k).mn] 108)))
   go_wp2_with fail
   clear k0 x0 x1 x2 x3
   generalize (wr.alloc (.cells #[.int .u16 (weA l k).pa,.int .u16 (weA l k).al,.int .i64 (weA l k).me,.int .i64 (weA l k).mn] 108))=w8 at *
   generalize wr.heap.size=H8 at *
   have HY8:=Lib.hid (fun W (h:BoxS w8 0 [] W)=>HS.out.below h.B)
   have HQ8:=Lib.hid (fun W (h:BoxS w8 0 [] W)=>Q8.out.below h.B)
   refine held_start (S:=fun W=>BoxS w8 0 [] W) 17 #[false,false,false,false,false,false,false,false,false,false,false,false,false,false,false,false,false] rfl rfl (by kernel_rfl) ((boxS0w w8).drew) (fun hHeld=>?_)
   iterate 13 (refine hF (L:=_) (v:=?_) rfl rfl ?_ ?_;rotate_left;(intro W hW;have y0:=HNS.out W (HYR.out W (HY8.out W hW));have y1:=(HNK.out W (HY8.out W hW)).1;have y2:=(HNK.out W (HY8.out W hW)).2.1;have y3:=(HNM.out W (HY8.out W hW)).1;have y4:=(HNM.out W (HY8.out W hW)).2.1;clear hW;go_simp;try with_reducible rfl);try simp only [Act.put,pa,pb,pc,setF])
   refine held_nameS ?_
   intro OPS QQ A0 SS hO hQ hA hSS
   have st_13_14:Hid (∀ (H9 H10:Nat) (W:World) (qH9:Has W H9 (lz2 0 0)) (rH9:w8.heap.size+0≤H9) (qH10:Has W H10 (lz2 0 0)) (rH10:w8.heap.size+0≤H10) (nH9H10:H9≠H10),SS W→wpAnyH Tryz.prog .any OPS QQ SS 2 #[true,true,true,true,true,true,true,true,true,true,true,true,true,true,true,false,false] ((A0.put (some 9) (.pointer (some ⟨H9,0,none⟩))).put (some 10) (.pointer (some ⟨H10,0,none⟩))) W):=by
    subst hO hQ hA hSS
    refine Lib.hid ?_
    intro H9 H10 W qH9 rH9 qH10 rH10 nH9H10 hHeld
    (try simp only [Act.put,pa,pb,pc])
    have fz:=qH9.fr
    have cz0:=qH9.cell 0 _ rfl
    have cz1:=qH9.cell 1 _ rfl
    refine wpAnyH_ready (rs:=[15]) (by kernel_rfl) (by simp) ?_
    refine AllReadyH.cons (o:=_) rfl (fun K hK=>?_) AllReadyH.nil
    go_simp
    have hs0:=hHeld
    have hs1:=(hs0.set H9 0 rH9 (.int .i64 (nodA s k).px))
    have hs2:=(hs1.set H9 1 rH9 (.int .i64 (nodA s k).py))
    have hNew:=hs2
    have pH9:Has ((W.setCell ⟨H9,0,none⟩ (.int .i64 (nodA s k).px)).setCell ⟨H9,1,none⟩ (.int .i64 (nodA s k).py)) H9 (lz2 ((nodA s k).px) ((nodA s k).py)):=((qH9.set 0 (.int .i64 (nodA s k).px) (by simp)).set 1 (.int .i64 (nodA s k).py) (by simp))
    have pH10:=((qH10.other H9 0 (.int .i64 (nodA s k).px) (by omega)).other H9 1 (.int .i64 (nodA s k).py) (by omega))
    refine hK.out _ _ hNew (fun hHeld2=>?_)
    clear hK K hNew fz hs0 hs1 hs2 cz0 cz1 qH9 qH10 hHeld
    have hHeld:=hHeld2
    clear hHeld2
    have qH9:=pH9
    have qH10:=pH10
    clear pH9 pH10
    (try simp only [Act.put,pa,pb,pc])
    generalize ((W.setCell ⟨H9,0,none⟩ (.int .i64 (nodA s k).px)).setCell ⟨H9,1,none⟩ (.int .i64 (nodA s k).py))=W1 at *
    have fz:=qH10.fr
    have cz0:=qH10.cell 0 _ rfl
    have cz1:=qH10.cell 1 _ rfl
    refine wpAnyH_ready (rs:=[16]) (by kernel_rfl) (by simp) ?_
    refine AllReadyH.cons (o:=_) rfl (fun K hK=>?_) AllReadyH.nil
    go_simp
    have hs0:=hHeld
    have hs1:=(hs0.set H10 0 rH10 (.int .i64 (nodA s m).px))
    have hs2:=(hs1.set H10 1 rH10 (.int .i64 (nodA s m).py))
    have hNew:=hs2
    have pH9:=((qH9.other H10 0 (.int .i64 (nodA s m).px) (by omega)).other H10 1 (.int .i64 (nodA s m).py) (by omega))
    have pH10:Has ((W1.setCell ⟨H10,0,none⟩ (.int .i64 (nodA s m).px)).setCell ⟨H10,1,none⟩ (.int .i64 (nodA s m).py)) H10 (lz2 ((nodA s m).px) ((nodA s m).py)):=((qH10.set 0 (.int .i64 (nodA s m).px) (by simp)).set 1 (.int .i64 (nodA s m).py) (by simp))
    refine hK.out _ _ hNew (fun hHeld2=>?_)
    clear hK K hNew fz hs0 hs1 hs2 cz0 cz1 qH9 qH10 hHeld
    have hHeld:=hHeld2
    clear hHeld2
    have qH9:=pH9
    have qH10:=pH10
    clear pH9 pH10
    (try simp only [Act.put,pa,pb,pc])
    generalize ((W1.setCell ⟨H10,0,none⟩ (.int .i64 (nodA s m).px)).setCell ⟨H10,1,none⟩ (.int .i64 (nodA s m).py))=W2 at *
    refine wpAnyH_done (by kernel_rfl) ?_ _
    have HH:=Lib.hid hHeld
    have Q9:=Lib.hid qH9
    have Q10:=Lib.hid qH10
    clear hHeld qH9 qH10 rH9 rH10 nH9H10
    have c8_0:W2.cell? ⟨H8,0,none⟩=some (.int .u16 (weA l k).pa):=(HQ8.out _ HH.out).cell 0 _ rfl
    have c8_1:W2.cell? ⟨H8,1,none⟩=some (.int .u16 (weA l k).al):=(HQ8.out _ HH.out).cell 1 _ rfl
    have c8_2:W2.cell? ⟨H8,2,none⟩=some (.int .i64 (weA l k).me):=(HQ8.out _ HH.out).cell 2 _ rfl
    have c8_3:W2.cell? ⟨H8,3,none⟩=some (.int .i64 (weA l k).mn):=(HQ8.out _ HH.out).cell 3 _ rfl
    have c9_0:=Q9.out.cell 0 (.int .i64 (nodA s k).px) rfl
    have c9_1:=Q9.out.cell 1 (.int .i64 (nodA s k).py) rfl
    have c10_0:=Q10.out.cell 0 (.int .i64 (nodA s m).px) rfl
    have c10_1:=Q10.out.cell 1 (.int .i64 (nodA s m).py) rfl
    have HHP:=Lib.hid (HH.out.alloc (.cells #[.int .i64 (bwPx s l k),.int .i64 (bwPy s l k)] 28))
    have klv:=HLV.out _ (HYR.out _ (HY8.out _ HHP.out))
    have c8_1':(W2.alloc (.cells #[.int .i64 (bwPx s l k),.int .i64 (bwPy s l k)] 28)).cell? ⟨H8,1,none⟩=some (.int .u16 (weA l k).al):=(HQ8.out _ HHP.out).cell 1 _ rfl
    have hpa:=HWX.out.pa
    have hal:=HWX.out.al
    have hme:=HWX.out.me
    have hmn:=HWX.out.mn
    have t1:((weA l k).pa).tmod 1001=((weA l k).pa) % 1001:=Int.tmod_eq_emod_of_nonneg (by omega)
    have t2:((weA l k).al).tmod 1001=((weA l k).al) % 1001:=Int.tmod_eq_emod_of_nonneg (by omega)
    have m1:=mod1001 ((weA l k).pa)
    have m2:=mod1001 ((weA l k).al)
    have t3:IntKind.u16.wrap (((weA l k).pa) % 1001)=((weA l k).pa) % 1001:=IntWalk.u16_in _ (by omega)
    have t4:IntKind.u16.wrap (((weA l k).al) % 1001)=((weA l k).al) % 1001:=IntWalk.u16_in _ (by omega)
    have t5:IntKind.i64.wrap (((weA l k).pa) % 1001)=((weA l k).pa) % 1001:=IntWalk.i64_in _ (by omega)
    have t6:IntKind.i64.wrap (((weA l k).al) % 1001)=((weA l k).al) % 1001:=IntWalk.i64_in _ (by omega)
    have x1:=bw_mul (a:=(nodA s k).px) (k:=1000 - (((weA l k).pa) % 1001)) (by omega) (by omega) (by omega) (by omega)
    have x2:=bw_mul (a:=(nodA s m).px) (k:=(((weA l k).pa) % 1001)) (by omega) (by omega) (by omega) (by omega)
    have x3:IntKind.i64.wrap ((nodA s k).px * (1000 - (((weA l k).pa) % 1001)))=(nodA s k).px * (1000 - (((weA l k).pa) % 1001)):=IntWalk.i64_in _ (by omega)
    have x4:IntKind.i64.wrap ((nodA s m).px * (((weA l k).pa) % 1001))=(nodA s m).px * (((weA l k).pa) % 1001):=IntWalk.i64_in _ (by omega)
    have x5:IntKind.i64.wrap ((nodA s k).px * (1000 - (((weA l k).pa) % 1001))+(nodA s m).px * (((weA l k).pa) % 1001))=(nodA s k).px * (1000 - (((weA l k).pa) % 1001))+(nodA s m).px * (((weA l k).pa) % 1001):=IntWalk.i64_in _ (by omega)
    have x7:=bwX_in (a:=(nodA s k).px) (b:=(nodA s m).px) m1.1 m1.2
    have x6:IntKind.i64.wrap (((nodA s k).px * (1000 - (((weA l k).pa) % 1001))+(nodA s m).px * (((weA l k).pa) % 1001)).tdiv 1000)=bwPx s l k:=by rw [HPX.out];exact IntWalk.i64_in _ (by unfold bwX at x7;omega)
    have x8 : -2000000≤bwPx s l k∧bwPx s l k≤2000000:=by rw [HPX.out];omega
    have y1:=bw_mul (a:=(nodA s k).py) (k:=1000 - (((weA l k).pa) % 1001)) (by omega) (by omega) (by omega) (by omega)
    have y2:=bw_mul (a:=(nodA s m).py) (k:=(((weA l k).pa) % 1001)) (by omega) (by omega) (by omega) (by omega)
    have y3:IntKind.i64.wrap ((nodA s k).py * (1000 - (((weA l k).pa) % 1001)))=(nodA s k).py * (1000 - (((weA l k).pa) % 1001)):=IntWalk.i64_in _ (by omega)
    have y4:IntKind.i64.wrap ((nodA s m).py * (((weA l k).pa) % 1001))=(nodA s m).py * (((weA l k).pa) % 1001):=IntWalk.i64_in _ (by omega)
    have y5:IntKind.i64.wrap ((nodA s k).py * (1000 - (((weA l k).pa) % 1001))+(nodA s m).py * (((weA l k).pa) % 1001))=(nodA s k).py * (1000 - (((weA l k).pa) % 1001))+(nodA s m).py * (((weA l k).pa) % 1001):=IntWalk.i64_in _ (by omega)
    have y7:=bwX_in (a:=(nodA s k).py) (b:=(nodA s m).py) m1.1 m1.2
    have y6:IntKind.i64.wrap (((nodA s k).py * (1000 - (((weA l k).pa) % 1001))+(nodA s m).py * (((weA l k).pa) % 1001)).tdiv 1000)=bwPy s l k:=by rw [HPY.out];exact IntWalk.i64_in _ (by unfold bwX at y7;omega)
    have y8 : -2000000≤bwPy s l k∧bwPy s l k≤2000000:=by rw [HPY.out];omega
    have h1:=bw_mulh (a:=s.lv+200000) (k:=(((weA l k).al) % 1001)) (by omega) (by omega) m2.1 m2.2
    have h2:IntKind.i64.wrap ((s.lv+200000) * (((weA l k).al) % 1001))=(s.lv+200000) * (((weA l k).al) % 1001):=IntWalk.i64_in _ (by omega)
    have h3:=bwH_in lv0.1 m2.1 m2.2
    have h4:IntKind.i64.wrap (((s.lv+200000) * (((weA l k).al) % 1001)).tdiv 1000)=((s.lv+200000) * (((weA l k).al) % 1001)).tdiv 1000:=IntWalk.i64_in _ (by unfold bwH at h3;omega)
    have h5:IntKind.i64.wrap (-200000+((s.lv+200000) * (((weA l k).al) % 1001)).tdiv 1000)=bwAl s l k:=by rw [HAL.out];exact IntWalk.i64_in _ (by unfold bwH at h3;omega)
    have h6 : -200000≤bwAl s l k∧bwAl s l k≤6000000:=by rw [HAL.out];omega
    clear x7 y7 h3
    go_wp2_with (refine at_sgr (.tmp 84) rfl rfl rfl ((HYR.out _ (HY8.out _ HHP.out)).has 0 _ rfl) ?_)
    clear c9_0 c9_1 c10_0 c10_1 klv c8_1' x3 x4 x5 x6 y3 y4 y5 y6 h1 h2 h4 h5 t1 t2 t3 t4 t5 t6 m1 m2 x1 x2 y1 y2
    clear c8_0 c8_1 c8_2 c8_3
    refine (HAT.out _ (HYR.out _ (HY8.out _ HHP.out)) _ _ _ (ptB_of x8 y8) (inB_iff.2 h6)).mono ?_;rintro e2 w7 ⟨rfl,hB⟩
    have HH7:=Lib.hid (HHP.out.below hB)
    have HVJ:=HVI.out
    have HBG:=HBF.out
    generalize gAt s.gr (elE s.gr) (bwPx s l k) (bwPy s l k) (bwAl s l k)=E0 at *
    generalize gAt s.gr (elN s.gr) (bwPx s l k) (bwPy s l k) (bwAl s l k)=N0 at *
    have q8:=fun o=>(HQ8.out _ (HH7.out.alloc o)).cell 2 _ rfl
    have q9:=fun o=>(HQ8.out _ (HH7.out.alloc o)).cell 3 _ rfl
    have q24:=fun o=>HER.out _ (HYR.out _ (HY8.out _ (HH7.out.alloc o)))
    have hne:=IntWalk.i64_in (-s.gr.er) (by omega)
    have we:IntKind.i64.wrap (E0+min (max (weA l k).me (-s.gr.er)) s.gr.er)=ef.1:=by rw [HBG];exact IntWalk.i64_in _ (by omega)
    have wn:IntKind.i64.wrap (N0+min (max (weA l k).mn (-s.gr.er)) s.gr.er)=ef.2:=by rw [HBG];exact IntWalk.i64_in _ (by omega)
    clear hB HBG HVJ hme hmn hpa hal x8 y8 h6
    have HO7:=Lib.hid (HO.out.below ((HS.out.below HH7.out.B).B))
    go_wp2_with (at_builtin;refine wpList_append_own_at _ rfl _ _ 29 rfl w6.heap.size 87 i0 (.agg #[.int .i64 0,.int .i64 0]) 2 16 Tryz.underlying29 hi hz0 hz1 hz2 rfl (by decide) _ _ _ rfl (((HO7.out.alloc _).alloc _).own) ⟨(w7.heap.size+1),0,none⟩ 1 1 (lz2 ef.1 ef.2) rfl rfl (news_new _ _ (by first | rfl | simp) _ _ _ rfl) (by intro u hu;simp at hu;rcases hu with rfl | rfl <;> rfl) (by unfold maxLen;omega) (by omega) (by have:=HR.out.B.size;have:=HS.out.B.size;have:=HH7.out.B.size;simp;omega) ?_;intro v1 w9 hown hgrow hnil hblk)
    have HS7:=Lib.hid ((((HR.out.below (HS.out.below HH7.out.B).B).alloc _).alloc _).grown hgrow (fun k hk=>(HO.out.lt hk).1))
    have HO9:=Lib.hid (Ow.next (l:=LL) (f:=win) (x:=ef) hown)
    clear hown hgrow hnil hblk
    go_roundw
    case rel=>exact ⟨k+1,by have:=HNO.out;omega,by have:=Hm.out;subst this;go_num,HS7.out,by rw [HTK.out];exact HO9.out⟩
    case measure=>simp only [intOf];omega
   have st_14:Hid (∀ (H10:Nat) (W:World) (qH10:Has W H10 (lz2 0 0)) (rH10:w8.heap.size+0≤H10),SS W→wpAnyH Tryz.prog .any OPS QQ SS 3 #[true,true,true,true,true,true,true,true,true,true,true,true,true,false,true,false,false] (A0.put (some 10) (.pointer (some ⟨H10,0,none⟩))) W):=by
    subst hO hQ hA hSS
    refine Lib.hid ?_
    intro H10 W qH10 rH10 hHeld
    (try simp only [Act.put,pa,pb,pc])
    refine wpAnyH_ready (rs:=[13]) (by kernel_rfl) (by simp) ?_
    refine AllReadyH.cons (o:=_) rfl (fun K hK=>?_) ?_
    ·go_simp
     have hNew:=hHeld.alloc (.cells #[.int .i64 0,.int .i64 0] 28)
     refine hK.out _ _ hNew (fun hHeld2=>?_)
     (try simp only [Act.put,pa,pb,pc])
     have nx:=st_13_14.out
     simp only [Act.put,pa,pb,pc] at nx
     exact nx W.heap.size H10 _ (Has.new _ _ _) hHeld.sz (qH10.alloc _) rH10 (by have:=qH10.lt;omega) hHeld2
    exact AllReadyH.nil
   have st_13:Hid (∀ (H9:Nat) (W:World) (qH9:Has W H9 (lz2 0 0)) (rH9:w8.heap.size+0≤H9),SS W→wpAnyH Tryz.prog .any OPS QQ SS 3 #[true,true,true,true,true,true,true,true,true,true,true,true,true,true,false,false,false] (A0.put (some 9) (.pointer (some ⟨H9,0,none⟩))) W):=by
    subst hO hQ hA hSS
    refine Lib.hid ?_
    intro H9 W qH9 rH9 hHeld
    (try simp only [Act.put,pa,pb,pc])
    refine wpAnyH_ready (rs:=[14]) (by kernel_rfl) (by simp) ?_
    refine AllReadyH.cons (o:=_) rfl (fun K hK=>?_) ?_
    ·go_simp
     have hNew:=hHeld.alloc (.cells #[.int .i64 0,.int .i64 0] 28)
     refine hK.out _ _ hNew (fun hHeld2=>?_)
     (try simp only [Act.put,pa,pb,pc])
     have nx:=st_13_14.out
     simp only [Act.put,pa,pb,pc] at nx
     exact nx H9 W.heap.size _ (qH9.alloc _) rH9 (Has.new _ _ _) hHeld.sz (by have:=qH9.lt;omega) hHeld2
    exact AllReadyH.nil
   have st:Hid (∀ (W:World),SS W→wpAnyH Tryz.prog .any OPS QQ SS 4 #[true,true,true,true,true,true,true,true,true,true,true,true,true,false,false,false,false] A0 W):=by
    subst hO hQ hA hSS
    refine Lib.hid ?_
    intro W hHeld
    (try simp only [Act.put,pa,pb,pc])
    refine wpAnyH_ready (rs:=[13,14]) (by kernel_rfl) (by simp) ?_
    refine AllReadyH.cons (o:=_) rfl (fun K hK=>?_) ?_
    ·go_simp
     have hNew:=hHeld.alloc (.cells #[.int .i64 0,.int .i64 0] 28)
     refine hK.out _ _ hNew (fun hHeld2=>?_)
     (try simp only [Act.put,pa,pb,pc])
     have nx:=st_13.out
     simp only [Act.put,pa,pb,pc] at nx
     exact nx W.heap.size _ (Has.new _ _ _) hHeld.sz hHeld2
    refine AllReadyH.cons (o:=_) rfl (fun K hK=>?_) ?_
    ·go_simp
     have hNew:=hHeld.alloc (.cells #[.int .i64 0,.int .i64 0] 28)
     refine hK.out _ _ hNew (fun hHeld2=>?_)
     (try simp only [Act.put,pa,pb,pc])
     have nx:=st_14.out
     simp only [Act.put,pa,pb,pc] at nx
     exact nx W.heap.size _ (Has.new _ _ _) hHeld.sz hHeld2
    exact AllReadyH.nil
   subst hO hQ hA hSS
   exact st.out _  hHeld
  have hin':¬ (m:Int)≤(nl:Int):=by omega
  have HS:=Lib.hid (boxS0w wr)
  have Q8:Hid (Has ((wr.alloc (.cells #[.int .u16 0,.int .u16 0,.int .i64 0,.int .i64 0] 108))) wr.heap.size [.int .u16 0,.int .u16 0,.int .i64 0,.int .i64 0]):=Lib.hid (Has.new _ _ _)
  have r8:wr.heap.size+0≤wr.heap.size:=HS.out.sz
  replace HS:=Lib.hid ((HS.out.alloc (.cells #[.int .u16 0,.int .u16 0,.int .i64 0,.int .i64 0] 108)))
  go_wp2_with fail
  clear k0
  generalize (wr.alloc (.cells #[.int .u16 0,.int .u16 0,.int .i64 0,.int .i64 0] 108))=w8 at *
  generalize wr.heap.size=H8 at *
  replace Q8:=Lib.hid (show Has w8 H8 [.int .u16 (weA l k).pa,.int .u16 (weA l k).al,.int .i64 (weA l k).me,.int .i64 (weA l k).mn] from by rw [HW0.out k hin];exact Q8.out)
  have HY8:=Lib.hid (fun W (h:BoxS w8 0 [] W)=>HS.out.below h.B)
  have HQ8:=Lib.hid (fun W (h:BoxS w8 0 [] W)=>Q8.out.below h.B)
  refine held_start (S:=fun W=>BoxS w8 0 [] W) 17 #[false,false,false,false,false,false,false,false,false,false,false,false,false,false,false,false,false] rfl rfl (by kernel_rfl) ((boxS0w w8).drew) (fun hHeld=>?_)
  iterate 13 (refine hF (L:=_) (v:=?_) rfl rfl ?_ ?_;rotate_left;(intro W hW;have y0:=HNS.out W (HYR.out W (HY8.out W hW));have y1:=(HNK.out W (HY8.out W hW)).1;have y2:=(HNK.out W (HY8.out W hW)).2.1;have y3:=(HNM.out W (HY8.out W hW)).1;have y4:=(HNM.out W (HY8.out W hW)).2.1;clear hW;go_simp;try with_reducible rfl);try simp only [Act.put,pa,pb,pc,setF])
  refine held_nameS ?_
  intro OPS QQ A0 SS hO hQ hA hSS
  have st_13_14:Hid (∀ (H9 H10:Nat) (W:World) (qH9:Has W H9 (lz2 0 0)) (rH9:w8.heap.size+0≤H9) (qH10:Has W H10 (lz2 0 0)) (rH10:w8.heap.size+0≤H10) (nH9H10:H9≠H10),SS W→wpAnyH Tryz.prog .any OPS QQ SS 2 #[true,true,true,true,true,true,true,true,true,true,true,true,true,true,true,false,false] ((A0.put (some 9) (.pointer (some ⟨H9,0,none⟩))).put (some 10) (.pointer (some ⟨H10,0,none⟩))) W):=by
   subst hO hQ hA hSS
   refine Lib.hid ?_
   intro H9 H10 W qH9 rH9 qH10 rH10 nH9H10 hHeld
   (try simp only [Act.put,pa,pb,pc])
   have fz:=qH9.fr
   have cz0:=qH9.cell 0 _ rfl
   have cz1:=qH9.cell 1 _ rfl
   refine wpAnyH_ready (rs:=[15]) (by kernel_rfl) (by simp) ?_
   refine AllReadyH.cons (o:=_) rfl (fun K hK=>?_) AllReadyH.nil
   go_simp
   have hs0:=hHeld
   have hs1:=(hs0.set H9 0 rH9 (.int .i64 (nodA s k).px))
   have hs2:=(hs1.set H9 1 rH9 (.int .i64 (nodA s k).py))
   have hNew:=hs2
   have pH9:Has ((W.setCell ⟨H9,0,none⟩ (.int .i64 (nodA s k).px)).setCell ⟨H9,1,none⟩ (.int .i64 (nodA s k).py)) H9 (lz2 ((nodA s k).px) ((nodA s k).py)):=((qH9.set 0 (.int .i64 (nodA s k).px) (by simp)).set 1 (.int .i64 (nodA s k).py) (by simp))
   have pH10:=((qH10.other H9 0 (.int .i64 (nodA s k).px) (by omega)).other H9 1 (.int .i64 (nodA s k).py) (by omega))
   refine hK.out _ _ hNew (fun hHeld2=>?_)
   clear hK K hNew fz hs0 hs1 hs2 cz0 cz1 qH9 qH10 hHeld
   have hHeld:=hHeld2
   clear hHeld2
   have qH9:=pH9
   have qH10:=pH10
   clear pH9 pH10
   (try simp only [Act.put,pa,pb,pc])
   generalize ((W.setCell ⟨H9,0,none⟩ (.int .i64 (nodA s k).px)).setCell ⟨H9,1,none⟩ (.int .i64 (nodA s k).py))=W1 at *
   have fz:=qH10.fr
   have cz0:=qH10.cell 0 _ rfl
   have cz1:=qH10.cell 1 _ rfl
   refine wpAnyH_ready (rs:=[16]) (by kernel_rfl) (by simp) ?_
   refine AllReadyH.cons (o:=_) rfl (fun K hK=>?_) AllReadyH.nil
   go_simp
   have hs0:=hHeld
   have hs1:=(hs0.set H10 0 rH10 (.int .i64 (nodA s m).px))
   have hs2:=(hs1.set H10 1 rH10 (.int .i64 (nodA s m).py))
   have hNew:=hs2
   have pH9:=((qH9.other H10 0 (.int .i64 (nodA s m).px) (by omega)).other H10 1 (.int .i64 (nodA s m).py) (by omega))
   have pH10:Has ((W1.setCell ⟨H10,0,none⟩ (.int .i64 (nodA s m).px)).setCell ⟨H10,1,none⟩ (.int .i64 (nodA s m).py)) H10 (lz2 ((nodA s m).px) ((nodA s m).py)):=((qH10.set 0 (.int .i64 (nodA s m).px) (by simp)).set 1 (.int .i64 (nodA s m).py) (by simp))
   refine hK.out _ _ hNew (fun hHeld2=>?_)
   clear hK K hNew fz hs0 hs1 hs2 cz0 cz1 qH9 qH10 hHeld
   have hHeld:=hHeld2
   clear hHeld2
   have qH9:=pH9
   have qH10:=pH10
   clear pH9 pH10
   (try simp only [Act.put,pa,pb,pc])
   generalize ((W1.setCell ⟨H10,0,none⟩ (.int .i64 (nodA s m).px)).setCell ⟨H10,1,none⟩ (.int .i64 (nodA s m).py))=W2 at *
   refine wpAnyH_done (by kernel_rfl) ?_ _
   have HH:=Lib.hid hHeld
   have Q9:=Lib.hid qH9
   have Q10:=Lib.hid qH10
   clear hHeld qH9 qH10 rH9 rH10 nH9H10
   have c8_0:W2.cell? ⟨H8,0,none⟩=some (.int .u16 (weA l k).pa):=(HQ8.out _ HH.out).cell 0 _ rfl
   have c8_1:W2.cell? ⟨H8,1,none⟩=some (.int .u16 (weA l k).al):=(HQ8.out _ HH.out).cell 1 _ rfl
   have c8_2:W2.cell? ⟨H8,2,none⟩=some (.int .i64 (weA l k).me):=(HQ8.out _ HH.out).cell 2 _ rfl
   have c8_3:W2.cell? ⟨H8,3,none⟩=some (.int .i64 (weA l k).mn):=(HQ8.out _ HH.out).cell 3 _ rfl
   have c9_0:=Q9.out.cell 0 (.int .i64 (nodA s k).px) rfl
   have c9_1:=Q9.out.cell 1 (.int .i64 (nodA s k).py) rfl
   have c10_0:=Q10.out.cell 0 (.int .i64 (nodA s m).px) rfl
   have c10_1:=Q10.out.cell 1 (.int .i64 (nodA s m).py) rfl
   have HHP:=Lib.hid (HH.out.alloc (.cells #[.int .i64 (bwPx s l k),.int .i64 (bwPy s l k)] 28))
   have klv:=HLV.out _ (HYR.out _ (HY8.out _ HHP.out))
   have c8_1':(W2.alloc (.cells #[.int .i64 (bwPx s l k),.int .i64 (bwPy s l k)] 28)).cell? ⟨H8,1,none⟩=some (.int .u16 (weA l k).al):=(HQ8.out _ HHP.out).cell 1 _ rfl
   have hpa:=HWX.out.pa
   have hal:=HWX.out.al
   have hme:=HWX.out.me
   have hmn:=HWX.out.mn
   have t1:((weA l k).pa).tmod 1001=((weA l k).pa) % 1001:=Int.tmod_eq_emod_of_nonneg (by omega)
   have t2:((weA l k).al).tmod 1001=((weA l k).al) % 1001:=Int.tmod_eq_emod_of_nonneg (by omega)
   have m1:=mod1001 ((weA l k).pa)
   have m2:=mod1001 ((weA l k).al)
   have t3:IntKind.u16.wrap (((weA l k).pa) % 1001)=((weA l k).pa) % 1001:=IntWalk.u16_in _ (by omega)
   have t4:IntKind.u16.wrap (((weA l k).al) % 1001)=((weA l k).al) % 1001:=IntWalk.u16_in _ (by omega)
   have t5:IntKind.i64.wrap (((weA l k).pa) % 1001)=((weA l k).pa) % 1001:=IntWalk.i64_in _ (by omega)
   have t6:IntKind.i64.wrap (((weA l k).al) % 1001)=((weA l k).al) % 1001:=IntWalk.i64_in _ (by omega)
   have x1:=bw_mul (a:=(nodA s k).px) (k:=1000 - (((weA l k).pa) % 1001)) (by omega) (by omega) (by omega) (by omega)
   have x2:=bw_mul (a:=(nodA s m).px) (k:=(((weA l k).pa) % 1001)) (by omega) (by omega) (by omega) (by omega)
   have x3:IntKind.i64.wrap ((nodA s k).px * (1000 - (((weA l k).pa) % 1001)))=(nodA s k).px * (1000 - (((weA l k).pa) % 1001)):=IntWalk.i64_in _ (by omega)
   have x4:IntKind.i64.wrap ((nodA s m).px * (((weA l k).pa) % 1001))=(nodA s m).px * (((weA l k).pa) % 1001):=IntWalk.i64_in _ (by omega)
   have x5:IntKind.i64.wrap ((nodA s k).px * (1000 - (((weA l k).pa) % 1001))+(nodA s m).px * (((weA l k).pa) % 1001))=(nodA s k).px * (1000 - (((weA l k).pa) % 1001))+(nodA s m).px * (((weA l k).pa) % 1001):=IntWalk.i64_in _ (by omega)
   have x7:=bwX_in (a:=(nodA s k).px) (b:=(nodA s m).px) m1.1 m1.2
   have x6:IntKind.i64.wrap (((nodA s k).px * (1000 - (((weA l k).pa) % 1001))+(nodA s m).px * (((weA l k).pa) % 1001)).tdiv 1000)=bwPx s l k:=by rw [HPX.out];exact IntWalk.i64_in _ (by unfold bwX at x7;omega)
   have x8 : -2000000≤bwPx s l k∧bwPx s l k≤2000000:=by rw [HPX.out];omega
   have y1:=bw_mul (a:=(nodA s k).py) (k:=1000 - (((weA l k).pa) % 1001)) (by omega) (by omega) (by omega) (by omega)
   have y2:=bw_mul (a:=(nodA s m).py) (k:=(((weA l k).pa) % 1001)) (by omega) (by omega) (by omega) (by omega)
   have y3:IntKind.i64.wrap ((nodA s k).py * (1000 - (((weA l k).pa) % 1001)))=(nodA s k).py * (1000 - (((weA l k).pa) % 1001)):=IntWalk.i64_in _ (by omega)
   have y4:IntKind.i64.wrap ((nodA s m).py * (((weA l k).pa) % 1001))=(nodA s m).py * (((weA l k).pa) % 1001):=IntWalk.i64_in _ (by omega)
   have y5:IntKind.i64.wrap ((nodA s k).py * (1000 - (((weA l k).pa) % 1001))+(nodA s m).py * (((weA l k).pa) % 1001))=(nodA s k).py * (1000 - (((weA l k).pa) % 1001))+(nodA s m).py * (((weA l k).pa) % 1001):=IntWalk.i64_in _ (by omega)
   have y7:=bwX_in (a:=(nodA s k).py) (b:=(nodA s m).py) m1.1 m1.2
   have y6:IntKind.i64.wrap (((nodA s k).py * (1000 - (((weA l k).pa) % 1001))+(nodA s m).py * (((weA l k).pa) % 1001)).tdiv 1000)=bwPy s l k:=by rw [HPY.out];exact IntWalk.i64_in _ (by unfold bwX at y7;omega)
   have y8 : -2000000≤bwPy s l k∧bwPy s l k≤2000000:=by rw [HPY.out];omega
   have h1:=bw_mulh (a:=s.lv+200000) (k:=(((weA l k).al) % 1001)) (by omega) (by omega) m2.1 m2.2
   have h2:IntKind.i64.wrap ((s.lv+200000) * (((weA l k).al) % 1001))=(s.lv+200000) * (((weA l k).al) % 1001):=IntWalk.i64_in _ (by omega)
   have h3:=bwH_in lv0.1 m2.1 m2.2
   have h4:IntKind.i64.wrap (((s.lv+200000) * (((weA l k).al) % 1001)).tdiv 1000)=((s.lv+200000) * (((weA l k).al) % 1001)).tdiv 1000:=IntWalk.i64_in _ (by unfold bwH at h3;omega)
   have h5:IntKind.i64.wrap (-200000+((s.lv+200000) * (((weA l k).al) % 1001)).tdiv 1000)=bwAl s l k:=by rw [HAL.out];exact IntWalk.i64_in _ (by unfold bwH at h3;omega)
   have h6 : -200000≤bwAl s l k∧bwAl s l k≤6000000:=by rw [HAL.out];omega
   clear x7 y7 h3
   go_wp2_with (refine at_sgr (.tmp 84) rfl rfl rfl ((HYR.out _ (HY8.out _ HHP.out)).has 0 _ rfl) ?_)
   clear c9_0 c9_1 c10_0 c10_1 klv c8_1' x3 x4 x5 x6 y3 y4 y5 y6 h1 h2 h4 h5 t1 t2 t3 t4 t5 t6 m1 m2 x1 x2 y1 y2
   clear c8_0 c8_1 c8_2 c8_3
   refine (HAT.out _ (HYR.out _ (HY8.out _ HHP.out)) _ _ _ (ptB_of x8 y8) (inB_iff.2 h6)).mono ?_;rintro e2 w7 ⟨rfl,hB⟩
   have HH7:=Lib.hid (HHP.out.below hB)
   have HVJ:=HVI.out
   have HBG:=HBF.out
   generalize gAt s.gr (elE s.gr) (bwPx s l k) (bwPy s l k) (bwAl s l k)=E0 at *
   generalize gAt s.gr (elN s.gr) (bwPx s l k) (bwPy s l k) (bwAl s l k)=N0 at *
   have q8:=fun o=>(HQ8.out _ (HH7.out.alloc o)).cell 2 _ rfl
   have q9:=fun o=>(HQ8.out _ (HH7.out.alloc o)).cell 3 _ rfl
   have q24:=fun o=>HER.out _ (HYR.out _ (HY8.out _ (HH7.out.alloc o)))
   have hne:=IntWalk.i64_in (-s.gr.er) (by omega)
   have we:IntKind.i64.wrap (E0+min (max (weA l k).me (-s.gr.er)) s.gr.er)=ef.1:=by rw [HBG];exact IntWalk.i64_in _ (by omega)
   have wn:IntKind.i64.wrap (N0+min (max (weA l k).mn (-s.gr.er)) s.gr.er)=ef.2:=by rw [HBG];exact IntWalk.i64_in _ (by omega)
   clear hB HBG HVJ hme hmn hpa hal x8 y8 h6
   have HO7:=Lib.hid (HO.out.below ((HS.out.below HH7.out.B).B))
   go_wp2_with (at_builtin;refine wpList_append_own_at _ rfl _ _ 29 rfl w6.heap.size 87 i0 (.agg #[.int .i64 0,.int .i64 0]) 2 16 Tryz.underlying29 hi hz0 hz1 hz2 rfl (by decide) _ _ _ rfl (((HO7.out.alloc _).alloc _).own) ⟨(w7.heap.size+1),0,none⟩ 1 1 (lz2 ef.1 ef.2) rfl rfl (news_new _ _ (by first | rfl | simp) _ _ _ rfl) (by intro u hu;simp at hu;rcases hu with rfl | rfl <;> rfl) (by unfold maxLen;omega) (by omega) (by have:=HR.out.B.size;have:=HS.out.B.size;have:=HH7.out.B.size;simp;omega) ?_;intro v1 w9 hown hgrow hnil hblk)
   have HS7:=Lib.hid ((((HR.out.below (HS.out.below HH7.out.B).B).alloc _).alloc _).grown hgrow (fun k hk=>(HO.out.lt hk).1))
   have HO9:=Lib.hid (Ow.next (l:=LL) (f:=win) (x:=ef) hown)
   clear hown hgrow hnil hblk
   go_roundw
   case rel=>exact ⟨k+1,by have:=HNO.out;omega,by have:=Hm.out;subst this;go_num,HS7.out,by rw [HTK.out];exact HO9.out⟩
   case measure=>simp only [intOf];omega
  have st_14:Hid (∀ (H10:Nat) (W:World) (qH10:Has W H10 (lz2 0 0)) (rH10:w8.heap.size+0≤H10),SS W→wpAnyH Tryz.prog .any OPS QQ SS 3 #[true,true,true,true,true,true,true,true,true,true,true,true,true,false,true,false,false] (A0.put (some 10) (.pointer (some ⟨H10,0,none⟩))) W):=by
   subst hO hQ hA hSS
   refine Lib.hid ?_
   intro H10 W qH10 rH10 hHeld
   (try simp only [Act.put,pa,pb,pc])
   refine wpAnyH_ready (rs:=[13]) (by kernel_rfl) (by simp) ?_
   refine AllReadyH.cons (o:=_) rfl (fun K hK=>?_) ?_
   ·go_simp
    have hNew:=hHeld.alloc (.cells #[.int .i64 0,.int .i64 0] 28)
    refine hK.out _ _ hNew (fun hHeld2=>?_)
    (try simp only [Act.put,pa,pb,pc])
    have nx:=st_13_14.out
    simp only [Act.put,pa,pb,pc] at nx
    exact nx W.heap.size H10 _ (Has.new _ _ _) hHeld.sz (qH10.alloc _) rH10 (by have:=qH10.lt;omega) hHeld2
   exact AllReadyH.nil
  have st_13:Hid (∀ (H9:Nat) (W:World) (qH9:Has W H9 (lz2 0 0)) (rH9:w8.heap.size+0≤H9),SS W→wpAnyH Tryz.prog .any OPS QQ SS 3 #[true,true,true,true,true,true,true,true,true,true,true,true,true,true,false,false,false] (A0.put (some 9) (.pointer (some ⟨H9,0,none⟩))) W):=by
   subst hO hQ hA hSS
   refine Lib.hid ?_
   intro H9 W qH9 rH9 hHeld
   (try simp only [Act.put,pa,pb,pc])
   refine wpAnyH_ready (rs:=[14]) (by kernel_rfl) (by simp) ?_
   refine AllReadyH.cons (o:=_) rfl (fun K hK=>?_) ?_
   ·go_simp
    have hNew:=hHeld.alloc (.cells #[.int .i64 0,.int .i64 0] 28)
    refine hK.out _ _ hNew (fun hHeld2=>?_)
    (try simp only [Act.put,pa,pb,pc])
    have nx:=st_13_14.out
    simp only [Act.put,pa,pb,pc] at nx
    exact nx H9 W.heap.size _ (qH9.alloc _) rH9 (Has.new _ _ _) hHeld.sz (by have:=qH9.lt;omega) hHeld2
   exact AllReadyH.nil
  have st:Hid (∀ (W:World),SS W→wpAnyH Tryz.prog .any OPS QQ SS 4 #[true,true,true,true,true,true,true,true,true,true,true,true,true,false,false,false,false] A0 W):=by
   subst hO hQ hA hSS
   refine Lib.hid ?_
   intro W hHeld
   (try simp only [Act.put,pa,pb,pc])
   refine wpAnyH_ready (rs:=[13,14]) (by kernel_rfl) (by simp) ?_
   refine AllReadyH.cons (o:=_) rfl (fun K hK=>?_) ?_
   ·go_simp
    have hNew:=hHeld.alloc (.cells #[.int .i64 0,.int .i64 0] 28)
    refine hK.out _ _ hNew (fun hHeld2=>?_)
    (try simp only [Act.put,pa,pb,pc])
    have nx:=st_13.out
    simp only [Act.put,pa,pb,pc] at nx
    exact nx W.heap.size _ (Has.new _ _ _) hHeld.sz hHeld2
   refine AllReadyH.cons (o:=_) rfl (fun K hK=>?_) ?_
   ·go_simp
    have hNew:=hHeld.alloc (.cells #[.int .i64 0,.int .i64 0] 28)
    refine hK.out _ _ hNew (fun hHeld2=>?_)
    (try simp only [Act.put,pa,pb,pc])
    have nx:=st_14.out
    simp only [Act.put,pa,pb,pc] at nx
    exact nx W.heap.size _ (Has.new _ _ _) hHeld.sz hHeld2
   exact AllReadyH.nil
  subst hO hQ hA hSS
  exact st.out _  hHeld
end Go.Proofs.YtgneijdjlahgbaaGreat

namespace Go.Proofs.YtgneijdjlahgbaaGreat
set_option linter.unusedSimpArgs false
set_option linter.unusedVariables false
open Go.RowKit
theorem ret_tt_ta {v:Bool} (h:v=true):Ending.returned (.bool v)=.returned (.bool true):=by rw [h]
theorem int_A7 {W:World} {A:Option Addr} {n:Nat} {l:List Int} (h:Ints W A n l) (hn:0<n):∃ b off,A=some ⟨b,off,none⟩:=by
 obtain ⟨b,off,h1,_,_⟩:=h.cells hn
 exact ⟨b,off,h1⟩
theorem int_at7 {W:World} {b off n:Nat} {l:List Int} (h:Ints W (some ⟨b,off,none⟩) n l) {k:Nat} {x:Int} (hx:l[k]? = some x):b<W.heap.size∧W.cell? ⟨b,off+k,none⟩=some (.int .i64 x):=by
 have hk:k<n:=by have:=h.len;have:=(List.getElem?_eq_some_iff.1 hx).1;omega
 obtain ⟨b',o',h1,h2,h3⟩:=h.cells (by omega)
 injection h1 with h1;injection h1 with h1 h4;subst h1;subst h4
 exact ⟨h2,h3 k x hx⟩
def TaR (n:Nat) (B:World) (t:Value) (wr:World):Prop:=∃ k:Nat,k≤n∧t=.int .i64 (k:Int)∧BoxS B 0 [] wr
end Go.Proofs.YtgneijdjlahgbaaGreat

