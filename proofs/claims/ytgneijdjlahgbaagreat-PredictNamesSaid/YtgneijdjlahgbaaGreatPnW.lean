
/- Layer 37: PredictNames, the walk. -/
import Derived.Test.YtgneijdjlahgbaaGreatPnP
import Derived.Test.YtgneijdjlahgbaaGreatM20
import Derived.Test.YtgneijdjlahgbaaGreatM21
import Derived.RegionTactic
namespace Go.Proofs.YtgneijdjlahgbaaGreat
set_option maxRecDepth 100000
set_option maxHeartbeats 16000000
set_option linter.unusedSimpArgs false
set_option linter.unusedVariables false
open Go.RowKit
theorem ret_tt_pn {v:Bool} (h:v=true):Ending.returned (.bool v)=.returned (.bool true):=by rw [h]
theorem boxS0n (w:World):BoxS w 0 [] w:=⟨fun i cs hi=>by simp at hi,by simp,Below.refl _ _,by simp⟩
def NwR (s:Stp) (B:World) (v t:Value) (wr:World):Prop:=∃ k:Nat,k≤s.no.length∧t=.int .i64 (k:Int)∧BoxS B 0 [] wr∧Ow win 2 58 B.heap.size ((awC s).take k) v wr
def NdR (s:Stp) (B:World) (v t:Value) (wr:World):Prop:=∃ k:Nat,k+1≤s.no.length∧t=.int .i64 (k:Int)∧BoxS B 0 [] wr∧Ow oneI 1 2 B.heap.size ((dstL s).take k) v wr
theorem nd_take {s:Stp} {k:Nat} (hk:k+1<s.no.length):(dstL s).take (k+1)=(dstL s).take k ++ [(nodA s (k+1)).di]:=take_succ_get _ k _ (by
 have h2:=List.getElem?_eq_getElem hk
 unfold dstL
 rw [List.getElem?_map,List.getElem?_drop,Nat.add_comm 1 k,h2,nodA_of h2];rfl)
theorem nw_take {s:Stp} {k:Nat} (hk:k<s.no.length):(awC s).take (k+1)=(awC s).take k ++ [((nodA s k).a0,min (nodA s k).a1 s.lv)]:=take_succ_get _ k _ (by
 have h2:=List.getElem?_eq_getElem hk
 unfold awC
 rw [List.getElem?_map,h2,nodA_of h2];rfl)
theorem walk_PredictNames (s:Stp) (w:World) (hl:s.lies w) (hok:s.ok) (hsw:StpW s):Calls Tryz.prog 7 #[.agg s.cells.toArray] w fun e w'=>e=.returned (.bool true)∧Below w.heap.size w w':=by
 have HS:=Lib.hid (boxS1 w s.cells.toArray 35)
 have HAW:=Lib.hid awake37
 have HRN:=Lib.hid (fun W (h:BoxS w 1 [s.cells] W)=>xPRun s W (hl.below h.B) hok)
 have HCK:=Lib.hid (fun W (h:BoxS w 1 [s.cells] W)=>xPrCheck s W (hl.below h.B) hok)
 unfold RunP at HRN
 have N:=StN.of hl
 by_cases hc:suE s≠0∨runE s≠11
 ·obtain ⟨g1,g2⟩:=nm_no N hc
  rw [g1,g2] at HRN
  generalize okN (runE s) s.no.length=M at *
  generalize runE s=E at *
  generalize suE s=E2 at *
  clear hl hok hsw N g1 g2
  go_enter Tryz.func7,Tryz.ntmps7
  go_wp2_with fail
  refine (HAW.out _).mono ?_;rintro e' w1 ⟨rfl,hB⟩
  replace HS:=Lib.hid (HS.out.below hB)
  clear hB HAW
  go_wp2_with (refine at_stp (.tmp 1) rfl rfl rfl (HS.out.has 0 _ rfl) ?_)
  refine (HRN.out _ HS.out).mono ?_;rintro e' w2 ⟨A,c,rfl,-,-,hB⟩
  replace HS:=Lib.hid (HS.out.below hB)
  clear hB HRN
  have Q3:Hid (Has ((w2.alloc (.cells #[.slice A M c,.int .i64 0,.int .i64 0,.bool false] 42))) w2.heap.size [.slice A M c,.int .i64 0,.int .i64 0,.bool false]):=Lib.hid (Has.new _ _ _)
  have r3:w.heap.size+1≤w2.heap.size:=HS.out.sz
  replace HS:=Lib.hid ((HS.out.alloc (.cells #[.slice A M c,.int .i64 0,.int .i64 0,.bool false] 42)))
  go_wp2_with (refine at_stp (.tmp 1) rfl rfl rfl (HS.out.has 0 _ rfl) ?_)
  generalize (w2.alloc (.cells #[.slice A M c,.int .i64 0,.int .i64 0,.bool false] 42))=w3 at *
  generalize w2.heap.size=H3 at *
  refine (HCK.out _ HS.out).mono ?_;rintro e' w4 ⟨rfl,hB⟩
  replace HS:=Lib.hid (HS.out.below hB)
  replace Q3:=Lib.hid (Q3.out.below hB)
  clear hB HCK
  have c3_0:=Q3.out.cell 0 (.slice A M c) rfl
  have c3_1:=Q3.out.cell 1 (.int .i64 0) rfl
  have c3_2:=Q3.out.cell 2 (.int .i64 0) rfl
  have c3_3:=Q3.out.cell 3 (.bool false) rfl
  by_cases h2:E2=0
  ·have h3:E≠11:=by rcases hc with h | h <;> first | exact absurd h2 h | exact h
   have e3:(E == 11)=false:=by simp [h3]
   have e4:(E != 11)=true:=bne_of e3
   subst h2
   clear hc h3
   go_wp2_with fail
   go_ret
   exact ⟨ret_tt_pn (by simp),HS.out.B⟩
  ·have e1:=beq_of h2
   have e2:=bne_of e1
   clear hc h2
   go_wp2_with fail
   go_ret
   exact ⟨ret_tt_pn (by simp),HS.out.B⟩
 obtain ⟨h0,hr⟩:suE s=0∧runE s=11:=⟨Classical.byContradiction fun h=>hc (.inl h),Classical.byContradiction fun h=>hc (.inr h)⟩
 have G:=su_good h0
 have hno:=N.no
 have hn2:=no_len G N
 have hmx:s.no.length≤maxLen:=by unfold maxLen;omega
 have hmx':s.no.length - 1≤maxLen:=by unfold maxLen;omega
 obtain ⟨i,j,hC,hij,hj,HD⟩:∃ i j:Nat,runC s=((i:Int),(j:Int))∧i≤j∧j<s.no.length∧Hid ((runS s=false∧Cs.chkE (awC s) (stpL s)=0∧0<Cs.exc (awC s) (stpL s) i j)∨(runS s=true∧altE s=0∧Cs.chkE (sdL s (altL s)) (spS s)=0∧0<Cs.exc (sdL s (altL s)) (spS s) i j)):=by
  by_cases ha:altE s=0
  ·obtain ⟨a1,a2,i,j,a3⟩:=nm_spd N h0 ha hr
   exact ⟨i,j,a3.e,a3.ij,a3.jn,Lib.hid (.inr ⟨a1,ha,a2,a3.x⟩)⟩
  ·obtain ⟨a1,a2,i,j,a3⟩:=nm_alt N h0 ha
   exact ⟨i,j,a3.e,a3.ij,a3.jn,Lib.hid (.inl ⟨a1,a2,a3.x⟩)⟩
 rw [hr,hC,show okN 11 s.no.length=0 from rfl] at HRN
 rw [h0] at HCK
 have HST:=Lib.hid (fun W (h:BoxS w 1 [s.cells] W)=>xPSteps s W (hl.below h.B) hok)
 rw [h0] at HST
 unfold PrRes at HST
 simp only [okN_0,okL_0] at HST
 have HXC:=Lib.hid (fun W A c A2 c2 (ws st:Cs.Wins) (ha:Pairs W A s.no.length ws) (hb:Pairs W A2 (s.no.length - 1) st) (hk:CapOk A2 (s.no.length - 1) c2) hc hx=>xExcess2 A A2 s.no.length c (s.no.length - 1) c2 ws st i j W ha hb hmx hmx' hk.le hk.mx hc hij hj hx)
 have HAL:=Lib.hid (fun (ha:altE s=0) W (h:BoxS w 1 [s.cells] W)=>show Calls Tryz.prog 26 #[.agg s.cells.toArray] W (fun e w'=>∃ A c,e=.returned (.tuple #[.slice A s.no.length c,.agg #[.int .i64 (altC s).1,.int .i64 (altC s).2],.int .i64 0])∧Ints w' A s.no.length (altL s)∧Below W.heap.size W w') from by
  have hh:=xPAltitudes s W (hl.below h.B) hok
  unfold AltP at hh
  rw [ha] at hh
  simp only [okN_0,okL_0] at hh
  exact hh)
 have HSP:=Lib.hid (fun (ha:altE s=0) W (h:BoxS w 1 [s.cells] W) A c (hA:Ints W A s.no.length (altL s))=>show Calls Tryz.prog 27 #[.agg s.cells.toArray,.slice A s.no.length c] W (PrRes (sdL s (altL s)) s.no.length 0 W) from by
  have hh:=xPSpeeds s A s.no.length c (altL s) W (hl.below h.B) hok hA hmx
  rw [sd_0 G N h0 (alt_good N ha)] at hh
  simp only [okN_0,okL_0] at hh
  exact hh)
 have HSS:=Lib.hid (fun W A c (hd:Ints W A (s.no.length - 1) (dstL s))=>xSpSteps A (s.no.length - 1) c (dstL s) s.acc s.dec W hd hmx')
 rw [stE_0s G N] at HSS
 unfold PrRes at HSS HSP
 simp only [okN_0,okL_0] at HSS
 obtain ⟨b,off,hA⟩:=su_A hl (by omega)
 have HNS:=Lib.hid (fun W (h:BoxS w 1 [s.cells] W)=>show W.cell? ⟨w.heap.size,0,none⟩=some (.slice (some ⟨b,off,none⟩) s.sno.n s.sno.c) from su_sl (h.has 0 _ rfl) hA)
 have HNV:=Lib.hid (fun W (h:BoxS w 1 [s.cells] W) k (hk:k<s.no.length)=>su_nd (hl.below h.B) hA hk)
 have HLV:=Lib.hid (fun W (h:BoxS w 1 [s.cells] W)=>show W.cell? ⟨w.heap.size,29,none⟩=some (.int .i64 s.lv) from su_lv (h.has 0 _ rfl))
 have HAC:=Lib.hid (fun W (h:BoxS w 1 [s.cells] W)=>show W.cell? ⟨w.heap.size,32,none⟩=some (.int .i64 s.acc)∧W.cell? ⟨w.heap.size,33,none⟩=some (.int .i64 s.dec) from ⟨su_acc (h.has 0 _ rfl),su_dec (h.has 0 _ rfl)⟩)
 obtain ⟨w0,wi,wz0,wz1,wz2⟩:=info_parts infoWin
 have HIN:=Lib.hid (info_parts info64)
 have HDL:=Lib.hid (dst_bd G N).2
 have HCL:=Lib.hid (show (awC s).length=s.no.length from by unfold awC;simp)
 have HNO:=Lib.hid hno
 have i1:2≤s.sno.n:=by omega
 have i2:s.sno.n≤64:=by omega
 have i3:s.sno.n≤s.sno.c:=hsw.cap.le
 have i4:s.sno.c≤maxLen:=hsw.cap.mx
 unfold maxLen at i4
 generalize runS s=rb at *
 clear hl hok hsw N G hno hn2 hmx hmx' hC hA h0 hr hc hij hj
 go_enter Tryz.func7,Tryz.ntmps7
 go_wp2_with fail
 refine (HAW.out _).mono ?_;rintro e' w1 ⟨rfl,hB⟩
 replace HS:=Lib.hid (HS.out.below hB)
 clear hB HAW
 go_wp2_with (refine at_stp (.tmp 1) rfl rfl rfl (HS.out.has 0 _ rfl) ?_)
 refine (HRN.out _ HS.out).mono ?_;rintro e' w2 ⟨A,c,rfl,-,-,hB⟩
 replace HS:=Lib.hid (HS.out.below hB)
 clear hB HRN
 have Q3:Hid (Has ((w2.alloc (.cells #[.slice A 0 c,.int .i64 (i:Int),.int .i64 (j:Int),.bool rb] 42))) w2.heap.size [.slice A 0 c,.int .i64 (i:Int),.int .i64 (j:Int),.bool rb]):=Lib.hid (Has.new _ _ _)
 have r3:w.heap.size+1≤w2.heap.size:=HS.out.sz
 replace HS:=Lib.hid ((HS.out.alloc (.cells #[.slice A 0 c,.int .i64 (i:Int),.int .i64 (j:Int),.bool rb] 42)))
 go_wp2_with (refine at_stp (.tmp 1) rfl rfl rfl (HS.out.has 0 _ rfl) ?_)
 generalize (w2.alloc (.cells #[.slice A 0 c,.int .i64 (i:Int),.int .i64 (j:Int),.bool rb] 42))=w3 at *
 generalize w2.heap.size=H3 at *
 refine (HCK.out _ HS.out).mono ?_;rintro e' w4 ⟨rfl,hB⟩
 replace HS:=Lib.hid (HS.out.below hB)
 replace Q3:=Lib.hid (Q3.out.below hB)
 clear hB HCK
 go_wp2_with (refine at_stp (.tmp 1) rfl rfl rfl (HS.out.has 0 _ rfl) ?_)
 refine (HST.out _ HS.out).mono ?_;rintro e' w5 ⟨A4,c4,rfl,hI4,hK4,hB⟩
 replace HS:=Lib.hid (HS.out.below hB)
 replace Q3:=Lib.hid (Q3.out.below hB)
 have I4:=Lib.hid hI4
 have K4:=Lib.hid hK4
 clear hB HST hI4 hK4
 have k0:=HNS.out _ HS.out
 have c3_0:=Q3.out.cell 0 (.slice A 0 c) rfl
 go_wp2_with fail
 clear k0
 clear c3_0
 have HY:=Lib.hid (fun W (h:BoxS w5 0 [] W)=>HS.out.below h.B)
 have HY3:=Lib.hid (fun W (h:BoxS w5 0 [] W)=>Q3.out.below h.B)
 go_loopw [7,57] (fun v t wr=>NwR s w5 v t wr) (fun _ t _=>s.sno.n - (intOf t).toNat)
 case atStart=>exact ⟨0,by omega,rfl,boxS0n _,Ow.start _ _ _ _ _⟩
 case round =>
  obtain ⟨k,hk,rfl,hs,ho⟩:=hrel
  have HR:=Lib.hid hs
  have HO:=Lib.hid ho
  clear hs ho
  by_cases hlt:k<s.sno.n
  ·have hlt':(k:Int)<(s.sno.n:Int):=by omega
   have hk0:(0:Int)≤(k:Int):=by omega
   have hg:IntKind.i64.wrap ((k:Int)+1)=(k:Int)+1:=IntWalk.i64_in _ (by omega)
   obtain ⟨n0,n1,n2,n3,n4,n5,n6⟩:=HNV.out _ (HY.out _ HR.out) k (by have:=HNO.out;omega)
   have HTK:=Lib.hid (nw_take (s:=s) (k:=k) (by have:=HNO.out;omega))
   have kl:=HLV.out _ (HY.out _ (HR.out.alloc (.cells #[.int .i64 (nodA s k).px,.int .i64 (nodA s k).py,.int .i64 (nodA s k).di,.int .i64 (nodA s k).a0,.int .i64 (nodA s k).a1,.int .i64 (nodA s k).s0,.int .i64 (nodA s k).s1] 60)))
   have hlen:((awC s).take k).length≤64:=by rw [List.length_take];omega
   generalize (awC s).take k=LL at *
   clear HS Q3
   go_wp2_with (at_builtin;refine wpList_append_own_at _ rfl _ _ 73 rfl w5.heap.size 58 w0 (.agg #[.int .i64 0,.int .i64 0]) 2 16 Tryz.underlying73 wi wz0 wz1 wz2 rfl (by decide) _ _ _ rfl (((HO.out.alloc _).alloc _).own) ⟨(wr.heap.size+1),0,none⟩ 1 1 (lz2 ((nodA s k).a0) (min (nodA s k).a1 s.lv)) rfl rfl (news_new _ _ (by first | rfl | simp) _ _ _ rfl) (by intro u hu;simp at hu;rcases hu with rfl | rfl <;> rfl) (by unfold maxLen;omega) (by omega) (by have:=HR.out.B.size;simp;omega) ?_;intro v1 w7 hown hgrow hnil hblk)
   have HS7:=Lib.hid (((HR.out.alloc _).alloc _).grown hgrow (fun k hk=>(HO.out.lt hk).1))
   have HO7:=Lib.hid (Ow.next (l:=LL) (f:=win) (x:=((nodA s k).a0,min (nodA s k).a1 s.lv)) hown)
   clear hown hgrow hnil hblk
   go_roundw
   case rel=>exact ⟨k+1,by have:=HNO.out;omega,by go_num,HS7.out,by rw [HTK.out];exact HO7.out⟩
   case measure=>simp only [intOf];omega
  have hlt':¬ (k:Int)<(s.sno.n:Int):=by omega
  have HL:=Lib.hid (show Ow win 2 58 w5.heap.size (awC s) _ wr from by have h:=HO.out;rwa [List.take_of_length_le (by have:=HCL.out;have:=HNO.out;omega)] at h)
  obtain ⟨A7,c7,hv,hI7,-⟩:=HL.out.res (n:=s.no.length) (show ∀ x:Int × Int,(win x).length=2 from fun _=>rfl) HCL.out
  subst hv
  have I7:=Lib.hid hI7
  replace HS:=Lib.hid (HY.out _ HR.out)
  replace Q3:=Lib.hid (HY3.out _ HR.out)
  replace I4:=Lib.hid (I4.out.below HR.out.B)
  clear HL hI7 HO HR HY HY3 hk hlt
  have c3_0:=Q3.out.cell 0 (.slice A 0 c) rfl
  have c3_1:=Q3.out.cell 1 (.int .i64 (i:Int)) rfl
  have c3_2:=Q3.out.cell 2 (.int .i64 (j:Int)) rfl
  have c3_3:=Q3.out.cell 3 (.bool rb) rfl
  rcases HD.out with ⟨rfl,hc,hx⟩ | ⟨rfl,ha,hc,hx⟩
  ·have HXX:=Lib.hid (HXC.out _ A7 c7 _ _ _ _ I7.out I4.out K4.out hc hx)
   have hx1:1≤Cs.exc (awC s) (stpL s) i j:=by omega
   generalize Cs.exc (awC s) (stpL s) i j=X at *
   clear hc hx HXC HD
   go_wp2_with fail
   refine HXX.out.mono ?_;rintro e' w8 ⟨rfl,hB⟩
   replace HS:=Lib.hid (HS.out.below hB)
   go_wp2_with fail
   go_ret
   exact ⟨ret_tt_pn (by simp;try omega),HS.out.B⟩
  have HXC2:=Lib.hid (fun W A c A2 c2 h1 h2 h3=>HXC.out W A c A2 c2 _ _ h1 h2 h3 hc hx)
  have hx1:1≤Cs.exc (sdL s (altL s)) (spS s) i j:=by omega
  have HA2:=Lib.hid (HAL.out ha)
  have HP2:=Lib.hid (HSP.out ha)
  generalize Cs.exc (sdL s (altL s)) (spS s) i j=X at *
  generalize (altC s).1=cx at *
  generalize (altC s).2=cy at *
  clear hc hx HXC HD HAL HSP ha I7 I4 K4
  go_wp2_with (refine at_stp (.tmp 1) rfl rfl rfl (HS.out.has 0 _ rfl) ?_)
  clear c3_0 c3_1 c3_2 c3_3
  refine (HA2.out _ HS.out).mono ?_;rintro e' w8 ⟨A8,c8,rfl,hI8,hB⟩
  replace HS:=Lib.hid (HS.out.below hB)
  replace Q3:=Lib.hid (Q3.out.below hB)
  have I8:=Lib.hid hI8
  clear hB HA2 hI8
  replace HS:=Lib.hid (HS.out.alloc (.cells #[.int .i64 cx,.int .i64 cy] 40))
  replace Q3:=Lib.hid (Q3.out.alloc (.cells #[.int .i64 cx,.int .i64 cy] 40))
  replace I8:=Lib.hid (I8.out.below (below_alloc1 w8 (.cells #[.int .i64 cx,.int .i64 cy] 40)))
  have k0:=HNS.out _ HS.out
  go_wp2_with fail
  clear k0
  generalize w8.alloc (.cells #[.int .i64 cx,.int .i64 cy] 40)=w9 at *
  have HY:=Lib.hid (fun W (h:BoxS w9 0 [] W)=>HS.out.below h.B)
  have HY3:=Lib.hid (fun W (h:BoxS w9 0 [] W)=>Q3.out.below h.B)
  obtain ⟨i0,hi,hz0,hz1,hz2⟩:=HIN.out
  go_loopw [13,89] (fun v t wr=>NdR s w9 v t wr) (fun _ t _=>s.sno.n - (intOf t).toNat)
  case atStart=>exact ⟨0,by have:=HNO.out;omega,rfl,boxS0n _,Ow.start _ _ _ _ _⟩
  case round =>
   obtain ⟨k,hk,rfl,hs,ho⟩:=hrel
   have HR:=Lib.hid hs
   have HO:=Lib.hid ho
   clear hs ho
   obtain ⟨m,hm⟩:∃ m,k+1=m:=⟨_,rfl⟩
   have Hm:=Lib.hid hm
   by_cases hlt:m<s.sno.n
   ·have hlt':(k:Int)<(s.sno.n:Int) - 1:=by omega
    have hlk:k<s.sno.n - 1:=by omega
    have hg:IntKind.i64.wrap ((k:Int)+1)=(k:Int)+1:=IntWalk.i64_in _ (by omega)
    have hnk:=HNV.out _ (HY.out _ HR.out) m (by have:=HNO.out;omega)
    have HTK:=Lib.hid (show (dstL s).take (k+1)=(dstL s).take k ++ [(nodA s m).di] from hm ▸ nd_take (by have:=HNO.out;omega))
    have hlen:((dstL s).take k).length≤64:=by rw [List.length_take];omega
    rw [show off+m * 7=off+7+k * 7 from by omega] at hnk
    obtain ⟨n0,n1,n2,n3,n4,n5,n6⟩:=hnk
    generalize (dstL s).take k=LL at *
    clear hm HS Q3
    go_wp2_with (at_builtin;refine wpList_append_own_at _ rfl _ _ 23 rfl w9.heap.size 2 i0 (.int .i64 0) 1 8 Tryz.underlying23 hi hz0 hz1 hz2 rfl (by decide) _ _ _ rfl (((HO.out.alloc _).alloc _).own) ⟨(wr.heap.size+1),0,none⟩ 1 1 [.int .i64 (nodA s m).di] rfl rfl (news_new _ _ (by first | rfl | simp) _ _ _ rfl) (by intro u hu;simp at hu;subst hu;rfl) (by unfold maxLen;omega) (by omega) (by have:=HR.out.B.size;simp;omega) ?_;intro v1 w7 hown hgrow hnil hblk)
    have HS7:=Lib.hid (((HR.out.alloc _).alloc _).grown hgrow (fun k hk=>(HO.out.lt hk).1))
    have HO7:=Lib.hid (Ow.next (l:=LL) (f:=oneI) (x:=(nodA s m).di) hown)
    clear hown hgrow hnil hblk
    go_roundw
    case rel=>exact ⟨k+1,by have:=HNO.out;have:=Hm.out;omega,by go_num,HS7.out,by rw [HTK.out];exact HO7.out⟩
    case measure=>simp only [intOf];omega
   have hlt':¬ (k:Int)<(s.sno.n:Int) - 1:=by omega
   have hlk:¬ k<s.sno.n - 1:=by omega
   have HL:=Lib.hid (show Ow oneI 1 2 w9.heap.size (dstL s) _ wr from by have h:=HO.out;rwa [List.take_of_length_le (by have:=HDL.out;have:=HNO.out;omega)] at h)
   obtain ⟨A',c',hv,hD,-⟩:=HL.out.ints HDL.out
   have HD:=Lib.hid hD
   subst hv
   replace HS:=Lib.hid (HY.out _ HR.out)
   replace Q3:=Lib.hid (HY3.out _ HR.out)
   replace I8:=Lib.hid (I8.out.below HR.out.B)
   clear HL hD HO HR HY HY3 hk
   go_wp2_with (refine at_stp (.tmp 1) rfl rfl rfl (HS.out.has 0 _ rfl) ?_)
   refine (HP2.out _ HS.out _ _ I8.out).mono ?_;rintro e' w10 ⟨A9,c9,rfl,hI9,-,hB⟩
   have I9:=Lib.hid hI9
   replace HS:=Lib.hid (HS.out.below hB)
   replace Q3:=Lib.hid (Q3.out.below hB)
   replace HD:=Lib.hid (HD.out.below hB)
   clear hB HP2 hI9 I8
   obtain ⟨k1,k2⟩:=HAC.out _ HS.out
   go_wp2_with fail
   clear k1 k2
   refine (HSS.out _ _ _ HD.out).mono ?_;rintro e' w11 ⟨A10,c10,rfl,hI10,hK10,hB⟩
   have I10:=Lib.hid hI10
   have K10:=Lib.hid hK10
   replace HS:=Lib.hid (HS.out.below hB)
   replace Q3:=Lib.hid (Q3.out.below hB)
   replace I9:=Lib.hid (I9.out.below hB)
   clear hB HSS hI10 hK10 HD
   have c3_1:=Q3.out.cell 1 (.int .i64 (i:Int)) rfl
   have c3_2:=Q3.out.cell 2 (.int .i64 (j:Int)) rfl
   go_wp2_with fail
   refine (HXC2.out _ _ _ _ _ I9.out I10.out K10.out).mono ?_;rintro e' w12 ⟨rfl,hB⟩
   replace HS:=Lib.hid (HS.out.below hB)
   go_wp2_with fail
   go_ret
   exact ⟨ret_tt_pn (by simp;try omega),HS.out.B⟩
end Go.Proofs.YtgneijdjlahgbaaGreat
