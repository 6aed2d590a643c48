
/- Over the layers: TopDescent, the walk. -/
import Derived.Test.YtheepmnhpclimaaGreatTpB
import Derived.Test.YtheepmnhpclimaaGreatTdP
import Derived.Test.YtheepmnhpclimaaGreatM21
import Derived.Test.YtheepmnhpclimaaGreatM1
import Derived.Laws.OwnMore
import Derived.RegionTactic
namespace Go.Proofs.YtheepmnhpclimaaGreat
set_option maxRecDepth 100000
set_option maxHeartbeats 16000000
set_option linter.unusedSimpArgs false
set_option linter.unusedVariables false
open Go.RowKit
open Go.Lib (hid)
theorem ret_tt_td {v:Bool} (h:v=true):Ending.returned (.bool v)=.returned (.bool true):=by rw [h]
def lastV (lv:Int) (l:List Int):Nat→Int
 | 0 => -1
 | k+1=>if l.getD k 0=lv then (k:Int) else lastV lv l k
theorem lastV_bd (lv:Int) (l:List Int):∀ k:Nat,-1≤lastV lv l k∧lastV lv l k<(k:Int)
 | 0=>by unfold lastV;omega
 | k+1=>by
  have ih:=lastV_bd lv l k
  unfold lastV
  by_cases h:l.getD k 0=lv
  ·rw [if_pos h];omega
  ·rw [if_neg h];omega
theorem lastV_after (lv:Int) (l:List Int):∀ (k j:Nat),lastV lv l k<(j:Int)→j<k→l.getD j 0≠lv
 | 0,j,_,hj=>absurd hj (by omega)
 | k+1,j,h,hj=>by
  unfold lastV at h
  by_cases h1:l.getD k 0=lv
  ·rw [if_pos h1] at h;omega
  ·rw [if_neg h1] at h
   by_cases h2:j=k
   ·subst h2;exact h1
   ·exact lastV_after lv l k j h (by omega)
theorem lastV_eq {lv:Int} {l:List Int} {k:Nat} (h:l.getD k 0=lv):lastV lv l (k+1)=(k:Int):=if_pos h
theorem lastV_ne {lv:Int} {l:List Int} {k:Nat} (h:l.getD k 0≠lv):lastV lv l (k+1)=lastV lv l k:=if_neg h
def TdR1 (lv:Int) (l:List Int) (n:Nat) (B:World) (x t:Value) (wr:World):Prop:=∃ k:Nat,k≤n∧x=vI (lastV lv l k)∧t=vI (k:Int)∧B=wr
def TdR2 (n:Nat) (D:Int) (B:World) (t:Value) (wr:World):Prop:=∃ k:Nat,k≤n∧D<(k:Int)∧t=vI (k:Int)∧BoxS B 0 [] wr
theorem int_A8 {W:World} {A:Option Addr} {n:Nat} {l:List Int} (h:Ints W A n l) (hn:0<n):∃ b off,A=some ⟨b,off,none⟩:=by
 obtain ⟨b,off,h1,_,_⟩:=h.cells hn
 exact ⟨b,off,h1⟩
theorem int_at8 {W:World} {b off n:Nat} {l:List Int} (h:Ints W (some ⟨b,off,none⟩) n l) {k:Nat} (hk:k<n):W.cell? ⟨b,off+k,none⟩=some (vI (l.getD k 0)):=by
 have hx:l[k]? = some (l.getD k 0):=by
  rw [List.getD_eq_getElem?_getD,List.getElem?_eq_getElem (by rw [h.len];exact hk)];rfl
 obtain ⟨b',o',h1,h2,h3⟩:=h.cells (by omega)
 injection h1 with h1;injection h1 with h1 h4;subst h1;subst h4
 exact h3 k _ hx
theorem infoNode:(Tryz.prog.info? 45).map (fun i=>(i.zero,i.size,i.bytes))=some (some (.agg #[vI 0,vI 0,vI 0,vI 0,vI 0,vI 0,vI 0]),7,56):=by kernel_rfl
theorem flat_set7 (A0 A1:Int):∀ (l:List Nod) (k:Nat) (x:Nod),l[k]? = some x→((l.flatMap Nod.cells).set (k * 7+3) (vI A0)).set (k * 7+4) (vI A1)=(l.set k ⟨x.px,x.py,x.di,A0,A1,x.s0,x.s1⟩).flatMap Nod.cells
 | [],k,x,h=>by simp at h
 | y :: t,0,x,h=>by
  obtain rfl:y=x:=by simpa using h
  rfl
 | y :: t,k+1,x,h=>by
  have ih:=flat_set7 A0 A1 t k x (by simpa using h)
  rw [show (k+1) * 7+3=k * 7+3+7 by omega,show (k+1) * 7+4=k * 7+4+7 by omega]
  show y.cells ++ ((t.flatMap Nod.cells).set (k * 7+3) (vI A0)).set (k * 7+4) (vI A1)=y.cells ++ (t.set k ⟨x.px,x.py,x.di,A0,A1,x.s0,x.s1⟩).flatMap Nod.cells
  rw [ih]
theorem flat_one7:∀ (l:List Nod),∀ u ∈ l.flatMap Nod.cells,u.oneCell'=true:=by
 intro l u hu
 obtain ⟨x,_,hx⟩:=List.mem_flatMap.1 hu
 unfold Nod.cells at hx
 simp only [List.mem_cons,List.not_mem_nil,or_false] at hx
 rcases hx with rfl | rfl | rfl | rfl | rfl | rfl | rfl <;> rfl
theorem flat_len7:∀ (l:List Nod),(l.flatMap Nod.cells).length=l.length * 7
 | []=>rfl
 | y :: t=>by rw [List.flatMap_cons,List.length_append,flat_len7 t];show 7+_=_;simp;omega
theorem flat_back {f:Nat→Option Value}:∀ (l:List Nod),(∀ k x,l[k]? = some x→∀ j v,x.cells[j]? = some v→f (k * 7+j)=some v)→∀ j u,(l.flatMap Nod.cells)[j]? = some u→f j=some u:=by
 intro l h j u hj
 have hlt:j<l.length * 7:=by rw [← flat_len7];exact (List.getElem?_eq_some_iff.1 hj).1
 have hk:j / 7<l.length:=by omega
 have hx:=List.getElem?_eq_getElem hk
 have hr:j % 7<(l[j / 7]).cells.length:=by show _<7;omega
 have hv:=List.getElem?_eq_getElem hr;have h1:=h _ _ hx _ _ hv;have h2:=flatMap_get (f:=Nod.cells) (sz:=7) (fun _=>rfl) hv l _ hx
 rw [show j / 7 * 7+j % 7=j by omega] at h1 h2
 rw [h2] at hj
 rw [h1,hj]
theorem td_lies {s:Stp} {W:World} {k:Nat} {sl:Sl} (h:s.lies W) (hr:Recs Nod.cells 7 W sl.A sl.n (s.no.set k (tdN s (nodA s k)))):(tdS s k sl).lies W:=⟨hr,h.pf,h.gr⟩
theorem td_call {s:Stp} (N:StN s) (ha:altE s=0) (hok:s.ok) {k:Nat} {sl:Sl} {W:World} (hk:k<s.sno.n) (hn:sl.n=s.sno.n) (hx:lastV s.lv (altL s) s.sno.n<(k:Int)) (h0:(nodA s k).a0≤s.lv) (h1:s.lv≤(nodA s k).a1) (hl:(tdS s k sl).lies W) :
  ∃ a b:Nat,a≤b∧b<s.sno.n∧Calls Tryz.prog 9 #[.agg (tdS s k sl).cells.toArray] W (fun e w'=>∃ A c,e=.returned (.tuple #[.slice A 0 c,.agg #[vI (a:Int),vI (b:Int)],vI 11])∧Below W.heap.size W w'):=by
 obtain ⟨e1,a,b,e2,hab,hb⟩:=td_conf N (StN.of hl) ha (by rw [N.no];exact hk) hn h0 h1 (lastV_after _ _ _ k hx hk)
 refine ⟨a,b,hab,by rw [← N.no];exact hb,?_⟩
 have h:=xPAltitudes (tdS s k sl) W hl ⟨by show sl.n≤maxLen;rw [hn];exact hok.no,hok.pf,hok.gr,hok.ld,hok.em⟩
 refine h.mono ?_;rintro e w' hh
 unfold AltP at hh
 rw [e1,e2,show okN 11 (tdS s k sl).no.length=0 from if_neg (by decide)] at hh
 obtain ⟨A,c,rfl,-,hB⟩:=hh
 exact ⟨A,c,rfl,hB⟩
theorem walk_TopDescent (s:Stp) (w:World) (hl:s.lies w) (hok:s.ok) (hsw:StpW s):Calls Tryz.prog 3 #[.agg s.cells.toArray] w (fun e w'=>e=.returned (.bool true)∧Below w.heap.size w w'):=by
 have HS:=hid (boxS1 w s.cells.toArray 35);have HAW:=hid bFlight_ok;have HA:=hid (fun W (h:BoxS w 1 [s.cells] W)=>xPAltitudes s W (hl.below h.B) hok)
 unfold AltP at HA
 have N:=StN.of hl;have hno:=N.no
 rw [hno] at HA
 by_cases ha:altE s=0
 rotate_left
 ·rw [show okN (altE s) s.sno.n=0 from if_neg ha] at HA
  have e1:=beq_of ha;have e2:=bne_of e1;generalize altE s=E at *;generalize (altC s).1=x at *;generalize (altC s).2=y at *;clear hl hok hsw ha N hno
  go_enter Tryz.func3,Tryz.ntmps3
  go_wp2_with fail
  refine (HAW.out _).mono ?_;rintro e' w1 ⟨rfl,hB⟩
  replace HS:=hid (HS.out.below hB);clear hB HAW
  go_wp2_with (refine at_stp (.tmp 1) rfl rfl rfl (HS.out.has 0 _ rfl) ?_)
  refine (HA.out _ HS.out).mono ?_;rintro e' w2 ⟨A,c,rfl,-,hB⟩
  replace HS:=hid (HS.out.below hB);clear hB HA;have Q4:Hid (Has ((w2.alloc (.cells #[vI x,vI y] 38))) w2.heap.size (lz2 x y)):=hid (Has.new _ _ _);have r4:w.heap.size+1≤w2.heap.size:=HS.out.sz;replace HS:=hid ((HS.out.alloc (.cells #[vI x,vI y] 38)))
  go_wp2_with fail
  go_ret
  exact ⟨ret_tt_td (by simp),HS.out.B⟩
 have AG:=alt_good N ha;obtain ⟨h0,-⟩:=altE_su ha;have G:=su_good h0;have hn2:=no_len G N
 rw [hno] at hn2
 obtain ⟨i1,i2⟩:=hn2;have HTC:=hid (fun (k:Nat) (sl:Sl) (W:World) (hk:k<s.sno.n) (hn:sl.n=s.sno.n) (hx:lastV s.lv (altL s) s.sno.n<(k:Int)) (h0:(nodA s k).a0≤s.lv) (h1:s.lv≤(nodA s k).a1) (hl:(tdS s k sl).lies W)=>td_call N ha hok hk hn hx h0 h1 hl)
 rw [ha] at HA
 simp only [okN_0,okL_0] at HA
 have HMX:Hid (∀ k,k<s.sno.n→(altL s).getD k 0≤s.lv):=hid (fun k hk=>(AG.win k (by rw [hno];exact hk)).2.2);obtain ⟨nb,off,hA,hnb,hcell⟩:=hl.no.cells (by omega)
 have HND:Hid (∀ k,k<s.sno.n→s.no[k]? = some (nodA s k)):=hid (fun k hk=>by
  have h2:=List.getElem?_eq_getElem (l:=s.no) (i:=k) (by rw [hno];exact hk)
  rw [nodA_of h2];exact h2)
 have HNS:=hid (fun W (h:BoxS w 1 [s.cells] W)=>show W.cell? ⟨w.heap.size,0,none⟩=some (.slice (some ⟨nb,off,none⟩) s.sno.n s.sno.c) from by rw [← hA];exact su_no (h.has 0 _ rfl));have HLV:=hid (fun W (h:BoxS w 1 [s.cells] W)=>show W.cell? ⟨w.heap.size,29,none⟩=some (vI s.lv) from su_lv (h.has 0 _ rfl))
 have HNC:=hid (fun W (h:BoxS w 1 [s.cells] W) j u (hj:(s.no.flatMap Nod.cells)[j]? = some u)=>show W.cell? (Addr.add ⟨nb,off,none⟩ j)=some u from by
  rw [Addr.add_mid]
  refine (h.B.cell (p:=⟨nb,off+j,none⟩) hnb).trans (flat_back (f:=fun j=>w.cell? ⟨nb,off+j,none⟩) s.no (fun k x hk j v hv=>?_) j u hj)
  have:=hcell k x hk j v hv
  show w.cell? ⟨nb,off+(k * 7+j),none⟩=_
  rw [← Nat.add_assoc];exact this)
 have HNV:=hid (fun W (h:BoxS w 1 [s.cells] W) k (hk:k<s.sno.n) j u (hj:(nodA s k).cells[j]? = some u)=>show W.cell? ⟨nb,off+k * 7+j,none⟩=some u from (h.B.cell (p:=⟨nb,off+k * 7+j,none⟩) hnb).trans (hcell k _ (HND.out k hk) j u hj));have HLI:=hid (fun W (h:BoxS w 1 [s.cells] W)=>show s.lies W from hl.below h.B);have HFL:Hid ((s.no.flatMap Nod.cells).length=s.sno.n * 7):=hid (by rw [flat_len7,hno]);have HNO:=hid hno;obtain ⟨q0,hi,hz0,hz1,hz2⟩:=info_parts infoNode;generalize (altC s).1=x at *;generalize (altC s).2=y at *;clear hl hok hsw ha N hno AG G h0 hcell hA
 go_enter Tryz.func3,Tryz.ntmps3
 go_wp2_with fail
 refine (HAW.out _).mono ?_;rintro e' w1 ⟨rfl,hB⟩
 replace HS:=hid (HS.out.below hB);clear hB HAW
 go_wp2_with (refine at_stp (.tmp 1) rfl rfl rfl (HS.out.has 0 _ rfl) ?_)
 refine (HA.out _ HS.out).mono ?_;rintro e' w2 ⟨A,c,rfl,hI,hB⟩
 replace HS:=hid (HS.out.below hB);obtain ⟨b2,o2,rfl⟩:=int_A8 hI (by omega);have I:=hid hI;clear hB HA hI;replace I:=hid (I.out.below (below_alloc1 w2 (.cells #[vI x,vI y] 38)));have Q4:Hid (Has ((w2.alloc (.cells #[vI x,vI y] 38))) w2.heap.size (lz2 x y)):=hid (Has.new _ _ _);have r4:w.heap.size+1≤w2.heap.size:=HS.out.sz;replace HS:=hid ((HS.out.alloc (.cells #[vI x,vI y] 38)));have k0:=HNS.out _ HS.out
 go_wp2_with fail
 clear k0;generalize (w2.alloc (.cells #[vI x,vI y] 38))=w3 at *;generalize w2.heap.size=H4 at *;clear Q4 r4
 go_loopw [6,36] (fun x t wr=>TdR1 s.lv (altL s) s.sno.n w3 x t wr) (fun _ t _=>s.sno.n - (intOf t).toNat)
 case atStart=>exact ⟨0,by omega,rfl,rfl,rfl⟩
 case round =>
  obtain ⟨k,hk,rfl,rfl,hwr⟩:=hrel;subst hwr
  by_cases hlt:k<s.sno.n
  ·have hlt':(k:Int)<(s.sno.n:Int):=by omega
   have hk0:(0:Int)≤(k:Int):=by omega
   have hg:IntKind.i64.wrap ((k:Int)+1)=(k:Int)+1:=IntWalk.i64_in _ (by omega);have hc:=int_at8 I.out hlt;have hm:=HMX.out k hlt
   have hle:¬ s.lv<(altL s).getD k 0:=by omega
   have l29:=HLV.out _ HS.out
   by_cases he:(altL s).getD k 0=s.lv
   ·have hv:=lastV_eq he
    have hq:((altL s).getD k 0 == s.lv)=true:=by rw [he];simp
    generalize hG:(altL s).getD k 0=h at *
    go_wp2_with fail
    go_roundw
    case rel=>exact ⟨k+1,by omega,by rw [hv],by go_num,rfl⟩
    case measure=>simp only [intOf];omega
   ·have hv:=lastV_ne he
    have hq:=beq_of he;generalize hG:(altL s).getD k 0=h at *
    go_wp2_with fail
    go_roundw
    case rel=>exact ⟨k+1,by omega,by rw [hv],by go_num,rfl⟩
    case measure=>simp only [intOf];omega
  obtain rfl:k=s.sno.n:=by omega
  have hD:=lastV_bd s.lv (altL s) s.sno.n;clear hlt HMX I hk;generalize lastV s.lv (altL s) s.sno.n=D at *;have hg1:IntKind.i64.wrap (D+1)=D+1:=IntWalk.i64_in _ (by omega)
  have hlt:¬ (s.sno.n:Int)<(s.sno.n:Int):=by omega
  go_wp2_with fail
  have HY:=hid (fun W (h:BoxS w3 0 [] W)=>HS.out.below h.B);clear HS hlt hg1
  go_loopw [9] (fun t wr=>TdR2 s.sno.n D w3 t wr) (fun t _=>s.sno.n - (intOf t).toNat)
  case atStart=>exact ⟨(D+1).toNat,by omega,by omega,by rw [show ((D+1).toNat:Int)=D+1 by omega],⟨fun i cs hi=>by simp at hi,by simp,Below.refl _ _,by simp⟩⟩
  case round =>
   obtain ⟨k,hk,hDk,rfl,hs⟩:=hrel;have HR:=hid hs;clear hs
   by_cases hlt:k<s.sno.n
   rotate_left
   ·have hlt':¬ (k:Int)<(s.sno.n:Int):=by omega
    have hb2:=hid (HY.out _ HR.out).B
    go_wp2_with fail
    go_ret
    exact ⟨ret_tt_td (by simp),hb2.out⟩
   have hlt':(k:Int)<(s.sno.n:Int):=by omega
   have hk0:(0:Int)≤(k:Int):=by omega
   have hg:IntKind.i64.wrap ((k:Int)+1)=(k:Int)+1:=IntWalk.i64_in _ (by omega);have hg6:IntKind.i64.wrap (D+6)=D+6:=IntWalk.i64_in _ (by omega);have k0:=HNS.out _ (HY.out _ HR.out);have p3:wr.cell? ⟨nb,off+k * 7+3,none⟩=some (vI (nodA s k).a0):=HNV.out _ (HY.out _ HR.out) k hlt 3 _ rfl;have p4:wr.cell? ⟨nb,off+k * 7+4,none⟩=some (vI (nodA s k).a1):=HNV.out _ (HY.out _ HR.out) k hlt 4 _ rfl;have HTK:=hid (fun sl W (hn:sl.n=s.sno.n)=>HTC.out k sl W hlt hn hDk);have HNK:=hid (HND.out k hlt);have HS:=HR;clear HR;generalize ha0:(nodA s k).a0=a0 at *;generalize ha1:(nodA s k).a1=a1 at *;have Q10:Hid (Has ((wr.alloc (.cells #[vI a0,vI a1] 43))) wr.heap.size (lz2 a0 a1)):=hid (Has.new _ _ _);have r10:w3.heap.size+0≤wr.heap.size:=HS.out.sz;replace HS:=hid ((HS.out.alloc (.cells #[vI a0,vI a1] 43)));have c10_0:=Q10.out.cell 0 (vI a0) rfl;have c10_1:=Q10.out.cell 1 (vI a1) rfl;have l29:=HLV.out _ (HY.out _ HS.out)
   by_cases d1:D<0
   ·clear HTC HTK HNC HND
    go_wp2_with fail
    go_roundw
    case rel=>exact ⟨k+1,by omega,by omega,by go_num,HS.out⟩
    case measure=>simp only [intOf];omega
   by_cases d2:s.lv<a0
   ·clear HTC HTK HNC HND
    go_wp2_with fail
    go_roundw
    case rel=>exact ⟨k+1,by omega,by omega,by go_num,HS.out⟩
    case measure=>simp only [intOf];omega
   by_cases d3:a1<s.lv
   ·clear HTC HTK HNC HND
    go_wp2_with fail
    go_roundw
    case rel=>exact ⟨k+1,by omega,by omega,by go_num,HS.out⟩
    case measure=>simp only [intOf];omega
   by_cases d4:D+6<(k:Int)
   ·clear HTC HTK HNC HND
    go_wp2_with fail
    go_roundw
    case rel=>exact ⟨k+1,by omega,by omega,by go_num,HS.out⟩
    case measure=>simp only [intOf];omega
   have hz5:(wr.alloc (.cells #[vI a0,vI a1] 43)).heap.size=wr.heap.size+1:=by simp
   have r11:w3.heap.size+0≤wr.heap.size+1:=hz5 ▸ HS.out.sz;have HNW:=hid (show Has ((wr.alloc (.cells #[vI a0,vI a1] 43)).alloc (.cells #[.slice none 0 0,.string ⟨#[]⟩,vI 0,vI 0,.slice none 0 0,.slice none 0 0,.slice none 0 0,.slice none 0 0,.slice none 0 0,.slice none 0 0,.slice none 0 0,.slice none 0 0,.slice none 0 0,vI 0,vI 0,vI 0,vI 0,vI 0,vI 0,vI 0,vI 0,.slice none 0 0,.slice none 0 0,.slice none 0 0,vI 0,vI 0,vI 0,vI 0,vI 0,vI 0,vI 0,vI 0,vI 0,vI 0,vI 0,vI 0] 35)) (wr.heap.size+1) [.slice none 0 0,.string ⟨#[]⟩,vI 0,vI 0,.slice none 0 0,.slice none 0 0,.slice none 0 0,.slice none 0 0,.slice none 0 0,.slice none 0 0,.slice none 0 0,.slice none 0 0,.slice none 0 0,vI 0,vI 0,vI 0,vI 0,vI 0,vI 0,vI 0,vI 0,.slice none 0 0,.slice none 0 0,.slice none 0 0,vI 0,vI 0,vI 0,vI 0,vI 0,vI 0,vI 0,vI 0,vI 0,vI 0,vI 0,vI 0] from Has.newAt (wr.alloc (.cells #[vI a0,vI a1] 43)) _ _ _ hz5);have HSW:=hid (HS.out.alloc (.cells #[.slice none 0 0,.string ⟨#[]⟩,vI 0,vI 0,.slice none 0 0,.slice none 0 0,.slice none 0 0,.slice none 0 0,.slice none 0 0,.slice none 0 0,.slice none 0 0,.slice none 0 0,.slice none 0 0,vI 0,vI 0,vI 0,vI 0,vI 0,vI 0,vI 0,vI 0,.slice none 0 0,.slice none 0 0,.slice none 0 0,vI 0,vI 0,vI 0,vI 0,vI 0,vI 0,vI 0,vI 0,vI 0,vI 0,vI 0,vI 0] 35))
   go_wp2_with (first | (refine at_stp (.tmp 1) rfl rfl rfl ((HY.out _ HS.out).has 0 _ rfl) ?_) | (refine store_named 35 (.tmp 11) (.tmp 87) rfl rfl (wr.heap.size+1) s.cells.toArray rfl rfl (by kernel_rfl) (by kernel_rfl) ?_))
   clear l29 k0 p3 p4;clear c10_0 c10_1;clear Q10 r10
   refine Named.mk fun W hW=>?_
   subst hW
   refine ⟨HNW.out.there rfl,Named.mk fun w6 hW2=>?_⟩
   have Q11:Hid (Has w6 (wr.heap.size+1) s.cells):=hid (by rw [hW2];exact HNW.out.setCells_same rfl)
   have HS2:=hid (show BoxS w3 0 [] w6 from by
    rw [hW2]
    refine ⟨fun i cs hi=>by simp at hi,by simp,below_setCells _ HSW.out.B _ _ r11,?_⟩
    rw [size_setCells];exact HSW.out.sz)
   clear hW2 HNW HSW HS;have HS:=HS2;clear HS2;clear hz5;generalize wr.heap.size+1=H11 at *
   go_wp2_with (refine build_named _ _ _ rfl rfl w6.heap.size rfl #[] 45 (fun W=>by go_simp) ?_)
   refine Named.mk fun W hW=>?_
   have OW:Hid (W.ownsRow w6.heap.size 45 7 (.slice (some ⟨w6.heap.size,0,none⟩) 0 0) 0 []):=hid (by rw [hW];exact World.ownsRow_made w6 #[] 0 (Nat.le_refl _) (by decide) rfl)
   have hz:w6.heap.size≤W.heap.size:=by rw [hW];simp
   have hlt11:H11<w6.heap.size:=Q11.out.lt;have r0:w3.heap.size+0≤w6.heap.size:=HS.out.sz;replace HS:=hid (show BoxS w3 0 [] W from by rw [hW];exact HS.out.alloc _);replace Q11:=hid (show Has W H11 s.cells from by rw [hW];exact Q11.out.alloc _);clear hW;generalize w6.heap.size=G0 at *;have k0:=HNS.out _ (HY.out _ HS.out)
   go_wp2_with (at_builtin;refine wpList_append_own_at _ rfl _ _ 22 rfl G0 45 q0 (.agg #[vI 0,vI 0,vI 0,vI 0,vI 0,vI 0,vI 0]) 7 56 Tryz.underlying22 hi hz0 hz1 hz2 rfl (by decide) _ _ _ rfl OW.out ⟨nb,off,none⟩ s.sno.n s.sno.c (s.no.flatMap Nod.cells) rfl HFL.out (HNC.out _ (HY.out _ HS.out)) (flat_one7 s.no) (by unfold maxLen;omega) (by omega) hz ?_)
   intro v1 w8 hown hgrow hnil hblk
   obtain ⟨g,cap,rfl,hg0,hglt⟩:=hown.form (by omega);replace HS:=hid (HS.out.grown hgrow (fun k hk=>by have e:G0=k:=Option.some.inj hk;omega));replace Q11:=hid (Q11.out.grown hgrow (fun h=>by have e:H11=G0:=Option.some.inj h;omega))
   have n11g:H11≠g:=by omega
   have rg:w3.heap.size+0≤g:=by omega
   have OW2:=hid hown;clear hown hgrow hnil hblk OW k0;have c0:=Q11.out.cell 0 _ (stp_c0 s);have fr11:=Q11.out.fr;replace Q11:=hid (show Has (w8.setCell ⟨H11,0,none⟩ (.slice (some ⟨g,0,none⟩) s.sno.n cap)) H11 (tdS s k ⟨some ⟨g,0,none⟩,s.sno.n,cap⟩).cells from Q11.out.set 0 (.slice (some ⟨g,0,none⟩) s.sno.n cap) (by show 0<36;decide));replace HS:=hid (HS.out.set H11 0 r11 (.slice (some ⟨g,0,none⟩) s.sno.n cap));replace OW2:=hid (ownsRow_setCell_below OW2.out (a:=⟨H11,0,none⟩) hlt11 (.slice (some ⟨g,0,none⟩) s.sno.n cap));have z0:(w8.setCell ⟨H11,0,none⟩ (.slice (some ⟨g,0,none⟩) s.sno.n cap)).cell? ⟨H11,0,none⟩=some (.slice (some ⟨g,0,none⟩) s.sno.n cap):=Q11.out.cell 0 _ rfl;have l29:=HLV.out _ (HY.out _ HS.out)
   have k3:(w8.setCell ⟨H11,0,none⟩ (.slice (some ⟨g,0,none⟩) s.sno.n cap)).cell? ⟨g,k * 7+3,none⟩=some (vI a0):=by
    rw [OW2.out.cellAt (k * 7+3) (by omega),← ha0]
    exact flatMap_get (f:=Nod.cells) (sz:=7) (fun _=>rfl) (j:=3) (x:=nodA s k) rfl _ k HNK.out
   have k4:(w8.setCell ⟨H11,0,none⟩ (.slice (some ⟨g,0,none⟩) s.sno.n cap)).cell? ⟨g,k * 7+4,none⟩=some (vI a1):=by
    rw [OW2.out.cellAt (k * 7+4) (by omega),← ha1]
    exact flatMap_get (f:=Nod.cells) (sz:=7) (fun _=>rfl) (j:=4) (x:=nodA s k) rfl _ k HNK.out
   have frg:=OW2.out.frozenAt;replace HS:=hid ((HS.out.set g (k * 7+3) rg (vI s.lv)).set g (k * 7+4) rg (vI s.lv));replace Q11:=hid ((Q11.out.other g (k * 7+3) (vI s.lv) n11g).other g (k * 7+4) (vI s.lv) n11g)
   have RN:Hid (Recs Nod.cells 7 (((w8.setCell ⟨H11,0,none⟩ (.slice (some ⟨g,0,none⟩) s.sno.n cap)).setCell ⟨g,k * 7+3,none⟩ (vI s.lv)).setCell ⟨g,k * 7+4,none⟩ (vI s.lv)) (some ⟨g,0,none⟩) s.sno.n (s.no.set k (tdN s (nodA s k)))):=hid (by
    have h:=((OW2.out.stored (k * 7+3) (vI s.lv)).1.stored (k * 7+4) (vI s.lv)).1
    rw [flat_set7 s.lv s.lv s.no k _ HNK.out] at h
    have h2:(s.no.set k (tdN s (nodA s k))).length=s.sno.n:=by rw [List.length_set];exact HNO.out
    exact Recs.of_own (f:=Nod.cells) (sz:=7) (fun _=>rfl) h2 h)
   go_wp2_with (refine at_stp (s:=tdS s k ⟨some ⟨g,0,none⟩,s.sno.n,cap⟩) (.tmp 11) rfl rfl rfl Q11.out ?_)
   clear c0 fr11 z0 l29 k3 k4 frg OW2;generalize (((w8.setCell ⟨H11,0,none⟩ (.slice (some ⟨g,0,none⟩) s.sno.n cap)).setCell ⟨g,k * 7+3,none⟩ (vI s.lv)).setCell ⟨g,k * 7+4,none⟩ (vI s.lv))=w9 at *;obtain ⟨a,b,hab,hbn,hcall⟩:=HTK.out ⟨some ⟨g,0,none⟩,s.sno.n,cap⟩ w9 rfl (by omega) (by omega) (td_lies (HLI.out _ (HY.out _ HS.out)) RN.out)
   refine hcall.mono ?_;rintro e' w10 ⟨A2,c2,rfl,hB⟩
   clear hcall Q11 RN;replace HS:=hid (HS.out.below hB);clear hB;have Q13:Hid (Has ((w10.alloc (.cells #[vI (a:Int),vI (b:Int)] 38))) w10.heap.size (lz2 (a:Int) (b:Int))):=hid (Has.new _ _ _);have r13:w3.heap.size+0≤w10.heap.size:=HS.out.sz;replace HS:=hid ((HS.out.alloc (.cells #[vI (a:Int),vI (b:Int)] 38)));have c13_0:=Q13.out.cell 0 (vI (a:Int)) rfl;have c13_1:=Q13.out.cell 1 (vI (b:Int)) rfl
   have t1:¬ (a:Int)<0:=by omega
   have t2:¬ (b:Int)<(a:Int):=by omega
   have t3:¬ (s.sno.n:Int)≤(b:Int):=by omega
   clear HTC HTK HNC HND
   go_wp2_with fail
   go_roundw
   case rel=>exact ⟨k+1,by omega,by omega,by go_num,HS.out⟩
   case measure=>simp only [intOf];omega
end Go.Proofs.YtheepmnhpclimaaGreat
