/- M25: PeU, PeV in one text. -/
import Derived.Test.YtedcanagfajcgaaGreatPeT
set_option linter.unusedSimpArgs false
set_option linter.unusedVariables false
set_option maxRecDepth 100000
set_option maxHeartbeats 2000000
namespace Go.Proofs
theorem Ic{G:Prop}(h:G:=by
  go_wp2_with fail
  go_ret
  exact ⟨Ao (by rw [G.out]),_,(by first | rfl | exact World.drewN_drewN _ _ _)⟩):G:=h
theorem LH{G:Prop}(h:G:=by
  go_ret
  exact ⟨Ao (by rw [G.out]),by first | exact Ag HB.out _ | exact Ag (Ag HB.out _) _⟩):G:=h
theorem Abv{G:Prop}(h:G:=by
  have:=HIFF.out.1 hB (k+1) (by rw [AX,HL.out];omega) (j+1) (by rw [AP HQ.out,HLQ2.out];exact hjl);have:=this.1 (by omega)
  rw [Nat.add_sub_cancel,GX.out,GY.out] at this
  omega):G:=h
theorem Abw{G:Prop}(h:G:=by
  have:=HIFF.out.1 hB (k+1) (by rw [AX,HL.out];omega) (j+1) (by rw [AP HQ.out,HLQ2.out];exact hjl);have:=this.2 (by omega)
  rw [Nat.add_sub_cancel,GX.out,GZ.out] at this
  omega):G:=h
theorem Abx{G:Prop}(h:G:=by
  have:=HIFF.out.1 hB (k) (by rw [AX,HL.out];omega) (j+1) (by rw [AP HQ.out,HLQ2.out];exact hjl);have:=this.2 (by omega)
  rw [Nat.add_sub_cancel,GX.out,GZ.out] at this
  omega):G:=h
theorem Aby{G:Prop}(h:G:=by
  have:=HIFF.out.1 hB (k+1) (by rw [AX,HL.out];omega) (j) (by rw [AP HQ.out,HLQ2.out];exact hjl);have:=this.1 (by omega)
  rw [Nat.add_sub_cancel,GX.out,GY.out] at this
  omega):G:=h
end Go.Proofs
namespace Go.Proofs.YtedcanagfajcgaaGreat
open Go.RowKit
open Go.Lib (hid)
theorem AP {rs:List Row} {k:Nat} {r:Row} (h:rs[k]? = some r):(Aj rs).getD k []=r.l:=by
 unfold Aj
 rw [Dp,List.getElem?_map,h];rfl
theorem BR {rs:List Row} {k j:Nat} {r:Row} {x:Int} (h:rs[k]? = some r) (hx:r.l[j]? = some x):g2 (Aj rs) k j=x:=by
 unfold g2
 rw [AP h];exact Ah hx
theorem AX (rs:List Row):(Aj rs).length=rs.length:=List.length_map _
structure Sq (w:World) (A:Option Addr) (n M:Nat) (hi:Int) (rs:List Row):Prop where
 tab:Tab w A n rs
 len:∀ r ∈ rs,r.n=M
 bd:∀ r ∈ rs,∀ x ∈ r.l,0<=x∧x<=hi
theorem Sq.below {w w':World} {A:Option Addr} {n M:Nat} {hi:Int} {rs:List Row} (h:Sq w A n M hi rs) (hb:Below w.heap.size w w'):Sq w' A n M hi rs:=⟨h.tab.below hb,h.len,h.bd⟩
theorem Bf {w:World} {A:Option Addr} {n M:Nat} {hi:Int} {rs:List Row} (h:Sq w A n M hi rs) {k j:Nat} {r:Row} (hr:rs[k]? = some r) (hj:j<M):∃ b off x,r.A=some ⟨b,off,none⟩∧r.l[j]? = some x∧0<=x∧x<=hi∧∀ m,(w.drewN m).cell? ⟨b,off+j,none⟩=some (vI x):=by
 have hm:=Au hr;have hI:=h.tab.row r hm;have hn:=h.len r hm;obtain ⟨b,off,hA,hb,hc⟩:=hI.cells (by omega);obtain ⟨x,hx⟩:=Am hI.len (show j<r.n by omega);obtain ⟨x0,x1⟩:=h.bd r hm x (Au hx)
 exact ⟨b,off,x,hA,hx,x0,x1,fun m=>(BC w m _).trans (hc j x hx)⟩
theorem Eu {w:World} {A:Option Addr} {n M:Nat} {hi:Int} {rs:List Row} (h:Sq w A n M hi rs) (hn:0<n):∃ b off,A=some ⟨b,off,none⟩∧∀ k r m,rs[k]? = some r→(w.drewN m).cell? ⟨b,off+k,none⟩=some (.slice r.A r.n r.c):=by
 obtain ⟨b,off,hA,hb,hc⟩:=h.tab.top.cells hn
 exact ⟨b,off,hA,fun k r m hr=>(BC w m _).trans (by have:=hc k r hr 0 _ rfl;simpa using this)⟩
theorem AeL (A:Option Addr) (n c M:Nat) (hi:Int) (rs:List Row) (w:World) (hl:Sq w A n M hi rs) (hhi:hi<=3000000000) (hn:n<=maxLen) (hM:M<=maxLen):Calls Tryz.prog 121 #[.slice A n c,vI (1)] w fun e w'=>e=.returned (.bool (Fp (Aj rs)))∧∃ q,w'=w.drewN q:=by
 have HE:=hid hl;have HL:=hid hl.tab.top.len;have HHI:=hid hhi;have hM0:=hM
 unfold maxLen at hn hM0
 clear hl hhi
 go_enter Tryz.func121,Tryz.ntmps121
 go_wp2_with fail
 go_loopw [10] (fun t wr=>∃ k:Nat,k<=n∧t=vI k∧(∀ i,i<k→(Pe.Up ((Aj rs).getD i [])∧(0<i→∀ j,j<((Aj rs).getD i []).length→g2 (Aj rs) i j<=g2 (Aj rs) (i - 1) j)))∧∃ q,wr=w.drewN q) (fun t _=>n - (intOf t).toNat)
 case atStart=>exact ⟨0,by omega,rfl,fun i hi=>by omega,0,rfl⟩
 case round =>
  obtain ⟨k,hk,rfl,hall,nq,rfl⟩:=hrel;have HAL:=hid hall;clear hall
  by_cases hlt:k<n
  rotate_left
  ·have HA:=hid (show Fp (Aj rs)=true from Ct (fun i hi=>HAL.out i (by rw [AX,HL.out] at hi;omega)))
   go_wp2_with fail
   go_ret
   exact ⟨Ao (by rw [HA.out]),nq,rfl⟩
  obtain ⟨b,off,rfl,ct⟩:=Eu HE.out (by omega);have CT:=hid ct;clear ct
  by_cases h0:0<k
  rotate_left
  ·have hk0:decide (0<k)=false:=BJ h0
   have HK0:=hid h0;obtain ⟨q,hq⟩:=Am HL.out hlt
   have c0:(w.drewN nq).cell? ⟨b,off+(k),none⟩=some (.slice q.A M q.c):=by have:=CT.out _ q nq hq;rwa [HE.out.len q (Au hq)] at this
   have HLQ:=hid (HE.out.len q (Au hq));have HLQ2:Hid (q.l.length=M):=hid ((HE.out.tab.row q (Au hq)).len.trans HLQ.out);have HC:=hid (TZ q.A M q.c q.l (w.drewN nq) (((show Ints w q.A M q.l from HLQ.out ▸ HE.out.tab.row q (Au hq))).heap rfl) hM (fun x hx=>by have:=HE.out.bd q (Au hq) x hx;exact ⟨this.1,by have:=HHI.out;omega⟩));have HQ:=hid hq;clear hq
   go_wp2_with fail
   refine HC.out.mono ?_;rintro e w2 ⟨rfl,nr,rfl⟩
   cases g1:upB q.l
   ·have G:=hid (show Fp (Aj rs)=false from BJ (fun ha=>(of_decide_eq_false g1) (by
     have:=(ha (k) (by rw [AX,HL.out];omega)).1
     rwa [AP HQ.out] at this)))
    clear g1
    exact Ic
   have HU:=hid (show Pe.Up ((Aj rs).getD (k) []) by rw [AP HQ.out];exact of_decide_eq_true g1);clear g1 c0
   go_wp2_with fail
   go_loopw [21] (fun t wr=>∃ j:Nat,j<=M∧t=vI j∧∃ q,wr=w.drewN q) (fun t _=>M - (intOf t).toNat)
   case atStart=>exact ⟨0,by omega,rfl,_,rfl⟩
   case round =>
    obtain ⟨j,hj,rfl,nr,rfl⟩:=hrel
    by_cases hjl:j<M
    ·have hgd:decide (0<k)=false:=hk0
     go_wp2_with fail
     go_quiet (fail)
     go_wp2_with fail
     go_roundw
     case rel=>exact ⟨j+1,by omega,by go_num,_,rfl⟩
     case measure=>exact zMs
    ·go_wp2_with fail
     go_roundw
     case rel=>exact ⟨k+1,by omega,by go_num,fun i hi=>by
      by_cases e:i=k
      ·subst e;exact ⟨HU.out,fun h=>absurd h HK0.out⟩
      ·exact HAL.out i (by omega),_,rfl⟩
     case measure=>exact zMs
  obtain ⟨k,rfl⟩:∃ m,k=m+1:=⟨k - 1,by omega⟩;obtain ⟨p,hp⟩:=Am HL.out (show k<n by omega);have HP:=hid hp;have HLP:=hid (HE.out.len p (Au hp));clear hp h0;obtain ⟨q,hq⟩:=Am HL.out hlt
  have c0:(w.drewN nq).cell? ⟨b,off+(k+1),none⟩=some (.slice q.A M q.c):=by have:=CT.out _ q nq hq;rwa [HE.out.len q (Au hq)] at this
  have HLQ:=hid (HE.out.len q (Au hq));have HLQ2:Hid (q.l.length=M):=hid ((HE.out.tab.row q (Au hq)).len.trans HLQ.out);have HC:=hid (TZ q.A M q.c q.l (w.drewN nq) (((show Ints w q.A M q.l from HLQ.out ▸ HE.out.tab.row q (Au hq))).heap rfl) hM (fun x hx=>by have:=HE.out.bd q (Au hq) x hx;exact ⟨this.1,by have:=HHI.out;omega⟩));have HQ:=hid hq;clear hq
  go_wp2_with fail
  refine HC.out.mono ?_;rintro e w2 ⟨rfl,nr,rfl⟩
  cases g1:upB q.l
  ·have G:=hid (show Fp (Aj rs)=false from BJ (fun ha=>(of_decide_eq_false g1) (by
    have:=(ha (k+1) (by rw [AX,HL.out];omega)).1
    rwa [AP HQ.out] at this)))
   clear g1
   exact Ic
  have HU:=hid (show Pe.Up ((Aj rs).getD (k+1) []) by rw [AP HQ.out];exact of_decide_eq_true g1);clear g1 c0
  go_wp2_with fail
  go_loopw [21] (fun t wr=>∃ j:Nat,j<=M∧t=vI j∧(∀ i,i<j→g2 (Aj rs) (k+1) i<=g2 (Aj rs) k i)∧∃ q,wr=w.drewN q) (fun t _=>M - (intOf t).toNat)
  case atStart=>exact ⟨0,by omega,rfl,fun i hi=>by omega,_,rfl⟩
  case round =>
   obtain ⟨j,hj,rfl,hin,nr,rfl⟩:=hrel;have HIN:=hid hin;clear hin
   by_cases hjl:j<M
   ·obtain ⟨b1,o1,x,hA1,hx,x0,x1,c1⟩:=Bf HE.out HQ.out hjl
    obtain ⟨b2,o2,y,hA2,hy,y0,y1,c2⟩:=Bf HE.out HP.out hjl;have HG:=hid (And.intro (BR HQ.out hx) (BR HP.out hy))
    have r1:∀ m,(w.drewN m).cell? ⟨b,off+k,none⟩=some (.slice (some ⟨b2,o2,none⟩) M p.c):=fun m=>by rw [← hA2,← HLP.out];exact CT.out k p m HP.out
    have s1:IntKind.i64.wrap ((k:Int)+1 - 1)=(k:Int):=by rw [(iW _)];omega
    have hkn:k<n:=by omega
    have hkn2:(k:Int)<(n:Int):=by omega
    have hkn3:0<=(k:Int):=by omega
    have s0:IntKind.i64.wrap (k:Int)=(k:Int):=iW _;have HA1:=hid hA1;clear hx hy hA2 hA1
    rw [HA1.out]
    by_cases hg:x<=y
    ·have hgb:decide (y<x)=false:=BJ (by omega)
     go_wp2_with fail
     go_quiet (fail)
     clear s1 s0
     go_wp2_with fail
     go_roundw
     case rel=>exact ⟨j+1,by omega,by go_num,fun i hi=>by
      by_cases e:i=j
      ·subst e;rw [HG.out.1,HG.out.2];exact hg
      ·exact HIN.out i (by omega),_,rfl⟩
     case measure=>exact zMs
    ·have hgb:decide (y<x)=true:=Ct (by omega)
     have G:=hid (show Fp (Aj rs)=false from BJ (fun ha=>hg (by
      have:=(ha (k+1) (by rw [AX,HL.out];omega)).2 (by omega) j (by rw [AP HQ.out,HLQ2.out];exact hjl)
      rw [HG.out.1,Nat.add_sub_cancel,HG.out.2] at this;exact this)))
     go_wp2_with fail
     go_quiet (fail)
     clear s1 s0
     exact Ic
   ·go_wp2_with fail
    go_roundw
    case rel=>exact ⟨k+1+1,by omega,by go_num,fun i hi=>by
     by_cases e:i=k+1
     ·subst e;exact ⟨HU.out,fun _ j' hj'=>HIN.out j' (by rw [AP HQ.out,HLQ2.out] at hj';omega)⟩
     ·exact HAL.out i (by omega),_,rfl⟩
    case measure=>exact zMs
theorem AeK (A:Option Addr) (n c M:Nat) (hi:Int) (rs:List Row) (w:World) (hl:Sq w A n M hi rs) (hhi:hi<=3000000000) (hn:n<=maxLen) (hM:M<=maxLen):Calls Tryz.prog 121 #[.slice A n c,vI (-1)] w fun e w'=>e=.returned (.bool (Gd (Aj rs)))∧∃ q,w'=w.drewN q:=by
 have HE:=hid hl;have HL:=hid hl.tab.top.len;have HHI:=hid hhi;have hM0:=hM
 unfold maxLen at hn hM0
 clear hl hhi
 go_enter Tryz.func121,Tryz.ntmps121
 go_wp2_with fail
 go_loopw [10] (fun t wr=>∃ k:Nat,k<=n∧t=vI k∧(∀ i,i<k→(Pe.Down ((Aj rs).getD i [])∧(0<i→∀ j,j<((Aj rs).getD i []).length→g2 (Aj rs) i j<=g2 (Aj rs) (i - 1) j)))∧∃ q,wr=w.drewN q) (fun t _=>n - (intOf t).toNat)
 case atStart=>exact ⟨0,by omega,rfl,fun i hi=>by omega,0,rfl⟩
 case round =>
  obtain ⟨k,hk,rfl,hall,nq,rfl⟩:=hrel;have HAL:=hid hall;clear hall
  by_cases hlt:k<n
  rotate_left
  ·have HA:=hid (show Gd (Aj rs)=true from Ct (fun i hi=>HAL.out i (by rw [AX,HL.out] at hi;omega)))
   go_wp2_with fail
   go_ret
   exact ⟨Ao (by rw [HA.out]),nq,rfl⟩
  obtain ⟨b,off,rfl,ct⟩:=Eu HE.out (by omega);have CT:=hid ct;clear ct
  by_cases h0:0<k
  rotate_left
  ·have hk0:decide (0<k)=false:=BJ h0
   have HK0:=hid h0;obtain ⟨q,hq⟩:=Am HL.out hlt
   have c0:(w.drewN nq).cell? ⟨b,off+(k),none⟩=some (.slice q.A M q.c):=by have:=CT.out _ q nq hq;rwa [HE.out.len q (Au hq)] at this
   have HLQ:=hid (HE.out.len q (Au hq));have HLQ2:Hid (q.l.length=M):=hid ((HE.out.tab.row q (Au hq)).len.trans HLQ.out);have HC:=hid (TQ q.A M q.c q.l (w.drewN nq) (((show Ints w q.A M q.l from HLQ.out ▸ HE.out.tab.row q (Au hq))).heap rfl) hM (fun x hx=>by have:=HE.out.bd q (Au hq) x hx;exact ⟨this.1,by have:=HHI.out;omega⟩));have HQ:=hid hq;clear hq
   go_wp2_with fail
   refine HC.out.mono ?_;rintro e w2 ⟨rfl,nr,rfl⟩
   cases g1:dnB q.l
   ·have G:=hid (show Gd (Aj rs)=false from BJ (fun ha=>(of_decide_eq_false g1) (by
     have:=(ha (k) (by rw [AX,HL.out];omega)).1
     rwa [AP HQ.out] at this)))
    clear g1
    exact Ic
   have HU:=hid (show Pe.Down ((Aj rs).getD (k) []) by rw [AP HQ.out];exact of_decide_eq_true g1);clear g1 c0
   go_wp2_with fail
   go_loopw [21] (fun t wr=>∃ j:Nat,j<=M∧t=vI j∧∃ q,wr=w.drewN q) (fun t _=>M - (intOf t).toNat)
   case atStart=>exact ⟨0,by omega,rfl,_,rfl⟩
   case round =>
    obtain ⟨j,hj,rfl,nr,rfl⟩:=hrel
    by_cases hjl:j<M
    ·have hgd:decide (0<k)=false:=hk0
     go_wp2_with fail
     go_quiet (fail)
     go_wp2_with fail
     go_roundw
     case rel=>exact ⟨j+1,by omega,by go_num,_,rfl⟩
     case measure=>exact zMs
    ·go_wp2_with fail
     go_roundw
     case rel=>exact ⟨k+1,by omega,by go_num,fun i hi=>by
      by_cases e:i=k
      ·subst e;exact ⟨HU.out,fun h=>absurd h HK0.out⟩
      ·exact HAL.out i (by omega),_,rfl⟩
     case measure=>exact zMs
  obtain ⟨k,rfl⟩:∃ m,k=m+1:=⟨k - 1,by omega⟩;obtain ⟨p,hp⟩:=Am HL.out (show k<n by omega);have HP:=hid hp;have HLP:=hid (HE.out.len p (Au hp));clear hp h0;obtain ⟨q,hq⟩:=Am HL.out hlt
  have c0:(w.drewN nq).cell? ⟨b,off+(k+1),none⟩=some (.slice q.A M q.c):=by have:=CT.out _ q nq hq;rwa [HE.out.len q (Au hq)] at this
  have HLQ:=hid (HE.out.len q (Au hq));have HLQ2:Hid (q.l.length=M):=hid ((HE.out.tab.row q (Au hq)).len.trans HLQ.out);have HC:=hid (TQ q.A M q.c q.l (w.drewN nq) (((show Ints w q.A M q.l from HLQ.out ▸ HE.out.tab.row q (Au hq))).heap rfl) hM (fun x hx=>by have:=HE.out.bd q (Au hq) x hx;exact ⟨this.1,by have:=HHI.out;omega⟩));have HQ:=hid hq;clear hq
  go_wp2_with fail
  refine HC.out.mono ?_;rintro e w2 ⟨rfl,nr,rfl⟩
  cases g1:dnB q.l
  ·have G:=hid (show Gd (Aj rs)=false from BJ (fun ha=>(of_decide_eq_false g1) (by
    have:=(ha (k+1) (by rw [AX,HL.out];omega)).1
    rwa [AP HQ.out] at this)))
   clear g1
   exact Ic
  have HU:=hid (show Pe.Down ((Aj rs).getD (k+1) []) by rw [AP HQ.out];exact of_decide_eq_true g1);clear g1 c0
  go_wp2_with fail
  go_loopw [21] (fun t wr=>∃ j:Nat,j<=M∧t=vI j∧(∀ i,i<j→g2 (Aj rs) (k+1) i<=g2 (Aj rs) k i)∧∃ q,wr=w.drewN q) (fun t _=>M - (intOf t).toNat)
  case atStart=>exact ⟨0,by omega,rfl,fun i hi=>by omega,_,rfl⟩
  case round =>
   obtain ⟨j,hj,rfl,hin,nr,rfl⟩:=hrel;have HIN:=hid hin;clear hin
   by_cases hjl:j<M
   ·obtain ⟨b1,o1,x,hA1,hx,x0,x1,c1⟩:=Bf HE.out HQ.out hjl
    obtain ⟨b2,o2,y,hA2,hy,y0,y1,c2⟩:=Bf HE.out HP.out hjl;have HG:=hid (And.intro (BR HQ.out hx) (BR HP.out hy))
    have r1:∀ m,(w.drewN m).cell? ⟨b,off+k,none⟩=some (.slice (some ⟨b2,o2,none⟩) M p.c):=fun m=>by rw [← hA2,← HLP.out];exact CT.out k p m HP.out
    have s1:IntKind.i64.wrap ((k:Int)+1 - 1)=(k:Int):=by rw [(iW _)];omega
    have hkn:k<n:=by omega
    have hkn2:(k:Int)<(n:Int):=by omega
    have hkn3:0<=(k:Int):=by omega
    have s0:IntKind.i64.wrap (k:Int)=(k:Int):=iW _;have HA1:=hid hA1;clear hx hy hA2 hA1
    rw [HA1.out]
    by_cases hg:x<=y
    ·have hgb:decide (y<x)=false:=BJ (by omega)
     go_wp2_with fail
     go_quiet (fail)
     clear s1 s0
     go_wp2_with fail
     go_roundw
     case rel=>exact ⟨j+1,by omega,by go_num,fun i hi=>by
      by_cases e:i=j
      ·subst e;rw [HG.out.1,HG.out.2];exact hg
      ·exact HIN.out i (by omega),_,rfl⟩
     case measure=>exact zMs
    ·have hgb:decide (y<x)=true:=Ct (by omega)
     have G:=hid (show Gd (Aj rs)=false from BJ (fun ha=>hg (by
      have:=(ha (k+1) (by rw [AX,HL.out];omega)).2 (by omega) j (by rw [AP HQ.out,HLQ2.out];exact hjl)
      rw [HG.out.1,Nat.add_sub_cancel,HG.out.2] at this;exact this)))
     go_wp2_with fail
     go_quiet (fail)
     clear s1 s0
     exact Ic
   ·go_wp2_with fail
    go_roundw
    case rel=>exact ⟨k+1+1,by omega,by go_num,fun i hi=>by
     by_cases e:i=k+1
     ·subst e;exact ⟨HU.out,fun _ j' hj'=>HIN.out j' (by rw [AP HQ.out,HLQ2.out] at hj';omega)⟩
     ·exact HAL.out i (by omega),_,rfl⟩
    case measure=>exact zMs
theorem Z5 (p:Prf) (w:World) (hl:p.lies w) (hs:Sq w p.scl.A p.scl.n p.sms.n 10000 p.cl) (hok:p.ok) (hn:p.scl.n=p.sal.n) (ha:∀ x ∈ p.al,-200000<=x∧x<=6000000):Calls Tryz.prog 122 #[.agg p.cells.toArray] w fun e w'=>e=.returned (.bool (gnB p.al (Aj p.cl)))∧Below w.heap.size w w':=by
 have HA:=hid hl.al;have HLA:=hid hl.al.len;have HLC:=hid hl.cl.top.len;have HBA:=hid ha;have h1:=hok.al;have h2:=hok.ms
 unfold maxLen at h1 h2
 have HE:=hid hs;have HPC:=hid (show p.cells[3]? = some (.slice p.sal.A p.sal.n p.sal.c)∧p.cells[5]? = some (.slice p.scl.A p.scl.n p.scl.c) from ⟨rfl,rfl⟩);have HBOX:=hid (fun w=>Has.new w p.cells.toArray 26);clear hl hs hok ha;generalize p.cells=C at *;generalize p.sal.A=A1 at *;generalize p.sal.n=n at *;generalize p.sal.c=c1 at *;generalize p.scl.A=A2 at *;obtain rfl:=hn;generalize p.scl.n=n at *;generalize p.scl.c=c2 at *;generalize p.sms.n=M at *;generalize p.al=al at *;generalize p.cl=rs at *
 go_enter Tryz.func122,Tryz.ntmps122
 go_wp2_with fail
 have BP:=hid (HBOX.out w);have HB:=hid (Aa w (.cells C.toArray 26));replace HE:=hid (HE.out.below (Aa w (.cells C.toArray 26)));replace HA:=hid (HA.out.below (Aa w (.cells C.toArray 26)));generalize w.alloc (.cells C.toArray 26)=w1 at *;have k3:∀ m,(w1.drewN m).cell? ⟨w.heap.size,3,none⟩=some (.slice A1 n c1):=fun m=>(BC w1 m _).trans (BP.out.cell 3 _ HPC.out.1);have k5:∀ m,(w1.drewN m).cell? ⟨w.heap.size,5,none⟩=some (.slice A2 n c2):=fun m=>(BC w1 m _).trans (BP.out.cell 5 _ HPC.out.2);clear HPC BP HBOX
 go_loopw [3] (fun t wr=>∃ k:Nat,k<=n∧t=vI (k+1)∧(∀ i,i<k→∀ j,j<((Aj rs).getD (i+1) []).length→g2 (Aj rs) i j - g2 (Aj rs) (i+1) j<=al.getD (i+1) 0 - al.getD i 0)∧∃ q,wr=w1.drewN q) (fun t _=>n+1 - (intOf t).toNat)
 case atStart=>exact ⟨0,by omega,rfl,fun i hi=>by omega,0,rfl⟩
 case round =>
  obtain ⟨k,hk,rfl,hall,nq,rfl⟩:=hrel;have HAL:=hid hall;clear hall
  by_cases hlt:k+1<n
  rotate_left
  ·have HG:=hid (show gnB al (Aj rs)=true from Ct (fun i hi h0 j hj=>by
    obtain ⟨i,rfl⟩:∃ m,i=m+1:=⟨i - 1,by omega⟩
    exact HAL.out i (by rw [HLA.out] at hi;omega) j hj))
   go_wp2_with fail
   go_ret
   exact ⟨Ao (by rw [HG.out]),Ag HB.out _⟩
  obtain ⟨q,hq⟩:=Am HLC.out hlt;obtain ⟨p,hp⟩:=Am HLC.out (show k<n by omega);obtain ⟨u,hu⟩:=Am HLA.out hlt;obtain ⟨v,hv⟩:=Am HLA.out (show k<n by omega);obtain ⟨b,off,rfl,ct⟩:=Eu HE.out (by omega);obtain ⟨ba,oa,rfl,hba,ca⟩:=HA.out.cells (by omega);have HQ:=hid hq;have HP:=hid hp;have HLQ:=hid (HE.out.len q (Au hq));have HLP:=hid (HE.out.len p (Au hp));have HLQ2:Hid (q.l.length=M):=hid ((HE.out.tab.row q (Au hq)).len.trans HLQ.out);obtain ⟨u0,u1⟩:=HBA.out u (Au hu);obtain ⟨v0,v1⟩:=HBA.out v (Au hv);have HUV:=hid (show al.getD (k+1) 0=u∧al.getD k 0=v from ⟨Ah hu,Ah hv⟩);have a1:∀ m,(w1.drewN m).cell? ⟨ba,oa+(k+1),none⟩=some (vI u):=fun m=>(BC w1 m _).trans (ca _ u hu);have a2:∀ m,(w1.drewN m).cell? ⟨ba,oa+k,none⟩=some (vI v):=fun m=>(BC w1 m _).trans (ca _ v hv)
  have r0:∀ m,(w1.drewN m).cell? ⟨b,off+(k+1),none⟩=some (.slice q.A M q.c):=fun m=>by rw [← HLQ.out];exact ct _ q m HQ.out
  have CT:=hid ct;clear ct ca hu hv hq hp
  go_wp2_with fail
  go_loopw [18] (fun t wr=>∃ j:Nat,j<=M∧t=vI j∧(∀ i,i<j→g2 (Aj rs) k i - g2 (Aj rs) (k+1) i<=u - v)∧∃ q,wr=w1.drewN q) (fun t _=>M - (intOf t).toNat)
  case atStart=>exact ⟨0,by omega,rfl,fun i hi=>by omega,_,rfl⟩
  case round =>
   obtain ⟨j,hj,rfl,hin,nr,rfl⟩:=hrel;have HIN:=hid hin;clear hin
   by_cases hjl:j<M
   rotate_left
   ·go_wp2_with fail
    go_roundw
    case rel=>exact ⟨k+1,by omega,by go_num,fun i hi=>by
     by_cases e:i=k
     ·subst e;rw [HUV.out.1,HUV.out.2];exact fun j' hj'=>HIN.out j' (by rw [AP HQ.out,HLQ2.out] at hj';omega)
     ·exact HAL.out i (by omega),_,rfl⟩
    case measure=>exact zMs
   obtain ⟨b1,o1,x,hA1,hx,x0,x1,c1'⟩:=Bf HE.out HQ.out hjl;obtain ⟨b2,o2,y,hA2,hy,y0,y1,c2'⟩:=Bf HE.out HP.out hjl;have HG:=hid (And.intro (BR HQ.out hx) (BR HP.out hy))
   have r1:∀ m,(w1.drewN m).cell? ⟨b,off+k,none⟩=some (.slice (some ⟨b2,o2,none⟩) M p.c):=fun m=>by rw [← hA2,← HLP.out];exact CT.out k p m HP.out
   have r2:∀ m,(w1.drewN m).cell? ⟨b,off+(k+1),none⟩=some (.slice (some ⟨b1,o1,none⟩) M q.c):=fun m=>by rw [← hA1,← HLQ.out];exact CT.out (k+1) q m HQ.out
   have s1:IntKind.i64.wrap ((k:Int)+1 - 1)=(k:Int):=by rw [(iW _)];omega
   have hkn:k<n:=by omega
   have hkn2:(k:Int)<(n:Int):=by omega
   have hkn3:0<=(k:Int):=by omega
   have s0:IntKind.i64.wrap (k:Int)=(k:Int):=iW _;have d1:=iW (y - x);have d2:=iW (u - v);clear hx hy hA2 hA1 r0
   by_cases hg:y - x<=u - v
   ·have hgb:decide (u - v<y - x)=false:=BJ (by omega)
    go_wp2_with fail
    go_quiet (fail)
    clear s1 s0 d1 d2
    go_wp2_with fail
    go_roundw
    case rel=>exact ⟨j+1,by omega,by go_num,fun i hi=>by
     by_cases e:i=j
     ·subst e;rw [HG.out.1,HG.out.2];exact hg
     ·exact HIN.out i (by omega),_,(by first | rfl | exact World.drewN_drewN _ _ _)⟩
    case measure=>exact zMs
   ·have hgb:decide (u - v<y - x)=true:=Ct (by omega)
    have G:=hid (show gnB al (Aj rs)=false from BJ (fun ha=>hg (by
     have:=ha (k+1) (by rw [HLA.out];omega) (by omega) j (by rw [AP HQ.out,HLQ2.out];exact hjl)
     rw [Nat.add_sub_cancel,HG.out.1,HG.out.2,HUV.out.1,HUV.out.2] at this;exact this)))
    go_wp2_with fail
    go_quiet (fail)
    clear s1 s0 d1 d2
    go_wp2_with fail
    exact LH
def ZT (T:List (List Int)) (k e:Nat):Prop:=(0<k→g2 T k e<=g2 T (k - 1) e)∧(0<e→g2 T k (e - 1)<=g2 T k e)
def YN (al:List Int) (T:List (List Int)) (k e:Nat):Prop:=(0<k→g2 T k e<=g2 T (k - 1) e∧g2 T (k - 1) e - g2 T k e<=al.getD k 0 - al.getD (k - 1) 0)∧(0<e→g2 T k e<=g2 T k (e - 1))
theorem WA {T:List (List Int)}:Fp T=true ↔ ∀ k,k<T.length→∀ e,e<(T.getD k []).length→ZT T k e:=by
 unfold Fp
 rw [decide_eq_true_eq]
 constructor
 ·intro h k hk e he
  obtain ⟨h1,h2⟩:=h k hk
  refine ⟨fun h0=>h2 h0 e he,fun h0=>?_⟩
  have:=h1 (e - 1) (by omega)
  rw [show e - 1+1=e by omega] at this
  exact this
 ·intro h k hk
  refine ⟨fun i hi=>?_,fun h0 j hj=>(h k hk j hj).1 h0⟩
  have:=(h k hk (i+1) hi).2 (by omega)
  rwa [Nat.add_sub_cancel] at this
theorem Ab2 {al:List Int} {T:List (List Int)} (hl:T.length=al.length):(Gd T && gnB al T)=true ↔ ∀ k,k<T.length→∀ e,e<(T.getD k []).length→YN al T k e:=by
 unfold Gd gnB
 rw [Bool.and_eq_true,decide_eq_true_eq,decide_eq_true_eq]
 constructor
 ·rintro ⟨h,hg⟩ k hk e he
  obtain ⟨h1,h2⟩:=h k hk
  refine ⟨fun h0=>⟨h2 h0 e he,hg k (by omega) h0 e he⟩,fun h0=>?_⟩
  have:=h1 (e - 1) (by omega)
  rw [show e - 1+1=e by omega] at this
  exact this
 ·intro h
  refine ⟨fun k hk=>⟨fun i hi=>?_,fun h0 j hj=>((h k hk j hj).1 h0).1⟩,fun k hk h0 j hj=>((h k (by omega) j hj).1 h0).2⟩
  have:=(h k hk (i+1) hi).2 (by omega)
  rwa [Nat.add_sub_cancel] at this
theorem AcF (A:Option Addr) (n c M:Nat) (hi:Int) (rs:List Row) (w:World) (hl:Sq w A n M hi rs) (hhi:hi<=3000000000) (hn:n<=maxLen) (hM:M<=maxLen):Calls Tryz.prog 138 #[.slice A n c] w fun e w'=>e=.returned (.bool (Fp (Aj rs)))∧∃ q,w'=w.drewN q:=by
 have HE:=hid hl;have HL:=hid hl.tab.top.len;have HIFF:=hid (WA (T:=Aj rs))
 unfold maxLen at hn hM
 clear hl hhi
 go_enter Tryz.func138,Tryz.ntmps138
 go_wp2_with fail
 go_loopw [7] (fun t wr=>∃ k:Nat,k<=n∧t=vI k∧(∀ i,i<k→∀ e,e<((Aj rs).getD i []).length→ZT (Aj rs) i e)∧∃ q,wr=w.drewN q) (fun t _=>n - (intOf t).toNat)
 case atStart=>exact ⟨0,by omega,rfl,fun i hi=>by omega,0,rfl⟩
 case round =>
  obtain ⟨k,hk,rfl,hall,nq,rfl⟩:=hrel;have HAL:=hid hall;clear hall
  by_cases hlt:k<n
  rotate_left
  ·have HA:=hid (show Fp (Aj rs)=true from (HIFF.out.2 (fun i hi=>HAL.out i (by rw [AX,HL.out] at hi;omega))))
   go_wp2_with fail
   go_ret
   exact ⟨Ao (by rw [HA.out]),_,(by first | rfl | exact World.drewN_drewN _ _ _)⟩
  obtain ⟨b,off,rfl,ct⟩:=Eu HE.out (by omega);have CT:=hid ct;clear ct
  by_cases h0:0<k
  rotate_left
  ·have HK0:=hid h0
   clear h0;obtain ⟨q,hq⟩:=Am HL.out hlt;have HQ:=hid hq;have HLQ:=hid (HE.out.len q (Au hq));have HLQ2:Hid (q.l.length=M):=hid ((HE.out.tab.row q (Au hq)).len.trans HLQ.out)
   have c0:∀ m,(w.drewN m).cell? ⟨b,off+(k),none⟩=some (.slice q.A M q.c):=fun m=>by rw [← HLQ.out];exact CT.out _ q m HQ.out
   clear hq
   go_wp2_with fail
   clear c0
   go_loopw [15] (fun t wr=>∃ j:Nat,j<=M∧t=vI j∧(∀ i,i<j→ZT (Aj rs) (k) i)∧∃ q,wr=w.drewN q) (fun t _=>M - (intOf t).toNat)
   case atStart=>exact ⟨0,by omega,rfl,fun i hi=>by omega,_,rfl⟩
   case round =>
    obtain ⟨j,hj,rfl,hin,nr,rfl⟩:=hrel;have HIN:=hid hin;clear hin
    by_cases hjl:j<M
    rotate_left
    ·go_wp2_with fail
     go_roundw
     case rel=>exact ⟨k+1,by omega,by go_num,fun i hi=>by
      by_cases e:i=k
      ·subst e;exact fun e' he'=>HIN.out e' (by rw [AP HQ.out,HLQ2.out] at he';omega)
      ·exact HAL.out i (by omega),_,rfl⟩
     case measure=>exact zMs
    by_cases hj0:0<j
    rotate_left
    ·have hgj:decide (0<j)=false:=BJ hj0
     have HJ0:=hid hj0;have hgk:decide (0<k)=false:=BJ HK0.out;obtain ⟨b1,o1,x,hA1,hx,x0,x1,c1⟩:=Bf HE.out HQ.out hjl;have GX:=hid (BR HQ.out hx)
     have r2:∀ m,(w.drewN m).cell? ⟨b,off+(k),none⟩=some (.slice (some ⟨b1,o1,none⟩) M q.c):=fun m=>by rw [← hA1,← HLQ.out];exact CT.out _ q m HQ.out
     clear hx hA1
     go_wp2_with fail
     go_quiet (fail)
     go_wp2_with fail
     go_roundw
     case rel=>exact ⟨j+1,by omega,by go_num,fun i hi=>by
      by_cases e:i=j
      ·subst e
       exact ⟨fun h=>absurd h HK0.out,fun h=>absurd h HJ0.out⟩
      ·exact HIN.out i (by omega),_,(by first | rfl | exact World.drewN_drewN _ _ _)⟩
     case measure=>exact zMs
    obtain ⟨j,rfl⟩:∃ m,j=m+1:=⟨j - 1,by omega⟩;clear hj0;have hgk:decide (0<k)=false:=BJ HK0.out;obtain ⟨b1,o1,x,hA1,hx,x0,x1,c1⟩:=Bf HE.out HQ.out hjl;obtain ⟨b3,o3,z,hA3,hz,z0,z1,c3⟩:=Bf HE.out HQ.out (show j<M by omega)
    obtain ⟨rfl,rfl⟩:b3=b1∧o3=o1:=by rw [hA1] at hA3;simpa [eq_comm] using hA3
    have t1:IntKind.i64.wrap ((j:Int)+1 - 1)=(j:Int):=by rw [(iW _)];omega
    have hjn:j<M:=by omega
    have hjn2:(j:Int)<(M:Int):=by omega
    have hjn3:0<=(j:Int):=by omega
    have t0:IntKind.i64.wrap (j:Int)=(j:Int):=iW _;have GZ:=hid (BR HQ.out hz);have GX:=hid (BR HQ.out hx)
    have r2:∀ m,(w.drewN m).cell? ⟨b,off+(k),none⟩=some (.slice (some ⟨b3,o3,none⟩) M q.c):=fun m=>by rw [← hA1,← HLQ.out];exact CT.out _ q m HQ.out
    clear hx hA1 hz hA3
    by_cases hrb:x<z
    ·have hgr:decide (x<z)=true:=Ct hrb
     have G:=hid (show Fp (Aj rs)=false from Bool.eq_false_iff.2 (fun hB=>by
      exact Abx
     ))
     go_wp2_with fail
     go_quiet (fail)
     clear t1 t0
     exact Ic
    have hgr:decide (x<z)=false:=BJ hrb
    go_wp2_with fail
    go_quiet (fail)
    clear t1 t0
    go_wp2_with fail
    go_roundw
    case rel=>exact ⟨j+1+1,by omega,by go_num,fun i hi=>by
     by_cases e:i=j+1
     ·subst e
      exact ⟨fun h=>absurd h HK0.out,fun _=>by rw [Nat.add_sub_cancel,GX.out,GZ.out];omega⟩
     ·exact HIN.out i (by omega),_,(by first | rfl | exact World.drewN_drewN _ _ _)⟩
    case measure=>exact zMs
  obtain ⟨k,rfl⟩:∃ m,k=m+1:=⟨k - 1,by omega⟩;obtain ⟨p,hp⟩:=Am HL.out (show k<n by omega);have HP:=hid hp;have HLP:=hid (HE.out.len p (Au hp));clear hp h0
  rw [show ((k+1:Nat):Int)=(k:Int)+1 from by omega]
  have hlt2:(k:Int)+1<(n:Int):=by omega
  obtain ⟨q,hq⟩:=Am HL.out hlt;have HQ:=hid hq;have HLQ:=hid (HE.out.len q (Au hq));have HLQ2:Hid (q.l.length=M):=hid ((HE.out.tab.row q (Au hq)).len.trans HLQ.out)
  have c0:∀ m,(w.drewN m).cell? ⟨b,off+(k+1),none⟩=some (.slice q.A M q.c):=fun m=>by rw [← HLQ.out];exact CT.out _ q m HQ.out
  clear hq
  go_wp2_with fail
  clear c0
  go_loopw [15] (fun t wr=>∃ j:Nat,j<=M∧t=vI j∧(∀ i,i<j→ZT (Aj rs) (k+1) i)∧∃ q,wr=w.drewN q) (fun t _=>M - (intOf t).toNat)
  case atStart=>exact ⟨0,by omega,rfl,fun i hi=>by omega,_,rfl⟩
  case round =>
   obtain ⟨j,hj,rfl,hin,nr,rfl⟩:=hrel;have HIN:=hid hin;clear hin
   by_cases hjl:j<M
   rotate_left
   ·go_wp2_with fail
    go_roundw
    case rel=>exact ⟨k+1+1,by omega,by go_num,fun i hi=>by
     by_cases e:i=k+1
     ·subst e;exact fun e' he'=>HIN.out e' (by rw [AP HQ.out,HLQ2.out] at he';omega)
     ·exact HAL.out i (by omega),_,rfl⟩
    case measure=>exact zMs
   by_cases hj0:0<j
   rotate_left
   ·have hgj:decide (0<j)=false:=BJ hj0
    have HJ0:=hid hj0;have tok:=True.intro;obtain ⟨b1,o1,x,hA1,hx,x0,x1,c1⟩:=Bf HE.out HQ.out hjl;obtain ⟨b2,o2,y,hA2,hy,y0,y1,c2⟩:=Bf HE.out HP.out hjl
    have r1:∀ m,(w.drewN m).cell? ⟨b,off+k,none⟩=some (.slice (some ⟨b2,o2,none⟩) M p.c):=fun m=>by rw [← hA2,← HLP.out];exact CT.out k p m HP.out
    have s1:IntKind.i64.wrap ((k:Int)+1 - 1)=(k:Int):=by rw [(iW _)];omega
    have hkn:k<n:=by omega
    have hkn2:(k:Int)<(n:Int):=by omega
    have hkn3:0<=(k:Int):=by omega
    have s0:IntKind.i64.wrap (k:Int)=(k:Int):=iW _;have GY:=hid (BR HP.out hy);have GX:=hid (BR HQ.out hx)
    have r2:∀ m,(w.drewN m).cell? ⟨b,off+(k+1),none⟩=some (.slice (some ⟨b1,o1,none⟩) M q.c):=fun m=>by rw [← hA1,← HLQ.out];exact CT.out _ q m HQ.out
    clear hx hA1 hy hA2
    by_cases hcb:y<x
    ·have hgb:decide (y<x)=true:=Ct hcb
     have G:=hid (show Fp (Aj rs)=false from Bool.eq_false_iff.2 (fun hB=>by
      exact Aby
     ))
     go_wp2_with fail
     go_quiet (fail)
     clear s1 s0
     exact Ic
    have hgb:decide (y<x)=false:=BJ hcb
    go_wp2_with fail
    go_quiet (fail)
    clear s1 s0
    go_wp2_with fail
    go_roundw
    case rel=>exact ⟨j+1,by omega,by go_num,fun i hi=>by
     by_cases e:i=j
     ·subst e
      exact ⟨fun _=>by rw [Nat.add_sub_cancel,GX.out,GY.out];omega,fun h=>absurd h HJ0.out⟩
     ·exact HIN.out i (by omega),_,(by first | rfl | exact World.drewN_drewN _ _ _)⟩
    case measure=>exact zMs
   obtain ⟨j,rfl⟩:∃ m,j=m+1:=⟨j - 1,by omega⟩;clear hj0;have tok:=True.intro;obtain ⟨b1,o1,x,hA1,hx,x0,x1,c1⟩:=Bf HE.out HQ.out hjl;obtain ⟨b2,o2,y,hA2,hy,y0,y1,c2⟩:=Bf HE.out HP.out hjl
   have r1:∀ m,(w.drewN m).cell? ⟨b,off+k,none⟩=some (.slice (some ⟨b2,o2,none⟩) M p.c):=fun m=>by rw [← hA2,← HLP.out];exact CT.out k p m HP.out
   have s1:IntKind.i64.wrap ((k:Int)+1 - 1)=(k:Int):=by rw [(iW _)];omega
   have hkn:k<n:=by omega
   have hkn2:(k:Int)<(n:Int):=by omega
   have hkn3:0<=(k:Int):=by omega
   have s0:IntKind.i64.wrap (k:Int)=(k:Int):=iW _;have GY:=hid (BR HP.out hy);obtain ⟨b3,o3,z,hA3,hz,z0,z1,c3⟩:=Bf HE.out HQ.out (show j<M by omega)
   obtain ⟨rfl,rfl⟩:b3=b1∧o3=o1:=by rw [hA1] at hA3;simpa [eq_comm] using hA3
   have t1:IntKind.i64.wrap ((j:Int)+1 - 1)=(j:Int):=by rw [(iW _)];omega
   have hjn:j<M:=by omega
   have hjn2:(j:Int)<(M:Int):=by omega
   have hjn3:0<=(j:Int):=by omega
   have t0:IntKind.i64.wrap (j:Int)=(j:Int):=iW _;have GZ:=hid (BR HQ.out hz);have GX:=hid (BR HQ.out hx)
   have r2:∀ m,(w.drewN m).cell? ⟨b,off+(k+1),none⟩=some (.slice (some ⟨b3,o3,none⟩) M q.c):=fun m=>by rw [← hA1,← HLQ.out];exact CT.out _ q m HQ.out
   clear hx hA1 hy hA2 hz hA3
   by_cases hcb:y<x
   ·have hgb:decide (y<x)=true:=Ct hcb
    have G:=hid (show Fp (Aj rs)=false from Bool.eq_false_iff.2 (fun hB=>by
     exact Abv
    ))
    go_wp2_with fail
    go_quiet (fail)
    clear s1 s0 t1 t0
    exact Ic
   have hgb:decide (y<x)=false:=BJ hcb
   by_cases hrb:x<z
   ·have hgr:decide (x<z)=true:=Ct hrb
    have G:=hid (show Fp (Aj rs)=false from Bool.eq_false_iff.2 (fun hB=>by
     exact Abw
    ))
    go_wp2_with fail
    go_quiet (fail)
    clear s1 s0 t1 t0
    exact Ic
   have hgr:decide (x<z)=false:=BJ hrb
   go_wp2_with fail
   go_quiet (fail)
   clear s1 s0 t1 t0
   go_wp2_with fail
   go_roundw
   case rel=>exact ⟨j+1+1,by omega,by go_num,fun i hi=>by
    by_cases e:i=j+1
    ·subst e
     exact ⟨fun _=>by rw [Nat.add_sub_cancel,GX.out,GY.out];omega,fun _=>by rw [Nat.add_sub_cancel,GX.out,GZ.out];omega⟩
    ·exact HIN.out i (by omega),_,(by first | rfl | exact World.drewN_drewN _ _ _)⟩
   case measure=>exact zMs
theorem Zl (p:Prf) (w:World) (hl:p.lies w) (hs:Sq w p.scl.A p.scl.n p.sms.n 10000 p.cl) (hok:p.ok) (hn:p.scl.n=p.sal.n) (ha:∀ x ∈ p.al,-200000<=x∧x<=6000000):Calls Tryz.prog 137 #[.agg p.cells.toArray] w fun e w'=>e=.returned (.bool (Gd (Aj p.cl) && gnB p.al (Aj p.cl)))∧Below w.heap.size w w':=by
 have HA:=hid hl.al;have HLA:=hid hl.al.len;have HL:=hid hl.cl.top.len;have HBA:=hid ha;have h1:=hok.al;have h2:=hok.ms
 unfold maxLen at h1 h2
 have HE:=hid hs;have HIFF:=hid (Ab2 (al:=p.al) (T:=Aj p.cl) (by rw [AX,hl.cl.top.len,hl.al.len,hn]));have HPC:=hid (show p.cells[3]? = some (.slice p.sal.A p.sal.n p.sal.c)∧p.cells[5]? = some (.slice p.scl.A p.scl.n p.scl.c) from ⟨rfl,rfl⟩);have HBOX:=hid (fun w=>Has.new w p.cells.toArray 26);clear hl hs hok ha;generalize p.cells=C at *;generalize p.sal.A=A1 at *;generalize p.sal.n=n at *;generalize p.sal.c=c1 at *;generalize p.scl.A=A2 at *;obtain rfl:=hn;generalize p.scl.n=n at *;generalize p.scl.c=c2 at *;generalize p.sms.n=M at *;generalize p.al=al at *;generalize p.cl=rs at *;have e5:=HPC.out.2
 go_enter Tryz.func137,Tryz.ntmps137
 go_wp2_with fail
 clear e5;have BP:=hid (HBOX.out w);have HB:=hid (Aa w (.cells C.toArray 26));replace HE:=hid (HE.out.below (Aa w (.cells C.toArray 26)));replace HA:=hid (HA.out.below (Aa w (.cells C.toArray 26)));generalize w.alloc (.cells C.toArray 26)=w1 at *;have k3:∀ m,(w1.drewN m).cell? ⟨w.heap.size,3,none⟩=some (.slice A1 n c1):=fun m=>(BC w1 m _).trans (BP.out.cell 3 _ HPC.out.1);have k5:∀ m,(w1.drewN m).cell? ⟨w.heap.size,5,none⟩=some (.slice A2 n c2):=fun m=>(BC w1 m _).trans (BP.out.cell 5 _ HPC.out.2);clear HPC BP HBOX
 go_loopw [10] (fun t wr=>∃ k:Nat,k<=n∧t=vI k∧(∀ i,i<k→∀ e,e<((Aj rs).getD i []).length→YN al (Aj rs) i e)∧∃ q,wr=w1.drewN q) (fun t _=>n - (intOf t).toNat)
 case atStart=>exact ⟨0,by omega,rfl,fun i hi=>by omega,0,rfl⟩
 case round =>
  obtain ⟨k,hk,rfl,hall,nq,rfl⟩:=hrel;have HAL:=hid hall;clear hall
  by_cases hlt:k<n
  rotate_left
  ·have HA:=hid (show (Gd (Aj rs) && gnB al (Aj rs))=true from (HIFF.out.2 (fun i hi=>HAL.out i (by rw [AX,HL.out] at hi;omega))))
   go_wp2_with fail
   go_ret
   exact ⟨Ao (by rw [HA.out]),by first | exact Ag HB.out _ | exact Ag (Ag HB.out _) _⟩
  obtain ⟨b,off,rfl,ct⟩:=Eu HE.out (by omega);have CT:=hid ct;clear ct
  by_cases h0:0<k
  rotate_left
  ·have HK0:=hid h0
   clear h0;obtain ⟨q,hq⟩:=Am HL.out hlt;have HQ:=hid hq;have HLQ:=hid (HE.out.len q (Au hq));have HLQ2:Hid (q.l.length=M):=hid ((HE.out.tab.row q (Au hq)).len.trans HLQ.out)
   have c0:∀ m,(w1.drewN m).cell? ⟨b,off+(k),none⟩=some (.slice q.A M q.c):=fun m=>by rw [← HLQ.out];exact CT.out _ q m HQ.out
   clear hq
   go_wp2_with fail
   clear c0
   go_loopw [17] (fun t wr=>∃ j:Nat,j<=M∧t=vI j∧(∀ i,i<j→YN al (Aj rs) (k) i)∧∃ q,wr=w1.drewN q) (fun t _=>M - (intOf t).toNat)
   case atStart=>exact ⟨0,by omega,rfl,fun i hi=>by omega,_,rfl⟩
   case round =>
    obtain ⟨j,hj,rfl,hin,nr,rfl⟩:=hrel;have HIN:=hid hin;clear hin
    by_cases hjl:j<M
    rotate_left
    ·go_wp2_with fail
     go_roundw
     case rel=>exact ⟨k+1,by omega,by go_num,fun i hi=>by
      by_cases e:i=k
      ·subst e;exact fun e' he'=>HIN.out e' (by rw [AP HQ.out,HLQ2.out] at he';omega)
      ·exact HAL.out i (by omega),_,rfl⟩
     case measure=>exact zMs
    by_cases hj0:0<j
    rotate_left
    ·have hgj:decide (0<j)=false:=BJ hj0
     have HJ0:=hid hj0;have hgk:decide (0<k)=false:=BJ HK0.out;obtain ⟨b1,o1,x,hA1,hx,x0,x1,c1⟩:=Bf HE.out HQ.out hjl;have GX:=hid (BR HQ.out hx)
     have r2:∀ m,(w1.drewN m).cell? ⟨b,off+(k),none⟩=some (.slice (some ⟨b1,o1,none⟩) M q.c):=fun m=>by rw [← hA1,← HLQ.out];exact CT.out _ q m HQ.out
     have HA1:=hid hA1;clear hx hA1
     rw [HA1.out]
     go_wp2_with fail
     go_quiet (fail)
     go_wp2_with fail
     go_roundw
     case rel=>exact ⟨j+1,by omega,by go_num,fun i hi=>by
      by_cases e:i=j
      ·subst e
       exact ⟨fun h=>absurd h HK0.out,fun h=>absurd h HJ0.out⟩
      ·exact HIN.out i (by omega),_,(by first | rfl | exact World.drewN_drewN _ _ _)⟩
     case measure=>exact zMs
    obtain ⟨j,rfl⟩:∃ m,j=m+1:=⟨j - 1,by omega⟩;clear hj0;have hgk:decide (0<k)=false:=BJ HK0.out;obtain ⟨b1,o1,x,hA1,hx,x0,x1,c1⟩:=Bf HE.out HQ.out hjl;obtain ⟨b3,o3,z,hA3,hz,z0,z1,c3⟩:=Bf HE.out HQ.out (show j<M by omega)
    obtain ⟨rfl,rfl⟩:b3=b1∧o3=o1:=by rw [hA1] at hA3;simpa [eq_comm] using hA3
    have t1:IntKind.i64.wrap ((j:Int)+1 - 1)=(j:Int):=by rw [(iW _)];omega
    have hjn:j<M:=by omega
    have hjn2:(j:Int)<(M:Int):=by omega
    have hjn3:0<=(j:Int):=by omega
    have t0:IntKind.i64.wrap (j:Int)=(j:Int):=iW _;have GZ:=hid (BR HQ.out hz);have GX:=hid (BR HQ.out hx)
    have r2:∀ m,(w1.drewN m).cell? ⟨b,off+(k),none⟩=some (.slice (some ⟨b3,o3,none⟩) M q.c):=fun m=>by rw [← hA1,← HLQ.out];exact CT.out _ q m HQ.out
    have HA1:=hid hA1;clear hx hA1 hz hA3
    rw [HA1.out]
    by_cases hrb:z<x
    ·have hgr:decide (z<x)=true:=Ct hrb
     have G:=hid (show (Gd (Aj rs) && gnB al (Aj rs))=false from Bool.eq_false_iff.2 (fun hB=>by
      exact Abx
     ))
     go_wp2_with fail
     clear t1 t0
     try go_wp2_with fail
     exact LH
    have hgr:decide (z<x)=false:=BJ hrb
    go_wp2_with fail
    go_quiet (fail)
    clear t1 t0
    go_wp2_with fail
    go_roundw
    case rel=>exact ⟨j+1+1,by omega,by go_num,fun i hi=>by
     by_cases e:i=j+1
     ·subst e
      exact ⟨fun h=>absurd h HK0.out,fun _=>by rw [Nat.add_sub_cancel,GX.out,GZ.out];omega⟩
     ·exact HIN.out i (by omega),_,(by first | rfl | exact World.drewN_drewN _ _ _)⟩
    case measure=>exact zMs
  obtain ⟨k,rfl⟩:∃ m,k=m+1:=⟨k - 1,by omega⟩;obtain ⟨p,hp⟩:=Am HL.out (show k<n by omega);have HP:=hid hp;have HLP:=hid (HE.out.len p (Au hp));clear hp h0
  rw [show ((k+1:Nat):Int)=(k:Int)+1 from by omega]
  have hlt2:(k:Int)+1<(n:Int):=by omega
  obtain ⟨u,hu⟩:=Am HLA.out hlt;obtain ⟨v,hv⟩:=Am HLA.out (show k<n by omega);obtain ⟨ba,oa,rfl,hba,ca⟩:=HA.out.cells (by omega);obtain ⟨u0,u1⟩:=HBA.out u (Au hu);obtain ⟨v0,v1⟩:=HBA.out v (Au hv);have HUV:=hid (show al.getD (k+1) 0=u∧al.getD k 0=v from ⟨Ah hu,Ah hv⟩);have a1:∀ m,(w1.drewN m).cell? ⟨ba,oa+(k+1),none⟩=some (vI u):=fun m=>(BC w1 m _).trans (ca _ u hu);have a2:∀ m,(w1.drewN m).cell? ⟨ba,oa+k,none⟩=some (vI v):=fun m=>(BC w1 m _).trans (ca _ v hv);clear ca hu hv;obtain ⟨q,hq⟩:=Am HL.out hlt;have HQ:=hid hq;have HLQ:=hid (HE.out.len q (Au hq));have HLQ2:Hid (q.l.length=M):=hid ((HE.out.tab.row q (Au hq)).len.trans HLQ.out)
  have c0:∀ m,(w1.drewN m).cell? ⟨b,off+(k+1),none⟩=some (.slice q.A M q.c):=fun m=>by rw [← HLQ.out];exact CT.out _ q m HQ.out
  clear hq
  go_wp2_with fail
  clear c0
  go_loopw [17] (fun t wr=>∃ j:Nat,j<=M∧t=vI j∧(∀ i,i<j→YN al (Aj rs) (k+1) i)∧∃ q,wr=w1.drewN q) (fun t _=>M - (intOf t).toNat)
  case atStart=>exact ⟨0,by omega,rfl,fun i hi=>by omega,_,rfl⟩
  case round =>
   obtain ⟨j,hj,rfl,hin,nr,rfl⟩:=hrel;have HIN:=hid hin;clear hin
   by_cases hjl:j<M
   rotate_left
   ·go_wp2_with fail
    go_roundw
    case rel=>exact ⟨k+1+1,by omega,by go_num,fun i hi=>by
     by_cases e:i=k+1
     ·subst e;exact fun e' he'=>HIN.out e' (by rw [AP HQ.out,HLQ2.out] at he';omega)
     ·exact HAL.out i (by omega),_,rfl⟩
    case measure=>exact zMs
   by_cases hj0:0<j
   rotate_left
   ·have hgj:decide (0<j)=false:=BJ hj0
    have HJ0:=hid hj0;have tok:=True.intro;obtain ⟨b1,o1,x,hA1,hx,x0,x1,c1⟩:=Bf HE.out HQ.out hjl;obtain ⟨b2,o2,y,hA2,hy,y0,y1,c2⟩:=Bf HE.out HP.out hjl
    have r1:∀ m,(w1.drewN m).cell? ⟨b,off+k,none⟩=some (.slice (some ⟨b2,o2,none⟩) M p.c):=fun m=>by rw [← hA2,← HLP.out];exact CT.out k p m HP.out
    have s1:IntKind.i64.wrap ((k:Int)+1 - 1)=(k:Int):=by rw [(iW _)];omega
    have hkn:k<n:=by omega
    have hkn2:(k:Int)<(n:Int):=by omega
    have hkn3:0<=(k:Int):=by omega
    have s0:IntKind.i64.wrap (k:Int)=(k:Int):=iW _;have GY:=hid (BR HP.out hy);have GX:=hid (BR HQ.out hx)
    have r2:∀ m,(w1.drewN m).cell? ⟨b,off+(k+1),none⟩=some (.slice (some ⟨b1,o1,none⟩) M q.c):=fun m=>by rw [← hA1,← HLQ.out];exact CT.out _ q m HQ.out
    have d1:=iW (y - x);have d2:=iW (u - v);have HA1:=hid hA1;clear hx hA1 hy hA2
    rw [HA1.out]
    by_cases hcb:y<x
    ·have hgb:decide (y<x)=true:=Ct hcb
     have G:=hid (show (Gd (Aj rs) && gnB al (Aj rs))=false from Bool.eq_false_iff.2 (fun hB=>by
      exact Aby
     ))
     go_wp2_with fail
     go_quiet (fail)
     clear s1 s0 d1 d2
     go_wp2_with fail
     exact LH
    have hgb:decide (y<x)=false:=BJ hcb
    by_cases hcg:u - v<y - x
    ·have hgg:decide (u - v<y - x)=true:=Ct hcg
     have G:=hid (show (Gd (Aj rs) && gnB al (Aj rs))=false from Bool.eq_false_iff.2 (fun hB=>by
      have:=HIFF.out.1 hB (k+1) (by rw [AX,HL.out];omega) (j) (by rw [AP HQ.out,HLQ2.out];exact hjl);have:=(this.1 (by omega)).2
      rw [Nat.add_sub_cancel,GX.out,GY.out,HUV.out.1,HUV.out.2] at this
      omega
     ))
     go_wp2_with fail
     go_quiet (fail)
     clear s1 s0 d1 d2
     go_wp2_with fail
     exact LH
    have hgg:decide (u - v<y - x)=false:=BJ hcg
    go_wp2_with fail
    go_quiet (fail)
    clear s1 s0 d1 d2
    go_wp2_with fail
    go_roundw
    case rel=>exact ⟨j+1,by omega,by go_num,fun i hi=>by
     by_cases e:i=j
     ·subst e
      exact ⟨fun _=>by rw [Nat.add_sub_cancel,GX.out,GY.out,HUV.out.1,HUV.out.2];omega,fun h=>absurd h HJ0.out⟩
     ·exact HIN.out i (by omega),_,(by first | rfl | exact World.drewN_drewN _ _ _)⟩
    case measure=>exact zMs
   obtain ⟨j,rfl⟩:∃ m,j=m+1:=⟨j - 1,by omega⟩;clear hj0;have tok:=True.intro;obtain ⟨b1,o1,x,hA1,hx,x0,x1,c1⟩:=Bf HE.out HQ.out hjl;obtain ⟨b2,o2,y,hA2,hy,y0,y1,c2⟩:=Bf HE.out HP.out hjl
   have r1:∀ m,(w1.drewN m).cell? ⟨b,off+k,none⟩=some (.slice (some ⟨b2,o2,none⟩) M p.c):=fun m=>by rw [← hA2,← HLP.out];exact CT.out k p m HP.out
   have s1:IntKind.i64.wrap ((k:Int)+1 - 1)=(k:Int):=by rw [(iW _)];omega
   have hkn:k<n:=by omega
   have hkn2:(k:Int)<(n:Int):=by omega
   have hkn3:0<=(k:Int):=by omega
   have s0:IntKind.i64.wrap (k:Int)=(k:Int):=iW _;have GY:=hid (BR HP.out hy);obtain ⟨b3,o3,z,hA3,hz,z0,z1,c3⟩:=Bf HE.out HQ.out (show j<M by omega)
   obtain ⟨rfl,rfl⟩:b3=b1∧o3=o1:=by rw [hA1] at hA3;simpa [eq_comm] using hA3
   have t1:IntKind.i64.wrap ((j:Int)+1 - 1)=(j:Int):=by rw [(iW _)];omega
   have hjn:j<M:=by omega
   have hjn2:(j:Int)<(M:Int):=by omega
   have hjn3:0<=(j:Int):=by omega
   have t0:IntKind.i64.wrap (j:Int)=(j:Int):=iW _;have GZ:=hid (BR HQ.out hz);have GX:=hid (BR HQ.out hx)
   have r2:∀ m,(w1.drewN m).cell? ⟨b,off+(k+1),none⟩=some (.slice (some ⟨b3,o3,none⟩) M q.c):=fun m=>by rw [← hA1,← HLQ.out];exact CT.out _ q m HQ.out
   have d1:=iW (y - x);have d2:=iW (u - v);have HA1:=hid hA1;clear hx hA1 hy hA2 hz hA3
   rw [HA1.out]
   by_cases hrb:z<x
   ·have hgr:decide (z<x)=true:=Ct hrb
    have G:=hid (show (Gd (Aj rs) && gnB al (Aj rs))=false from Bool.eq_false_iff.2 (fun hB=>by
     exact Abw
    ))
    go_wp2_with fail
    clear s1 s0 d1 d2 t1 t0
    try go_wp2_with fail
    exact LH
   have hgr:decide (z<x)=false:=BJ hrb
   by_cases hcb:y<x
   ·have hgb:decide (y<x)=true:=Ct hcb
    have G:=hid (show (Gd (Aj rs) && gnB al (Aj rs))=false from Bool.eq_false_iff.2 (fun hB=>by
     exact Abv
    ))
    go_wp2_with fail
    go_quiet (fail)
    clear s1 s0 d1 d2 t1 t0
    go_wp2_with fail
    exact LH
   have hgb:decide (y<x)=false:=BJ hcb
   by_cases hcg:u - v<y - x
   ·have hgg:decide (u - v<y - x)=true:=Ct hcg
    have G:=hid (show (Gd (Aj rs) && gnB al (Aj rs))=false from Bool.eq_false_iff.2 (fun hB=>by
     have:=HIFF.out.1 hB (k+1) (by rw [AX,HL.out];omega) (j+1) (by rw [AP HQ.out,HLQ2.out];exact hjl);have:=(this.1 (by omega)).2
     rw [Nat.add_sub_cancel,GX.out,GY.out,HUV.out.1,HUV.out.2] at this
     omega
    ))
    go_wp2_with fail
    go_quiet (fail)
    clear s1 s0 d1 d2 t1 t0
    go_wp2_with fail
    exact LH
   have hgg:decide (u - v<y - x)=false:=BJ hcg
   go_wp2_with fail
   go_quiet (fail)
   clear s1 s0 d1 d2 t1 t0
   go_wp2_with fail
   go_roundw
   case rel=>exact ⟨j+1+1,by omega,by go_num,fun i hi=>by
    by_cases e:i=j+1
    ·subst e
     exact ⟨fun _=>by rw [Nat.add_sub_cancel,GX.out,GY.out,HUV.out.1,HUV.out.2];omega,fun _=>by rw [Nat.add_sub_cancel,GX.out,GZ.out];omega⟩
    ·exact HIN.out i (by omega),_,(by first | rfl | exact World.drewN_drewN _ _ _)⟩
   case measure=>exact zMs
