/- M10: Cs, TrPlain in one text. -/
import Derived.Test.YtedcanagfajcgaaGreatM8
import Derived.Test.YtedcanagfajcgaaGreatM12
import Derived.Test.YtedcanagfajcgaaGreatM53
set_option linter.unusedSimpArgs false
set_option linter.unusedVariables false
set_option maxRecDepth 100000
set_option maxHeartbeats 2000000
namespace Go.Proofs
theorem FQ{G:Prop}(h:G:=by
  go_wp2_with fail
  go_ret
  exact ⟨Af HE.out.symm,HB.out.alloc HB.out.size _⟩):G:=h
theorem Yk{G:Prop}(h:G:=by
  go_enter Tryz.func232,Tryz.ntmps232
  go_wp2_with fail
  go_ret
  exact ⟨rfl,rfl⟩):G:=h
theorem Abe{G:Prop}(h:G:=by
  go_enter Tryz.func162,Tryz.ntmps162
  go_wp2_with fail
  go_ret
  exact ⟨Af E.out.symm,AJ _ _⟩):G:=h
theorem Abf{G:Prop}(h:G:=by
  go_enter Tryz.func217,Tryz.ntmps217
  go_wp2_with fail
  go_ret
  exact ⟨Af E.out.symm,AJ _ _⟩):G:=h
theorem Abg{G:Prop}(h:G:=by
  go_wp2_with fail
  go_ret
  exact ⟨Af (Cs.CsOk.err ⟨by have:=LW.out;omega,by have:=LW.out;have:=LS.out;have:=H3.out;omega,hvsW.out,hvs.out⟩).symm,HB.out⟩):G:=h
end Go.Proofs
namespace Go.Proofs.YtedcanagfajcgaaGreat
open Go.RowKit
open Go.Lib (hid)
def win (p:Int × Int):List Value:=(lz2 p.1 p.2)
theorem Dm (p:Int × Int):(win p).length=2:=rfl
def Pairs (w:World) (A:Option Addr) (n:Nat) (l:List (Int × Int)):Prop:=Recs win 2 w A n l
theorem Pairs.below {w w':World} {A:Option Addr} {n:Nat} {l:List (Int × Int)} (h:Pairs w A n l) (hb:Below w.heap.size w w'):Pairs w' A n l:=Recs.below h hb
theorem Pairs.cell {w:World} {A:Option Addr} {n k:Nat} {l:List (Int × Int)} {p:Int × Int} (h:Pairs w A n l) (hp:l[k]? = some p) :
  ∃ b off,A=some ⟨b,off,none⟩∧b<w.heap.size∧w.cell? ⟨b,off+k * 2,none⟩=some (vI p.1)∧w.cell? ⟨b,off+k * 2+1,none⟩=some (vI p.2):=by
 have hk:=(List.getElem?_eq_some_iff.1 hp).1;have hl:=h.len;obtain ⟨b,off,e,hb,hc⟩:=h.cells (by omega)
 exact ⟨b,off,e,hb,hc k p hp 0 _ rfl,hc k p hp 1 _ rfl⟩
theorem DF (x lo hi:Int) (h:lo<=x∧x<=hi) (w:World):Calls Tryz.prog 232 #[vI x,vI lo,vI hi] w fun e w'=>e=.returned (.bool true)∧w=w':=by
 obtain ⟨h0,h1⟩:=h
 exact Yk
theorem GQ (x lo hi:Int) (h:¬ (lo<=x∧x<=hi)) (w:World):Calls Tryz.prog 232 #[vI x,vI lo,vI hi] w fun e w'=>e=.returned (.bool false)∧w=w':=by
 by_cases h0:lo<=x
 ·have h1:¬ x<=hi:=fun k=>h ⟨h0,k⟩
  clear h
  exact Yk
 ·clear h
  exact Yk
def Ku (p:Int × Int→Prop) (l:List (Int × Int)) (n:Nat) (w:World) (t:Value) (wr:World):Prop:=∃ k:Nat,k<=n∧t=vI k∧(∀ x ∈ l.take k,p x)∧Below w.heap.size w wr
def Gx (E:Int) (w:World) (e:Ending) (w':World):Prop:=e=.returned (vI E)∧Below w.heap.size w w'
theorem Gq {α:Type} {l:List α} {p:α→Prop} {k:Nat} {x:α} (h:∀ y ∈ l.take k,p y) (hx:l[k]? = some x) (hp:p x):∀ y ∈ l.take (k+1),p y:=by
 rw [Aq l k x hx]
 intro y hy
 rw [List.mem_append,List.mem_singleton] at hy
 rcases hy with hy | hy
 ·exact h y hy
 ·rw [hy];exact hp
theorem IC {α:Type} {l:List α} {p:α→Prop} {n:Nat} (hl:l.length=n) (h:∀ y ∈ l.take n,p y):∀ y ∈ l,p y:=by
 rw [CY (by omega)] at h
 exact h
theorem Vt {ws st:Cs.Wins} (h:64<ws.length):Cs.chkE ws st=3:=by unfold Cs.chkE;rw [if_pos h]
theorem Vs {ws st:Cs.Wins} (h0:¬ 64<ws.length) (h:st.length≠ws.length - 1):Cs.chkE ws st=1:=by unfold Cs.chkE;rw [if_neg h0,if_pos h]
theorem D9 {ws st:Cs.Wins} (h0:¬ 64<ws.length) (h:¬ st.length≠ws.length - 1) (h2:¬ ((∀ x ∈ ws,Cs.okW x)∧∀ x ∈ st,Cs.okT x)):Cs.chkE ws st=2:=by unfold Cs.chkE;rw [if_neg h0,if_neg h,if_neg h2]
theorem Ru (A S:Option Addr) (n cn m cm:Nat) (ws st:Cs.Wins) (w:World) (hw:Pairs w A n ws) (hs:Pairs w S m st) (hn:n<=maxLen) (hm:m<=maxLen) :
  Calls Tryz.prog 217 #[.slice A n cn,.slice S m cm] w (Gx (Cs.chkE ws st) w):=by
 have lw:=hw.len;have ls:=hs.len
 unfold maxLen at hn hm
 by_cases h1:64<n
 ·have E:=hid (Vt (ws:=ws) (st:=st) (by omega))
  clear hw hs lw ls
  exact Abf
 ·by_cases h3:m=n - 1
  ·have hne:((m:Int) != max ((n:Int) - 1) 0)=false:=by rw [bne_eq_false_iff_eq];omega
   have N0:=hid (show ¬ 64<ws.length by omega);have N1:=hid (show ¬ st.length≠ws.length - 1 by omega);have HW:=hid hw;have HS:=hid hs;have LW:=hid lw;have LS:=hid ls;have H3:=hid h3
   have m64:m<=64:=by omega
   clear hw hs lw ls h3
   go_enter Tryz.func217,Tryz.ntmps217
   go_wp2_with fail
   go_loopw [23] (fun t wr=>Ku Cs.okW ws n w t wr) (fun t _=>n - (intOf t).toNat)
   case atStart=>exact ⟨0,by omega,rfl,by simp,AJ _ _⟩
   case round =>
    obtain ⟨k,hk,rfl,hall,hB⟩:=hrel;have HALL:=hid hall;have HB:=hid hB;clear hall hB
    by_cases hlt:k<n
    ·obtain ⟨p,hp⟩:=Am LW.out hlt
     obtain ⟨b,off,rfl,hb,c0,c1⟩:=(HW.out.below HB.out).cell hp;have HX:=hid hp;clear hp
     by_cases h1:(-1099511627776)<=p.1∧p.1<=1099511627776
     ·have H1:=hid h1
      clear h1
      by_cases h2:(-1099511627776)<=p.2∧p.2<=1099511627776
      ·have H2:=hid h2
       clear h2
       go_wp2_with fail
       refine (DF _ (-1099511627776) 1099511627776 H1.out _).mono ?_;rintro e w' ⟨rfl,rfl⟩
       go_wp2_with fail
       refine (DF _ (-1099511627776) 1099511627776 H2.out _).mono ?_;rintro e w' ⟨rfl,rfl⟩
       go_wp2_with fail
       go_roundw
       case rel=>exact ⟨k+1,by omega,by go_num,Gq HALL.out HX.out ⟨H1.out,H2.out⟩,(HB.out.alloc HB.out.size _)⟩
       case measure=>exact zMs
      ·have HE:=hid (D9 (ws:=ws) (st:=st) N0.out N1.out fun hh=>(fun h=>h2 h.2) (hh.1 p (Au HX.out)))
       have H2:=hid h2;clear h2
       go_wp2_with fail
       refine (DF _ (-1099511627776) 1099511627776 H1.out _).mono ?_;rintro e w' ⟨rfl,rfl⟩
       go_wp2_with fail
       refine (GQ _ (-1099511627776) 1099511627776 H2.out _).mono ?_;rintro e w' ⟨rfl,rfl⟩
       exact FQ
     ·have HE:=hid (D9 (ws:=ws) (st:=st) N0.out N1.out fun hh=>(fun h=>h1 h.1) (hh.1 p (Au HX.out)))
      have H1:=hid h1;clear h1
      go_wp2_with fail
      refine (GQ _ (-1099511627776) 1099511627776 H1.out _).mono ?_;rintro e w' ⟨rfl,rfl⟩
      exact FQ
    ·have hvs:=hid (IC LW.out (by have:=HALL.out;rwa [show k=n from by omega] at this))
     have hvsW:=hid hvs.out;have HB0:=hid HB.out;clear hvs HB HALL
     go_wp2_with fail
     go_loopw [40] (fun t wr=>Ku Cs.okT st m w t wr) (fun t _=>m - (intOf t).toNat)
     case atStart=>exact ⟨0,by omega,rfl,by simp,HB0.out⟩
     case round =>
      obtain ⟨k,hk,rfl,hall,hB⟩:=hrel;have HALL:=hid hall;have HB:=hid hB;clear hall hB
      by_cases hlt:k<m
      ·obtain ⟨p,hp⟩:=Am LS.out hlt
       obtain ⟨b,off,rfl,hb,c0,c1⟩:=(HS.out.below HB.out).cell hp;have HX:=hid hp;clear hp
       by_cases h1:0<=p.1∧p.1<=1099511627776
       ·have H1:=hid h1
        clear h1
        by_cases h2:0<=p.2∧p.2<=1099511627776
        ·have H2:=hid h2
         clear h2
         go_wp2_with fail
         refine (DF _ 0 1099511627776 H1.out _).mono ?_;rintro e w' ⟨rfl,rfl⟩
         go_wp2_with fail
         refine (DF _ 0 1099511627776 H2.out _).mono ?_;rintro e w' ⟨rfl,rfl⟩
         go_wp2_with fail
         go_roundw
         case rel=>exact ⟨k+1,by omega,by go_num,Gq HALL.out HX.out ⟨H1.out,H2.out⟩,(HB.out.alloc HB.out.size _)⟩
         case measure=>exact zMs
        ·have HE:=hid (D9 (ws:=ws) (st:=st) N0.out N1.out fun hh=>(fun h=>h2 h.2) (hh.2 p (Au HX.out)))
         have H2:=hid h2;clear h2
         go_wp2_with fail
         refine (DF _ 0 1099511627776 H1.out _).mono ?_;rintro e w' ⟨rfl,rfl⟩
         go_wp2_with fail
         refine (GQ _ 0 1099511627776 H2.out _).mono ?_;rintro e w' ⟨rfl,rfl⟩
         exact FQ
       ·have HE:=hid (D9 (ws:=ws) (st:=st) N0.out N1.out fun hh=>(fun h=>h1 h.1) (hh.2 p (Au HX.out)))
        have H1:=hid h1;clear h1
        go_wp2_with fail
        refine (GQ _ 0 1099511627776 H1.out _).mono ?_;rintro e w' ⟨rfl,rfl⟩
        exact FQ
      ·have hvs:=hid (IC LS.out (by have:=HALL.out;rwa [show k=m from by omega] at this))
       exact Abg
  ·have hne:((m:Int) != max ((n:Int) - 1) 0)=true:=by rw [bne_iff_ne];omega
   have E:=hid (Vs (ws:=ws) (st:=st) (by omega) (by omega));clear hw hs lw ls
   exact Abf
theorem AcE (A S:Option Addr) (n cn m cm:Nat) (ws st:Cs.Wins) (w:World) (hw:Pairs w A n ws) (hs:Pairs w S m st) (hn:n<=maxLen) (hm:m<=maxLen) :
  Calls Tryz.prog 162 #[.slice A n cn,.slice S m cm] w (Gx (Cs.chkE ws st) w):=by
 have lw:=hw.len;have ls:=hs.len
 unfold maxLen at hn hm
 by_cases h1:64<n
 ·have E:=hid (Vt (ws:=ws) (st:=st) (by omega))
  clear hw hs lw ls
  exact Abe
 ·by_cases h3:m=n - 1
  ·have hne:((m:Int) != max ((n:Int) - 1) 0)=false:=by rw [bne_eq_false_iff_eq];omega
   have N0:=hid (show ¬ 64<ws.length by omega);have N1:=hid (show ¬ st.length≠ws.length - 1 by omega);have HW:=hid hw;have HS:=hid hs;have LW:=hid lw;have LS:=hid ls;have H3:=hid h3
   have m64:m<=64:=by omega
   clear hw hs lw ls h3
   go_enter Tryz.func162,Tryz.ntmps162
   go_wp2_with fail
   go_loopw [23] (fun t wr=>Ku Cs.okW ws n w t wr) (fun t _=>n - (intOf t).toNat)
   case atStart=>exact ⟨0,by omega,rfl,by simp,AJ _ _⟩
   case round =>
    obtain ⟨k,hk,rfl,hall,hB⟩:=hrel;have HALL:=hid hall;have HB:=hid hB;clear hall hB
    by_cases hlt:k<n
    ·obtain ⟨p,hp⟩:=Am LW.out hlt
     obtain ⟨b,off,rfl,hb,c0,c1⟩:=(HW.out.below HB.out).cell hp;have HX:=hid hp;clear hp
     by_cases a0:p.1<(-1099511627776)
     ·have HE:=hid (D9 (ws:=ws) (st:=st) N0.out N1.out fun hh=>(fun h:Cs.okW p=>by have h9:=h.1;unfold Pf.inB at h9;omega) (hh.1 p (Au HX.out)))
      exact FQ
     ·skip
      by_cases a1:1099511627776<p.1
      ·have HE:=hid (D9 (ws:=ws) (st:=st) N0.out N1.out fun hh=>(fun h:Cs.okW p=>by have h9:=h.1;unfold Pf.inB at h9;omega) (hh.1 p (Au HX.out)))
       exact FQ
      ·skip
       by_cases a2:p.2<(-1099511627776)
       ·have HE:=hid (D9 (ws:=ws) (st:=st) N0.out N1.out fun hh=>(fun h:Cs.okW p=>by have h9:=h.2;unfold Pf.inB at h9;omega) (hh.1 p (Au HX.out)))
        exact FQ
       ·skip
        by_cases a3:1099511627776<p.2
        ·have HE:=hid (D9 (ws:=ws) (st:=st) N0.out N1.out fun hh=>(fun h:Cs.okW p=>by have h9:=h.2;unfold Pf.inB at h9;omega) (hh.1 p (Au HX.out)))
         exact FQ
        ·skip
         have HOKP:=hid (show Cs.okW p from ⟨⟨by omega,by omega⟩,by omega,by omega⟩)
         go_wp2_with fail
         go_roundw
         case rel=>exact ⟨k+1,by omega,by go_num,Gq HALL.out HX.out HOKP.out,(HB.out.alloc HB.out.size _)⟩
         case measure=>exact zMs
    ·have hvs:=hid (IC LW.out (by have:=HALL.out;rwa [show k=n from by omega] at this))
     have hvsW:=hid hvs.out;have HB0:=hid HB.out;clear hvs HB HALL
     go_wp2_with fail
     go_loopw [48] (fun t wr=>Ku Cs.okT st m w t wr) (fun t _=>m - (intOf t).toNat)
     case atStart=>exact ⟨0,by omega,rfl,by simp,HB0.out⟩
     case round =>
      obtain ⟨k,hk,rfl,hall,hB⟩:=hrel;have HALL:=hid hall;have HB:=hid hB;clear hall hB
      by_cases hlt:k<m
      ·obtain ⟨p,hp⟩:=Am LS.out hlt
       obtain ⟨b,off,rfl,hb,c0,c1⟩:=(HS.out.below HB.out).cell hp;have HX:=hid hp;clear hp
       by_cases a0:p.1<0
       ·have HE:=hid (D9 (ws:=ws) (st:=st) N0.out N1.out fun hh=>(fun h:Cs.okT p=>by have h9:=h.1;unfold Cs.okS at h9;omega) (hh.2 p (Au HX.out)))
        exact FQ
       ·skip
        by_cases a1:1099511627776<p.1
        ·have HE:=hid (D9 (ws:=ws) (st:=st) N0.out N1.out fun hh=>(fun h:Cs.okT p=>by have h9:=h.1;unfold Cs.okS at h9;omega) (hh.2 p (Au HX.out)))
         exact FQ
        ·skip
         by_cases a2:p.2<0
         ·have HE:=hid (D9 (ws:=ws) (st:=st) N0.out N1.out fun hh=>(fun h:Cs.okT p=>by have h9:=h.2;unfold Cs.okS at h9;omega) (hh.2 p (Au HX.out)))
          exact FQ
         ·skip
          by_cases a3:1099511627776<p.2
          ·have HE:=hid (D9 (ws:=ws) (st:=st) N0.out N1.out fun hh=>(fun h:Cs.okT p=>by have h9:=h.2;unfold Cs.okS at h9;omega) (hh.2 p (Au HX.out)))
           exact FQ
          ·skip
           have HOKP:=hid (show Cs.okT p from ⟨⟨by omega,by omega⟩,by omega,by omega⟩)
           go_wp2_with fail
           go_roundw
           case rel=>exact ⟨k+1,by omega,by go_num,Gq HALL.out HX.out HOKP.out,(HB.out.alloc HB.out.size _)⟩
           case measure=>exact zMs
      ·have hvs:=hid (IC LS.out (by have:=HALL.out;rwa [show k=m from by omega] at this))
       exact Abg
  ·have hne:((m:Int) != max ((n:Int) - 1) 0)=true:=by rw [bne_iff_ne];omega
   have E:=hid (Vs (ws:=ws) (st:=st) (by omega) (by omega));clear hw hs lw ls
   exact Abe
namespace Tr
def mul (x y:Int):Int:=(x * y+1073741824) / 2147483648
def stp (u r n:Int):Int:=2147483648 - (mul u r+n / 2) / n
def tV (a:Int):Int:=(a * 6746518852+32400000) / 64800000
def uV (a:Int):Int:=mul (tV a) (tV a)
def s4 (u:Int):Int:=stp u (stp u (stp u (stp u 2147483648 110) 72) 42) 20
def c4 (u:Int):Int:=stp u (stp u (stp u (stp u 2147483648 90) 56) 30) 12
def Fz (a:Int):Int:=(mul (tV a) (stp (uV a) (s4 (uV a)) 6)+1) / 2
def IM (a:Int):Int:=(stp (uV a) (c4 (uV a)) 2+1) / 2
theorem mul_bd {x y:Int} (hx:0<=x) (hy:0<=y) (h:y<=2147483648):0<=mul x y∧mul x y<=x:=by
 have h1:0<=x * y:=BM hx hy;have h2:x * y<=x * 2147483648:=Ef h hx
 unfold mul
 constructor <;> omega
theorem WJ (x:Int):mul x 2147483648=x:=by unfold mul;omega
theorem Pd {x y z t:Int} (h0:0<=x) (h1:0<=y) (h:x<=z) (h':y<=t):mul x y<=mul z t:=by
 have:x * y<=z * t:=Int.mul_le_mul h h' h1 (Int.le_trans h0 h)
 unfold mul;omega
theorem Bp {m n:Int} (hm:0<=m) (hn:2<=n):0<=(m+n / 2) / n∧(m+n / 2) / n<=m:=by
 constructor
 ·exact Int.ediv_nonneg (by omega) (by omega)
 ·have h:(m+n / 2) / n<m+1:=by
   apply Int.ediv_lt_of_lt_mul (by omega)
   have:m * 2<=m * n:=Ef hn hm
   have e:(m+1) * n=m * n+n:=by rw [Int.add_mul,Int.one_mul]
   omega
  omega
theorem BV {u r n:Int} (hu:0<=u) (hU:u<=2147483648) (hr:0<=r) (hR:r<=2147483648) (hn:2<=n):0<=stp u r n∧stp u r n<=2147483648:=by
 have h1:=mul_bd hu hr hR;have h2:=Bp (n:=n) h1.1 hn
 unfold stp
 constructor <;> omega
theorem Pb {u v r s d:Int} (hd:v=u+d) (h0:0<=d) (hu:0<=u) (hv:v<=2147483648) (hr:0<=r) (hR:r<=2147483648) (hs:0<=s) (hS:s<=2147483648) (h1:s<=r+d) (h2:r<=s+d) :
  mul v s<=mul u r+2 * d∧mul u r<=mul v s+2 * d:=by
 have e:v * s=u * r+(d * s+u * (s - r)):=by rw [hd,Int.add_mul,Int.mul_sub];omega
 have a1:d * s<=d * 2147483648:=Ef hS h0;have a2:0<=d * s:=BM h0 hs;have a3:u * (s - r)<=u * d:=Ef (by omega) hu;have a4:u * (-d)<=u * (s - r):=Ef (by omega) hu;have a5:u * d<=2147483648 * d:=CR (by omega) h0
 rw [Int.mul_neg] at a4
 unfold mul
 constructor <;> omega
theorem OP {m k n d e:Int} (hn:0<n) (h:k<=m+n * e):(k+n / 2) / n<=(m+n / 2) / n+e:=by
 have h1:(k+n / 2) / n<=(m+n / 2+n * e) / n:=Int.ediv_le_ediv hn (by omega)
 rwa [Int.add_mul_ediv_left _ _ (by omega)] at h1
theorem DZ {u v r s d n:Int} (hd:v=u+d) (h0:0<=d) (hu:0<=u) (hv:v<=2147483648) (hr:0<=r∧r<=2147483648) (hs:0<=s∧s<=2147483648) (h:s<=r+d∧r<=s+d) (hn:2<=n) :
  stp v s n<=stp u r n+d∧stp u r n<=stp v s n+d:=by
 obtain ⟨m1,m2⟩:=Pb hd h0 hu hv hr.1 hr.2 hs.1 hs.2 h.1 h.2;have hl:2 * d<=n * d:=CR hn h0;have q1:(mul v s+n / 2) / n<=(mul u r+n / 2) / n+d:=OP (d:=d) (by omega) (by omega);have q2:(mul u r+n / 2) / n<=(mul v s+n / 2) / n+d:=OP (d:=d) (by omega) (by omega)
 unfold stp
 constructor <;> omega
theorem CG:(0:Int)<=2147483648∧(2147483648:Int)<=2147483648:=by decide
theorem Xm {u:Int} (hu:0<=u) (hU:u<=2147483648):0<=s4 u∧s4 u<=2147483648:=by
 have b1:=BV (n:=110) hu hU CG.1 CG.2 (by decide);have b2:=BV (n:=72) hu hU b1.1 b1.2 (by decide);have b3:=BV (n:=42) hu hU b2.1 b2.2 (by decide)
 exact BV (n:=20) hu hU b3.1 b3.2 (by decide)
theorem Aar {u:Int} (hu:0<=u) (hU:u<=2147483648):0<=stp u (stp u (stp u 2147483648 90) 56) 30∧stp u (stp u (stp u 2147483648 90) 56) 30<=2147483648:=by
 have b1:=BV (n:=90) hu hU CG.1 CG.2 (by decide);have b2:=BV (n:=56) hu hU b1.1 b1.2 (by decide)
 exact BV (n:=30) hu hU b2.1 b2.2 (by decide)
theorem AdL {u:Int} (hu:0<=u) (hU:u<=2147483648):0<=c4 u∧c4 u<=2147483648:=by
 have b3:=Aar hu hU
 exact BV (n:=12) hu hU b3.1 b3.2 (by decide)
theorem ZB {u v d:Int} (hd:v=u+d) (h0:0<=d) (hu:0<=u) (hv:v<=2147483648):s4 v<=s4 u+d∧s4 u<=s4 v+d:=by
 have hu':u<=2147483648:=by omega
 have hv0:0<=v:=by omega
 have b1:=BV (n:=110) hu hu' CG.1 CG.2 (by decide);have b2:=BV (n:=72) hu hu' b1.1 b1.2 (by decide);have b3:=BV (n:=42) hu hu' b2.1 b2.2 (by decide);have e1:=BV (n:=110) hv0 hv CG.1 CG.2 (by decide);have e2:=BV (n:=72) hv0 hv e1.1 e1.2 (by decide);have e3:=BV (n:=42) hv0 hv e2.1 e2.2 (by decide);have d1:=DZ (n:=110) hd h0 hu hv CG CG ⟨by omega,by omega⟩ (by decide);have d2:=DZ (n:=72) hd h0 hu hv b1 e1 d1 (by decide);have d3:=DZ (n:=42) hd h0 hu hv b2 e2 d2 (by decide)
 exact DZ (n:=20) hd h0 hu hv b3 e3 d3 (by decide)
theorem YL {u v d:Int} (hd:v=u+d) (h0:0<=d) (hu:0<=u) (hv:v<=2147483648):c4 v<=c4 u+d∧c4 u<=c4 v+d:=by
 have hu':u<=2147483648:=by omega
 have hv0:0<=v:=by omega
 have b1:=BV (n:=90) hu hu' CG.1 CG.2 (by decide);have b2:=BV (n:=56) hu hu' b1.1 b1.2 (by decide);have b3:=BV (n:=30) hu hu' b2.1 b2.2 (by decide);have e1:=BV (n:=90) hv0 hv CG.1 CG.2 (by decide);have e2:=BV (n:=56) hv0 hv e1.1 e1.2 (by decide);have e3:=BV (n:=30) hv0 hv e2.1 e2.2 (by decide);have d1:=DZ (n:=90) hd h0 hu hv CG CG ⟨by omega,by omega⟩ (by decide);have d2:=DZ (n:=56) hd h0 hu hv b1 e1 d1 (by decide);have d3:=DZ (n:=30) hd h0 hu hv b2 e2 d2 (by decide)
 exact DZ (n:=12) hd h0 hu hv b3 e3 d3 (by decide)
theorem Ab0 {u:Int} (hu:0<=u) (hU:u<=1324675976):1324675976<=c4 u:=by
 have b3:=Aar hu (by omega:u<=2147483648);have h:=mul_bd hu b3.1 b3.2;have e:c4 u=2147483648 - (mul u (stp u (stp u (stp u 2147483648 90) 56) 30)+12 / 2) / 12:=rfl
 omega
theorem Rf {u:Int} (hu:0<=u) (hU:u<=1324675976):1900000000<=stp u (s4 u) 6∧stp u (s4 u) 6<=2147483648:=by
 have b3:=Xm hu (by omega:u<=2147483648);have h:=mul_bd hu b3.1 b3.2
 unfold stp
 constructor <;> omega
theorem YM {u v:Int} (hu:0<=u) (h:u<=v) (hv:v<=1324675976):stp v (c4 v) 2<=stp u (c4 u) 2:=by
 obtain ⟨d,hd⟩:∃ d,d=v - u:=⟨_,rfl⟩
 have hd':v=u+d:=by omega
 have h0:0<=d:=by omega
 have hD:=YL hd' h0 hu (by omega);have hB:=Ab0 (u:=v) (by omega) hv
 have e:v * c4 v=u * c4 u+(d * c4 v+u * (c4 v - c4 u)):=by
  generalize c4 v=s;generalize c4 u=r
  rw [hd',Int.add_mul,Int.mul_sub];omega
 have a2:d * 1324675976<=d * c4 v:=Ef hB h0;have a4:u * (-d)<=u * (c4 v - c4 u):=Ef (by omega) hu;have a5:u * d<=1324675976 * d:=CR (by omega) h0
 rw [Int.mul_neg] at a4
 have:mul u (c4 u)<=mul v (c4 v):=by unfold mul;omega
 unfold stp
 omega
theorem Hu {a:Int} (h0:0<=a) (h1:a<=16200000):0<=tV a∧tV a<=1686629713:=by unfold tV;omega
theorem TI {a b:Int} (h:a<=b):tV a<=tV b:=by unfold tV;omega
theorem TJ (a:Int):tV a+104<=tV (a+1)∧tV (a+1)<=tV a+105:=by unfold tV;omega
theorem Hz {a:Int} (h0:0<=a) (h1:a<=16200000):0<=uV a∧uV a<=1324675976:=by
 obtain ⟨t0,t1⟩:=Hu h0 h1
 refine ⟨(mul_bd t0 t0 (by omega)).1,?_⟩
 exact Int.le_trans (Pd t0 t0 t1 t1) (by decide)
theorem TN {a b:Int} (h0:0<=a) (h:a<=b) (h1:b<=16200000):uV a<=uV b:=by
 have t0:=(Hu h0 (Int.le_trans h h1)).1
 exact Pd t0 t0 (TI h) (TI h)
theorem Md {a b:Int} (h0:0<=a) (h:a<=b) (h1:b<=16200000):IM b<=IM a:=by
 have:=YM (Hz h0 (by omega)).1 (TN h0 h h1) (Hz (by omega) h1).2
 unfold IM;omega
theorem ZR {a:Int} (h0:0<=a) (h1:a+1<=16200000):uV (a+1)<=uV a+166:=by
 obtain ⟨t0,t1⟩:=Hu h0 (by omega:a<=16200000);obtain ⟨q0,q1⟩:=TJ a;obtain ⟨d,hd⟩:∃ d,d=tV (a+1) - tV a:=⟨_,rfl⟩
 have e:tV (a+1)=tV a+d:=by omega
 unfold uV
 rw [e]
 have hd1:d<=105:=by omega
 have hd0:0<=d:=by omega
 clear hd e q0 q1;generalize tV a=t at *;have a1:t * d<=t * 105:=Ef hd1 t0;have a2:d * d<=105 * 105:=Int.mul_le_mul hd1 hd1 hd0 (by decide)
 have e:(t+d) * (t+d)=t * t+2 * (t * d)+d * d:=by rw [Int.add_mul,Int.mul_add,Int.mul_add,Int.mul_comm d t];omega
 unfold mul
 rw [e]
 omega
theorem UT {a:Int} (h0:0<=a) (h1:a+1<=16200000):Fz a<=Fz (a+1):=by
 obtain ⟨t0,t1⟩:=Hu h0 (by omega:a<=16200000);obtain ⟨q0,q1⟩:=TJ a;have ub:=Hz h0 (by omega:a<=16200000);have vb:=Hz (by omega:0<=a+1) h1;have hm:=TN h0 (by omega:a<=a+1) h1;have hs:=ZR h0 h1;obtain ⟨k,hk⟩:∃ k,k=uV (a+1) - uV a:=⟨_,rfl⟩
 have hk':uV (a+1)=uV a+k:=by omega
 have hk0:0<=k:=by omega
 have hk1:k<=166:=by omega
 have D4:=ZB hk' hk0 ub.1 (by omega);have B4:=Xm ub.1 (by omega);have B4':=Xm vb.1 (by omega);have MD:=Pb hk' hk0 ub.1 (by omega) B4.1 B4.2 B4'.1 B4'.2 D4.1 D4.2;have S:=Rf ub.1 ub.2;have S':=Rf vb.1 vb.2
 have DD:stp (uV a) (s4 (uV a)) 6<=stp (uV (a+1)) (s4 (uV (a+1))) 6+56:=by
  clear S S' B4 B4' D4
  unfold stp
  generalize mul (uV a) (s4 (uV a))=x at *;generalize mul (uV (a+1)) (s4 (uV (a+1)))=y at *
  omega
 unfold Fz
 clear MD D4 B4 B4';generalize stp (uV a) (s4 (uV a)) 6=r at *;generalize stp (uV (a+1)) (s4 (uV (a+1))) 6=s at *;generalize tV (a+1)=t' at *;generalize tV a=t at *;obtain ⟨d,hd⟩:∃ d,d=t' - t:=⟨_,rfl⟩
 have e:t' * s=t * r+(d * s+t * (s - r)):=by rw [show t'=t+d from by omega,Int.add_mul,Int.mul_sub];omega
 have a1:104 * s<=d * s:=CR (by omega) (by omega);have a2:t * (-56)<=t * (s - r):=Ef (by omega) t0
 have:mul t r<=mul t' s:=by unfold mul;rw [e];omega
 omega
theorem Tv (a:Int) (h0:0<=a):∀ k:Nat,a+k<=16200000→Fz a<=Fz (a+k)
 | 0,_=>by simp
 | k+1,h=>by
  have h1:=Tv a h0 k (by omega);have h2:=UT (a:=a+k) (by omega) (by omega)
  rw [show a+((k+1:Nat):Int)=a+k+1 from by omega]
  omega
theorem UR {a b:Int} (h0:0<=a) (h:a<=b) (h1:b<=16200000):Fz a<=Fz b:=by
 have:=Tv a h0 (b - a).toNat (by omega)
 rwa [show a+((b - a).toNat:Int)=b from by omega] at this
theorem ZG {a:Int} (h0:0<=a) (h1:a<=16200000):0<=Fz a∧Fz a<=843314857:=by
 have tb:=Hu h0 h1;have ub:=Hz h0 h1;have S:=Rf ub.1 ub.2;have:=mul_bd tb.1 (by omega:0<=stp (uV a) (s4 (uV a)) 6) S.2
 unfold Fz
 omega
theorem YO {a:Int} (h0:0<=a) (h1:a<=16200000):700000000<=IM a∧IM a<=1073741824:=by
 have ub:=Hz h0 h1;have b:=AdL ub.1 (by omega);have h:=mul_bd ub.1 b.1 b.2
 unfold IM stp
 omega
/- sines and cosines of all angles -/
def quV (a:Int):Int:=if a<=16200000 then Fz a else IM (32400000 - a)
def UQ (b:Int):Int:=if b<=32400000 then quV b else if b<=64800000 then quV (64800000 - b) else if b<=97200000 then -quV (b - 64800000) else -quV (129600000 - b)
def sinV (a:Int):Int:=UQ (a % 129600000)
def cosV (a:Int):Int:=sinV ((a % 129600000+32400000) % 129600000)
theorem Gl {a:Int} (h0:0<=a) (h1:a<=32400000):0<=quV a∧quV a<=1073741824:=by
 unfold quV
 split
 ·have:=ZG h0 (by assumption);omega
 ·have:=YO (a:=32400000 - a) (by omega) (by omega);omega
theorem Dj (a:Int) : -1073741824<=sinV a∧sinV a<=1073741824:=by
 unfold sinV UQ
 split
 ·have:=Gl (a:=a % 129600000) (by omega) (by omega);omega
 ·split
  ·have:=Gl (a:=64800000 - a % 129600000) (by omega) (by omega);omega
  ·split
   ·have:=Gl (a:=a % 129600000 - 64800000) (by omega) (by omega);omega
   ·have:=Gl (a:=129600000 - a % 129600000) (by omega) (by omega);omega
theorem DJ (a:Int) : -1073741824<=cosV a∧cosV a<=1073741824:=Dj _
theorem PM {a:Int} (h0:0<=a) (h1:a<=16200000):sinV a=Fz a:=by
 unfold sinV UQ quV
 rw [Int.emod_eq_of_lt h0 (by omega),if_pos (by omega),if_pos h1]
theorem KJ {a:Int} (h0:0<=a) (h1:a<16200000):cosV a=IM a:=by
 unfold cosV sinV UQ quV
 rw [Int.emod_eq_of_lt h0 (by omega),Int.emod_eq_of_lt (a:=a+32400000) (by omega) (by omega),Int.emod_eq_of_lt (a:=a+32400000) (by omega) (by omega)]
 by_cases h:a=0
 ·subst h;rfl
 ·rw [if_neg (by omega),if_pos (by omega),if_neg (by omega)]
  rw [show 32400000 - (64800000 - (a+32400000))=a from by omega]
theorem OL:cosV 16200000=Fz 16200000:=by decide +kernel
theorem Uu:Fz 16200000<=IM 16199999:=by decide +kernel
theorem Uq {a b:Int} (h0:0<=a) (h:a<=b) (h1:b<=16200000):cosV b<=cosV a:=by
 by_cases hb:b<16200000
 ·rw [KJ (by omega) hb,KJ h0 (by omega)];exact Md h0 h h1
 ·obtain rfl:b=16200000:=by omega
  by_cases ha:a=16200000
  ·rw [ha];exact Bt _
  ·rw [OL,KJ h0 (by omega)]
   exact Int.le_trans Uu (Md h0 (by omega) (by omega))
theorem UU {a b:Int} (h0:0<=a) (h:a<=b) (h1:b<=16200000):sinV a<=sinV b:=by
 rw [PM h0 (by omega),PM (by omega) h1];exact UR h0 h h1
/- the angle of a vector -/
def okA (m n c:Int):Bool:=decide (sinV c * m<=cosV c * n)
theorem Pj {m n c d:Int} (hm:0<=m) (hn:0<=n) (h0:0<=d) (h:d<=c) (h1:c<=16200000) (hc:okA m n c=true):okA m n d=true:=by
 unfold okA at *
 rw [decide_eq_true_eq] at *
 have a1:sinV d * m<=sinV c * m:=CR (UU h0 h h1) hm;have a2:cosV c * n<=cosV d * n:=CR (Uq h0 h h1) hn
 omega
def GrA (m n c:Int):Prop:=0<=c∧c<=16200000∧(c=0∨okA m n c=true)∧(c=16200000∨okA m n (c+1)=false)
theorem Qu {m n c d:Int} (hm:0<=m) (hn:0<=n) (hc:GrA m n c) (hd:GrA m n d):c=d:=by
 obtain ⟨c0,c1,c2,c3⟩:=hc;obtain ⟨d0,d1,d2,d3⟩:=hd
 by_cases h:c<d
 ·rcases c3 with c3 | c3
  ·omega
  ·rcases d2 with d2 | d2
   ·omega
   ·rw [Pj hm hn (by omega) (by omega:c+1<=d) d1 d2] at c3;cases c3
 ·by_cases h':d<c
  ·rcases d3 with d3 | d3
   ·omega
   ·rcases c2 with c2 | c2
    ·omega
    ·rw [Pj hm hn (by omega) (by omega:d+1<=c) c1 c2] at d3;cases d3
  ·omega
theorem OZ (m n:Int):∀ k:Nat,k<=16200000→(k=16200000∨okA m n ((k:Int)+1)=false)→∃ c,GrA m n c
 | 0,_,h=>⟨0,by omega,by omega,.inl rfl,.inr (h.resolve_left (by omega))⟩
 | k+1,hk,h=>by
  cases h2:okA m n ((k:Int)+1) with
  | true=>exact ⟨((k+1:Nat):Int),by omega,by omega,.inr h2,h.imp (fun h=>by omega) id⟩
  | false=>exact OZ m n k (by omega) (.inr h2)
theorem KP (m n:Int):∃ c,GrA m n c:=OZ m n 16200000 (Bn _) (.inl rfl)
end Tr
