/- M14: CsX, PrL2, Ex0, OpenPf in one text. -/
import Derived.Test.YtedcanagfajcgaaGreatM11
import Derived.Test.YtedcanagfajcgaaGreatM1
import Derived.Test.YtedcanagfajcgaaGreatM6
set_option linter.unusedSimpArgs false
set_option linter.unusedVariables false
set_option maxRecDepth 100000
set_option maxHeartbeats 2000000
namespace Go.Proofs
theorem MO{G:Prop}(h:G:=by
  first | exact this | (rw [show Tryz.prog.cellsOf 23 = 1 by kernel_rfl] at this;exact this)):G:=h
theorem P8{G:Prop}(h:G:=by
  first | exact this | (rw [show Tryz.prog.cellsOf 2 = 1 by kernel_rfl] at this;exact this)):G:=h
theorem Yp{G:Prop}(h:G:=by
  first | exact this | (rw [show Tryz.prog.cellsOf 24 = 1 by kernel_rfl] at this;exact this)):G:=h
end Go.Proofs
namespace Go.Proofs.YtedcanagfajcgaaGreat
open Go.RowKit
open Go.Lib (hid)
theorem Y3 {l:Cs.Wins} (h:l≠[]):l[0]? = some (hdC l):=by
 cases l with
 | nil=>exact absurd rfl h
 | cons a t=>rfl
theorem Ls (A S:Option Addr) (n cn m cm:Nat) (ws st:Cs.Wins) (w:World) (hw:Pairs w A n ws) (hs:Pairs w S m st) (hn:n<=maxLen) (hm:m<=maxLen) (hmc:m<=cm) (hcm:cm<=maxLen) (hc:Cs.chkE ws st=0) (hne:Cs.confL ws st≠[]) :
  Calls Tryz.prog 111 #[.slice A n cn,.slice S m cm] w fun e w'=>e=.returned (.tuple #[.agg #[vI (hdC (Cs.confL ws st)).1,vI (hdC (Cs.confL ws st)).2],.bool true,vI 0])∧Below w.heap.size w w':=by
 have HS:=hid (DR w #[vI 0,vI 0] 44)
 have HA:=hid (fun W (h:Below w.heap.size w W)=>(AeE A S n cn m cm ws st W (hw.below h) (hs.below h) hn hm hmc hcm).mono (R':=fun e w'=>∃ A c,e=.returned (.tuple #[.slice A (Cs.confL ws st).length c,vI 0])∧Pairs w' A (Cs.confL ws st).length (Cs.confL ws st)∧Below W.heap.size W w') (fun e w' h=>by
  obtain ⟨A',c',h1,h2⟩:=h.1 hc
  exact ⟨A',c',h1,h2,h.2.2⟩))
 have hg:=Y3 hne;have hl:0<(Cs.confL ws st).length:=List.length_pos_iff.2 hne;clear hw hs hn hm hmc hcm hc hne;generalize hdC (Cs.confL ws st)=p at *;generalize Cs.confL ws st=l at *
 go_enter Tryz.func111,Tryz.ntmps111
 go_wp2_with fail
 refine (HA.out _ HS.out.B).mono ?_;rintro e w1 ⟨A',c',rfl,hP,hB⟩
 replace HS:=hid (HS.out.below hB);obtain ⟨b,off,rfl,hb,hcell⟩:=hP.cells hl;have c0:=hcell 0 p hg 0 _ rfl;have c1:=hcell 0 p hg 1 _ rfl
 rw [Nat.zero_mul,Nat.add_zero] at c0 c1
 have z0:w1.cell? ⟨w.heap.size,0,none⟩=some (vI 0):=HS.out.at 0 _ rfl 0 _ rfl;have z1:w1.cell? ⟨w.heap.size,1,none⟩=some (vI 0):=HS.out.at 0 _ rfl 1 _ rfl;have zf:=fun o=>show w1.frozen? ⟨w.heap.size,o,none⟩=false from HS.out.fr 0 _ rfl o;have hl2:((l.length:Int) == 0)=false:=BA.2 (by omega);clear hB hP hcell hg
 go_wp2_with fail
 exact bodyPost_ret (v:=.tuple #[.agg #[vI p.1,vI p.2],.bool true,vI 0]) (by simp [results,Tryz.results111,go_sem,z0,z1]) rfl ⟨rfl,(HS.out.B.setCell (p:=⟨w.heap.size,0,none⟩) (Bn _) _).setCell (p:=⟨w.heap.size,1,none⟩) (Bn _) _⟩
section
variable {s:Stp}
theorem We (a b:Int):0<=grt a b:=by unfold grt Bo;omega
theorem Abc (c alt dev:Int):0<=tsV c alt dev∧tsV c alt dev<=3500:=by
 have hr:=PD alt dev
 unfold tsV
 split
 ·next h =>
  unfold tsE at h
  by_cases h1:inB c 0 1000=true
  ·rw [Al] at h1
   have p0:0<=c * rtV alt dev:=BM h1.1 hr.1;have p1:c * rtV alt dev<=1000 * 3500000:=Int.mul_le_mul h1.2 hr.2 hr.1 (by decide)
   omega
  ·rw [if_neg h1] at h;exact absurd h (by decide)
 ·omega
theorem WF (s:Stp) (k:Nat):0<=ltG s k:=by
 have:=We (suH s k).e0 (suH s k).e1;have:=We (suH s k).n0 (suH s k).n1;have:=(Abc (ltC s k) s.lv (suH s k).d1).1
 unfold ltG
 omega
theorem QB (G:StG s) (N:StN s) {k:Nat} (hk:k+1<s.no.length):0<=ltV s k∧ltV s k<=50000:=by
 have hd:=(AR G N hk).di;have:=WF s k
 unfold ltV
 split
 ·omega
 ·have:=Int.ediv_nonneg hd.1 (WF s k)
  omega
theorem Py {p:Prf} {mass:Int} (h0:∀ a,0<=BQ p.al p.ms (Aj p.cl) a mass):∀ (k:Nat) (a:Int),a<=Ep p mass k a∧Ep p mass k a<=max a p.ce
 | 0,a=>⟨Bt _,by show a<=_;omega⟩
 | k+1,a=>by
  by_cases h:p.ce<=a
  ·rw [QZ h];omega
  ·by_cases h1:BQ p.al p.ms (Aj p.cl) a mass=0
   ·rw [Rc h h1];omega
   ·rw [Ra h h1]
    have:=Py h0 k (min (a+BQ p.al p.ms (Aj p.cl) a mass) p.ce);have:=h0 a
    omega
theorem Y6 (G:StG s):1<=s.ac.mass∧s.ac.mass<=3000000000:=by
 have:=Dv G.ac;have e:s.ac.mass=s.ac.em+(s.ac.ld - s.ac.bu):=if_pos G.ac
 omega
theorem Xh (G:StG s) (N:StN s) {k:Nat} (hk:k+1<s.no.length) {h:Int} (hh : -200000<=h∧h<=6000000):h<=riN s h k∧riN s h k<=6000000:=by
 have hl:=QB G N hk
 have e:rsE s.pf h s.ac.mass (ltV s k)=0:=by
  unfold rsE
  rw [if_neg (by rw [QJ G.pf hh (Y6 G)];decide),if_pos (Al.2 hl)]
 unfold riN rsV
 rw [if_pos e]
 have:=Py (p:=s.pf) (mass:=s.ac.mass) (fun a=>(Ac0 G N a _).1) (ltV s k).toNat h;have:=(AO G.pf).rce
 omega
theorem Qw (G:StG s) (N:StN s):∀ k,k<s.no.length → -200000<=hgt s k∧hgt s k<=s.lv
 | 0,hk=>by
  have:=AR G N hk;have:=this.a0;have:=(AR G N hk).aa;have:=G.lv
  show -200000<=min _ _∧min _ _<=_
  omega
 | k+1,hk=>by
  have ih:=Qw G N k (by omega);have:=G.lv;have h1:=Xh G N hk (h:=hgt s k) (by omega);have:=(AR G N hk).a0;have:=(AR G N hk).aa
  show -200000<=min (min _ _) _∧min (min _ _) _<=_
  omega
theorem Cq (G:StG s) (N:StN s):2<=s.no.length∧s.no.length<=64:=by have:=N.no;have:=G.n2;omega
theorem TB (G:StG s) (N:StN s) {k:Nat} (hk:k+1<s.no.length):(0<=(LQ s k).1∧(LQ s k).1<=6200000)∧0<=(LQ s k).2∧(LQ s k).2<=500000000:=by
 have hh:=Qw G N k (by omega);have:=G.lv;have h1:=Xh G N hk (h:=hgt s k) (by omega);have h2:=QB G N hk;have h3:=Ab4 G N (-200000);have p0:0<=Im s.pf (-200000) * ltV s k:=BM h3.1 h2.1;have p1:Im s.pf (-200000) * ltV s k<=10000 * 50000:=Int.mul_le_mul h3.2 h2.2 h2.1 (by decide)
 unfold LQ
 simp only
 omega
theorem Xu {k:Nat} (hk:k+1<s.no.length):(Cy s)[k]? = some (LQ s k):=by
 unfold Cy
 rw [List.getElem?_map,List.getElem?_range (by omega)];rfl
theorem Ja (s:Stp):(Cy s).length=s.no.length - 1:=by unfold Cy;simp
theorem Cf (s:Stp):(awL s).length=s.no.length:=by unfold awL;simp
theorem J4 {k:Nat} (hk:k<s.no.length):(awL s)[k]? = some ((Ac s k).a0,(Ac s k).a1):=by
 unfold awL
 have h:=AQ hk
 rw [List.getElem?_map,h,GJ h];rfl
theorem RU {k:Nat} (hk:k<s.no.length):Cs.lo (awL s) k=(Ac s k).a0∧Cs.hi (awL s) k=(Ac s k).a1:=Cs.lo_of (J4 hk)
theorem ZO (G:StG s) (N:StN s):∀ p ∈ Cy s,Cs.okT p:=by
 intro p hp
 unfold Cy at hp
 rw [List.mem_map] at hp
 obtain ⟨k,hk,rfl⟩:=hp
 rw [List.mem_range] at hk
 have:=TB G N (k:=k) (by omega)
 unfold Cs.okT Cs.okS
 omega
theorem Aao (G:StG s) (N:StN s):Cs.CsOk (awL s) (Cy s):=by
 have hn:=Cq G N
 refine ⟨by rw [Cf];omega,by rw [Ja,Cf],fun p hp=>?_,ZO G N⟩
 unfold awL at hp
 rw [List.mem_map] at hp
 obtain ⟨n,hn,rfl⟩:=hp;obtain ⟨k,hk,rfl⟩:=List.mem_iff_getElem.1 hn;have g:=G.no k _ (AQ hk);have:=g.a0;have:=g.a1;have:=g.aa
 unfold Cs.okW Pf.inB
 simp only
 omega
theorem Qf (s:Stp):awC s=Cs.lowL (awL s) (List.replicate (awL s).length s.lv):=by
 apply List.ext_getElem?
 intro k
 by_cases hk:k<s.no.length
 ·have h:=AQ hk
  unfold awC Cs.lowL
  rw [List.getElem?_map,List.getElem?_map,h,List.getElem?_range (by rw [Cf];exact hk)]
  simp only [Option.map_some]
  unfold Cs.lowF
  rw [if_pos (by rw [Cf];exact hk),(RU hk).1,(RU hk).2,GJ h,IR (by rw [Cf];exact hk)]
 ·rw [List.getElem?_eq_none (by unfold awC;simp;omega),List.getElem?_eq_none (by rw [Cs.lowL_len,Cf];omega)]
theorem AaO (G:StG s):Pf.inB s.lv:=by have:=G.lv;unfold Pf.inB;omega
theorem Qg (G:StG s) (N:StN s):Cs.CsOk (awC s) (Cy s):=by
 rw [Qf]
 exact WC (Aao G N) (by simp) (fun x hx=>by rw [(List.mem_replicate.1 hx).2];exact AaO G)
theorem Afm (G:StG s) (N:StN s):crE (awL s) (Cy s) s.lv=Cs.tgE (awC s) (Cy s):=by
 unfold crE
 rw [Cs.belE_ok (Aao G N).err (by simp) (fun x hx=>by rw [(List.mem_replicate.1 hx).2];exact AaO G),Qf]
theorem Ab3 (G:StG s) (N:StN s):(crE (awL s) (Cy s) s.lv=0∧Cs.confL (awC s) (Cy s)=[])∨(crE (awL s) (Cy s) s.lv=11∧Cs.confL (awC s) (Cy s)≠[]):=by
 rw [Afm G N]
 by_cases h:Cs.confL (awC s) (Cy s)=[]
 ·exact .inl ⟨Cs.tgE_ok (Qg G N).err h,h⟩
 ·exact .inr ⟨Cs.tgE_conf (Qg G N).err h,h⟩
theorem JZ (h:Dr s=0):suE s=0∧crE (awL s) (Cy s) s.lv=0:=by
 unfold Dr at h
 by_cases h0:suE s=0
 ·rw [if_neg (by rw [h0];decide)] at h;exact ⟨h0,h⟩
 ·rw [if_pos h0] at h;exact absurd h h0
structure AlG (s:Stp) (al:List Int):Prop where
 len:al.length=s.no.length
 win:∀ k,k<s.no.length→(Ac s k).a0<=al.getD k 0∧al.getD k 0<=(Ac s k).a1∧al.getD k 0<=s.lv
 sol:Cs.Sol (awL s) (Cy s) (fun i=>al.getD i 0)
theorem OG (N:StN s) (h:Dr s=0):AlG s (C8 s):=by
 obtain ⟨h0,h1⟩:=JZ h;have G:=Cm h0;obtain ⟨⟨m1,m2,m3⟩,h2,h3⟩:=Vv h1
 rw [Cf] at m2 h2
 refine ⟨m2,fun k hk=>?_,m3⟩
 have:=m3.win k (by rw [Cf];exact hk)
 rw [(RU hk).1,(RU hk).2] at this
 exact ⟨this.1,this.2,h2 k hk⟩
theorem AlG.bd {al:List Int} (A:AlG s al) (G:StG s) (N:StN s) {k:Nat} (hk:k<s.no.length) : -200000<=al.getD k 0∧al.getD k 0<=6000000:=by
 have:=A.win k hk;have:=(AR G N hk).a0;have:=G.lv
 omega
theorem Zw {l:List Int} {lo hi:Int} (h:∀ k,k<l.length→lo<=l.getD k 0∧l.getD k 0<=hi):BK l lo hi=true:=by
 unfold BK
 rw [List.all_eq_true]
 intro x hx
 obtain ⟨k,hk,rfl⟩:=List.mem_iff_getElem.1 hx;have:=h k hk
 rw [Ah (AQ hk)] at this
 exact Al.2 this
theorem AfH (G:StG s) (N:StN s) {al:List Int} (hs:suE s=0) (A:AlG s al):sdE s al=0:=by
 unfold sdE
 rw [if_neg (by rw [hs];decide),if_neg (by rw [A.len];simp),if_pos (Zw (fun k hk=>A.bd G N (by rw [← A.len];exact hk)))]
/-! ### speeds -/
theorem CV {al:List Int} (h:al.length=s.no.length):(sdL s al).length=s.no.length:=by unfold sdL;rw [List.length_zipWith];omega
theorem Ki {al:List Int} (h:al.length=s.no.length) {k:Nat} (hk:k<s.no.length):(sdL s al)[k]? = some (sdF s (Ac s k) (al.getD k 0)):=by
 have h1:=AQ hk;have h2:=AQ (l:=al) (i:=k) (by omega)
 unfold sdL
 rw [List.getElem?_zipWith,h1,h2,GJ h1,Ah h2]
theorem Aa6 {al:List Int} (h:al.length=s.no.length) {k:Nat} (hk:k<s.no.length):Cs.lo (sdL s al) k=(sdF s (Ac s k) (al.getD k 0)).1∧Cs.hi (sdL s al) k=(sdF s (Ac s k) (al.getD k 0)).2:=Cs.lo_of (Ki h hk)
theorem Xp (G:StG s) (N:StN s) {k:Nat} (hk:k<s.no.length) (alt:Int):Sp.okP (sdF s (Ac s k) alt)∧(sdF s (Ac s k) alt).2<=s.cas:=by
 have g:=AR G N hk;have h1:=Acn G N s.ac.mass;have h2:=Aco G N alt;have:=g.s0;have:=g.ss;have:=g.s1;have:=G.cas;have:=G.ls
 unfold sdF Sp.okP Sp.okV
 simp only
 split <;> omega
theorem Qo (G:StG s) (N:StN s):(∀ x ∈ EI s,Pf.okD x)∧(EI s).length=s.no.length - 1:=by
 refine ⟨fun x hx=>?_,by unfold EI;simp⟩
 unfold EI at hx
 rw [List.mem_map] at hx
 obtain ⟨n,hn,rfl⟩:=hx;obtain ⟨k,hk,rfl⟩:=List.mem_iff_getElem.1 (List.mem_of_mem_drop hn)
 exact (G.no k _ (AQ hk)).di
theorem AcT (G:StG s) (N:StN s):Sp.stE (EI s) s.acc s.dec=0:=by
 obtain ⟨h1,h2⟩:=Qo G N;have:=Cq G N
 exact Sp.stE_0 (by omega) ⟨G.acc,G.dec⟩ h1
theorem Xt (G:StG s) (N:StN s) {al:List Int} (h:al.length=s.no.length):Sp.rdE (sdL s al) (spS s)=0:=by
 obtain ⟨h1,h2⟩:=Qo G N;have hn:=Cq G N
 have hp:∀ p ∈ sdL s al,Sp.okP p:=by
  intro p hp
  obtain ⟨k,hk,rfl⟩:=List.mem_iff_getElem.1 hp
  have hk2:k<s.no.length:=by rw [CV h] at hk;exact hk
  have e:=AQ hk
  rw [Ki h hk2] at e
  rw [← Option.some.inj e]
  exact (Xp G N hk2 _).1
 refine Sp.rdE_ok (Cs.CsOk.err ⟨by rw [CV h];omega,by unfold spS Sp.stL;rw [List.length_map,h2,CV h],fun p hp2=>?_,fun p hp2=>?_⟩) hp
 ·have:=hp p hp2
  unfold Sp.okP Sp.okV at this
  unfold Cs.okW Pf.inB
  omega
 ·unfold spS Sp.stL at hp2
  rw [List.mem_map] at hp2
  obtain ⟨x,hx,rfl⟩:=hp2;have a:=Sp.st_prod (a:=s.acc) G.acc (h1 x hx);have b:=Sp.st_prod (a:=s.dec) G.dec (h1 x hx)
  unfold Sp.stF Cs.okT Cs.okS
  simp only
  omega
theorem Ab1 (G:StG s):Pf.inB s.cas:=by have:=G.cas;unfold Pf.inB;omega
theorem AcP (G:StG s) (N:StN s) {al:List Int} (h:al.length=s.no.length):Cs.lowL (sdL s al) (wsh s)=sdL s al:=by
 apply List.ext_getElem?
 intro k
 by_cases hk:k<s.no.length
 ·rw [Ki h hk]
  unfold Cs.lowL
  rw [List.getElem?_map,List.getElem?_range (by rw [CV h];exact hk)]
  simp only [Option.map_some]
  unfold Cs.lowF
  rw [if_pos (by rw [CV h];exact hk),(Aa6 h hk).1,(Aa6 h hk).2]
  unfold wsh
  rw [IR hk]
  have:=(Xp G N hk (al.getD k 0)).2
  rw [show min (sdF s (Ac s k) (al.getD k 0)).2 s.cas=(sdF s (Ac s k) (al.getD k 0)).2 by omega]
 ·rw [List.getElem?_eq_none (by rw [Cs.lowL_len,CV h];omega),List.getElem?_eq_none (by rw [CV h];omega)]
theorem Ac1 (G:StG s) {al:List Int} (h:al.length=s.no.length):(wsh s).length=(sdL s al).length∧∀ x ∈ wsh s,Pf.inB x :=
 ⟨by rw [CV h];simp [wsh],fun x hx=>by rw [(List.mem_replicate.1 hx).2];exact Ab1 G⟩
theorem Afy (G:StG s) (N:StN s) {al:List Int} (h:al.length=s.no.length):plE (sdL s al) (spS s) (wsh s)=Cs.tgE (sdL s al) (spS s):=by
 have hr:=Xt G N h;have hw:=Ac1 G h
 rw [AaU hr,Cs.belE_ok (Sp.rdE_0 hr).1 hw.1 hw.2,AcP G N h]
theorem WR (G:StG s) (N:StN s) {al:List Int} (h:al.length=s.no.length):(plE (sdL s al) (spS s) (wsh s)=0∧Cs.confL (sdL s al) (spS s)=[])∨(plE (sdL s al) (spS s) (wsh s)=11∧Cs.confL (sdL s al) (spS s)≠[]):=by
 rw [Afy G N h]
 have hc:=(Sp.rdE_0 (Xt G N h)).1
 by_cases h1:Cs.confL (sdL s al) (spS s)=[]
 ·exact .inl ⟨Cs.tgE_ok hc h1,h1⟩
 ·exact .inr ⟨Cs.tgE_conf hc h1,h1⟩
structure SpG (s:Stp) (al sp:List Int):Prop where
 len:sp.length=s.no.length
 win:∀ k,k<s.no.length→(sdF s (Ac s k) (al.getD k 0)).1<=sp.getD k 0∧sp.getD k 0<=(sdF s (Ac s k) (al.getD k 0)).2
 sol:Cs.Sol (sdL s al) (spS s) (fun i=>sp.getD i 0)
theorem SpG.bd {al sp:List Int} (S:SpG s al sp) (G:StG s) (N:StN s) {k:Nat} (hk:k<s.no.length):0<=sp.getD k 0∧sp.getD k 0<=1000∧sp.getD k 0<=s.cas∧(Ac s k).s0<=sp.getD k 0∧sp.getD k 0<=(Ac s k).s1∧sp.getD k 0<=FV s.pf (al.getD k 0)∧(al.getD k 0<s.la→sp.getD k 0<=s.ls):=by
 have h1:=S.win k hk;have g:=AR G N hk;have:=g.s0;have:=g.s1
 unfold sdF at h1
 simp only at h1
 split at h1 <;> omega
structure RnG (s:Stp):Prop where
 su:suE s=0
 G:StG s
 al:AlG s (C8 s)
 nc:Cs.confL (sdL s (C8 s)) (spS s)=[]
 sp:SpG s (C8 s) (pnL s)
 fc:FcG s (C8 s) (pnL s)
 ps:psE s (C8 s) (pnL s) (s.no.length - 1)=0
theorem Jf (s:Stp) (al sp:List Int):(wtL s al sp).length=s.no.length:=by unfold wtL;simp
theorem TP {al sp:List Int} {k:Nat} (hk:k<s.no.length):(wtL s al sp)[k]? = some (psP s al sp k):=by
 unfold wtL
 rw [List.getElem?_map,List.getElem?_range hk];rfl
theorem RnG.at (R:RnG s) {k:Nat} (hk:k<s.no.length):psE s (C8 s) (pnL s) k=0:=JA (by omega) R.ps
end
def pl (H:Nat):Nat→Nat
 | 0=>H
 | i+1=>pl H i+1
theorem AaV (H:Nat):∀ i,pl H i=H+i
 | 0=>rfl
 | i+1=>by unfold pl;rw [AaV H i];omega
def exL (H i n:Nat):Sl:=⟨some ⟨pl H i,0,none⟩,n,n⟩
def exR (H i:Nat) (l:List Int):Row:=⟨some ⟨pl H i,0,none⟩,2,2,l⟩
theorem AfJ:At.soundV 0 0=10583:=JD (n:=388734 * At.tempV 0 0 / 100) (by decide) (by decide) (by decide)
theorem Afp:coV 0 0 0 60000=0:=by
 have h:grV 60000 0=0:=(Jq (by decide) (by decide) ⟨by decide,by decide,by decide,by decide⟩).symm;have e:coV 0 0 0 60000=atV 0 60000:=if_neg (by decide)
 rw [e,LZ (by decide),if_pos (by decide)]
 unfold atQ
 rw [if_neg (by decide),show max (BO 60000) (BO 0)=60000 by decide,show min (BO 60000) (BO 0)=0 by decide]
 exact h
theorem Afi (e n:Int) (he:e = -30∨e=0∨e=30) (hn:n = -30∨n=0∨n=30):alV 0 e n=n * 1024∧acV 0 e n=e * 1024:=by
 rcases he with rfl | rfl | rfl <;> rcases hn with rfl | rfl | rfl <;> exact ⟨by decide,by decide⟩
theorem Qq (H i j:Nat) (a b:List Int):∀ r ∈ [exR H i a,exR H j b],r.n<=maxLen:=by
 intro r hr
 simp only [List.mem_cons,List.not_mem_nil,or_false] at hr
 rcases hr with rfl | rfl <;> (show 2<=maxLen;decide)
open Go.RowKit Go.ChangeShapes Go.WideShapes Go.Deep
def La (w:World) (r:Row):Prop:=Ints w r.A r.n r.l∧r.n<=maxLen
theorem Qp {H:Type} {enc:TypeId × Value→H} {w:World} {base:Nat} {spare:Nat→Bool} {held:Bool} (n:Nat) (cs:List Value) (y:DataW H × List MemPlace) (h:DataW.trod enc Tryz.prog w base spare held n 23 cs=some y):∃ r:Row,cs=r.cells∧La w r:=by
 obtain ⟨v,rfl⟩:∃ v,cs=[v]:=by
  rcases open_slice Tryz.underlying23 h with ⟨hc,_⟩ | ⟨a,len,cap,m,fu,D,Pl,hc,_⟩
  ·exact ⟨_,hc⟩
  ·exact ⟨_,hc⟩
 obtain ⟨A,n,c,xs,rfl,h1,h2,h3,h4,_⟩:=BD Tryz.underlying23 Tryz.underlying2 (by kernel_rfl) h
 exact ⟨⟨A,n,c,xs⟩,rfl,h3,h1⟩
theorem Zc {H:Type} {enc:TypeId × Value→H} {w:World} {base:Nat} {spare:Nat→Bool} {held:Bool} (n:Nat) (cs:List Value) (y:DataW H × List MemPlace) (h:DataW.trod enc Tryz.prog w base spare held n 26 cs=some y) :
  ∃ (nm:ByteArray) (em:Int) (mf:Int) (alA:Option Addr) (aln:Nat) (alc:Nat) (alx:List Int) (msA:Option Addr) (msn:Nat) (msc:Nat) (msx:List Int) (clA:Option Addr) (cln:Nat) (clc:Nat) (clx:List Row) (cfA:Option Addr) (cfn:Nat) (cfc:Nat) (cfx:List Row) (crA:Option Addr) (crn:Nat) (crc:Nat) (crx:List Row) (deA:Option Addr) (den:Nat) (dec:Nat) (dex:List Int) (idA:Option Addr) (idn:Nat) (idc:Nat) (idx:List Int) (mxA:Option Addr) (mxn:Nat) (mxc:Nat) (mxx:List Int) (mnA:Option Addr) (mnn:Nat) (mnc:Nat) (mnx:List Int) (rf:Int) (ex:Int) (ce:Int),cs=[.string nm,vI em,vI mf,.slice alA aln alc,.slice msA msn msc,.slice clA cln clc,.slice cfA cfn cfc,.slice crA crn crc,.slice deA den dec,.slice idA idn idc,.slice mxA mxn mxc,.slice mnA mnn mnc,vI rf,vI ex,vI ce]∧nm.size<=maxLen∧(Lit.int .i64 em).wf=true∧(Lit.int .i64 mf).wf=true∧aln<=maxLen∧BS alA aln alc∧Ints w alA aln alx∧(∀ x ∈ alx,(Lit.int .i64 x).wf=true)∧msn<=maxLen∧BS msA msn msc∧Ints w msA msn msx∧(∀ x ∈ msx,(Lit.int .i64 x).wf=true)∧cln<=maxLen∧BS clA cln clc∧Recs Row.cells 1 w clA cln clx∧(∀ x ∈ clx,La w x)∧cfn<=maxLen∧BS cfA cfn cfc∧Recs Row.cells 1 w cfA cfn cfx∧(∀ x ∈ cfx,La w x)∧crn<=maxLen∧BS crA crn crc∧Recs Row.cells 1 w crA crn crx∧(∀ x ∈ crx,La w x)∧den<=maxLen∧BS deA den dec∧Ints w deA den dex∧(∀ x ∈ dex,(Lit.int .i64 x).wf=true)∧idn<=maxLen∧BS idA idn idc∧Ints w idA idn idx∧(∀ x ∈ idx,(Lit.int .i64 x).wf=true)∧mxn<=maxLen∧BS mxA mxn mxc∧Ints w mxA mxn mxx∧(∀ x ∈ mxx,(Lit.int .i64 x).wf=true)∧mnn<=maxLen∧BS mnA mnn mnc∧Ints w mnA mnn mnx∧(∀ x ∈ mnx,(Lit.int .i64 x).wf=true)∧(Lit.int .i64 rf).wf=true∧(Lit.int .i64 ex).wf=true∧(Lit.int .i64 ce).wf=true:=by
 obtain ⟨xs,n',_,_,hlen,hx,hf⟩:=DataW.trod_struct Tryz.underlying26 h
 rw [show Tryz.prog.cellsOf 26 = 15 by kernel_rfl] at hlen
 match cs,hlen with
 | [c0,c1,c2,c3,c4,c5,c6,c7,c8,c9,c10,c11,c12,c13,c14],_ =>
  have e0:DataW.trod enc Tryz.prog w base spare held n' 9 [c0]=xs[0]?:=by
   have:=hf 0 _ rfl
   first | exact this | (rw [show Tryz.prog.cellsOf 9 = 1 by kernel_rfl] at this;exact this)
  have i0:0<xs.length:=by first | omega | (rw [hx];decide)
  rw [AQ i0] at e0
  obtain ⟨nm,h0,_,w0⟩:=DataW.trod_string Tryz.underlying9 e0
  obtain rfl:c0=.string nm:=by injection h0
  have e1:DataW.trod enc Tryz.prog w base spare held n' 2 [c1]=xs[1]?:=by
   have:=hf 1 _ rfl
   exact P8
  have i1:1<xs.length:=by first | omega | (rw [hx];decide)
  rw [AQ i1] at e1
  obtain ⟨em,h1,w1⟩:=BF (k:=.i64) Tryz.underlying2 _ _ _ e1
  obtain rfl:c1=vI em:=by injection h1
  have e2:DataW.trod enc Tryz.prog w base spare held n' 2 [c2]=xs[2]?:=by
   have:=hf 2 _ rfl
   exact P8
  have i2:2<xs.length:=by first | omega | (rw [hx];decide)
  rw [AQ i2] at e2
  obtain ⟨mf,h2,w2⟩:=BF (k:=.i64) Tryz.underlying2 _ _ _ e2
  obtain rfl:c2=vI mf:=by injection h2
  have e3:DataW.trod enc Tryz.prog w base spare held n' 23 [c3]=xs[3]?:=by
   have:=hf 3 _ rfl
   exact MO
  have i3:3<xs.length:=by first | omega | (rw [hx];decide)
  rw [AQ i3] at e3
  obtain ⟨alA,aln,alc,alx,rfl,w3a,w3b,w3c,w3d,_⟩:=BD Tryz.underlying23 Tryz.underlying2 (by kernel_rfl) e3
  have e4:DataW.trod enc Tryz.prog w base spare held n' 23 [c4]=xs[4]?:=by
   have:=hf 4 _ rfl
   exact MO
  have i4:4<xs.length:=by first | omega | (rw [hx];decide)
  rw [AQ i4] at e4
  obtain ⟨msA,msn,msc,msx,rfl,w4a,w4b,w4c,w4d,_⟩:=BD Tryz.underlying23 Tryz.underlying2 (by kernel_rfl) e4
  have e5:DataW.trod enc Tryz.prog w base spare held n' 24 [c5]=xs[5]?:=by
   have:=hf 5 _ rfl
   exact Yp
  have i5:5<xs.length:=by first | omega | (rw [hx];decide)
  rw [AQ i5] at e5
  obtain ⟨clA,cln,clc,clx,rfl,w5a,w5b,w5c,w5d,_⟩:=DC Row.cells 1 (by decide) (fun _=>rfl) (La w) Tryz.underlying24 (by kernel_rfl) Qp e5
  have e6:DataW.trod enc Tryz.prog w base spare held n' 24 [c6]=xs[6]?:=by
   have:=hf 6 _ rfl
   exact Yp
  have i6:6<xs.length:=by first | omega | (rw [hx];decide)
  rw [AQ i6] at e6
  obtain ⟨cfA,cfn,cfc,cfx,rfl,w6a,w6b,w6c,w6d,_⟩:=DC Row.cells 1 (by decide) (fun _=>rfl) (La w) Tryz.underlying24 (by kernel_rfl) Qp e6
  have e7:DataW.trod enc Tryz.prog w base spare held n' 24 [c7]=xs[7]?:=by
   have:=hf 7 _ rfl
   exact Yp
  have i7:7<xs.length:=by first | omega | (rw [hx];decide)
  rw [AQ i7] at e7
  obtain ⟨crA,crn,crc,crx,rfl,w7a,w7b,w7c,w7d,_⟩:=DC Row.cells 1 (by decide) (fun _=>rfl) (La w) Tryz.underlying24 (by kernel_rfl) Qp e7
  have e8:DataW.trod enc Tryz.prog w base spare held n' 23 [c8]=xs[8]?:=by
   have:=hf 8 _ rfl
   exact MO
  have i8:8<xs.length:=by first | omega | (rw [hx];decide)
  rw [AQ i8] at e8
  obtain ⟨deA,den,dec,dex,rfl,w8a,w8b,w8c,w8d,_⟩:=BD Tryz.underlying23 Tryz.underlying2 (by kernel_rfl) e8
  have e9:DataW.trod enc Tryz.prog w base spare held n' 23 [c9]=xs[9]?:=by
   have:=hf 9 _ rfl
   exact MO
  have i9:9<xs.length:=by first | omega | (rw [hx];decide)
  rw [AQ i9] at e9
  obtain ⟨idA,idn,idc,idx,rfl,w9a,w9b,w9c,w9d,_⟩:=BD Tryz.underlying23 Tryz.underlying2 (by kernel_rfl) e9
  have e10:DataW.trod enc Tryz.prog w base spare held n' 23 [c10]=xs[10]?:=by
   have:=hf 10 _ rfl
   exact MO
  have i10:10<xs.length:=by first | omega | (rw [hx];decide)
  rw [AQ i10] at e10
  obtain ⟨mxA,mxn,mxc,mxx,rfl,w10a,w10b,w10c,w10d,_⟩:=BD Tryz.underlying23 Tryz.underlying2 (by kernel_rfl) e10
  have e11:DataW.trod enc Tryz.prog w base spare held n' 23 [c11]=xs[11]?:=by
   have:=hf 11 _ rfl
   exact MO
  have i11:11<xs.length:=by first | omega | (rw [hx];decide)
  rw [AQ i11] at e11
  obtain ⟨mnA,mnn,mnc,mnx,rfl,w11a,w11b,w11c,w11d,_⟩:=BD Tryz.underlying23 Tryz.underlying2 (by kernel_rfl) e11
  have e12:DataW.trod enc Tryz.prog w base spare held n' 2 [c12]=xs[12]?:=by
   have:=hf 12 _ rfl
   exact P8
  have i12:12<xs.length:=by first | omega | (rw [hx];decide)
  rw [AQ i12] at e12
  obtain ⟨rf,h12,w12⟩:=BF (k:=.i64) Tryz.underlying2 _ _ _ e12
  obtain rfl:c12=vI rf:=by injection h12
  have e13:DataW.trod enc Tryz.prog w base spare held n' 2 [c13]=xs[13]?:=by
   have:=hf 13 _ rfl
   exact P8
  have i13:13<xs.length:=by first | omega | (rw [hx];decide)
  rw [AQ i13] at e13
  obtain ⟨ex,h13,w13⟩:=BF (k:=.i64) Tryz.underlying2 _ _ _ e13
  obtain rfl:c13=vI ex:=by injection h13
  have e14:DataW.trod enc Tryz.prog w base spare held n' 2 [c14]=xs[14]?:=by
   have:=hf 14 _ rfl
   exact P8
  have i14:14<xs.length:=by first | omega | (rw [hx];decide)
  rw [AQ i14] at e14
  obtain ⟨ce,h14,w14⟩:=BF (k:=.i64) Tryz.underlying2 _ _ _ e14
  obtain rfl:c14=vI ce:=by injection h14
  exact ⟨nm,em,mf,alA,aln,alc,alx,msA,msn,msc,msx,clA,cln,clc,clx,cfA,cfn,cfc,cfx,crA,crn,crc,crx,deA,den,dec,dex,idA,idn,idc,idx,mxA,mxn,mxc,mxx,mnA,mnn,mnc,mnx,rf,ex,ce,rfl,w0,w1,w2,w3a,w3b,w3c,w3d,w4a,w4b,w4c,w4d,w5a,w5b,w5c,w5d,w6a,w6b,w6c,w6d,w7a,w7b,w7c,w7d,w8a,w8b,w8c,w8d,w9a,w9b,w9c,w9d,w10a,w10b,w10c,w10d,w11a,w11b,w11c,w11d,w12,w13,w14⟩
theorem Acx {H:Type} {enc:TypeId × Value→H} {w:World} {base:Nat} {spare:Nat→Bool} {held:Bool} (n:Nat) (cs:List Value) (y:DataW H × List MemPlace) (h:DataW.trod enc Tryz.prog w base spare held n 26 cs=some y) :
  ∃ p:Prf,cs=p.cells∧p.lies w∧p.ok∧(I64 p.em∧I64 p.mf∧I64 p.rf∧I64 p.ex∧I64 p.ce):=by
 obtain ⟨nm,em,mf,alA,aln,alc,alx,msA,msn,msc,msx,clA,cln,clc,clx,cfA,cfn,cfc,cfx,crA,crn,crc,crx,deA,den,dec,dex,idA,idn,idc,idx,mxA,mxn,mxc,mxx,mnA,mnn,mnc,mnx,rf,ex,ce,h1,f0,f1,f2,f3,f4,f5,f6,f7,f8,f9,f10,f11,f12,f13,f14,f15,f16,f17,f18,f19,f20,f21,f22,f23,f24,f25,f26,f27,f28,f29,f30,f31,f32,f33,f34,f35,f36,f37,f38,f39,f40,f41⟩:=Zc n cs y h
 exact ⟨⟨nm,em,mf,⟨alA,aln,alc⟩,⟨msA,msn,msc⟩,⟨clA,cln,clc⟩,⟨cfA,cfn,cfc⟩,⟨crA,crn,crc⟩,⟨deA,den,dec⟩,⟨idA,idn,idc⟩,⟨mxA,mxn,mxc⟩,⟨mnA,mnn,mnc⟩,rf,ex,ce,alx,msx,clx,cfx,crx,dex,idx,mxx,mnx⟩,h1,⟨f5,f9,⟨f13,fun r hr=>(f14 r hr).1⟩,⟨f17,fun r hr=>(f18 r hr).1⟩,⟨f21,fun r hr=>(f22 r hr).1⟩,f25,f29,f33,f37⟩,
  ⟨f0,f3,f7,f11,f15,f19,f23,f27,f31,f35,fun r hr=>(f14 r hr).2,fun r hr=>(f18 r hr).2,fun r hr=>(f22 r hr).2⟩,Az f1,Az f2,Az f39,Az f40,Az f41⟩
