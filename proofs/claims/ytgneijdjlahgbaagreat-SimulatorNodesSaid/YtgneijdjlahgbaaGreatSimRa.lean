
/- Layer 59: the distance along a prediction (Rails), of the program and of the reference. -/
import Derived.Test.YtgneijdjlahgbaaGreatM11
import Derived.Test.YtgneijdjlahgbaaGreatM8
import Derived.Test.YtgneijdjlahgbaaGreatFxOps
import Derived.Deep.QuietTactic
import Derived.BigQuiet
import Derived.OwnWalk
namespace Go.Proofs.YtgneijdjlahgbaaGreat
set_option maxRecDepth 100000
set_option maxHeartbeats 2000000
set_option linter.unusedSimpArgs false
set_option linter.unusedVariables false
open Go.RowKit
def raL (ps:List Pass) (ds:List Int) (t:Int):Nat→Nat→Int→Int
 | 0,_,s=>s
 | f+1,k,s =>
  match ps[k+1]?,ps[k]?,ds[k]? with
  | some x,some y,some d=>if t≤x.tick then satV (s+min d (satV (x.ground * satV (t - y.tick)))) else raL ps ds t f (k+1) (satV (s+d))
  | _,_,_=>s
def raE (ps:List Pass) (ds:List Int) (t:Int):Int :=
 if ps.length=0∨ds.length+1≠ps.length then 1
 else match ps[ps.length - 1]? with
  | some x=>if t<0∨x.tick<t then 2 else 0
  | none=>0
def raV (ps:List Pass) (ds:List Int) (t:Int):Int:=if raE ps ds t=0 then (if t=0 then 0 else raL ps ds t (ps.length - 1) 0 0) else 0
theorem raL_hit {ps:List Pass} {ds:List Int} {t s d:Int} {f k:Nat} {x y:Pass} (hx:ps[k+1]? = some x) (hy:ps[k]? = some y) (hd:ds[k]? = some d) (h:t≤x.tick) :
  raL ps ds t (f+1) k s=satV (s+min d (satV (x.ground * satV (t - y.tick)))):=by
 unfold raL;rw [hx,hy,hd];simp only;rw [if_pos h]
theorem raL_on {ps:List Pass} {ds:List Int} {t s d:Int} {f k:Nat} {x y:Pass} (hx:ps[k+1]? = some x) (hy:ps[k]? = some y) (hd:ds[k]? = some d) (h:¬ t≤x.tick) :
  raL ps ds t (f+1) k s=raL ps ds t f (k+1) (satV (s+d)):=by
 conv=>lhs;unfold raL
 rw [hx,hy,hd];simp only;rw [if_neg h]
theorem raE_1 {ps:List Pass} {ds:List Int} {t:Int} (h:ps.length=0∨ds.length+1≠ps.length):raE ps ds t=1:=by unfold raE;rw [if_pos h]
theorem raE_2 {ps:List Pass} {ds:List Int} {t:Int} {x:Pass} (h:¬ (ps.length=0∨ds.length+1≠ps.length)) (hx:ps[ps.length - 1]? = some x):raE ps ds t=if t<0∨x.tick<t then 2 else 0:=by unfold raE;rw [if_neg h,hx]
theorem pass_cells {w:World} {A:Option Addr} {n:Nat} {ps:List Pass} (hp:Passes w A n ps) {k:Nat} {x:Pass} (hx:ps[k]? = some x) :
  ∃ b off,A=some ⟨b,off,none⟩∧b<w.heap.size∧∀ j v,(Pass.cells x)[j]? = some v→w.cell? ⟨b,off+k * 13+j,none⟩=some v:=by
 have:k<n:=by rw [← hp.len];exact (List.getElem?_eq_some_iff.1 hx).1
 obtain ⟨b,off,e,h,hc⟩:=hp.cells (by omega)
 exact ⟨b,off,e,h,fun j v hv=>hc k x hx j v hv⟩
theorem ints_cell0 {w:World} {A:Option Addr} {n:Nat} {xs:List Int} (h:Ints w A n xs) {k:Nat} {v:Int} (hx:xs[k]? = some v) :
  ∃ b off,A=some ⟨b,off,none⟩∧b<w.heap.size∧w.cell? ⟨b,off+k,none⟩=some (.int .i64 v):=by
 have:k<n:=by rw [← h.len];exact (List.getElem?_eq_some_iff.1 hx).1
 obtain ⟨b,off,e,h1,hc⟩:=h.cells (by omega)
 exact ⟨b,off,e,h1,hc k v hx⟩
def RaRel (ps:List Pass) (ds:List Int) (t V:Int) (n:Nat) (w:World) (s i:Value) (wr:World):Prop :=
 ∃ (k:Nat) (S:Int),k<n∧s=.int .i64 S∧i=.int .i64 ((k:Int)+1)∧I64 S∧raL ps ds t (n - 1 - k) k S=V∧Below w.heap.size w wr∧(k=0→S=0)∧(∀ y,k≠0→ps[k]? = some y→y.tick<t)
theorem xRails (A B:Option Addr) (n c m d:Nat) (ps:List Pass) (ds:List Int) (t:Int) (x y z:Value) (w:World) (hp:Passes w A n ps) (hd:Ints w B m ds) (hn:n≤1000000) (hm:m≤1000000) (ht:I64 t) (hwp:∀ q ∈ ps,I64 q.ground∧I64 q.tick) (hwd:∀ q ∈ ds,I64 q) :
  Calls Tryz.prog 40 #[.agg #[.slice A n c,x,y,z],.slice B m d,.int .i64 t] w fun e w'=>e=.returned (.tuple #[.int .i64 (raV ps ds t),.int .i64 (raE ps ds t)])∧Below w.heap.size w w':=by
 have HP:=Lib.hid hp
 have HD:=Lib.hid hd
 have HL:=Lib.hid hp.len
 have HLD:=Lib.hid hd.len
 have HWP:=Lib.hid hwp
 have HWD:=Lib.hid hwd
 have HT:=Lib.hid ht
 obtain ⟨t0,t1⟩:=ht
 clear hp hd hwp hwd
 by_cases h0:n=0
 ·have HV:=Lib.hid (show raE ps ds t=1 from raE_1 (.inl (by rw [HL.out,h0])))
  have HV2:=Lib.hid (show raV ps ds t=0 by unfold raV;rw [HV.out,if_neg (by decide)])
  have HN:=Lib.hid h0
  have hn1:(n:Int)<1:=by omega
  have hn0:((n:Int) == 0)=true:=by rw [h0];rfl
  clear h0
  go_enter Tryz.func40,Tryz.ntmps40
  go_wp2_with fail
  go_ret2
  exact ⟨ret_tup2 (by rw [HV2.out]) (by rw [HV.out]),(Below.refl _ _).alloc (Nat.le_refl _) _⟩
 have hn0:((n:Int) == 0)=false:=beq_eq_false_iff_ne.2 (by omega)
 have hn1:¬ (n:Int)<1:=by omega
 by_cases h1:m+1=n
 rotate_left
 ·have HV:=Lib.hid (show raE ps ds t=1 from raE_1 (.inr (by rw [HL.out,HLD.out];exact h1)))
  have HV2:=Lib.hid (show raV ps ds t=0 by unfold raV;rw [HV.out,if_neg (by decide)])
  have hne:((m:Int) != (n:Int) - 1)=true:=bne_iff_ne.2 (by omega)
  clear h0 h1
  go_enter Tryz.func40,Tryz.ntmps40
  go_wp2_with fail
  go_ret2
  exact ⟨ret_tup2 (by rw [HV2.out]) (by rw [HV.out]),(Below.refl _ _).alloc (Nat.le_refl _) _⟩
 subst h1
 have hne:((m:Int) != ((m+1:Nat):Int) - 1)=false:=by simp
 have hne':((m:Int) != (m:Int)+1 - 1)=false:=by simp
 obtain ⟨xl,hxl⟩:=get_ex (k:=m) HL.out (by omega)
 have hE:=raE_2 (ps:=ps) (ds:=ds) (t:=t) (x:=xl) (by rw [HL.out,HLD.out];omega) (by rw [HL.out];exact hxl)
 obtain ⟨b,off,rfl,hb,hc⟩:=pass_cells HP.out hxl
 have l4:w.cell? ⟨b,off+m * 13+4,none⟩=some (.int .i64 xl.tick):=hc 4 _ rfl
 have hbox:=(Below.refl w.heap.size w)
 have cw:(w.alloc (.cells #[.slice (some ⟨b,off,none⟩) (m+1) c,x,y,z] 42)).cell? ⟨b,off+m * 13+4,none⟩=some (.int .i64 xl.tick):=((hbox.alloc (Nat.le_refl _) _).cell (p:=⟨b,_,none⟩) hb).trans l4
 have HXL:=Lib.hid hxl
 have HC:=Lib.hid hc
 clear hc hxl hbox h0
 have m0:0≤(m:Int):=by omega
 have m1:(m:Int)<((m+1:Nat):Int):=by omega
 by_cases h2:t<0
 ·have HV:=Lib.hid (show raE ps ds t=2 by rw [hE,if_pos (.inl h2)])
  have HV2:=Lib.hid (show raV ps ds t=0 by unfold raV;rw [HV.out,if_neg (by decide)])
  clear hE
  go_enter Tryz.func40,Tryz.ntmps40
  go_wp2_with fail
  go_ret2
  exact ⟨ret_tup2 (by rw [HV2.out]) (by rw [HV.out]),(Below.refl _ _).alloc (Nat.le_refl _) _⟩
 by_cases h3:xl.tick<t
 ·have HV:=Lib.hid (show raE ps ds t=2 by rw [hE,if_pos (.inr h3)])
  have HV2:=Lib.hid (show raV ps ds t=0 by unfold raV;rw [HV.out,if_neg (by decide)])
  clear hE
  go_enter Tryz.func40,Tryz.ntmps40
  go_wp2_with fail
  go_ret2
  exact ⟨ret_tup2 (by rw [HV2.out]) (by rw [HV.out]),(Below.refl _ _).alloc (Nat.le_refl _) _⟩
 have HV:=Lib.hid (show raE ps ds t=0 by rw [hE,if_neg (by omega)])
 clear hE
 by_cases h4:t=0
 ·have HV2:=Lib.hid (show raV ps ds t=0 by unfold raV;rw [if_pos HV.out,if_pos h4])
  have ht0:(t == 0)=true:=by rw [h4];rfl
  have h5:¬ 0<t:=by omega
  clear h4
  go_enter Tryz.func40,Tryz.ntmps40
  go_wp2_with fail
  go_ret2
  exact ⟨ret_tup2 (by rw [HV2.out]) (by rw [HV.out]),(Below.refl _ _).alloc (Nat.le_refl _) _⟩
 have ht0:(t == 0)=false:=beq_eq_false_iff_ne.2 h4
 have h5:0<t:=by omega
 obtain ⟨V,hV⟩:∃ V,raL ps ds t m 0 0=V:=⟨_,rfl⟩
 have HV2:=Lib.hid (show raV ps ds t=V by unfold raV;rw [if_pos HV.out,if_neg h4,HL.out];exact hV)
 have HVV:=Lib.hid hV
 clear hV h4 cw l4
 have cw2:∀ wr,Below w.heap.size w wr→wr.cell? ⟨b,off+m * 13+4,none⟩=some (.int .i64 xl.tick):=fun wr hB=>(hB.cell (p:=⟨b,_,none⟩) hb).trans (HC.out 4 _ rfl)
 have CW2:=Lib.hid cw2
 clear cw2
 have cw:(w.alloc (.cells #[.slice (some ⟨b,off,none⟩) (m+1) c,x,y,z] 42)).cell? ⟨b,off+m * 13+4,none⟩=some (.int .i64 xl.tick):=CW2.out _ (below_alloc1 _ _)
 go_enter Tryz.func40,Tryz.ntmps40
 go_wp2_with fail
 clear cw
 go_loopw [9,10] (fun s i wr=>RaRel ps ds t V (m+1) w s i wr∧wr.cell? ⟨w.heap.size,0,none⟩=some (.slice (some ⟨b,off,none⟩) (m+1) c)) (fun _ i _=>m+1 - (intOf i).toNat)
 case atStart=>exact ⟨⟨0,0,by omega,rfl,rfl,⟨by decide,by decide⟩,HVV.out,below_alloc1 _ _,fun _=>rfl,fun _ h=>absurd rfl h⟩,one_box w _ _ 0⟩
 case round =>
  obtain ⟨⟨k,S,hk,rfl,rfl,hS,hVk,hB,hS0,hlast⟩,hbx⟩:=hrel
  have HB:=Lib.hid hB
  have HVk:=Lib.hid hVk
  have HS0:=Lib.hid hS0
  have HLA:=Lib.hid hlast
  have HS:=Lib.hid hS
  obtain ⟨s0,s1⟩:=hS
  clear hB hVk hS0 hlast
  have hbw:w.heap.size<wr.heap.size:=by
   have:=hbx
   by_cases h:w.heap.size<wr.heap.size
   ·exact h
   ·simp [World.cell?,Array.getElem?_eq_none (Nat.le_of_not_lt h)] at this
  by_cases hkm:k<m
  rotate_left
  ·have hkm':k=m:=by omega
   subst hkm'
   have hlt:¬ (k:Int)+1<((k+1:Nat):Int):=by omega
   by_cases hk0:k=0
   ·have HZ:=Lib.hid (show S=V∧S=0 from ⟨by have:=HVk.out;rw [hk0] at this;simpa [raL] using this,HS0.out hk0⟩)
    have HK0:=Lib.hid hk0
    clear hk0
    go_wp2_with fail
    go_ret2
    exact ⟨ret_tup2 (by rw [HV2.out,← HZ.out.1]) (by rw [HV.out]),HB.out⟩
   ·exact absurd (HLA.out xl hk0 HXL.out) (by omega)
  obtain ⟨p,hpk⟩:=get_ex (k:=k) HL.out (by omega)
  obtain ⟨q,hqk⟩:=get_ex (k:=k+1) HL.out (by omega)
  obtain ⟨g,hgk⟩:=get_ex (k:=k) HLD.out hkm
  have hq1:=HWP.out q (List.mem_of_getElem? hqk)
  have hp1:=HWP.out p (List.mem_of_getElem? hpk)
  have hg1:=HWD.out g (List.mem_of_getElem? hgk)
  obtain ⟨b',off',hAB,hb',hcq⟩:=pass_cells HP.out hqk
  obtain ⟨rfl,rfl⟩:b=b'∧off=off':=by injection hAB with h;injection h with h1 h2;exact ⟨h1,h2⟩
  obtain ⟨b'',off'',hAB2,hb'',hcp⟩:=pass_cells HP.out hpk
  obtain ⟨rfl,rfl⟩:b=b''∧off=off'':=by injection hAB2 with h;injection h with h1 h2;exact ⟨h1,h2⟩
  obtain ⟨bd,od,rfl,hbd,hcd⟩:=ints_cell0 HD.out hgk
  have QC:=fun j v hv=>(HB.out.cell (p:=⟨b,_,none⟩) hb).trans (hcq j v hv)
  have PC:=fun j v hv=>(HB.out.cell (p:=⟨b,_,none⟩) hb).trans (hcp j v hv)
  have cd:wr.cell? ⟨bd,od+k,none⟩=some (.int .i64 g):=(HB.out.cell (p:=⟨bd,_,none⟩) hbd).trans hcd
  have q0:wr.cell? ⟨b,off+(k+1) * 13,none⟩=some (.int .i64 q.alt):=QC 0 _ rfl
  have q1:wr.cell? ⟨b,off+(k+1) * 13+1,none⟩=some (.int .i64 q.cas):=QC 1 _ rfl
  have q2:wr.cell? ⟨b,off+(k+1) * 13+2,none⟩=some (.int .i64 q.tas):=QC 2 _ rfl
  have q3:wr.cell? ⟨b,off+(k+1) * 13+3,none⟩=some (.int .i64 q.ground):=QC 3 _ rfl
  have q4:wr.cell? ⟨b,off+(k+1) * 13+4,none⟩=some (.int .i64 q.tick):=QC 4 _ rfl
  have q5:wr.cell? ⟨b,off+(k+1) * 13+5,none⟩=some (.int .i64 q.fuel):=QC 5 _ rfl
  have q6:wr.cell? ⟨b,off+(k+1) * 13+6,none⟩=some (.int .i64 q.gl):=QC 6 _ rfl
  have q7:wr.cell? ⟨b,off+(k+1) * 13+7,none⟩=some (.int .i64 q.gh):=QC 7 _ rfl
  have q8:wr.cell? ⟨b,off+(k+1) * 13+8,none⟩=some (.int .i64 q.tl):=QC 8 _ rfl
  have q9:wr.cell? ⟨b,off+(k+1) * 13+9,none⟩=some (.int .i64 q.th):=QC 9 _ rfl
  have q10:wr.cell? ⟨b,off+(k+1) * 13+10,none⟩=some (.int .i64 q.fl):=QC 10 _ rfl
  have q11:wr.cell? ⟨b,off+(k+1) * 13+11,none⟩=some (.int .i64 q.fh):=QC 11 _ rfl
  have q12:wr.cell? ⟨b,off+(k+1) * 13+12,none⟩=some (.int .u8 q.phase):=QC 12 _ rfl
  have p4:wr.cell? ⟨b,off+k * 13+4,none⟩=some (.int .i64 p.tick):=PC 4 _ rfl
  clear QC PC hcq hcp hAB hAB2 hcd
  have HR1:=Lib.hid (raL_hit (ps:=ps) (ds:=ds) (t:=t) (s:=S) (f:=m - k - 1) hqk hpk hgk)
  have HR2:=Lib.hid (raL_on (ps:=ps) (ds:=ds) (t:=t) (s:=S) (f:=m - k - 1) hqk hpk hgk)
  have HQ:=Lib.hid hqk
  clear hpk hqk hgk
  have hlt:(k:Int)+1<((m+1:Nat):Int):=by omega
  have k0:0≤(k:Int)+1:=by omega
  have k1:((k:Int)+1).toNat=k+1:=by omega
  have k2:(k:Int)<(m:Int):=by omega
  have k3:(k:Int)<((m+1:Nat):Int):=by omega
  have cdA:(wr.alloc (.cells #[.int .i64 q.alt,.int .i64 q.cas,.int .i64 q.tas,.int .i64 q.ground,.int .i64 q.tick,.int .i64 q.fuel,.int .i64 q.gl,.int .i64 q.gh,.int .i64 q.tl,.int .i64 q.th,.int .i64 q.fl,.int .i64 q.fh,.int .u8 q.phase] 53)).cell? ⟨bd,od+k,none⟩=some (.int .i64 g):=((below_alloc1 wr _).cell (p:=⟨bd,_,none⟩) (Nat.lt_of_lt_of_le hbd HB.out.size)).trans cd
  have hbxA:(wr.alloc (.cells #[.int .i64 q.alt,.int .i64 q.cas,.int .i64 q.tas,.int .i64 q.ground,.int .i64 q.tick,.int .i64 q.fuel,.int .i64 q.gl,.int .i64 q.gh,.int .i64 q.tl,.int .i64 q.th,.int .i64 q.fl,.int .i64 q.fh,.int .u8 q.phase] 53)).cell? ⟨w.heap.size,0,none⟩=some (.slice (some ⟨b,off,none⟩) (m+1) c):=((below_alloc1 wr _).cell (p:=⟨w.heap.size,0,none⟩) hbw).trans hbx
  have p4A:(wr.alloc (.cells #[.int .i64 q.alt,.int .i64 q.cas,.int .i64 q.tas,.int .i64 q.ground,.int .i64 q.tick,.int .i64 q.fuel,.int .i64 q.gl,.int .i64 q.gh,.int .i64 q.tl,.int .i64 q.th,.int .i64 q.fl,.int .i64 q.fh,.int .u8 q.phase] 53)).cell? ⟨b,off+k * 13+4,none⟩=some (.int .i64 p.tick):=((below_alloc1 wr _).cell (p:=⟨b,_,none⟩) (Nat.lt_of_lt_of_le hb HB.out.size)).trans p4
  have HADD:=Lib.hid (fun w=>flip (xAdd S g HS.out hg1 w))
  by_cases hqt':q.tick<t
  ·have hge:¬ t≤q.tick:=by omega
   have HNV:=Lib.hid (HR2.out hge)
   go_wp2_with fail
   refine (xAdd S g HS.out hg1 _).mono ?_;rintro e w2 ⟨rfl,rfl⟩
   go_wp2_with fail
   go_roundw
   case rel=>exact ⟨⟨k+1,satV (S+g),by omega,rfl,by go_num,satV_I64 _,by rw [show m+1 - 1 - (k+1)=m - k - 1 by omega,← HNV.out,← HVk.out,show m+1 - 1 - k=m - k - 1+1 by omega],(HB.out.alloc (Nat.le_of_lt hbw) _),fun h=>absurd h (by omega),fun y _ hy=>by rw [HQ.out] at hy;injection hy with hy;rw [← hy];exact hqt'⟩,((Below.refl _ _).alloc (Nat.le_refl _) _ |>.cell (p:=⟨w.heap.size,0,none⟩) hbw).trans hbx⟩
   case measure=>simp only [intOf];omega
  ·have hge:t≤q.tick:=by omega
   have HNV:=Lib.hid (HR1.out hge)
   obtain ⟨R1,hR1⟩:∃ R,satV (t - p.tick)=R:=⟨_,rfl⟩
   obtain ⟨R2,hR2⟩:∃ R,satV (q.ground * R1)=R:=⟨_,rfl⟩
   have r1i:I64 R1:=hR1 ▸ satV_I64 _
   have r2i:I64 R2:=hR2 ▸ satV_I64 _
   have HC1:=Lib.hid (fun w=>flip (xSub t p.tick HT.out hp1.2 w))
   have HC2:=Lib.hid (fun w=>flip (xMul q.ground R1 hq1.1 r1i w))
   have HC3:=Lib.hid (fun w=>flip (xAdd S (min g R2) HS.out ⟨by have:=hg1.1;have:=r2i.1;omega,by have:=hg1.2;have:=r2i.2;omega⟩ w))
   rw [hR1] at HC1 HNV
   rw [hR2] at HC2 HNV
   have HF:=Lib.hid (show satV (S+min g R2)=V by rw [← HNV.out,← HVk.out,show m+1 - 1 - k=m - k - 1+1 by omega])
   clear hR1 hR2 r1i r2i
   go_wp2_with fail
   go_quiet ((first | (go_at_call 86;first | exact quiet_more (HC1.out _) | exact Calls.quiet_of_same (HC1.out _)) | (go_at_call 85;first | exact quiet_more (HC2.out _) | exact Calls.quiet_of_same (HC2.out _)) | (go_at_call 84;first | exact quiet_more (HC3.out _) | exact Calls.quiet_of_same (HC3.out _))))
   go_wp2_with fail
   go_ret2
   exact ⟨ret_tup2 (by rw [HV2.out,HF.out]) (by rw [HV.out]),below_drewN ((HB.out.alloc (Nat.le_of_lt hbw) _)) _⟩
end Go.Proofs.YtgneijdjlahgbaaGreat
