/- M9: CrPlain, WiP2, WiL, Wi in one text. -/
import Derived.Test.YtedcanagfajcgaaGreatM7
set_option linter.unusedSimpArgs false
set_option linter.unusedVariables false
set_option maxRecDepth 100000
set_option maxHeartbeats 2000000
namespace Go.Proofs
theorem U5{G:Prop}(h:G:=by
  go_enter Tryz.func39,Tryz.ntmps39
  go_wp2_with fail
  refine (Abd _ _ _ _ _).mono ?_;rintro e' w1 ⟨rfl,hB⟩
  have KX:Hid (Has w1 w.heap.size (lz4 e0 e1 n0 n1)):=hid (((Has.new w #[vI e0,vI e1,vI n0,vI n1] 73).alloc _).below hB);have KW:Hid (Has w1 (w.heap.size+1) (lz2 e n)):=hid ((Has.newAt (w.alloc _) #[vI e,vI n] 62 (w.heap.size+1) (by simp)).below hB);have HB:=hid (Ae (Cg w _ _) hB);clear hB;have k0:w1.cell? ⟨w.heap.size,0,none⟩=some (vI e0):=KX.out.cell 0 _ rfl;have k1:w1.cell? ⟨w.heap.size,1,none⟩=some (vI e1):=KX.out.cell 1 _ rfl;have k2:w1.cell? ⟨w.heap.size,2,none⟩=some (vI n0):=KX.out.cell 2 _ rfl;have k3:w1.cell? ⟨w.heap.size,3,none⟩=some (vI n1):=KX.out.cell 3 _ rfl;have q0:w1.cell? ⟨w.heap.size+1,0,none⟩=some (vI e):=KW.out.cell 0 _ rfl;have q1:w1.cell? ⟨w.heap.size+1,1,none⟩=some (vI n):=KW.out.cell 1 _ rfl
  rw [G.out]
  go_wp2_with fail
  go_ret
  exact ⟨Ao (by first | exact HF.out.symm | (rw [HF.out];simp;omega)),HB.out⟩):G:=h
theorem U6{G:Prop}(h:G:=by
  go_wp2
  go_ret
  exact ⟨Ao (by rw [hv.out,Bool.eq_iff_iff];simp;try omega),rfl⟩):G:=h
theorem Ae8{G:Prop}(h:G:=by
  go_wp2_with fail
  refine (Ot _ _).mono ?_;rintro e' wx ⟨rfl,rfl⟩
  rw [G.out]
  go_wp2_with fail
  refine (Ot _ _).mono ?_;rintro e' wx ⟨rfl,rfl⟩
  go_wp2_with fail
  go_ret
  exact ⟨Ao (by rw [HV.out,G.out];rfl),Aa _ _⟩):G:=h
theorem Ae9{G:Prop}(h:G:=by
  go_wp2_with fail
  refine (Ot _ _).mono ?_;rintro e' wx ⟨rfl,rfl⟩
  rw [G.out]
  go_wp2_with fail
  go_ret
  exact ⟨Ao (by rw [HV.out,G.out];rfl),Aa _ _⟩):G:=h
end Go.Proofs
namespace Go.Proofs.YtedcanagfajcgaaGreat
theorem Jt {ws:Cs.Wins} {wish:List Int} {i:Nat} (h:i<ws.length):Cs.lo (Cs.lowL ws wish) i=Cs.lo ws i∧Cs.hi (Cs.lowL ws wish) i=min (Cs.hi ws i) (wish.getD i 0):=by
 have e:(Cs.lowL ws wish)[i]? = some (Cs.lowF ws wish ws.length i):=by
  unfold Cs.lowL
  rw [List.getElem?_map,List.getElem?_range h];rfl
 have:=Cs.lo_of e
 unfold Cs.lowF at this
 rw [if_pos h] at this
 exact this
theorem WC {ws st:Cs.Wins} {wish:List Int} (hok:Cs.CsOk ws st) (hl:wish.length=ws.length) (hin:∀ x ∈ wish,Pf.inB x):Cs.CsOk (Cs.lowL ws wish) st:=by
 refine ⟨by rw [Cs.lowL_len];exact hok.len,by rw [Cs.lowL_len];exact hok.slen,fun p hp=>?_,hok.tok⟩
 unfold Cs.lowL at hp
 simp only [List.mem_map,List.mem_range] at hp
 obtain ⟨i,hi,rfl⟩:=hp;have h1:=hok.win hi;obtain ⟨x,hx⟩:∃ x,wish[i]? = some x:=⟨_,AQ (by omega)⟩;have h2:=hin x (Au hx)
 unfold Cs.lowF
 rw [if_pos hi,Dp,hx]
 unfold Pf.inB at h1 h2
 unfold Cs.okW Pf.inB
 simp only [Option.getD_some]
 omega
theorem SQ {ws st:Cs.Wins} {wish:List Int} {v:Nat→Int}:Cs.Sol (Cs.lowL ws wish) st v ↔ Cs.Sol ws st v∧∀ i,i<ws.length→v i<=wish.getD i 0:=by
 constructor
 ·intro h
  refine ⟨⟨fun i hi=>?_,fun i hi=>h.stp i (by rw [Cs.lowL_len];exact hi)⟩,fun i hi=>?_⟩
  ·have:=h.win i (by rw [Cs.lowL_len];exact hi)
   rw [(Jt hi).1,(Jt hi).2] at this
   omega
  ·have:=h.win i (by rw [Cs.lowL_len];exact hi)
   rw [(Jt hi).1,(Jt hi).2] at this
   omega
 ·rintro ⟨h,h2⟩
  refine ⟨fun i hi=>?_,fun i hi=>h.stp i (by rw [Cs.lowL_len] at hi;exact hi)⟩
  rw [Cs.lowL_len] at hi
  rw [(Jt hi).1,(Jt hi).2]
  have:=h.win i hi;have:=h2 i hi
  omega
theorem Aaq {ws st:Cs.Wins} {wish:List Int} (h:Cs.belE ws st wish=0):Cs.CsOk ws st∧wish.length=ws.length∧(∀ x ∈ wish,Pf.inB x)∧Cs.NoConf (Cs.lowL ws wish) st:=by
 by_cases hc:Cs.chkE ws st=0
 ·by_cases hl:wish.length=ws.length
  ·by_cases hi:∀ x ∈ wish,Pf.inB x
   ·rw [Cs.belE_ok hc hl hi] at h
    exact ⟨Cs.csOk_of hc,hl,hi,Cs.confL_nil.1 (Cs.tgE_0 h).2⟩
   ·unfold Cs.belE at h
    rw [if_neg (by omega),if_neg (by omega),if_neg hi] at h
    omega
  ·rw [Cs.belE_len hc hl] at h;omega
 ·rw [Cs.belE_chk hc] at h;omega
theorem KN {ws st:Cs.Wins} {i:Nat} (f:Int × Int→Int) (h:i<ws.length):((Cs.tight ws st).map f).getD i 0=f (Cs.tL ws st i,Cs.tH ws st i):=by
 rw [Dp,List.getElem?_map,Cs.tight_get h];rfl
theorem IR {n i:Nat} {x:Int} (h:i<n):(List.replicate n x).getD i 0=x:=by
 rw [Dp,List.getElem?_replicate,if_pos h];rfl
theorem Vi {ws st:Cs.Wins} {wish:List Int} (h:Cs.belE ws st wish=0) :
  Cs.Sol ws st (fun i=>((Cs.tight (Cs.lowL ws wish) st).map fun p=>p.2).getD i 0)∧(∀ i,i<ws.length→((Cs.tight (Cs.lowL ws wish) st).map fun p=>p.2).getD i 0<=wish.getD i 0) ∧
  ∀ v:Nat→Int,Cs.Sol ws st v→(∀ i,i<ws.length→v i<=wish.getD i 0)→∀ i,i<ws.length→v i<=((Cs.tight (Cs.lowL ws wish) st).map fun p=>p.2).getD i 0:=by
 obtain ⟨hok,hl,hin,hnc⟩:=Aaq h;have hs:=SQ.1 (Cs.sol_tH (WC hok hl hin) hnc);have e:∀ i,i<ws.length→((Cs.tight (Cs.lowL ws wish) st).map fun p=>p.2).getD i 0=Cs.tH (Cs.lowL ws wish) st i:=fun i hi=>KN _ (by rw [Cs.lowL_len];exact hi)
 refine ⟨⟨fun i hi=>by rw [e i hi];exact hs.1.win i hi,fun i hi=>by rw [e i (by omega),e (i+1) hi];exact hs.1.stp i hi⟩,fun i hi=>by rw [e i hi];exact hs.2 i hi,fun v hv hb i hi=>?_⟩
 rw [e i hi]
 exact ((SQ.2 ⟨hv,hb⟩).between (by rw [Cs.lowL_len];exact hi)).2
theorem Vv {ws st:Cs.Wins} {lv:Int} (h:crE ws st lv=0) :
  Adw ws st (crV ws st lv)∧(∀ i,i<ws.length→(crV ws st lv).getD i 0<=lv)∧∀ v:List Int,Adw ws st v→(∀ x ∈ v,x<=lv)→∀ i,i<ws.length→v.getD i 0<=(crV ws st lv).getD i 0:=by
 obtain ⟨h1,h2,h3⟩:=Vi h;obtain ⟨hok,hl,hin,hnc⟩:=Aaq h
 refine ⟨⟨hok.err,by unfold crV;rw [List.length_map,Cs.tight_len,Cs.lowL_len],h1⟩,fun i hi=>?_,fun v hv hb i hi=>?_⟩
 ·have:=h2 i hi
  rw [IR hi] at this
  exact this
 ·refine h3 (fun i=>v.getD i 0) hv.2.2 (fun j hj=>?_) i hi
  rw [IR hj]
  obtain ⟨x,hx⟩:=Am (k:=j) hv.2.1 hj
  rw [J8 hx]
  exact hb x (Au hx)
def Bo (x:Int):Int:=(x.natAbs:Int)
def gsR (co tas e n:Int):Int:=sqV (tas * 1024 * (tas * 1024) - acV co e n * acV co e n)
def gsE (co tas e n:Int):Int :=
 if (wiB e n && inB tas 1 4000)=false then 1 else if tas * 1024<=Bo (acV co e n) then 10 else if alV co e n+gsR co tas e n<1024 then 10 else 0
def gsV (co tas e n:Int):Int:=if gsE co tas e n=0 then alV co e n+gsR co tas e n else 0
def bxB (e0 e1 n0 n1:Int):Bool:=(decide (e0<=e1) && inB e0 (-400) 400 && inB e1 (-400) 400) && (decide (n0<=n1) && inB n0 (-400) 400 && inB n1 (-400) 400)
def mn4 (f:Int→Int→Int) (e0 e1 n0 n1:Int):Int:=min (min (min (min 1099511627776 (f e0 n0)) (f e0 n1)) (f e1 n0)) (f e1 n1)
def mx4 (f:Int→Int→Int) (e0 e1 n0 n1:Int):Int:=max (max (max (max (-1099511627776) (f e0 n0)) (f e0 n1)) (f e1 n0)) (f e1 n1)
def giF (co e0 e1 n0 n1:Int):Int:=max (Bo (mn4 (acV co) e0 e1 n0 n1)) (Bo (mx4 (acV co) e0 e1 n0 n1))
def giN (co e0 e1 n0 n1:Int):Int:=if mn4 (acV co) e0 e1 n0 n1<=0∧0<=mx4 (acV co) e0 e1 n0 n1 then 0 else min (Bo (mn4 (acV co) e0 e1 n0 n1)) (Bo (mx4 (acV co) e0 e1 n0 n1))
def Ey (co t0 e0 e1 n0 n1:Int):Int:=mn4 (alV co) e0 e1 n0 n1+sqV (t0 * 1024 * (t0 * 1024) - giF co e0 e1 n0 n1 * giF co e0 e1 n0 n1)
def FU (co t1 e0 e1 n0 n1:Int):Int:=mx4 (alV co) e0 e1 n0 n1+sqV (t1 * 1024 * (t1 * 1024) - giN co e0 e1 n0 n1 * giN co e0 e1 n0 n1)
def giE (co t0 t1 e0 e1 n0 n1:Int):Int :=
 if (bxB e0 e1 n0 n1 && decide (1<=t0) && decide (t1<=4000) && decide (t0<=t1))=false then 1
 else if t0 * 1024<=giF co e0 e1 n0 n1 then 10 else if Ey co t0 e0 e1 n0 n1<1024 then 10 else 0
def giL (co t0 t1 e0 e1 n0 n1:Int):Int:=if giE co t0 t1 e0 e1 n0 n1=0 then Ey co t0 e0 e1 n0 n1 / 1024 else 0
def giH (co t0 t1 e0 e1 n0 n1:Int):Int:=if giE co t0 t1 e0 e1 n0 n1=0 then (FU co t1 e0 e1 n0 n1+1023) / 1024 else 0
def wnB (e0 e1 n0 n1 e n:Int):Bool:=bxB e0 e1 n0 n1 && decide (e0<=e) && decide (e<=e1) && decide (n0<=n) && decide (n<=n1)
theorem Cb {a b:Int} (h:a<=b):sqV a<=sqV b:=by
 unfold sqV
 have h1:=Fx.isq_spec a.toNat;have h2:=Fx.isq_spec b.toNat
 by_cases hc:Fx.isq a.toNat<=Fx.isq b.toNat
 ·exact_mod_cast hc
 ·exfalso
  have g:Fx.isq b.toNat+1<=Fx.isq a.toNat:=by omega
  have:=Nat.mul_le_mul g g
  omega
theorem AcS (a:Int):0<=sqV a:=by unfold sqV;omega
theorem Oe {x:Int} (h:0<=x):sqV (x * x)=x:=by
 unfold sqV
 obtain ⟨n,rfl⟩:=Int.eq_ofNat_of_zero_le h
 have e:((n:Int) * (n:Int)).toNat=n * n:=by rw [← Int.natCast_mul];rfl
 rw [e]
 have h1:=Fx.isq_eq (n:=n * n) (r:=n) (Bn _) (by rw [Nat.add_mul,Nat.mul_add];omega)
 rw [← h1]
theorem JD {n r:Int} (h0:0<=r) (h1:r * r<=n) (h2:n<(r+1) * (r+1)):sqV n=r:=by
 unfold sqV
 obtain ⟨k,rfl⟩:=Int.eq_ofNat_of_zero_le h0;have hn:0<=n:=Int.le_trans (BM h0 h0) h1;obtain ⟨m,rfl⟩:=Int.eq_ofNat_of_zero_le hn;have:=Fx.isq_eq (n:=m) (r:=k) (by exact_mod_cast h1) (by exact_mod_cast h2)
 rw [Int.toNat_natCast,← this]
theorem Bv {a b:Int} (h0:0<=a) (h:a<=b):a * a<=b * b:=Int.mul_le_mul h h h0 (by omega)
theorem Kk (a:Int):a * a=Bo a * Bo a:=by
 unfold Bo
 exact (Int.natAbs_mul_self (a:=a)).symm
theorem Ky (a:Int):0<=Bo a:=by unfold Bo;omega
theorem NF {f:Int→Int→Int} {e0 e1 n0 n1 i j:Int} (hi:i=e0∨i=e1) (hj:j=n0∨j=n1):mn4 f e0 e1 n0 n1<=f i j∧f i j<=mx4 f e0 e1 n0 n1:=by
 unfold mn4 mx4
 rcases hi with rfl | rfl <;> rcases hj with rfl | rfl <;> omega
theorem KU {f:Int→Int→Int} {e0 e1 n0 n1:Int} (hf:∀ i j,(i=e0∨i=e1)→(j=n0∨j=n1) → -819200<=f i j∧f i j<=819200) :
  -819200<=mn4 f e0 e1 n0 n1∧mn4 f e0 e1 n0 n1<=mx4 f e0 e1 n0 n1∧mx4 f e0 e1 n0 n1<=819200:=by
 have a1:=hf e0 n0 (.inl rfl) (.inl rfl);have a2:=hf e0 n1 (.inl rfl) (.inr rfl);have a3:=hf e1 n0 (.inr rfl) (.inl rfl);have a4:=hf e1 n1 (.inr rfl) (.inr rfl)
 unfold mn4 mx4
 omega
theorem IV {x a b s:Int} (h0:a<=x) (h1:x<=b):∃ i j:Int,(i=a∨i=b)∧(j=a∨j=b)∧i * s<=x * s∧x * s<=j * s:=by
 rcases Int.le_total 0 s with hs | hs
 ·exact ⟨a,b,.inl rfl,.inr rfl,CR h0 hs,CR h1 hs⟩
 ·exact ⟨b,a,.inr rfl,.inl rfl,Int.mul_le_mul_of_nonpos_right h1 hs,Int.mul_le_mul_of_nonpos_right h0 hs⟩
theorem AdG {co e n e0 e1 n0 n1:Int} (he:e0<=e∧e<=e1) (hn:n0<=n∧n<=n1):mn4 (alV co) e0 e1 n0 n1<=alV co e n∧alV co e n<=mx4 (alV co) e0 e1 n0 n1:=by
 obtain ⟨i,j,hi,hj,g1,g2⟩:=IV (s:=Tr.sinV co) he.1 he.2;obtain ⟨k,l,hk,hl,g3,g4⟩:=IV (s:=Tr.cosV co) hn.1 hn.2;have a:=(NF (f:=alV co) hi hk).1;have b:=(NF (f:=alV co) hj hl).2;have c:alV co i k<=alV co e n:=I8 (by omega);have d:alV co e n<=alV co j l:=I8 (by omega)
 omega
theorem AdF {co e n e0 e1 n0 n1:Int} (he:e0<=e∧e<=e1) (hn:n0<=n∧n<=n1):mn4 (acV co) e0 e1 n0 n1<=acV co e n∧acV co e n<=mx4 (acV co) e0 e1 n0 n1:=by
 obtain ⟨i,j,hi,hj,g1,g2⟩:=IV (s:=Tr.cosV co) he.1 he.2;obtain ⟨k,l,hk,hl,g3,g4⟩:=IV (s:=Tr.sinV co) hn.1 hn.2;have a:=(NF (f:=acV co) hi hl).1;have b:=(NF (f:=acV co) hj hk).2;have c:acV co i l<=acV co e n:=I8 (by omega);have d:acV co e n<=acV co j k:=I8 (by omega)
 omega
theorem AbV {co e n e0 e1 n0 n1:Int} (he:e0<=e∧e<=e1) (hn:n0<=n∧n<=n1):giN co e0 e1 n0 n1<=Bo (acV co e n)∧Bo (acV co e n)<=giF co e0 e1 n0 n1∧0<=giN co e0 e1 n0 n1:=by
 have h:=AdF (co:=co) he hn
 unfold giN giF
 generalize mn4 (acV co) e0 e1 n0 n1=a at *;generalize mx4 (acV co) e0 e1 n0 n1=b at *;generalize acV co e n=x at *
 unfold Bo
 split <;> omega
structure GiG (co t0 t1 e0 e1 n0 n1:Int):Prop where
 hee:e0<=e1
 he0 : -400<=e0
 he1:e1<=400
 hnn:n0<=n1
 hn0 : -400<=n0
 hn1:n1<=400
 ht0:1<=t0
 ht1:t1<=4000
 htt:t0<=t1
 far:giF co e0 e1 n0 n1<t0 * 1024
 lo:1024<=Ey co t0 e0 e1 n0 n1
theorem NA {co t0 t1 e0 e1 n0 n1:Int} (h:giE co t0 t1 e0 e1 n0 n1=0):GiG co t0 t1 e0 e1 n0 n1:=by
 unfold giE at h
 by_cases h1:(bxB e0 e1 n0 n1 && decide (1<=t0) && decide (t1<=4000) && decide (t0<=t1))=false
 ·rw [if_pos h1] at h;exact absurd h (by decide)
 rw [if_neg h1] at h
 by_cases h2:t0 * 1024<=giF co e0 e1 n0 n1
 ·rw [if_pos h2] at h;exact absurd h (by decide)
 rw [if_neg h2] at h
 by_cases h3:Ey co t0 e0 e1 n0 n1<1024
 ·rw [if_pos h3] at h;exact absurd h (by decide)
 unfold bxB at h1
 simp only [Bool.not_eq_false,Bool.and_eq_true,Al,decide_eq_true_eq] at h1
 obtain ⟨⟨⟨⟨⟨⟨a1,a2⟩,a3⟩,⟨b1,b2⟩,b3⟩,c1⟩,c2⟩,c3⟩:=h1
 exact ⟨a1,a2.1,a3.2,b1,b2.1,b3.2,c1,c2,c3,by omega,by omega⟩
theorem Ad1 {co t e n:Int} (h1 : -400<=e∧e<=400) (h2 : -400<=n∧n<=400) (h3:1<=t∧t<=4000) (h4:Bo (acV co e n)<t * 1024) (h5:1024<=alV co e n+gsR co t e n):gsE co t e n=0∧gsV co t e n=alV co e n+gsR co t e n:=by
 have:gsE co t e n=0:=by
  unfold gsE
  rw [if_neg (by unfold wiB;simp only [Bool.not_eq_false,Bool.and_eq_true,Al];omega),if_neg (by omega),if_neg (by omega)]
 exact ⟨this,by unfold gsV;rw [if_pos this]⟩
structure GsG (co t e n:Int):Prop where
 he : -400<=e∧e<=400
 hn : -400<=n∧n<=400
 ht:1<=t∧t<=4000
 hac:Bo (acV co e n)<t * 1024
 hlo:1024<=alV co e n+gsR co t e n
 hv:gsV co t e n=alV co e n+gsR co t e n
theorem GH {co t e n:Int} (h:gsE co t e n=0):GsG co t e n:=by
 have hv:gsV co t e n=alV co e n+gsR co t e n:=by unfold gsV;rw [if_pos h]
 unfold gsE at h
 by_cases h1:(wiB e n && inB t 1 4000)=false
 ·rw [if_pos h1] at h;exact absurd h (by decide)
 rw [if_neg h1] at h
 by_cases h2:t * 1024<=Bo (acV co e n)
 ·rw [if_pos h2] at h;exact absurd h (by decide)
 rw [if_neg h2] at h
 by_cases h3:alV co e n+gsR co t e n<1024
 ·rw [if_pos h3] at h;exact absurd h (by decide)
 unfold wiB at h1
 simp only [Bool.not_eq_false,Bool.and_eq_true,Al] at h1
 exact ⟨h1.1.1,h1.1.2,h1.2,by omega,by omega,hv⟩
theorem AaI {co t0 t1 e0 e1 n0 n1 t e n:Int} (g:GiG co t0 t1 e0 e1 n0 n1) (he:e0<=e∧e<=e1) (hn:n0<=n∧n<=n1) (ht:t0<=t∧t<=t1) :
  gsE co t e n=0∧Ey co t0 e0 e1 n0 n1<=gsV co t e n∧gsV co t e n<=FU co t1 e0 e1 n0 n1:=by
 obtain ⟨f1,f2,f3⟩:=AbV (co:=co) he hn;obtain ⟨a1,a2⟩:=AdG (co:=co) he hn;have gf:=g.far;have gt:=g.ht0;have s1:Bo (acV co e n) * Bo (acV co e n)<=giF co e0 e1 n0 n1 * giF co e0 e1 n0 n1:=Bv (Ky _) f2;have s2:giN co e0 e1 n0 n1 * giN co e0 e1 n0 n1<=Bo (acV co e n) * Bo (acV co e n):=Bv f3 f1;have s3:t0 * 1024 * (t0 * 1024)<=t * 1024 * (t * 1024):=Bv (by omega) (by omega);have s4:t * 1024 * (t * 1024)<=t1 * 1024 * (t1 * 1024):=Bv (by omega) (by omega);have r1:sqV (t0 * 1024 * (t0 * 1024) - giF co e0 e1 n0 n1 * giF co e0 e1 n0 n1)<=gsR co t e n:=Cb (by rw [Kk (acV co e n)];omega);have r2:gsR co t e n<=sqV (t1 * 1024 * (t1 * 1024) - giN co e0 e1 n0 n1 * giN co e0 e1 n0 n1):=Cb (by rw [Kk (acV co e n)];omega);have hlo:=g.lo
 have hq:Ey co t0 e0 e1 n0 n1<=alV co e n+gsR co t e n:=by unfold Ey;omega
 have hr:alV co e n+gsR co t e n<=FU co t1 e0 e1 n0 n1:=by unfold FU;omega
 obtain ⟨h1,h2⟩:=Ad1 (co:=co) (t:=t) (e:=e) (n:=n) (by have:=g.he0;have:=g.he1;omega) (by have:=g.hn0;have:=g.hn1;omega) (by have:=g.ht1;omega) (by omega) (by omega)
 exact ⟨h1,by omega,by omega⟩
theorem SE {co t0 t1 e0 e1 n0 n1:Int} (h:giE co t0 t1 e0 e1 n0 n1=0):(1<=giL co t0 t1 e0 e1 n0 n1∧giL co t0 t1 e0 e1 n0 n1<=giH co t0 t1 e0 e1 n0 n1) ∧
  ∀ t e n,(e0<=e∧e<=e1)→(n0<=n∧n<=n1)→(t0<=t∧t<=t1)→gsE co t e n=0∧giL co t0 t1 e0 e1 n0 n1<=gsV co t e n / 1024∧gsV co t e n / 1024<=giH co t0 t1 e0 e1 n0 n1:=by
 have g:=NA h;have hl:=g.lo;have k:=AaI (t:=t0) (e:=e0) (n:=n0) g ⟨Bt _,g.hee⟩ ⟨Bt _,g.hnn⟩ ⟨Bt _,g.htt⟩
 unfold giL giH
 rw [if_pos h,if_pos h]
 refine ⟨by omega,fun t e n h1 h2 h3=>?_⟩
 have:=AaI g h1 h2 h3
 exact ⟨this.1,by omega,by omega⟩
theorem YZ {co t u e n:Int} (h:gsE co t e n=0) (htu:t<=u) (hu:u<=4000):gsE co u e n=0∧gsV co t e n<=gsV co u e n:=by
 have g:=GH h;have h1:gsR co t e n<=gsR co u e n:=Cb (by have:=Bv (a:=t * 1024) (b:=u * 1024) (by have:=g.ht;omega) (by omega);omega);have:=g.hlo;have:=g.hac;obtain ⟨a,b⟩:=Ad1 (co:=co) (t:=u) g.he g.hn (by have:=g.ht;omega) (by omega) (by omega)
 exact ⟨a,by rw [b,g.hv];omega⟩
theorem YX {co t0 t1 u0 u1 e0 e1 n0 n1:Int} (h:giE co t0 t1 e0 e1 n0 n1=0) (h':giE co u0 u1 e0 e1 n0 n1=0) (h0:t0<=u0) (h1:t1<=u1) :
  giL co t0 t1 e0 e1 n0 n1<=giL co u0 u1 e0 e1 n0 n1∧giH co t0 t1 e0 e1 n0 n1<=giH co u0 u1 e0 e1 n0 n1:=by
 have g:=NA h
 have a:Ey co t0 e0 e1 n0 n1<=Ey co u0 e0 e1 n0 n1:=by
  unfold Ey
  have:=Cb (a:=t0 * 1024 * (t0 * 1024) - giF co e0 e1 n0 n1 * giF co e0 e1 n0 n1) (b:=u0 * 1024 * (u0 * 1024) - giF co e0 e1 n0 n1 * giF co e0 e1 n0 n1) (by have:=Bv (a:=t0 * 1024) (b:=u0 * 1024) (by have:=g.ht0;omega) (by omega);omega)
  omega
 have b:FU co t1 e0 e1 n0 n1<=FU co u1 e0 e1 n0 n1:=by
  unfold FU
  have:=Cb (a:=t1 * 1024 * (t1 * 1024) - giN co e0 e1 n0 n1 * giN co e0 e1 n0 n1) (b:=u1 * 1024 * (u1 * 1024) - giN co e0 e1 n0 n1 * giN co e0 e1 n0 n1) (by have:=Bv (a:=t1 * 1024) (b:=u1 * 1024) (by have:=g.ht0;have:=g.htt;omega) (by omega);omega)
  omega
 unfold giL giH
 rw [if_pos h,if_pos h',if_pos h,if_pos h']
 omega
/-! ### ticks -/
theorem R3 {d g t:Int} (hg:1<=g) (h:d<=t * g):(d+g - 1) / g<=t:=by
 have:(d+g - 1) / g<t+1:=(Int.ediv_lt_iff_lt_mul (by omega)).2 (by rw [Int.add_mul];omega)
 omega
theorem SL {d g:Int} (hg:1<=g):d<=(d+g - 1) / g * g:=by
 have h1:=Int.mul_ediv_add_emod (d+g - 1) g;have h2:=Int.emod_lt_of_pos (d+g - 1) (show 0<g by omega)
 rw [Int.mul_comm] at h1
 omega
theorem E8 {d g:Int} (hd:0<=d) (hg:1<=g):0<=(d+g - 1) / g∧(d+g - 1) / g<=d:=by
 refine ⟨Int.ediv_nonneg (by omega) (by omega),R3 hg ?_⟩
 have:=Ef hg hd
 omega
theorem EL {d g k:Int} (hd:0<=d) (hg:1<=g) (h:g<=k):(d+k - 1) / k<=(d+g - 1) / g:=by
 refine R3 (by omega) ?_
 have h1:=SL (d:=d) hg;have h2:=Ef h (E8 hd hg).1
 omega
open Go.RowKit
open Go.Lib (hid)
open Tr
theorem Ot (n:Int) (w:World):Calls Tryz.prog 206 #[vI n] w fun e w'=>e=.returned (.bool (inB n (-400) 400))∧w=w':=by
 have hv:=hid (show inB n (-400) 400=(decide ((-400)<=n) && decide (n<=400)) from rfl)
 by_cases h1:n<(-400)
 ·go_enter Tryz.func206,Tryz.ntmps206
  exact U6
 by_cases h2:400<n
 ·go_enter Tryz.func206,Tryz.ntmps206
  exact U6
 ·go_enter Tryz.func206,Tryz.ntmps206
  exact U6
theorem Aab (n:Int) (w:World):Calls Tryz.prog 171 #[vI n] w fun e w'=>e=.returned (.bool (inB n 1 4000))∧w=w':=by
 have hv:=hid (show inB n 1 4000=(decide (1<=n) && decide (n<=4000)) from rfl)
 by_cases h1:n<1
 ·go_enter Tryz.func171,Tryz.ntmps171
  exact U6
 by_cases h2:4000<n
 ·go_enter Tryz.func171,Tryz.ntmps171
  exact U6
 ·go_enter Tryz.func171,Tryz.ntmps171
  exact U6
theorem Ags (n:Int) (h : -4611686018427387904<=n∧n<=4611686018427387904) (w:World):Calls Tryz.prog 196 #[vI n] w fun e w'=>e=.returned (vI (shf n))∧w=w':=by
 have hv:=hid (show shf n=(n+524288) / 1048576 from rfl);obtain ⟨h0,h1⟩:=h
 go_enter Tryz.func196,Tryz.ntmps196
 go_wp2
 go_ret
 exact ⟨Af (by rw [hv.out]),rfl⟩
theorem JY (a:Int) (h : -1000000000<=a∧a<=1000000000) (w:World):Calls Tryz.prog 130 #[vI a] w fun e w'=>e=.returned (vI (Bo a))∧w=w' :=
 (xAbs a (by unfold I64;omega) w).mono fun _ _ ⟨h1,h2⟩=>⟨by rw [h1,Gm ⟨by omega,by omega⟩,Bo],h2⟩
theorem T9 (e n:Int) (w:World):Calls Tryz.prog 193 #[.agg #[vI e,vI n]] w fun e' w'=>e'=.returned (.bool (wiB e n))∧Below w.heap.size w w':=by
 have HV:=hid (show wiB e n=(inB e (-400) 400 && inB n (-400) 400) from rfl)
 cases g:inB e (-400) 400
 ·have G:=hid g
  clear g
  go_enter Tryz.func193,Tryz.ntmps193
  exact Ae9
 have G:=hid g;clear g
 go_enter Tryz.func193,Tryz.ntmps193
 exact Ae8
def orB (a b:Int):Bool:=decide (a<=b) && inB a (-400) 400 && inB b (-400) 400
theorem Lx (a b:Int) (w:World):Calls Tryz.prog 167 #[.agg #[vI a,vI b]] w fun e' w'=>e'=.returned (.bool (orB a b))∧Below w.heap.size w w':=by
 have HV:=hid (show orB a b=(decide (a<=b) && inB a (-400) 400 && inB b (-400) 400) from rfl)
 by_cases h:a<=b
 rotate_left
 ·have HF:=hid (show orB a b=false by rw [HV.out];simp [h])
  go_enter Tryz.func167,Tryz.ntmps167
  go_wp2
  go_ret
  exact ⟨Ao HF.out.symm,Aa _ _⟩
 replace HV:=hid (show orB a b=(inB a (-400) 400 && inB b (-400) 400) by rw [HV.out];simp [h])
 cases g:inB a (-400) 400
 ·have G:=hid g
  clear g
  go_enter Tryz.func167,Tryz.ntmps167
  exact Ae9
 have G:=hid g;clear g
 go_enter Tryz.func167,Tryz.ntmps167
 exact Ae8
theorem Abd (e0 e1 n0 n1:Int) (w:World):Calls Tryz.prog 100 #[.agg #[vI e0,vI e1,vI n0,vI n1]] w fun e' w'=>e'=.returned (.bool (bxB e0 e1 n0 n1))∧Below w.heap.size w w':=by
 have HV:=hid (show bxB e0 e1 n0 n1=(orB e0 e1 && orB n0 n1) from rfl)
 cases g:orB e0 e1
 ·have G:=hid g
  clear g
  go_enter Tryz.func100,Tryz.ntmps100
  go_wp2_with fail
  refine (Lx _ _ _).mono ?_;rintro e' w1 ⟨rfl,hB⟩
  have KX:Hid (Has w1 w.heap.size (lz4 e0 e1 n0 n1)):=hid ((Has.new w #[vI e0,vI e1,vI n0,vI n1] 73).below hB);have HB:=hid (Ap hB);clear hB;have k2:w1.cell? ⟨w.heap.size,2,none⟩=some (vI n0):=KX.out.cell 2 _ rfl;have k3:w1.cell? ⟨w.heap.size,3,none⟩=some (vI n1):=KX.out.cell 3 _ rfl
  rw [G.out]
  go_wp2_with fail
  go_ret
  exact ⟨Ao (by rw [HV.out,G.out];rfl),HB.out⟩
 have G:=hid g;clear g
 go_enter Tryz.func100,Tryz.ntmps100
 go_wp2_with fail
 refine (Lx _ _ _).mono ?_;rintro e' w1 ⟨rfl,hB⟩
 have KX:Hid (Has w1 w.heap.size (lz4 e0 e1 n0 n1)):=hid ((Has.new w #[vI e0,vI e1,vI n0,vI n1] 73).below hB);have HB:=hid (Ap hB);clear hB;have k2:w1.cell? ⟨w.heap.size,2,none⟩=some (vI n0):=KX.out.cell 2 _ rfl;have k3:w1.cell? ⟨w.heap.size,3,none⟩=some (vI n1):=KX.out.cell 3 _ rfl
 rw [G.out]
 go_wp2_with fail
 refine (Lx _ _ _).mono ?_;rintro e' w2 ⟨rfl,hB⟩
 replace HB:=hid (Ae HB.out hB);clear hB
 go_wp2_with fail
 go_ret
 exact ⟨Ao (by rw [HV.out,G.out];rfl),HB.out⟩
theorem X8 (e0 e1 n0 n1 e n:Int) (w:World):Calls Tryz.prog 39 #[.agg #[vI e0,vI e1,vI n0,vI n1],.agg #[vI e,vI n]] w fun e' w'=>e'=.returned (.bool (wnB e0 e1 n0 n1 e n))∧Below w.heap.size w w':=by
 have HV:=hid (show wnB e0 e1 n0 n1 e n=(bxB e0 e1 n0 n1 && decide (e0<=e) && decide (e<=e1) && decide (n0<=n) && decide (n<=n1)) from rfl)
 cases g:bxB e0 e1 n0 n1
 ·have G:=hid g
  have HF:=hid (show wnB e0 e1 n0 n1 e n=false by rw [HV.out,g];rfl);clear g
  exact U5
 have G:=hid g
 rw [g] at HV
 clear g
 by_cases h0:e0<=e
 rotate_left
 ·have HF:=hid (show wnB e0 e1 n0 n1 e n=false by rw [HV.out];simp [h0])
  exact U5
 by_cases h1:e<=e1
 rotate_left
 ·have HF:=hid (show wnB e0 e1 n0 n1 e n=false by rw [HV.out];simp [h1])
  exact U5
 by_cases h2:n0<=n
 rotate_left
 ·have HF:=hid (show wnB e0 e1 n0 n1 e n=false by rw [HV.out];simp [h2])
  exact U5
 by_cases h3:n<=n1
 rotate_left
 ·have HF:=hid (show wnB e0 e1 n0 n1 e n=false by rw [HV.out];simp [h3])
  exact U5
 have HF:=hid (show wnB e0 e1 n0 n1 e n=true by rw [HV.out];simp [h0,h1,h2,h3])
 exact U5
def ptE (e n:Int):Int:=if wiB e n=true then 0 else 1
def ptA (co e n:Int):Int:=if wiB e n=true then alV co e n else 0
def ptX (co e n:Int):Int:=if wiB e n=true then acV co e n else 0
theorem Bc {x:Int} (h0 : -4611686018427387904<=x) (h1:x<=4611686018427387904):IntKind.i64.wrap x=x:=iW _
theorem ES {a b c x y z:Int} (h1:a=x) (h2:b=y) (h3:c=z):Ending.returned (.tuple #[vI a,vI b,vI c])=.returned (.tuple #[vI x,vI y,vI z]):=by rw [h1,h2,h3]
theorem LB (co e n:Int) (hco:I64 co) (w:World):Calls Tryz.prog 129 #[vI co,.agg #[vI e,vI n]] w fun e' w'=>e'=.returned (.tuple #[vI (ptA co e n),vI (ptX co e n),vI (ptE e n)])∧Below w.heap.size w w':=by
 cases g:wiB e n
 ·have G:=hid (fun W=>T9 e n W)
  rw [g] at G
  have HE:=hid (show ptE e n=1 by unfold ptE;rw [g];rfl);have HA:=hid (show ptA co e n=0 by unfold ptA;rw [g];rfl);have HC:=hid (show ptX co e n=0 by unfold ptX;rw [g];rfl);clear g hco
  go_enter Tryz.func129,Tryz.ntmps129
  go_wp2_with fail
  refine (G.out _).mono ?_;rintro e' w1 ⟨rfl,hB⟩
  have HB:=hid (Ap hB);clear hB
  go_wp2_with fail
  go_ret3
  exact ⟨ES HA.out.symm HC.out.symm HE.out.symm,HB.out⟩
 have G:=hid (fun W=>T9 e n W);have HE:=hid (show ptE e n=0 by unfold ptE;rw [g];rfl);have HA:=hid (show ptA co e n=shf (e * sinV co+n * cosV co) by unfold ptA;rw [g];rfl);have HC:=hid (show ptX co e n=shf (e * cosV co - n * sinV co) by unfold ptX;rw [g];rfl)
 have hb:(-400<=e∧e<=400) ∧ -400<=n∧n<=400:=by unfold wiB at g;simpa [Al] using g
 rw [g] at G
 clear g;have a1:=mul_bd (A:=400) (X:=1073741824) hb.1 (Dj co);have a2:=mul_bd (A:=400) (X:=1073741824) hb.2 (DJ co);have a3:=mul_bd (A:=400) (X:=1073741824) hb.1 (DJ co);have a4:=mul_bd (A:=400) (X:=1073741824) hb.2 (Dj co);have HS:=hid (fun W=>Ac9 co hco W);have HQ:=hid (fun W=>AeF co hco W);clear hco hb;generalize sinV co=S at *;generalize cosV co=C at *
 go_enter Tryz.func129,Tryz.ntmps129
 go_wp2_with fail
 refine (G.out _).mono ?_;rintro e' w1 ⟨rfl,hB⟩
 have KX:Hid (Has w1 w.heap.size (lz2 e n)):=hid ((Has.new w #[vI e,vI n] 62).below hB);have HB:=hid (Ap hB);clear hB
 go_wp2_with fail
 refine (HS.out _).mono ?_;rintro e' wx ⟨rfl,rfl⟩
 go_wp2_with fail
 refine (HQ.out _).mono ?_;rintro e' wx ⟨rfl,rfl⟩
 go_wp2_with fail
 have k0:w1.cell? ⟨w.heap.size,0,none⟩=some (vI e):=KX.out.cell 0 _ rfl;have k1:w1.cell? ⟨w.heap.size,1,none⟩=some (vI n):=KX.out.cell 1 _ rfl;have S1:=hid (fun W=>Ux (Ags (e * S+n * C) (by omega) W));have S2:=hid (fun W=>Ux (Ags (e * C - n * S) (by omega) W));have u1:IntKind.i64.wrap (e * S)=e * S:=Bc (by omega) (by omega);have u2:IntKind.i64.wrap (n * C)=n * C:=Bc (by omega) (by omega);have u3:IntKind.i64.wrap (e * C)=e * C:=Bc (by omega) (by omega);have u4:IntKind.i64.wrap (n * S)=n * S:=Bc (by omega) (by omega);have u5:IntKind.i64.wrap (e * S+n * C)=e * S+n * C:=Bc (by omega) (by omega);have u6:IntKind.i64.wrap (e * C - n * S)=e * C - n * S:=Bc (by omega) (by omega);clear a1 a2 a3 a4
 go_quiet ((go_at_call 196;first | exact Eo (S1.out _) | exact Calls.quiet_of_same (S1.out _) | exact Eo (S2.out _) | exact Calls.quiet_of_same (S2.out _)))
 go_wp2_with fail
 go_ret3
 exact ⟨ES HA.out.symm HC.out.symm HE.out.symm,Ag HB.out nq⟩
