/- M22: PeChk, PeVal, PeTab in one text. -/
import Derived.Test.YtlbmdnfnahingaaGreatM25
import Derived.Test.YtlbmdnfnahingaaGreatM53
import Derived.Test.YtlbmdnfnahingaaGreatM12
import Derived.Deep.MidRow
set_option linter.unusedSimpArgs false
set_option linter.unusedVariables false
set_option maxRecDepth 100000
set_option maxHeartbeats 8000000
namespace Go.Proofs
theorem Abn{G:Prop}(h:G:=by
  have HI:=hid ((show RowI w (w.heap.size+1) M (Ec (FX al (Aj rs) M alt) M) wr by have:=R1.out;rwa [hjm] at this).ints (Gp _ _ _ _));have k4:wr.cell? ⟨w.heap.size,4,none⟩=some (.slice A2 M c2):=BP.out.cell 4 _ HPC.out.2;have HC:=hid (HVM.out (w.heap.size+1) _ wr R1.out.bel HI.out HTB.out);clear hjm
  go_wp2_with fail
  refine HC.out.mono ?_;rintro e w3 ⟨rfl,q,rfl⟩
  go_wp2_with fail
  go_ret
  exact ⟨Af HV.out.symm,Ag R1.out.bel q⟩):G:=h
theorem Abo{G:Prop}(h:G:=by
  all_goals (go_ret;refine ⟨Af (HE.out.trans ?_).symm,HB.out⟩;unfold pfL;clear K;repeat (first | refine (F9 tT).trans ?_ | exact IQ tT | refine (Uw tT2).trans ?_ | exact Uv tT2 | rfl))):G:=h
theorem Abp{G:Prop}(h:G:=by
  go_enter Tryz.func119,Tryz.ntmps119
  go_wp2_with fail
  go_ret
  exact ⟨Af HR.out.symm,0,rfl⟩):G:=h
end Go.Proofs
namespace Go.Proofs.YtlbmdnfnahingaaGreat
open Go.RowKit
open Go.Lib (hid)
def Em:List (Bool × Int)→Int
 | []=>0
 | (b,e) :: l=>if b=true then Em l else e
theorem F9 {b:Bool} {e:Int} {l:List (Bool × Int)} (h:b=true):Em ((b,e) :: l)=Em l:=if_pos h
theorem IQ {b:Bool} {e:Int} {l:List (Bool × Int)} (h:b=false):Em ((b,e) :: l)=e:=if_neg (by rw [h];decide)
theorem KM:∀ {l:List (Bool × Int)},(∀ q ∈ l,q.2≠0)→Em l=0→∀ q ∈ l,q.1=true
 | [],_,_,q,hq=>by simp at hq
 | (b,e) :: l,he,h,q,hq=>by
  cases b with
  | false=>rw [IQ rfl] at h;exact absurd h (he (false,e) (by simp))
  | true =>
   rw [F9 rfl] at h
   rcases List.mem_cons.1 hq with rfl | hq
   ·rfl
   ·exact KM (fun q hq=>he q (List.mem_cons_of_mem _ hq)) h q hq
def pfL (p:Prf):List (Bool × Int):=[(nmB p.nm 8,5),(inB p.em 1 3000000000,2),(inB p.mf 1 (3000000000 - p.em),2),(decide (2<=p.sal.n),3),(decide (p.sal.n<=12),3),(decide (2<=p.sms.n),3),(decide (p.sms.n<=6),3),(EW (Aj p.cl) p.sal.n p.sms.n,1),(EW (Aj p.cf) p.sal.n p.sms.n,1),(EW (Aj p.cr) p.sal.n p.sms.n,1),(decide (p.sde.n=p.sal.n),1),(decide (p.sid.n=p.sal.n),1),(decide (p.smx.n=p.sal.n),1),(decide (p.smn.n=p.sms.n),1),(KA p.al,9),(KA p.ms,9),(BK p.al (-200000) 6000000,2),(inB p.ce (-200000) 6000000,2),(BK p.ms 1 3000000000,2),(FW (Aj p.cl) 0 10000,2),(BK p.de 1 10000,2),(FW (Aj p.cf) 0 50000,2),(FW (Aj p.cr) 0 50000,2),(BK p.id 0 50000,2),(BK p.mx 1 1000,2),(BK p.mn 1 1000,2),(inB p.rf 1 1000,2),(inB p.ex 0 100,2),(Gd (Aj p.cl),11),(gnB p.al (Aj p.cl),11),(Fp (Aj p.cf),11),(Fp (Aj p.cr),11),(upB p.de,11),(dnB p.id,11),(dnB p.mx,11),(upB p.mn,11)]
def pfE (p:Prf):Int:=Em (pfL p)
theorem CQ {P:Program} {ops:Array Oper} {rest:List Oper} {op:Oper} {a:Act} {w:World} {Q:Exit→Act→World→Prop} (ty:TypeId) (x:Operand) (ho:op.op=.load ty x) (hw:Region.wanted op (yielded ops a.tmps)=true)
  (b o:Nat) (hx:a.eval x=.pointer (some ⟨b,o,none⟩)) (cs:List Value) (d:TypeDesc) (hc:w.rangeAt b o cs)
  (hu:P.underlying ty=some d) (hd:d.isRow=true) (hi:(P.info? ty).map (·.size)=some cs.length)
  (h:wpList P ops Q rest (a.put op.dst (.agg cs.toArray)) w):wpList P ops Q (op :: rest) a w:=by
 unfold wpList
 rw [if_pos hw]
 exact .inl (wp_load_mid ty x ho b o hx cs d hc hu hd hi h)
theorem Has.range {W:World} {b:Nat} {cs ds:List Value} (h:Has W b cs) (o:Nat) (hd:∀ j v,ds[j]? = some v→cs[o+j]? = some v):W.rangeAt b o ds:=fun j v hv=>h.cell (o+j) v (hd j v hv)
theorem Dw {ops:Array Oper} {rest:List Oper} {op:Oper} {a:Act} {w:World} {Q:Exit→Act→World→Prop} {p:Prf} {b:Nat} (x:Operand) (ho:op.op=.load 26 x) (hw:Region.wanted op (yielded ops a.tmps)=true)
  (hx:a.eval x=.pointer (some ⟨b,0,none⟩)) (hc:Has w b p.cells) (h:wpList Tryz.prog ops Q rest (a.put op.dst (.agg p.cells.toArray)) w):wpList Tryz.prog ops Q (op :: rest) a w :=
 CQ 26 x ho hw b 0 hx p.cells _ (hc.range 0 (fun j v hv=>by rw [Nat.zero_add];exact hv)) Tryz.underlying26 rfl (by kernel_rfl) h
theorem Di {w:World} {A:Option Addr} {n N M:Nat} {rs:List Row} (h:EW (Aj rs) N M=true) (ht:Tab w A n rs):n=N∧∀ r ∈ rs,r.n=M:=by
 unfold EW at h
 rw [Bool.and_eq_true,decide_eq_true_eq,List.all_eq_true,AX,ht.top.len] at h
 refine ⟨h.1,fun r hr=>?_⟩
 have:=h.2 r.l (List.mem_map.2 ⟨r,hr,rfl⟩)
 rw [decide_eq_true_eq,(ht.row r hr).len] at this
 exact this
theorem Zx {rs:List Row} {lo hi:Int} (h:FW (Aj rs) lo hi=true):∀ r ∈ rs,∀ x ∈ r.l,lo<=x∧x<=hi:=by
 intro r hr x hx
 unfold FW at h
 rw [List.all_eq_true] at h
 have:=h r.l (List.mem_map.2 ⟨r,hr,rfl⟩)
 unfold BK at this
 rw [List.all_eq_true] at this
 exact Al.1 (this x hx)
theorem Ci {l:List Int} {lo hi:Int} (h:BK l lo hi=true):∀ x ∈ l,lo<=x∧x<=hi:=by
 intro x hx
 unfold BK at h
 rw [List.all_eq_true] at h
 exact Al.1 (h x hx)
theorem Sq.of {w:World} {A:Option Addr} {n N M:Nat} {rs:List Row} {hi:Int} (ht:Tab w A n rs) (h1:EW (Aj rs) N M=true) (h2:FW (Aj rs) 0 hi=true):Sq w A n M hi rs:=⟨ht,(Di h1 ht).2,Zx h2⟩
theorem RX {l:List Int} {lo hi HI:Int} (h0:0<=lo) (h1:hi<=HI) (h:∀ x ∈ l,lo<=x∧x<=hi):∀ x ∈ l,0<=x∧x<=HI:=fun x hx=>by have:=h x hx;omega
theorem QS (x lo hi:Int) (H:Nat) (w:World) (hl:Ints w (some ⟨H,0,none⟩) 1 [x]):Calls Tryz.prog 166 #[.slice (some ⟨H,0,none⟩) 1 1,vI lo,vI hi] w fun e w'=>e=.returned (.bool (inB x lo hi))∧w=w' :=
 (QO _ 1 1 [x] lo hi w hl (by unfold maxLen;omega)).mono fun e w' ⟨h1,h2⟩=>⟨by rw [h1];simp [BK],h2⟩
theorem Uv {a b:Bool} {e:Int} {l:List (Bool × Int)} (h:(a && b)=false):Em ((a,e) :: (b,e) :: l)=e:=by
 cases a with
 | false=>exact IQ rfl
 | true=>rw [F9 rfl];exact IQ (by simpa using h)
theorem Uw {a b:Bool} {e f:Int} {l:List (Bool × Int)} (h:(a && b)=true):Em ((a,e) :: (b,f) :: l)=Em l:=by
 rw [Bool.and_eq_true] at h
 rw [F9 h.1,F9 h.2]
theorem Fs {p:Prf} {W:World} {b:Nat} (h:Has W b p.cells):W.cell? ⟨b,0,none⟩=some (.string p.nm)∧W.cell? ⟨b,1,none⟩=some (vI p.em)∧W.cell? ⟨b,2,none⟩=some (vI p.mf)∧W.cell? ⟨b,3,none⟩=some (.slice p.sal.A p.sal.n p.sal.c)∧W.cell? ⟨b,4,none⟩=some (.slice p.sms.A p.sms.n p.sms.c)∧W.cell? ⟨b,5,none⟩=some (.slice p.scl.A p.scl.n p.scl.c)∧W.cell? ⟨b,6,none⟩=some (.slice p.scf.A p.scf.n p.scf.c)∧W.cell? ⟨b,7,none⟩=some (.slice p.scr.A p.scr.n p.scr.c)∧W.cell? ⟨b,8,none⟩=some (.slice p.sde.A p.sde.n p.sde.c)∧W.cell? ⟨b,9,none⟩=some (.slice p.sid.A p.sid.n p.sid.c)∧W.cell? ⟨b,10,none⟩=some (.slice p.smx.A p.smx.n p.smx.c)∧W.cell? ⟨b,11,none⟩=some (.slice p.smn.A p.smn.n p.smn.c)∧W.cell? ⟨b,12,none⟩=some (vI p.rf)∧W.cell? ⟨b,13,none⟩=some (vI p.ex)∧W.cell? ⟨b,14,none⟩=some (vI p.ce):=⟨h.cell 0 _ rfl,h.cell 1 _ rfl,h.cell 2 _ rfl,h.cell 3 _ rfl,h.cell 4 _ rfl,h.cell 5 _ rfl,h.cell 6 _ rfl,h.cell 7 _ rfl,h.cell 8 _ rfl,h.cell 9 _ rfl,h.cell 10 _ rfl,h.cell 11 _ rfl,h.cell 12 _ rfl,h.cell 13 _ rfl,h.cell 14 _ rfl⟩
theorem AaT {p:Prf} {W:World} {b:Nat} (h:Has W b p.cells):(∀ m,(W.drewN m).cell? ⟨b,3,none⟩=some (.slice p.sal.A p.sal.n p.sal.c))∧∀ m,(W.drewN m).cell? ⟨b,4,none⟩=some (.slice p.sms.A p.sms.n p.sms.c):=⟨fun m=>(BC W m _).trans (h.cell 3 _ rfl),fun m=>(BC W m _).trans (h.cell 4 _ rfl)⟩
theorem dB {w w':World} (h:∃ q,w'=w.drewN q):Below w.heap.size w w':=by obtain ⟨q,rfl⟩:=h;exact Ag (AJ _ _) q
theorem tT {b v:Bool} (h:b=v:=by first | assumption | exact Bool.eq_false_iff.2 (by assumption) | exact Eq.mp (Bool.not_eq_true' _) (by assumption) | exact Eq.mp (Bool.not_eq_false' _) (by assumption) | exact Ct (by omega) | exact BJ (by omega) | exact Al.2 (by omega) | exact Dz.2 (by omega) | exact Ct (Int.ofNat_inj.1 (bne_eq_false_iff_eq.1 (by assumption))) | exact BJ (fun e=>(bne_iff_ne.1 (by assumption)) (congrArg Nat.cast e))):b=v:=h
theorem tT2 {b v:Bool} (h:b=v:=by exact HCB.out.trans tT):b=v:=h
theorem P7 (p:Prf) (w:World) (hl:p.lies w) (hok:p.ok):Calls Tryz.prog 68 #[.agg p.cells.toArray] w fun e w'=>e=.returned (vI (pfE p))∧Below w.heap.size w w':=by
 have BP:=hid (Has.new w p.cells.toArray 26);have HB:=hid (Aa w (.cells p.cells.toArray 26));have HL:=hid (fun w1 hB=>hl.below (w':=w1) hB);have HOK:=hid hok;have HE:=hid (show pfE p=Em (pfL p) from rfl);have b3:=hok.al;have b4:=hok.ms;have b8:=hok.de;have b9:=hok.id;have b10:=hok.mx;have b11:=hok.mn
 unfold maxLen at b3 b4 b8 b9 b10 b11
 have WE:inB p.em 1 3000000000=true→IntKind.i64.wrap (3000000000 - p.em)=3000000000 - p.em:=fun h=>IntWalk.i64_in _ (by have:=Al.1 h;omega);clear hl hok
 go_enter Tryz.func68,Tryz.ntmps68
 go_wp2_with fail
 generalize w.alloc (.cells p.cells.toArray 26)=w1 at *;obtain ⟨k3,k4⟩:=AaT BP.out
 go_quiet (fail)
 clear k3 k4;replace BP:=hid (BP.out.below (Ag (AJ _ _) nq));replace HB:=hid (Ag HB.out nq);generalize w1.drewN nq=w2 at *;have K:=Fs BP.out
 go_wp2_with fail
 refine (AeM p.nm 8 _ HOK.out.nm (by unfold maxLen;omega)).mono ?_;rintro e wx ⟨rfl,rfl⟩
 go_wp2_with (first
  | (with_reducible refine (ML _ _ _ _).mono ?_;rintro e wx ⟨rfl,rfl⟩)
  | (with_reducible refine (XR _ _ _ _ _ _ _ (by first | exact (HL.out _ HB.out).al | exact (HL.out _ HB.out).ms | exact (HL.out _ HB.out).de | exact (HL.out _ HB.out).id | exact (HL.out _ HB.out).mx | exact (HL.out _ HB.out).mn) (by first | exact HOK.out.al | exact HOK.out.ms | exact HOK.out.de | exact HOK.out.id | exact HOK.out.mx | exact HOK.out.mn)).mono ?_;rintro e wx ⟨rfl,rfl⟩)
  | (with_reducible refine (ZV _ _ _ _ _ _ _ (by first | exact (HL.out _ HB.out).cl | exact (HL.out _ HB.out).cf | exact (HL.out _ HB.out).cr) (by first | exact HOK.out.cl | exact HOK.out.cf | exact HOK.out.cr) (by first | exact HOK.out.rcl | exact HOK.out.rcf | exact HOK.out.rcr)).mono ?_;rintro e wx ⟨rfl,rfl⟩)
  | (with_reducible refine (Ac3 _ _ _ _ _ (by first | exact (HL.out _ HB.out).al | exact (HL.out _ HB.out).ms) (by first | exact HOK.out.al | exact HOK.out.ms)).mono ?_;rintro e w1 ⟨rfl,hq⟩;have hB:=dB hq;clear hq;replace BP:=hid (BP.out.below hB);replace HB:=hid (Ae HB.out hB);clear K hB;have K:=Fs BP.out)
  | (with_reducible refine (AeK p.scl.A _ _ p.sms.n 10000 p.cl _ (Sq.of (HL.out _ HB.out).cl tT tT) (by decide) HOK.out.cl HOK.out.ms).mono ?_;rintro e w1 ⟨rfl,hq⟩;have hB:=dB hq;clear hq;replace BP:=hid (BP.out.below hB);replace HB:=hid (Ae HB.out hB);clear K hB;have K:=Fs BP.out)
  | (with_reducible refine (AeL _ _ _ p.sms.n 50000 _ _ (by first | exact (Sq.of (HL.out _ HB.out).cf tT tT) | exact (Sq.of (HL.out _ HB.out).cr tT tT)) (by decide) (by first | exact HOK.out.cf | exact HOK.out.cr) HOK.out.ms).mono ?_;rintro e w1 ⟨rfl,hq⟩;have hB:=dB hq;clear hq;replace BP:=hid (BP.out.below hB);replace HB:=hid (Ae HB.out hB);clear K hB;have K:=Fs BP.out)
  | (with_reducible refine (TZ _ _ _ p.de _ (HL.out _ HB.out).de HOK.out.de (RX (lo:=1) (hi:=10000) (by decide) (by decide) (Ci tT))).mono ?_;rintro e w1 ⟨rfl,hq⟩;have hB:=dB hq;clear hq;replace BP:=hid (BP.out.below hB);replace HB:=hid (Ae HB.out hB);clear K hB;have K:=Fs BP.out)
  | (with_reducible refine (TZ _ _ _ p.mn _ (HL.out _ HB.out).mn HOK.out.mn (RX (lo:=1) (hi:=1000) (by decide) (by decide) (Ci tT))).mono ?_;rintro e w1 ⟨rfl,hq⟩;have hB:=dB hq;clear hq;replace BP:=hid (BP.out.below hB);replace HB:=hid (Ae HB.out hB);clear K hB;have K:=Fs BP.out)
  | (with_reducible refine (TQ _ _ _ p.id _ (HL.out _ HB.out).id HOK.out.id (RX (lo:=0) (hi:=50000) (by decide) (by decide) (Ci tT))).mono ?_;rintro e w1 ⟨rfl,hq⟩;have hB:=dB hq;clear hq;replace BP:=hid (BP.out.below hB);replace HB:=hid (Ae HB.out hB);clear K hB;have K:=Fs BP.out)
  | (with_reducible refine (TQ _ _ _ p.mx _ (HL.out _ HB.out).mx HOK.out.mx (RX (lo:=1) (hi:=1000) (by decide) (by decide) (Ci tT))).mono ?_;rintro e w1 ⟨rfl,hq⟩;have hB:=dB hq;clear hq;replace BP:=hid (BP.out.below hB);replace HB:=hid (Ae HB.out hB);clear K hB;have K:=Fs BP.out)
  | (refine (Ac8 p _ _ _ _ _ HOK.out (by first | exact (HL.out _ HB.out).cl | exact (HL.out _ HB.out).cf | exact (HL.out _ HB.out).cr) (by first | exact HOK.out.cl | exact HOK.out.cf | exact HOK.out.cr) (by first | exact HOK.out.rcl | exact HOK.out.rcf | exact HOK.out.rcr)).mono ?_;rintro e w1 ⟨rfl,hB⟩;replace BP:=hid (BP.out.below hB);replace HB:=hid (Ae HB.out hB);clear K hB;have K:=Fs BP.out)
  | (refine (Z5 p _ (HL.out _ HB.out) (Sq.of (HL.out _ HB.out).cl tT tT) HOK.out (Di tT (HL.out _ HB.out).cl).1 (Ci tT)).mono ?_;rintro e w1 ⟨rfl,hB⟩;replace BP:=hid (BP.out.below hB);replace HB:=hid (Ae HB.out hB);clear K hB;have K:=Fs BP.out))
 all_goals exact Abo
theorem Pt (p:Prf) (w:World) (hl:p.lies w) (hok:p.ok):Calls Tryz.prog 83 #[.agg p.cells.toArray] w fun e w'=>e=.returned (vI (pfE p))∧Below w.heap.size w w':=by
 have BP:=hid (Has.new w p.cells.toArray 26);have HB:=hid (Aa w (.cells p.cells.toArray 26));have HL:=hid (fun w1 hB=>hl.below (w':=w1) hB);have HOK:=hid hok;have HE:=hid (show pfE p=Em (pfL p) from rfl);have b3:=hok.al;have b4:=hok.ms;have b8:=hok.de;have b9:=hok.id;have b10:=hok.mx;have b11:=hok.mn
 unfold maxLen at b3 b4 b8 b9 b10 b11
 have WE:inB p.em 1 3000000000=true→IntKind.i64.wrap (3000000000 - p.em)=3000000000 - p.em:=fun h=>IntWalk.i64_in _ (by have:=Al.1 h;omega);clear hl hok
 go_enter Tryz.func83,Tryz.ntmps83
 go_wp2_with fail
 generalize w.alloc (.cells p.cells.toArray 26)=w1 at *;obtain ⟨k3,k4⟩:=AaT BP.out
 go_quiet (fail)
 clear k3 k4;replace BP:=hid (BP.out.below (Ag (AJ _ _) nq));replace HB:=hid (Ag HB.out nq);generalize w1.drewN nq=w2 at *;have K:=Fs BP.out
 go_wp2_with fail
 refine (Aer p.nm 8 _ HOK.out.nm (by unfold maxLen;omega)).mono ?_;rintro e wx ⟨rfl,rfl⟩
 go_wp2_with (first
  | (with_reducible refine (QO _ _ _ _ _ _ _ (by first | exact (HL.out _ HB.out).al | exact (HL.out _ HB.out).ms | exact (HL.out _ HB.out).de | exact (HL.out _ HB.out).id | exact (HL.out _ HB.out).mx | exact (HL.out _ HB.out).mn) (by first | exact HOK.out.al | exact HOK.out.ms | exact HOK.out.de | exact HOK.out.id | exact HOK.out.mx | exact HOK.out.mn)).mono ?_;rintro e wx ⟨rfl,rfl⟩)
  | (with_reducible refine (Zj _ _ _ _ _ _ _ (by first | exact (HL.out _ HB.out).cl | exact (HL.out _ HB.out).cf | exact (HL.out _ HB.out).cr) (by first | exact HOK.out.cl | exact HOK.out.cf | exact HOK.out.cr) (by first | exact HOK.out.rcl | exact HOK.out.rcf | exact HOK.out.rcr)).mono ?_;rintro e wx ⟨rfl,rfl⟩)
  | (with_reducible refine (AcD _ _ _ _ _ (by first | exact (HL.out _ HB.out).al | exact (HL.out _ HB.out).ms) (by first | exact HOK.out.al | exact HOK.out.ms)).mono ?_;rintro e w1 ⟨rfl,hq⟩;have hB:=dB hq;clear hq;replace BP:=hid (BP.out.below hB);replace HB:=hid (Ae HB.out hB);clear K hB;have K:=Fs BP.out)
  | (with_reducible refine (AcL _ _ _ _ p.sal.n p.sms.n _ (by first | exact (HL.out _ HB.out).cl | exact (HL.out _ HB.out).cf | exact (HL.out _ HB.out).cr) (by first | exact HOK.out.cl | exact HOK.out.cf | exact HOK.out.cr) HOK.out.al HOK.out.ms (by first | exact HOK.out.rcl | exact HOK.out.rcf | exact HOK.out.rcr)).mono ?_;rintro e wx ⟨rfl,rfl⟩)
  | (with_reducible refine (AcF _ _ _ p.sms.n 50000 _ _ (by first | exact (Sq.of (HL.out _ HB.out).cf tT tT) | exact (Sq.of (HL.out _ HB.out).cr tT tT)) (by decide) (by first | exact HOK.out.cf | exact HOK.out.cr) HOK.out.ms).mono ?_;rintro e w1 ⟨rfl,hq⟩;have hB:=dB hq;clear hq;replace BP:=hid (BP.out.below hB);replace HB:=hid (Ae HB.out hB);clear K hB;have K:=Fs BP.out)
  | (with_reducible refine (Aew _ _ _ _ _ (by first | exact (HL.out _ HB.out).de | exact (HL.out _ HB.out).mn) (by first | exact HOK.out.de | exact HOK.out.mn)).mono ?_;rintro e w1 ⟨rfl,hq⟩;have hB:=dB hq;clear hq;replace BP:=hid (BP.out.below hB);replace HB:=hid (Ae HB.out hB);clear K hB;have K:=Fs BP.out)
  | (with_reducible refine (Aen _ _ _ _ _ (by first | exact (HL.out _ HB.out).id | exact (HL.out _ HB.out).mx) (by first | exact HOK.out.id | exact HOK.out.mx)).mono ?_;rintro e w1 ⟨rfl,hq⟩;have hB:=dB hq;clear hq;replace BP:=hid (BP.out.below hB);replace HB:=hid (Ae HB.out hB);clear K hB;have K:=Fs BP.out)
  | (with_reducible refine (QS p.ce _ _ _ _ (Ints.of_alloc _ #[vI p.ce] 2 [p.ce] 1 rfl rfl _ (by simp))).mono ?_;rintro e wx ⟨rfl,rfl⟩;replace BP:=hid (BP.out.alloc (.cells #[vI p.ce] 2));replace HB:=hid (Bh HB.out (.cells #[vI p.ce] 2));clear K;have K:=Fs BP.out)
  | (with_reducible refine (QS p.rf _ _ _ _ (Ints.of_alloc _ #[vI p.rf] 2 [p.rf] 1 rfl rfl _ (by simp))).mono ?_;rintro e wx ⟨rfl,rfl⟩;replace BP:=hid (BP.out.alloc (.cells #[vI p.rf] 2));replace HB:=hid (Bh HB.out (.cells #[vI p.rf] 2));clear K;have K:=Fs BP.out)
  | (with_reducible refine (QS p.ex _ _ _ _ (Ints.of_alloc _ #[vI p.ex] 2 [p.ex] 1 rfl rfl _ (by simp))).mono ?_;rintro e wx ⟨rfl,rfl⟩;replace BP:=hid (BP.out.alloc (.cells #[vI p.ex] 2));replace HB:=hid (Bh HB.out (.cells #[vI p.ex] 2));clear K;have K:=Fs BP.out)
  | (refine (Zl p _ (HL.out _ HB.out) (Sq.of (HL.out _ HB.out).cl tT tT) HOK.out (Di tT (HL.out _ HB.out).cl).1 (Ci tT)).mono ?_;rintro e w1 ⟨rfl,hB⟩;replace BP:=hid (BP.out.below hB);replace HB:=hid (Ae HB.out hB);clear K hB;have K:=Fs BP.out;generalize hCB:(Gd (Aj p.cl) && gnB p.al (Aj p.cl))=CB;have HCB:=hid hCB;clear hCB))
 all_goals exact Abo
theorem AfT (X Y:Int) (h1 : -1000000000000000000<=X) (h2:X<=1000000000000000000) (hY:0<Y):Fx.scV 0 X 1 Y=X / Y∧Fx.scE 0 X 1 Y=0:=by
 have e:Fx.rqz 0 (X * 1) Y=X / Y:=by unfold Fx.rqz Fx.rq;rw [if_neg (by omega),if_pos rfl,Int.mul_one]
 have b1 : -1000000000000000000<=X / Y:=by
  rw [Int.le_ediv_iff_mul_le hY]
  have:(-1000000000000000000) * Y<=(-1000000000000000000) * 1:=Int.mul_le_mul_of_nonpos_left (by omega) (by omega)
  omega
 have b2:X / Y<=1000000000000000000:=by
  by_cases h:X<0
  ·have:X / Y<0:=Int.ediv_neg_of_neg_of_pos h hY
   omega
  ·have:=Int.ediv_le_self (b:=Y) (a:=X) (by omega)
   omega
 rw [Fx.scV_eq 0 X 1 Y (by omega),Fx.scE_eq 0 X 1 Y (by omega),e]
 constructor <;> (rw [if_pos];unfold Fx.inR;omega)
theorem Z4 (X Y:Int) (h1 : -1000000000000000000<=X) (h2:X<=1000000000000000000) (hY:0<Y) (hY2:Y<=1000000000000000000) (w:World):Calls Tryz.prog 217 #[vI X,vI Y] w fun e w'=>e=.returned (.tuple #[vI (X / Y),vI 0])∧∃ n,w'=w.drewN n:=by
 have h:=xFloor X Y ⟨by omega,by omega⟩ ⟨by omega,by omega⟩ w
 rw [(AfT X Y h1 h2 hY).1,(AfT X Y h1 h2 hY).2] at h
 exact h
theorem Td (X Y:Int) (h1 : -1000000000000000000<=X) (h2:X<=1000000000000000000) (hY:0<Y) (hY2:Y<=1000000000000000000) (w:World):Calls Tryz.prog 205 #[vI X,vI Y] w fun e w'=>e=.returned (.tuple #[vI (X / Y),vI 0])∧w=w':=by
 have h:=rFloor X Y ⟨by omega,by omega⟩ ⟨by omega,by omega⟩ w
 rw [(AfT X Y h1 h2 hY).1,(AfT X Y h1 h2 hY).2] at h
 exact h
theorem Tc {d e:Int} (h1 : -50000<=d∧d<=50000) (h2:0<=e∧e<=3000200000) : -150010000000000<=d * e∧d * e<=150010000000000:=by
 have a:=CR h1.2 h2.1;have b:=CR h1.1 h2.1
 omega
theorem JI (A B:Option Addr) (n c d:Nat) (p l:List Int) (x:Int) (w:World) (hp:Ints w A n p) (hl:Ints w B n l) (hn0:0<n) (hn:n<=12) (hpb:∀ y ∈ p,-200000<=y∧y<=3000000000) (hlb:∀ y ∈ l,0<=y∧y<=50000) (hx : -200000<=x∧x<=3000000000):Calls Tryz.prog 162 #[.slice A n c,.slice B n d,vI x] w fun e w'=>e=.returned (vI (Pe.iv (p.zip l) x))∧∃ q,w'=w.drewN q:=by
 have HP:=hid hp;have HQ:=hid hl;have HPL:=hid hp.len;have HLL:=hid hl.len;have HPB:=hid hpb;have HLB:=hid hlb;obtain ⟨x0,x1⟩:=hx;obtain ⟨bp,op,rfl,hbp,cp⟩:=hp.cells hn0;obtain ⟨bl,ol,rfl,hbl,cl⟩:=hl.cells hn0;have CP:=hid (fun k y m (h:p[k]? = some y)=>(BC w m _).trans (cp k y h));have CL:=hid (fun k y m (h:l[k]? = some y)=>(BC w m _).trans (cl k y h));clear hp hl hpb hlb cp cl hbp hbl
 go_enter Tryz.func162,Tryz.ntmps162
 go_wp2_with fail
 go_loop [7] (fun t=>∃ k:Nat,k<=n∧t=vI k∧∀ j,j<k→p.getD j 0<x) (fun t=>n - (intOf t).toNat)
 case atStart=>exact ⟨0,by omega,rfl,fun j hj=>by omega⟩
 case round =>
  obtain ⟨k,hk,rfl,hall⟩:=hrel;have HAL:=hid hall;clear hall
  by_cases hlt:k<n
  rotate_left
  ·have hkn:k=n:=by omega
   have e0:((k:Int) == 0)=false:=Aw (by omega)
   have e1:((k:Int) == (n:Int))=true:=by rw [beq_iff_eq];omega
   obtain ⟨m,hm⟩:∃ m,n=m+1:=⟨n - 1,by omega⟩;obtain ⟨v,hv⟩:=Am HLL.out (show m<n by omega)
   have HR:=hid (show Pe.iv (p.zip l) x=v by
    rw [← Ah (d:=0) hv]
    have hm':p.length=m+1:=HPL.out.trans hm;have hl':l.length=p.length:=HLL.out.trans HPL.out.symm
    exact Pe.iv_last (p.zip l) m (p.getD m 0,l.getD m 0) x (by simp;omega) (Pe.zip_get hl' (by omega)) (fun j q hq=>by
     obtain ⟨h1,h2⟩:=Pe.zip_get_inv hq
     rw [h2];exact HAL.out j (by have:=HPL.out;omega)))
   have c0:w.cell? ⟨bl,ol+m,none⟩=some (vI v):=CL.out m v 0 hv
   have s1:IntKind.i64.wrap ((k:Int) - 1)=(m:Int):=by rw [(iW _)];omega
   have s2:(k:Int) - 1=(m:Int):=by omega
   have hmn:m<n:=by omega
   have hlt2:decide (k<n)=false:=BJ hlt;have HKN:=hid hkn;have HM:=hid hm;clear hkn hm hv hlt
   go_wp2_with fail
   go_ret
   exact ⟨Af HR.out.symm,0,rfl⟩
  obtain ⟨b,hb⟩:=Am HPL.out hlt;obtain ⟨b0,b1⟩:=HPB.out b (Au hb);have c0:w.cell? ⟨bp,op+k,none⟩=some (vI b):=CP.out k b 0 hb;have HG:=hid (show p.getD k 0=b from Ah hb)
  by_cases hbx:b<x
  ·clear hb
   go_wp2_with fail
   go_round
   case rel=>exact ⟨k+1,by omega,by go_num,fun j hj=>by
    by_cases e:j=k
    ·subst e;rw [HG.out];exact hbx
    ·exact HAL.out j (by omega)⟩
   case measure=>exact zMs
  by_cases hk0:k=0
  ·have e0:((k:Int) == 0)=true:=by rw [beq_iff_eq];omega
   obtain ⟨v,hv⟩:=Am HLL.out hn0
   have HR:=hid (show Pe.iv (p.zip l) x=v by
    rw [← Ah (d:=0) hv]
    exact Pe.iv_ref_hd (HLL.out.trans HPL.out.symm) (by rw [HPL.out];exact hn0) (by rw [← hk0,HG.out];omega))
   have c1:w.cell? ⟨bl,ol,none⟩=some (vI v):=CL.out 0 v 0 hv;have HK0:=hid hk0;clear hk0 hb hv
   go_wp2_with fail
   go_ret
   exact ⟨Af HR.out.symm,0,rfl⟩
  obtain ⟨m,rfl⟩:∃ m,k=m+1:=⟨k - 1,by omega⟩;clear hk0
  rw [show ((m+1:Nat):Int)=(m:Int)+1 from by omega]
  obtain ⟨a,ha⟩:=Am HPL.out (show m<n by omega);obtain ⟨u,hu⟩:=Am HLL.out (show m<n by omega);obtain ⟨v,hv⟩:=Am HLL.out hlt;obtain ⟨a0,a1⟩:=HPB.out a (Au ha);obtain ⟨u0,u1⟩:=HLB.out u (Au hu);obtain ⟨v0,v1⟩:=HLB.out v (Au hv)
  have hax:a<x:=by rw [← Ah (d:=0) ha];exact HAL.out m (by omega)
  have HR:=hid (show Pe.iv (p.zip l) x=Pe.ip a b u v x by
   have hl':l.length=p.length:=HLL.out.trans HPL.out.symm
   rw [Pe.iv_seg (p.zip l) m _ _ x (Pe.zip_get hl' (by have:=HPL.out;omega)) (Pe.zip_get hl' (by have:=HPL.out;omega)) (fun j q hj hq=>by
     obtain ⟨h1,h2⟩:=Pe.zip_get_inv hq
     rw [h2];exact HAL.out j (by omega)) (by show x<=p.getD (m+1) 0;rw [HG.out];omega)]
   rw [Ah ha,HG.out,Ah hu,Ah hv])
  obtain ⟨i0,i1⟩:=Pe.ip_bd (lo:=0) (hi:=50000) (x:=x) (show a<=x by omega) (show x<=b by omega) (by omega) ⟨u0,u1⟩ ⟨v0,v1⟩;have HIP:=hid (show Pe.ip a b u v x=u+(v - u) * (x - a) / (b - a) from rfl);generalize Pe.ip a b u v x=R at *;have HPD:=hid (Tc (d:=v - u) (e:=x - a) ⟨by omega,by omega⟩ ⟨by omega,by omega⟩);have HFL:=hid (fun w=>Z4 ((v - u) * (x - a)) (b - a) (by have:=HPD.out;omega) (by have:=HPD.out;omega) (by omega) (by omega) w)
  have s1:IntKind.i64.wrap ((m:Int)+1 - 1)=(m:Int):=by rw [(iW _)];omega
  have s0:IntKind.i64.wrap (m:Int)=(m:Int):=iW _
  have hmn:m<n:=by omega
  have hmn2:(m:Int)<(n:Int):=by omega
  have hmn3:(m:Int)+1<(n:Int):=by omega
  have e0:((m:Int)+1 == 0)=false:=Aw (by omega);have e1:((m:Int)+1 == (n:Int))=false:=Aw (by omega);have q1:∀ m',(w.drewN m').cell? ⟨bp,op+m,none⟩=some (vI a):=fun m'=>CP.out m a m' ha;have q2:∀ m',(w.drewN m').cell? ⟨bp,op+(m+1),none⟩=some (vI b):=fun m'=>CP.out (m+1) b m' hb;have q3:∀ m',(w.drewN m').cell? ⟨bl,ol+m,none⟩=some (vI u):=fun m'=>CL.out m u m' hu;have q4:∀ m',(w.drewN m').cell? ⟨bl,ol+(m+1),none⟩=some (vI v):=fun m'=>CL.out (m+1) v m' hv;clear ha hu hv hb
  go_wp2_with fail
  go_quiet (fail)
  clear s1 s0 q1 q2 q3 q4;obtain ⟨d0,d1⟩:=HPD.out
  go_wp2_with fail
  refine (HFL.out _).mono ?_;rintro e w2 ⟨rfl,q,rfl⟩
  have HR2:=hid (HR.out.trans HIP.out)
  have g1:0<=u+(v - u) * (x - a) / (b - a):=by rw [← HIP.out];exact i0
  have g2:u+(v - u) * (x - a) / (b - a)<=50000:=by rw [← HIP.out];exact i1
  go_wp2_with fail
  go_ret
  exact ⟨Af HR2.out.symm,_,by first | rfl | exact World.drewN_drewN _ _ _⟩
theorem Mq (A B:Option Addr) (n c d:Nat) (p l:List Int) (x:Int) (w:World) (hp:Ints w A n p) (hl:Ints w B n l) (hn0:0<n) (hn:n<=12) (hasc:Pe.Asc p) (hpb:∀ y ∈ p,-200000<=y∧y<=3000000000) (hlb:∀ y ∈ l,0<=y∧y<=50000) (hx : -200000<=x∧x<=3000000000):Calls Tryz.prog 119 #[.slice A n c,.slice B n d,vI x] w fun e w'=>e=.returned (vI (Pe.iv (p.zip l) x))∧∃ q,w'=w.drewN q:=by
 have HASC:=hid hasc;clear hasc;have HP:=hid hp;have HQ:=hid hl;have HPL:=hid hp.len;have HLL:=hid hl.len;have HPB:=hid hpb;have HLB:=hid hlb;obtain ⟨x0,x1⟩:=hx;obtain ⟨bp,op,rfl,hbp,cp⟩:=hp.cells hn0;obtain ⟨bl,ol,rfl,hbl,cl⟩:=hl.cells hn0;have CP:=hid (fun k y m (h:p[k]? = some y)=>(BC w m _).trans (cp k y h));have CL:=hid (fun k y m (h:l[k]? = some y)=>(BC w m _).trans (cl k y h));clear hp hl hpb hlb cp cl hbp hbl;have HLP:=hid (HLL.out.trans HPL.out.symm);obtain ⟨m,hm⟩:∃ m,n=m+1:=⟨n - 1,by omega⟩;obtain ⟨a0v,ha0⟩:=Am HPL.out hn0;obtain ⟨l0v,hl0⟩:=Am HLL.out hn0;obtain ⟨a9,ha9⟩:=Am HPL.out (show m<n by omega);obtain ⟨l9,hl9⟩:=Am HLL.out (show m<n by omega);have c0:w.cell? ⟨bp,op,none⟩=some (vI a0v):=CP.out 0 a0v 0 ha0;have c1:w.cell? ⟨bl,ol,none⟩=some (vI l0v):=CL.out 0 l0v 0 hl0;have c2:w.cell? ⟨bp,op+m,none⟩=some (vI a9):=CP.out m a9 0 ha9;have c3:w.cell? ⟨bl,ol+m,none⟩=some (vI l9):=CL.out m l9 0 hl9;have G0:=hid (Ah (d:=0) ha0);have G1:=hid (Ah (d:=0) hl0);have G2:=hid (Ah (d:=0) ha9);have G3:=hid (Ah (d:=0) hl9)
 have s1:IntKind.i64.wrap ((n:Int) - 1)=(m:Int):=by rw [(iW _)];omega
 have s2:(n:Int) - 1=(m:Int):=by omega
 have hmn:m<n:=by omega
 have HM:=hid hm;clear ha0 hl0 ha9 hl9 hm
 by_cases h1:x<=a0v
 ·have HR:=hid (show Pe.iv (p.zip l) x=l0v by
   rw [← G1.out];exact Pe.iv_ref_hd HLP.out (by rw [HPL.out];exact hn0) (by rw [G0.out];exact h1))
  exact Abp
 by_cases h2:a9<=x
 ·have HR:=hid (show Pe.iv (p.zip l) x=l9 by
   rw [← G3.out];exact Pe.iv_ref_tl HLP.out (HPL.out.trans HM.out) HASC.out (by rw [G2.out];exact h2))
  exact Abp
 go_enter Tryz.func119,Tryz.ntmps119
 go_wp2_with fail
 clear c0 c1 c2 c3 s1 s2
 go_loop [8] (fun t=>∃ k:Nat,k+1<n∧t=vI k∧p.getD k 0<=x) (fun t=>n - (intOf t).toNat)
 case atStart=>exact ⟨0,by
  rcases Nat.lt_or_ge 1 n with h | h
  ·omega
  ·have e1:=HM.out
   have e2:m=0:=by omega
   have e3:=G0.out;have e4:=G2.out
   rw [e2] at e4
   omega,rfl,by rw [G0.out];omega⟩
 case round =>
  obtain ⟨k,hk,rfl,hall⟩:=hrel;have HAL:=hid hall;clear hall;obtain ⟨a,ha⟩:=Am HPL.out (show k<n by omega);obtain ⟨b,hb⟩:=Am HPL.out hk;obtain ⟨a0,a1⟩:=HPB.out a (Au ha);obtain ⟨b0,b1⟩:=HPB.out b (Au hb);have HA:=hid (Ah (d:=0) ha);have HG:=hid (Ah (d:=0) hb);have c0:w.cell? ⟨bp,op+(k+1),none⟩=some (vI b):=CP.out _ b 0 hb
  by_cases hbx:b<=x
  ·clear hb ha
   go_wp2_with fail
   go_round
   case rel=>exact ⟨k+1,by
    have e1:=HM.out
    rcases Nat.lt_or_ge (k+1+1) n with h | h
    ·exact h
    ·have e2:m=k+1:=by omega
     have e3:=G2.out;have e4:=HG.out
     rw [e2] at e3
     omega,by go_num,by rw [HG.out];exact hbx⟩
   case measure=>exact zMs
  obtain ⟨u,hu⟩:=Am HLL.out (show k<n by omega);obtain ⟨v,hv⟩:=Am HLL.out hk;obtain ⟨u0,u1⟩:=HLB.out u (Au hu);obtain ⟨v0,v1⟩:=HLB.out v (Au hv)
  have hax:a<=x:=by rw [← HA.out];exact HAL.out
  have HR:=hid (show Pe.iv (p.zip l) x=Pe.ip a b u v x by
   rw [Pe.iv_ref_mid HLP.out (by rw [HPL.out];exact hk) HASC.out HAL.out (by rw [HG.out];omega),HA.out,HG.out,Ah hu,Ah hv])
  obtain ⟨i0,i1⟩:=Pe.ip_bd (lo:=0) (hi:=50000) (x:=x) hax (show x<=b by omega) (by omega) ⟨u0,u1⟩ ⟨v0,v1⟩;have HIP:=hid (show Pe.ip a b u v x=u+(v - u) * (x - a) / (b - a) from rfl);generalize Pe.ip a b u v x=R at *;have HPD:=hid (Tc (d:=v - u) (e:=x - a) ⟨by omega,by omega⟩ ⟨by omega,by omega⟩);have HFL:=hid (fun w=>Td ((v - u) * (x - a)) (b - a) (by have:=HPD.out;omega) (by have:=HPD.out;omega) (by omega) (by omega) w);have s1:=iW ((k:Int)+1)
  have s2:((k:Int)+1).toNat=k+1:=by omega
  have s3:0<=(k:Int)+1:=by omega
  have hk1:k<n:=by omega
  have hk2:(k:Int)<(n:Int):=by omega
  have hk3:(k:Int)+1<(n:Int):=by omega
  have d1:=iW (v - u);have d2:=iW (x - a);have d3:=iW (b - a);have d4:IntKind.i64.wrap ((v - u) * (x - a))=(v - u) * (x - a):=IntWalk.i64_in _ (by have:=HPD.out;omega);have q1:∀ m',(w.drewN m').cell? ⟨bp,op+k,none⟩=some (vI a):=fun m'=>CP.out k a m' ha;have q2:∀ m',(w.drewN m').cell? ⟨bp,op+(k+1),none⟩=some (vI b):=fun m'=>CP.out (k+1) b m' hb;have q3:∀ m',(w.drewN m').cell? ⟨bl,ol+k,none⟩=some (vI u):=fun m'=>CL.out k u m' hu;have q4:∀ m',(w.drewN m').cell? ⟨bl,ol+(k+1),none⟩=some (vI v):=fun m'=>CL.out (k+1) v m' hv;have q5:w.cell? ⟨bl,ol+k,none⟩=some (vI u):=CL.out k u 0 hu;clear ha hu hv hb
  go_wp2_with fail
  go_quiet ((go_at_call 205;exact Calls.quiet_of_same (Ux (HFL.out _))))
  clear s1 s2 s3 d1 d2 d3 d4 q1 q2 q3 q4;have HR2:=hid (HR.out.trans HIP.out)
  have g1:0<=u+(v - u) * (x - a) / (b - a):=by rw [← HIP.out];exact i0
  have g2:u+(v - u) * (x - a) / (b - a)<=50000:=by rw [← HIP.out];exact i1
  have q6:(w.drewN nq).cell? ⟨bl,ol+k,none⟩=some (vI u):=q5
  go_wp2_with fail
  go_ret
  exact ⟨Af HR2.out.symm,_,by first | rfl | exact World.drewN_drewN _ _ _⟩
def IL (T:List (List Int)) (j:Nat):List Int:=T.map fun r=>r.getD j 0
def FX (al:List Int) (T:List (List Int)) (M:Nat) (alt:Int):List Int:=(List.range M).map fun j=>Pe.iv (al.zip (IL T j)) alt
def BQ (al ms:List Int) (T:List (List Int)) (alt mass:Int):Int:=Pe.iv (ms.zip (FX al T ms.length alt)) mass
theorem EP (T:List (List Int)) (j:Nat):(IL T j).length=T.length:=List.length_map _
theorem GA {T:List (List Int)} {j k:Nat} (h:k<T.length):(IL T j).getD k 0=g2 T k j:=by
 unfold IL g2
 rw [Dp,List.getElem?_map,AQ h,Dp (l:=T),AQ h];rfl
theorem Jb {al:List Int} {T:List (List Int)} {M:Nat} {alt:Int} {j:Nat} (h:j<M):(FX al T M alt)[j]? = some (Pe.iv (al.zip (IL T j)) alt):=by
 unfold FX
 rw [List.getElem?_map,List.getElem?_range h];rfl
theorem Gp (al:List Int) (T:List (List Int)) (M:Nat) (alt:Int):(FX al T M alt).length=M:=by unfold FX;simp
theorem Eh {p l:List Int} (h:Pe.Asc p) (hl:l.length=p.length):Pe.AscP (p.zip l):=by
 unfold Pe.AscP
 rw [List.map_fst_zip (by omega)];exact h
theorem Qi {w:World} {A:Option Addr} {n M:Nat} {hi:Int} {rs:List Row} (h:Sq w A n M hi rs) {j:Nat} (hj:j<M):∀ y ∈ IL (Aj rs) j,0<=y∧y<=hi:=by
 intro y hy
 unfold IL Aj at hy
 rw [List.map_map,List.mem_map] at hy
 obtain ⟨r,hr,rfl⟩:=hy;obtain ⟨x,hx⟩:=Am ((h.tab.row r hr).len.trans (h.len r hr)) hj
 show 0<=r.l.getD j 0∧r.l.getD j 0<=hi
 rw [Ah hx]
 exact h.bd r hr x (Au hx)
theorem Oj {w:World} {A:Option Addr} {n M:Nat} {hi:Int} {rs:List Row} (h:Sq w A n M hi rs) {al:List Int} {alt:Int} (ha:Pe.Asc al) (hl:al.length=n) (hn:0<n):∀ y ∈ FX al (Aj rs) M alt,0<=y∧y<=hi:=by
 intro y hy
 unfold FX at hy
 rw [List.mem_map] at hy
 obtain ⟨j,hj,rfl⟩:=hy
 rw [List.mem_range] at hj
 have hc:(IL (Aj rs) j).length=al.length:=by rw [EP,AX,h.tab.top.len,hl]
 refine Pe.iv_bd _ _ ?_ (Eh ha hc) (fun r hr=>Qi h hj r.2 (List.of_mem_zip hr).2)
 intro e
 have:=congrArg List.length e
 rw [List.length_zip,hc,hl] at this
 simp at this
 omega
theorem Kl {w:World} {A:Option Addr} {n M:Nat} {hi:Int} {rs:List Row} (h:Sq w A n M hi rs) {al ms:List Int} {alt mass:Int} (ha:Pe.Asc al) (hl:al.length=n) (hn:0<n) (hm:Pe.Asc ms) (hml:ms.length=M) (hM:0<M):0<=BQ al ms (Aj rs) alt mass∧BQ al ms (Aj rs) alt mass<=hi:=by
 unfold BQ
 rw [hml]
 have hc:(FX al (Aj rs) M alt).length=ms.length:=by rw [Gp,hml]
 refine Pe.iv_bd _ _ ?_ (Eh hm hc) (fun r hr=>Oj h ha hl hn r.2 (List.of_mem_zip hr).2)
 intro e
 have:=congrArg List.length e
 rw [List.length_zip,hc,hml] at this
 simp at this
 omega
theorem RowI.other {w0 w:World} {g n:Nat} {F:Nat→Int} (h:RowI w0 g n F w) (c i:Nat) (v:Value) (hc:g≠c) (hge:w0.heap.size<=c):RowI w0 g n F (w.setCell ⟨c,i,none⟩ v) :=
 ⟨fun j hj=>by rw [World.cell?_setCell_other w ⟨c,i,none⟩ ⟨g,j,none⟩ _ (by intro e;injection e with e _;omega)];exact h.cell j hj,fun o=>by rw [World.frozen?_setCell];exact h.fr o,by simpa [World.setCell] using h.lt,h.ge,h.bel.setCell (p:=⟨c,i,none⟩) hge _⟩
theorem RowI.drewN {w0 w:World} {g n:Nat} {F:Nat→Int} (h:RowI w0 g n F w) (q:Nat):RowI w0 g n F (w.drewN q):=h.below (Ag (AJ _ _) q)
theorem RowI.madeAt {w0 w:World} (n g:Nat) (hg:w.heap.size=g) (hb:Below w0.heap.size w0 w) (t:TypeId):RowI w0 g n (fun _=>0) (w.alloc (.cells (madeCells #[vI 0] n) t)):=hg ▸ RowI.made n hb t
theorem RowI.ints' {w0 w:World} {g n:Nat} {F:Nat→Int} {l:List Int} (hl:l.length=n) (h:RowI w0 g n F w) (hF:∀ k,k<n→F k=l.getD k 0):Ints w (some ⟨g,0,none⟩) n l :=
 (h.congr (G:=Ec l n) (fun j hj=>by unfold Ec;rw [if_pos hj];exact hF j hj)).ints hl
theorem RD (p:Prf) (A:Option Addr) (c:Nat) (rs:List Row) (alt mass:Int) (w:World) (hl:p.lies w) (hs:Sq w A p.sal.n p.sms.n 50000 rs) (hn0:2<=p.sal.n) (hn:p.sal.n<=12) (hm0:2<=p.sms.n) (hm:p.sms.n<=6) (haa:Pe.Asc p.al) (ham:Pe.Asc p.ms) (hba:∀ y ∈ p.al,-200000<=y∧y<=6000000) (hbm:∀ y ∈ p.ms,1<=y∧y<=3000000000) (halt : -200000<=alt∧alt<=6000000) (hmass:1<=mass∧mass<=3000000000):Calls Tryz.prog 161 #[.agg p.cells.toArray,.slice A p.sal.n c,vI alt,vI mass] w fun e w'=>e=.returned (vI (BQ p.al p.ms (Aj rs) alt mass))∧Below w.heap.size w w':=by
 have HLI:=hid (fun w1 hB=>hl.below (w':=w1) hB);have HS:=hid (fun w1 hB=>hs.below (w':=w1) hB);have HN:=hid (And.intro hl.al.len hl.ms.len);have HRL:=hid hs.tab.top.len;have HTB:=hid (Oj (alt:=alt) hs haa hl.al.len (by omega));have HAA:=hid haa;have HAM:=hid ham;have HVA:=hid (fun (g:Nat) (C:List Int) (W:World) (hB:Below w.heap.size w W) (hC:Ints W (some ⟨g,0,none⟩) p.sal.n C) (hb:∀ y ∈ C,0<=y∧y<=50000)=>JI p.sal.A (some ⟨g,0,none⟩) p.sal.n p.sal.c p.sal.n p.al C alt W (hl.al.below hB) hC (by omega) hn (fun y hy=>by have:=hba y hy;omega) hb (by omega));have HVM:=hid (fun (g:Nat) (C:List Int) (W:World) (hB:Below w.heap.size w W) (hC:Ints W (some ⟨g,0,none⟩) p.sms.n C) (hb:∀ y ∈ C,0<=y∧y<=50000)=>JI p.sms.A (some ⟨g,0,none⟩) p.sms.n p.sms.c p.sms.n p.ms C mass W (hl.ms.below hB) hC (by omega) (by omega) (fun y hy=>by have:=hbm y hy;omega) hb (by omega));have HV:=hid (show BQ p.al p.ms (Aj rs) alt mass=Pe.iv (p.ms.zip (FX p.al (Aj rs) p.sms.n alt)) mass by unfold BQ;rw [hl.ms.len]);have HPC:=hid (show p.cells[3]? = some (.slice p.sal.A p.sal.n p.sal.c)∧p.cells[4]? = some (.slice p.sms.A p.sms.n p.sms.c) from ⟨rfl,rfl⟩);have HBOX:=hid (fun w=>Has.new w p.cells.toArray 26);have hmk:=run_make_row' (P:=Tryz.prog) 23 2 (vI 0) 8 Tryz.underlying23 CU rfl .i64 .i64 p.sal.n (by omega) (by omega);have hmk2:=run_make_row' (P:=Tryz.prog) 23 2 (vI 0) 8 Tryz.underlying23 CU rfl .i64 .i64 p.sms.n (by omega) (by omega);clear hl hs haa ham hba hbm halt hmass;have e3:=HPC.out.1;have e4:=HPC.out.2;generalize BQ p.al p.ms (Aj rs) alt mass=V at *;generalize p.cells=C at *;generalize p.sal.A=A1 at *;generalize p.sal.n=n at *;generalize p.sal.c=c1 at *;generalize p.sms.A=A2 at *;generalize p.sms.n=M at *;generalize p.sms.c=c2 at *;generalize p.al=al at *;generalize p.ms=ms at *
 go_enter Tryz.func161,Tryz.ntmps161
 go_wp2_with fail
 have BP:=hid (((HBOX.out w).alloc (.cells (madeCells #[vI 0] M) 2)).alloc (.cells (madeCells #[vI 0] n) 2));have R1:=hid ((RowI.madeAt (w0:=w) M (w.heap.size+1) (by simp) (Aa w (.cells C.toArray 26)) 2).alloc (.cells (madeCells #[vI 0] n) 2));have R2:=hid (RowI.madeAt (w0:=w) n (w.heap.size+1+1) (by simp) (Cg w (.cells C.toArray 26) (.cells (madeCells #[vI 0] M) 2)) 2);generalize ((w.alloc (.cells C.toArray 26)).alloc (.cells (madeCells #[vI 0] M) 2)).alloc (.cells (madeCells #[vI 0] n) 2)=w1 at *;clear e3 e4
 go_loopw [23] (fun t wr=>∃ j:Nat,j<=M∧t=vI j∧RowI w (w.heap.size+1) M (Ec (FX al (Aj rs) M alt) j) wr∧Has wr w.heap.size C∧∃ G,RowI w (w.heap.size+1+1) n G wr) (fun t _=>M - (intOf t).toNat)
 case atStart=>exact ⟨0,by omega,rfl,R1.out.congr (fun j _=>Fe _ j),BP.out,_,R2.out⟩
 case round =>
  obtain ⟨j,hj,rfl,hR1,hBP,G,hR2⟩:=hrel;replace R1:=hid hR1;replace BP:=hid hBP;replace R2:=hid hR2;clear hR1 hBP hR2
  by_cases hlt:j<M
  rotate_left
  ·have hjm:j=M:=by omega
   exact Abn
  go_wp2_with fail
  go_loopw [28] (fun t wr=>∃ i:Nat,i<=n∧t=vI i∧RowI w (w.heap.size+1) M (Ec (FX al (Aj rs) M alt) j) wr∧Has wr w.heap.size C∧∃ G,(∀ k,k<i→G k=g2 (Aj rs) k j)∧RowI w (w.heap.size+1+1) n G wr) (fun t _=>n - (intOf t).toNat)
  case atStart=>exact ⟨0,by omega,rfl,R1.out,BP.out,_,fun k hk=>by omega,R2.out⟩
  case round =>
   obtain ⟨i,hi,rfl,hR1,hBP,G2,hG,hR2⟩:=hrel;replace R1:=hid hR1;replace BP:=hid hBP;replace R2:=hid hR2;have HG:=hid hG;clear hR1 hBP hR2 hG
   by_cases hil:i<n
   ·obtain ⟨b,off,hA,ct⟩:=Eu (HS.out _ R1.out.bel) (show 0<n by omega)
    obtain ⟨q,hq⟩:=Am HRL.out hil;obtain ⟨b1,o1,x,hA1,hx,x0,x1,c1x⟩:=Bf (HS.out _ R1.out.bel) hq hlt;have hqn:=(HS.out _ R1.out.bel).len q (Au hq);have r0:wr.cell? ⟨b,off+i,none⟩=some (.slice q.A q.n q.c):=ct i q 0 hq
    rw [hA1,hqn] at r0
    have r1:wr.cell? ⟨b1,o1+j,none⟩=some (vI x):=c1x 0;have HX:=hid (BR hq hx);clear ct hq c1x hqn hx hA1;subst hA;have d0:=R2.out.cell i hil;have d1:=R2.out.fr i;have hgl:=R2.out.lt;have hge:=R2.out.ge
    go_wp2_with fail
    go_roundw
    case rel=>exact ⟨i+1,by omega,by go_num,R1.out.other _ _ _ (by omega) hge,BP.out.other _ _ _ (by omega),_,fun k hk=>by
     by_cases e:k=i
     ·subst e;unfold upd;rw [if_pos rfl];exact HX.out.symm
     ·unfold upd;rw [if_neg e];exact HG.out k (by omega),R2.out.set hil x⟩
    case measure=>exact zMs
   ·have hin:i=n:=by omega
    have HI:=hid (R2.out.ints' (l:=IL (Aj rs) j) (by rw [EP,AX];exact HRL.out) (fun k hk=>by rw [GA (by rw [AX,HRL.out];exact hk)];exact HG.out k (by omega)));have k3:=BP.out.cell 3 _ HPC.out.1;have HC:=hid (HVA.out _ _ _ R1.out.bel HI.out (Qi (HS.out _ R1.out.bel) hlt));have HTG:=hid (Jb (al:=al) (T:=Aj rs) (alt:=alt) hlt);generalize Pe.iv (al.zip (IL (Aj rs) j)) alt=V1 at *;clear hin;have d0:=R1.out.cell j hlt;have d1:=R1.out.fr j;have hgl:=R1.out.lt
    go_wp2_with fail
    refine HC.out.mono ?_;rintro e w3 ⟨rfl,q,rfl⟩
    go_wp2_with fail
    go_roundw
    case rel=>exact ⟨j+1,by omega,by go_num,((R1.out.drewN q).set hlt V1).congr (fun k _=>E9 HTG.out k),(BP.out.below (Ag (AJ _ _) q)).other _ _ _ (by omega),_,(R2.out.drewN q).other _ _ _ (by omega) (by omega)⟩
    case measure=>exact zMs
theorem QV (p:Prf) (A:Option Addr) (c:Nat) (rs:List Row) (alt mass:Int) (w:World) (hl:p.lies w) (hs:Sq w A p.sal.n p.sms.n 50000 rs) (hn0:2<=p.sal.n) (hn:p.sal.n<=12) (hm0:2<=p.sms.n) (hm:p.sms.n<=6) (haa:Pe.Asc p.al) (ham:Pe.Asc p.ms) (hba:∀ y ∈ p.al,-200000<=y∧y<=6000000) (hbm:∀ y ∈ p.ms,1<=y∧y<=3000000000) (halt : -200000<=alt∧alt<=6000000) (hmass:1<=mass∧mass<=3000000000):Calls Tryz.prog 186 #[.agg p.cells.toArray,.slice A p.sal.n c,vI alt,vI mass] w fun e w'=>e=.returned (vI (BQ p.al p.ms (Aj rs) alt mass))∧Below w.heap.size w w':=by
 have HLI:=hid (fun w1 hB=>hl.below (w':=w1) hB);have HS:=hid (fun w1 hB=>hs.below (w':=w1) hB);have HN:=hid (And.intro hl.al.len hl.ms.len);have HRL:=hid hs.tab.top.len;have HTB:=hid (Oj (alt:=alt) hs haa hl.al.len (by omega));have HAA:=hid haa;have HAM:=hid ham;have HVA:=hid (fun (g:Nat) (C:List Int) (W:World) (hB:Below w.heap.size w W) (hC:Ints W (some ⟨g,0,none⟩) p.sal.n C) (hb:∀ y ∈ C,0<=y∧y<=50000)=>Mq p.sal.A (some ⟨g,0,none⟩) p.sal.n p.sal.c p.sal.n p.al C alt W (hl.al.below hB) hC (by omega) hn haa (fun y hy=>by have:=hba y hy;omega) hb (by omega));have HVM:=hid (fun (g:Nat) (C:List Int) (W:World) (hB:Below w.heap.size w W) (hC:Ints W (some ⟨g,0,none⟩) p.sms.n C) (hb:∀ y ∈ C,0<=y∧y<=50000)=>Mq p.sms.A (some ⟨g,0,none⟩) p.sms.n p.sms.c p.sms.n p.ms C mass W (hl.ms.below hB) hC (by omega) (by omega) ham (fun y hy=>by have:=hbm y hy;omega) hb (by omega));have HV:=hid (show BQ p.al p.ms (Aj rs) alt mass=Pe.iv (p.ms.zip (FX p.al (Aj rs) p.sms.n alt)) mass by unfold BQ;rw [hl.ms.len]);have HPC:=hid (show p.cells[3]? = some (.slice p.sal.A p.sal.n p.sal.c)∧p.cells[4]? = some (.slice p.sms.A p.sms.n p.sms.c) from ⟨rfl,rfl⟩);have HBOX:=hid (fun w=>Has.new w p.cells.toArray 26);have hmk:=run_make_row' (P:=Tryz.prog) 23 2 (vI 0) 8 Tryz.underlying23 CU rfl .i64 .i64 p.sal.n (by omega) (by omega);have hmk2:=run_make_row' (P:=Tryz.prog) 23 2 (vI 0) 8 Tryz.underlying23 CU rfl .i64 .i64 p.sms.n (by omega) (by omega);clear hl hs haa ham hba hbm halt hmass;have e3:=HPC.out.1;have e4:=HPC.out.2;generalize BQ p.al p.ms (Aj rs) alt mass=V at *;generalize p.cells=C at *;generalize p.sal.A=A1 at *;generalize p.sal.n=n at *;generalize p.sal.c=c1 at *;generalize p.sms.A=A2 at *;generalize p.sms.n=M at *;generalize p.sms.c=c2 at *;generalize p.al=al at *;generalize p.ms=ms at *
 go_enter Tryz.func186,Tryz.ntmps186
 go_wp2_with fail
 have BP:=hid ((HBOX.out w).alloc (.cells (madeCells #[vI 0] M) 2));have R1:=hid (RowI.madeAt (w0:=w) M (w.heap.size+1) (by simp) (Aa w (.cells C.toArray 26)) 2);generalize (w.alloc (.cells C.toArray 26)).alloc (.cells (madeCells #[vI 0] M) 2)=w1 at *;clear e3 e4
 go_loopw [19] (fun t wr=>∃ j:Nat,j<=M∧t=vI j∧RowI w (w.heap.size+1) M (Ec (FX al (Aj rs) M alt) j) wr∧Has wr w.heap.size C) (fun t _=>M - (intOf t).toNat)
 case atStart=>exact ⟨0,by omega,rfl,R1.out.congr (fun j _=>Fe _ j),BP.out⟩
 case round =>
  obtain ⟨j,hj,rfl,hR1,hBP⟩:=hrel;replace R1:=hid hR1;replace BP:=hid hBP;clear hR1 hBP
  by_cases hlt:j<M
  rotate_left
  ·have hjm:j=M:=by omega
   exact Abn
  have hsz:w.heap.size+1<wr.heap.size:=R1.out.lt;have k3:wr.cell? ⟨w.heap.size,3,none⟩=some (.slice A1 n c1):=BP.out.cell 3 _ HPC.out.1
  go_wp2_with fail
  clear k3;replace BP:=hid (BP.out.alloc (.cells (madeCells #[vI 0] n) 2));have R2:=hid (RowI.made (w0:=w) (w:=wr) n R1.out.bel 2);replace R1:=hid (R1.out.alloc (.cells (madeCells #[vI 0] n) 2));generalize hw2:wr.alloc (.cells (madeCells #[vI 0] n) 2)=w2 at *;generalize hgc:wr.heap.size=gc at *
  go_loopw [28] (fun t wr=>∃ i:Nat,i<=n∧t=vI i∧RowI w (w.heap.size+1) M (Ec (FX al (Aj rs) M alt) j) wr∧Has wr w.heap.size C∧∃ G,(∀ k,k<i→G k=g2 (Aj rs) k j)∧RowI w (gc) n G wr) (fun t _=>n - (intOf t).toNat)
  case atStart=>exact ⟨0,by omega,rfl,R1.out,BP.out,_,fun k hk=>by omega,R2.out⟩
  case round =>
   obtain ⟨i,hi,rfl,hR1,hBP,G2,hG,hR2⟩:=hrel;replace R1:=hid hR1;replace BP:=hid hBP;replace R2:=hid hR2;have HG:=hid hG;clear hR1 hBP hR2 hG
   by_cases hil:i<n
   ·obtain ⟨b,off,hA,ct⟩:=Eu (HS.out _ R1.out.bel) (show 0<n by omega)
    obtain ⟨q,hq⟩:=Am HRL.out hil;obtain ⟨b1,o1,x,hA1,hx,x0,x1,c1x⟩:=Bf (HS.out _ R1.out.bel) hq hlt;have hqn:=(HS.out _ R1.out.bel).len q (Au hq);have r0:wr.cell? ⟨b,off+i,none⟩=some (.slice q.A q.n q.c):=ct i q 0 hq
    rw [hA1,hqn] at r0
    have r1:wr.cell? ⟨b1,o1+j,none⟩=some (vI x):=c1x 0;have HX:=hid (BR hq hx);clear ct hq c1x hqn hx hA1;subst hA;have d0:=R2.out.cell i hil;have d1:=R2.out.fr i;have hgl:=R2.out.lt;have hge:=R2.out.ge
    go_wp2_with fail
    go_roundw
    case rel=>exact ⟨i+1,by omega,by go_num,R1.out.other _ _ _ (by have:=hsz;omega) hge,BP.out.other _ _ _ (by have:=hsz;omega),_,fun k hk=>by
     by_cases e:k=i
     ·subst e;unfold upd;rw [if_pos rfl];exact HX.out.symm
     ·unfold upd;rw [if_neg e];exact HG.out k (by omega),R2.out.set hil x⟩
    case measure=>exact zMs
   ·have hin:i=n:=by omega
    have HI:=hid (R2.out.ints' (l:=IL (Aj rs) j) (by rw [EP,AX];exact HRL.out) (fun k hk=>by rw [GA (by rw [AX,HRL.out];exact hk)];exact HG.out k (by omega)));have k3:=BP.out.cell 3 _ HPC.out.1;have HC:=hid (HVA.out _ _ _ R1.out.bel HI.out (Qi (HS.out _ R1.out.bel) hlt));have HTG:=hid (Jb (al:=al) (T:=Aj rs) (alt:=alt) hlt);generalize Pe.iv (al.zip (IL (Aj rs) j)) alt=V1 at *;clear hin;have d0:=R1.out.cell j hlt;have d1:=R1.out.fr j;have hgl:=R1.out.lt
    go_wp2_with fail
    refine HC.out.mono ?_;rintro e w3 ⟨rfl,q,rfl⟩
    go_wp2_with fail
    go_roundw
    case rel=>exact ⟨j+1,by omega,by go_num,((R1.out.drewN q).set hlt V1).congr (fun k _=>E9 HTG.out k),(BP.out.below (Ag (AJ _ _) q)).other _ _ _ (by omega)⟩
    case measure=>exact zMs
