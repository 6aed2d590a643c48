
/- Layer 31: Check, of the program and of the reference. -/
import Derived.Test.YtedcanagfajcgaaGreatM25
import Derived.Test.YtedcanagfajcgaaGreatM53
import Derived.Test.YtedcanagfajcgaaGreatM12
import Derived.Deep.MidRow
set_option linter.unusedSimpArgs false
set_option linter.unusedVariables false
set_option maxRecDepth 100000
set_option maxHeartbeats 8000000
namespace Go.Proofs
theorem RN{G:Prop}(h:G:=by
  all_goals (go_ret;refine ⟨Af (HE.out.trans ?_).symm,HB.out⟩;unfold pfL;clear K;repeat (first | refine (F9 tT).trans ?_ | exact IQ tT | refine (Uw tT2).trans ?_ | exact Uv tT2 | rfl))):G:=h
end Go.Proofs
namespace Go.Proofs.YtedcanagfajcgaaGreat
open Go.RowKit
open Go.Lib (hid)
def Em:List (Bool × Int)→Int
 | []=>0
 | (b,e) :: l=>if b=true then Em l else e
theorem F9 {b:Bool} {e:Int} {l:List (Bool × Int)} (h:b=true):Em ((b,e) :: l)=Em l:=if_pos h
theorem IQ {b:Bool} {e:Int} {l:List (Bool × Int)} (h:b=false):Em ((b,e) :: l)=e:=if_neg (by rw [h];decide)
theorem KM:∀ {l:List (Bool × Int)},(∀ q ∈ l,q.2≠0)→Em l=0→∀ q ∈ l,q.1=true
 | [],_,_,q,hq=>by simp at hq
 | (b,e) :: l,he,h,q,hq=>by
  cases b with
  | false=>rw [IQ rfl] at h;exact absurd h (he (false,e) (by simp))
  | true =>
   rw [F9 rfl] at h
   rcases List.mem_cons.1 hq with rfl | hq
   ·rfl
   ·exact KM (fun q hq=>he q (List.mem_cons_of_mem _ hq)) h q hq
def pfL (p:Prf):List (Bool × Int):=[(nmB p.nm 8,5),(inB p.em 1 3000000000,2),(inB p.mf 1 (3000000000 - p.em),2),(decide (2<=p.sal.n),3),(decide (p.sal.n<=12),3),(decide (2<=p.sms.n),3),(decide (p.sms.n<=6),3),(EW (Aj p.cl) p.sal.n p.sms.n,1),(EW (Aj p.cf) p.sal.n p.sms.n,1),(EW (Aj p.cr) p.sal.n p.sms.n,1),(decide (p.sde.n=p.sal.n),1),(decide (p.sid.n=p.sal.n),1),(decide (p.smx.n=p.sal.n),1),(decide (p.smn.n=p.sms.n),1),(KA p.al,9),(KA p.ms,9),(BK p.al (-200000) 6000000,2),(inB p.ce (-200000) 6000000,2),(BK p.ms 1 3000000000,2),(FW (Aj p.cl) 0 10000,2),(BK p.de 1 10000,2),(FW (Aj p.cf) 0 50000,2),(FW (Aj p.cr) 0 50000,2),(BK p.id 0 50000,2),(BK p.mx 1 1000,2),(BK p.mn 1 1000,2),(inB p.rf 1 1000,2),(inB p.ex 0 100,2),(Gd (Aj p.cl),11),(gnB p.al (Aj p.cl),11),(Fp (Aj p.cf),11),(Fp (Aj p.cr),11),(upB p.de,11),(dnB p.id,11),(dnB p.mx,11),(upB p.mn,11)]
def pfE (p:Prf):Int:=Em (pfL p)
theorem CQ {P:Program} {ops:Array Oper} {rest:List Oper} {op:Oper} {a:Act} {w:World} {Q:Exit→Act→World→Prop} (ty:TypeId) (x:Operand) (ho:op.op=.load ty x) (hw:Region.wanted op (yielded ops a.tmps)=true)
  (b o:Nat) (hx:a.eval x=.pointer (some ⟨b,o,none⟩)) (cs:List Value) (d:TypeDesc) (hc:w.rangeAt b o cs)
  (hu:P.underlying ty=some d) (hd:d.isRow=true) (hi:(P.info? ty).map (·.size)=some cs.length)
  (h:wpList P ops Q rest (a.put op.dst (.agg cs.toArray)) w):wpList P ops Q (op :: rest) a w:=by
 unfold wpList
 rw [if_pos hw]
 exact .inl (wp_load_mid ty x ho b o hx cs d hc hu hd hi h)
theorem Has.range {W:World} {b:Nat} {cs ds:List Value} (h:Has W b cs) (o:Nat) (hd:∀ j v,ds[j]? = some v→cs[o+j]? = some v):W.rangeAt b o ds:=fun j v hv=>h.cell (o+j) v (hd j v hv)
theorem Dw {ops:Array Oper} {rest:List Oper} {op:Oper} {a:Act} {w:World} {Q:Exit→Act→World→Prop} {p:Prf} {b:Nat} (x:Operand) (ho:op.op=.load 26 x) (hw:Region.wanted op (yielded ops a.tmps)=true)
  (hx:a.eval x=.pointer (some ⟨b,0,none⟩)) (hc:Has w b p.cells) (h:wpList Tryz.prog ops Q rest (a.put op.dst (.agg p.cells.toArray)) w):wpList Tryz.prog ops Q (op :: rest) a w :=
 CQ 26 x ho hw b 0 hx p.cells _ (hc.range 0 (fun j v hv=>by rw [Nat.zero_add];exact hv)) Tryz.underlying26 rfl (by kernel_rfl) h
theorem Di {w:World} {A:Option Addr} {n N M:Nat} {rs:List Row} (h:EW (Aj rs) N M=true) (ht:Tab w A n rs):n=N∧∀ r ∈ rs,r.n=M:=by
 unfold EW at h
 rw [Bool.and_eq_true,decide_eq_true_eq,List.all_eq_true,AX,ht.top.len] at h
 refine ⟨h.1,fun r hr=>?_⟩
 have:=h.2 r.l (List.mem_map.2 ⟨r,hr,rfl⟩)
 rw [decide_eq_true_eq,(ht.row r hr).len] at this
 exact this
theorem Zx {rs:List Row} {lo hi:Int} (h:FW (Aj rs) lo hi=true):∀ r ∈ rs,∀ x ∈ r.l,lo<=x∧x<=hi:=by
 intro r hr x hx
 unfold FW at h
 rw [List.all_eq_true] at h
 have:=h r.l (List.mem_map.2 ⟨r,hr,rfl⟩)
 unfold BK at this
 rw [List.all_eq_true] at this
 exact Al.1 (this x hx)
theorem Ci {l:List Int} {lo hi:Int} (h:BK l lo hi=true):∀ x ∈ l,lo<=x∧x<=hi:=by
 intro x hx
 unfold BK at h
 rw [List.all_eq_true] at h
 exact Al.1 (h x hx)
theorem Sq.of {w:World} {A:Option Addr} {n N M:Nat} {rs:List Row} {hi:Int} (ht:Tab w A n rs) (h1:EW (Aj rs) N M=true) (h2:FW (Aj rs) 0 hi=true):Sq w A n M hi rs:=⟨ht,(Di h1 ht).2,Zx h2⟩
theorem RX {l:List Int} {lo hi HI:Int} (h0:0<=lo) (h1:hi<=HI) (h:∀ x ∈ l,lo<=x∧x<=hi):∀ x ∈ l,0<=x∧x<=HI:=fun x hx=>by have:=h x hx;omega
theorem QS (x lo hi:Int) (H:Nat) (w:World) (hl:Ints w (some ⟨H,0,none⟩) 1 [x]):Calls Tryz.prog 135 #[.slice (some ⟨H,0,none⟩) 1 1,vI lo,vI hi] w fun e w'=>e=.returned (.bool (inB x lo hi))∧w=w' :=
 (QO _ 1 1 [x] lo hi w hl (by unfold maxLen;omega)).mono fun e w' ⟨h1,h2⟩=>⟨by rw [h1];simp [BK],h2⟩
theorem Uv {a b:Bool} {e:Int} {l:List (Bool × Int)} (h:(a && b)=false):Em ((a,e) :: (b,e) :: l)=e:=by
 cases a with
 | false=>exact IQ rfl
 | true=>rw [F9 rfl];exact IQ (by simpa using h)
theorem Uw {a b:Bool} {e f:Int} {l:List (Bool × Int)} (h:(a && b)=true):Em ((a,e) :: (b,f) :: l)=Em l:=by
 rw [Bool.and_eq_true] at h
 rw [F9 h.1,F9 h.2]
theorem Fs {p:Prf} {W:World} {b:Nat} (h:Has W b p.cells):W.cell? ⟨b,0,none⟩=some (.string p.nm)∧W.cell? ⟨b,1,none⟩=some (vI p.em)∧W.cell? ⟨b,2,none⟩=some (vI p.mf)∧W.cell? ⟨b,3,none⟩=some (.slice p.sal.A p.sal.n p.sal.c)∧W.cell? ⟨b,4,none⟩=some (.slice p.sms.A p.sms.n p.sms.c)∧W.cell? ⟨b,5,none⟩=some (.slice p.scl.A p.scl.n p.scl.c)∧W.cell? ⟨b,6,none⟩=some (.slice p.scf.A p.scf.n p.scf.c)∧W.cell? ⟨b,7,none⟩=some (.slice p.scr.A p.scr.n p.scr.c)∧W.cell? ⟨b,8,none⟩=some (.slice p.sde.A p.sde.n p.sde.c)∧W.cell? ⟨b,9,none⟩=some (.slice p.sid.A p.sid.n p.sid.c)∧W.cell? ⟨b,10,none⟩=some (.slice p.smx.A p.smx.n p.smx.c)∧W.cell? ⟨b,11,none⟩=some (.slice p.smn.A p.smn.n p.smn.c)∧W.cell? ⟨b,12,none⟩=some (vI p.rf)∧W.cell? ⟨b,13,none⟩=some (vI p.ex)∧W.cell? ⟨b,14,none⟩=some (vI p.ce):=⟨h.cell 0 _ rfl,h.cell 1 _ rfl,h.cell 2 _ rfl,h.cell 3 _ rfl,h.cell 4 _ rfl,h.cell 5 _ rfl,h.cell 6 _ rfl,h.cell 7 _ rfl,h.cell 8 _ rfl,h.cell 9 _ rfl,h.cell 10 _ rfl,h.cell 11 _ rfl,h.cell 12 _ rfl,h.cell 13 _ rfl,h.cell 14 _ rfl⟩
theorem AaT {p:Prf} {W:World} {b:Nat} (h:Has W b p.cells):(∀ m,(W.drewN m).cell? ⟨b,3,none⟩=some (.slice p.sal.A p.sal.n p.sal.c))∧∀ m,(W.drewN m).cell? ⟨b,4,none⟩=some (.slice p.sms.A p.sms.n p.sms.c):=⟨fun m=>(BC W m _).trans (h.cell 3 _ rfl),fun m=>(BC W m _).trans (h.cell 4 _ rfl)⟩
theorem dB {w w':World} (h:∃ q,w'=w.drewN q):Below w.heap.size w w':=by obtain ⟨q,rfl⟩:=h;exact Ag (AJ _ _) q
theorem tT {b v:Bool} (h:b=v:=by first | assumption | exact Bool.eq_false_iff.2 (by assumption) | exact Eq.mp (Bool.not_eq_true' _) (by assumption) | exact Eq.mp (Bool.not_eq_false' _) (by assumption) | exact Ct (by omega) | exact BJ (by omega) | exact Al.2 (by omega) | exact Dz.2 (by omega) | exact Ct (Int.ofNat_inj.1 (bne_eq_false_iff_eq.1 (by assumption))) | exact BJ (fun e=>(bne_iff_ne.1 (by assumption)) (congrArg Nat.cast e))):b=v:=h
theorem tT2 {b v:Bool} (h:b=v:=by exact HCB.out.trans tT):b=v:=h
theorem P7 (p:Prf) (w:World) (hl:p.lies w) (hok:p.ok):Calls Tryz.prog 49 #[.agg p.cells.toArray] w fun e w'=>e=.returned (vI (pfE p))∧Below w.heap.size w w':=by
 have BP:=hid (Has.new w p.cells.toArray 26);have HB:=hid (Aa w (.cells p.cells.toArray 26));have HL:=hid (fun w1 hB=>hl.below (w':=w1) hB);have HOK:=hid hok;have HE:=hid (show pfE p=Em (pfL p) from rfl);have b3:=hok.al;have b4:=hok.ms;have b8:=hok.de;have b9:=hok.id;have b10:=hok.mx;have b11:=hok.mn
 unfold maxLen at b3 b4 b8 b9 b10 b11
 have WE:inB p.em 1 3000000000=true→IntKind.i64.wrap (3000000000 - p.em)=3000000000 - p.em:=fun h=>IntWalk.i64_in _ (by have:=Al.1 h;omega);clear hl hok
 go_enter Tryz.func49,Tryz.ntmps49
 go_wp2_with fail
 generalize w.alloc (.cells p.cells.toArray 26)=w1 at *;obtain ⟨k3,k4⟩:=AaT BP.out
 go_quiet (fail)
 clear k3 k4;replace BP:=hid (BP.out.below (Ag (AJ _ _) nq));replace HB:=hid (Ag HB.out nq);generalize w1.drewN nq=w2 at *;have K:=Fs BP.out
 go_wp2_with fail
 refine (AeM p.nm 8 _ HOK.out.nm (by unfold maxLen;omega)).mono ?_;rintro e wx ⟨rfl,rfl⟩
 go_wp2_with (first
  | (with_reducible refine (ML _ _ _ _).mono ?_;rintro e wx ⟨rfl,rfl⟩)
  | (with_reducible refine (XR _ _ _ _ _ _ _ (by first | exact (HL.out _ HB.out).al | exact (HL.out _ HB.out).ms | exact (HL.out _ HB.out).de | exact (HL.out _ HB.out).id | exact (HL.out _ HB.out).mx | exact (HL.out _ HB.out).mn) (by first | exact HOK.out.al | exact HOK.out.ms | exact HOK.out.de | exact HOK.out.id | exact HOK.out.mx | exact HOK.out.mn)).mono ?_;rintro e wx ⟨rfl,rfl⟩)
  | (with_reducible refine (ZV _ _ _ _ _ _ _ (by first | exact (HL.out _ HB.out).cl | exact (HL.out _ HB.out).cf | exact (HL.out _ HB.out).cr) (by first | exact HOK.out.cl | exact HOK.out.cf | exact HOK.out.cr) (by first | exact HOK.out.rcl | exact HOK.out.rcf | exact HOK.out.rcr)).mono ?_;rintro e wx ⟨rfl,rfl⟩)
  | (with_reducible refine (Ac3 _ _ _ _ _ (by first | exact (HL.out _ HB.out).al | exact (HL.out _ HB.out).ms) (by first | exact HOK.out.al | exact HOK.out.ms)).mono ?_;rintro e w1 ⟨rfl,hq⟩;have hB:=dB hq;clear hq;replace BP:=hid (BP.out.below hB);replace HB:=hid (Ae HB.out hB);clear K hB;have K:=Fs BP.out)
  | (with_reducible refine (AeK p.scl.A _ _ p.sms.n 10000 p.cl _ (Sq.of (HL.out _ HB.out).cl tT tT) (by decide) HOK.out.cl HOK.out.ms).mono ?_;rintro e w1 ⟨rfl,hq⟩;have hB:=dB hq;clear hq;replace BP:=hid (BP.out.below hB);replace HB:=hid (Ae HB.out hB);clear K hB;have K:=Fs BP.out)
  | (with_reducible refine (AeL _ _ _ p.sms.n 50000 _ _ (by first | exact (Sq.of (HL.out _ HB.out).cf tT tT) | exact (Sq.of (HL.out _ HB.out).cr tT tT)) (by decide) (by first | exact HOK.out.cf | exact HOK.out.cr) HOK.out.ms).mono ?_;rintro e w1 ⟨rfl,hq⟩;have hB:=dB hq;clear hq;replace BP:=hid (BP.out.below hB);replace HB:=hid (Ae HB.out hB);clear K hB;have K:=Fs BP.out)
  | (with_reducible refine (TZ _ _ _ p.de _ (HL.out _ HB.out).de HOK.out.de (RX (lo:=1) (hi:=10000) (by decide) (by decide) (Ci tT))).mono ?_;rintro e w1 ⟨rfl,hq⟩;have hB:=dB hq;clear hq;replace BP:=hid (BP.out.below hB);replace HB:=hid (Ae HB.out hB);clear K hB;have K:=Fs BP.out)
  | (with_reducible refine (TZ _ _ _ p.mn _ (HL.out _ HB.out).mn HOK.out.mn (RX (lo:=1) (hi:=1000) (by decide) (by decide) (Ci tT))).mono ?_;rintro e w1 ⟨rfl,hq⟩;have hB:=dB hq;clear hq;replace BP:=hid (BP.out.below hB);replace HB:=hid (Ae HB.out hB);clear K hB;have K:=Fs BP.out)
  | (with_reducible refine (TQ _ _ _ p.id _ (HL.out _ HB.out).id HOK.out.id (RX (lo:=0) (hi:=50000) (by decide) (by decide) (Ci tT))).mono ?_;rintro e w1 ⟨rfl,hq⟩;have hB:=dB hq;clear hq;replace BP:=hid (BP.out.below hB);replace HB:=hid (Ae HB.out hB);clear K hB;have K:=Fs BP.out)
  | (with_reducible refine (TQ _ _ _ p.mx _ (HL.out _ HB.out).mx HOK.out.mx (RX (lo:=1) (hi:=1000) (by decide) (by decide) (Ci tT))).mono ?_;rintro e w1 ⟨rfl,hq⟩;have hB:=dB hq;clear hq;replace BP:=hid (BP.out.below hB);replace HB:=hid (Ae HB.out hB);clear K hB;have K:=Fs BP.out)
  | (refine (Ac8 p _ _ _ _ _ HOK.out (by first | exact (HL.out _ HB.out).cl | exact (HL.out _ HB.out).cf | exact (HL.out _ HB.out).cr) (by first | exact HOK.out.cl | exact HOK.out.cf | exact HOK.out.cr) (by first | exact HOK.out.rcl | exact HOK.out.rcf | exact HOK.out.rcr)).mono ?_;rintro e w1 ⟨rfl,hB⟩;replace BP:=hid (BP.out.below hB);replace HB:=hid (Ae HB.out hB);clear K hB;have K:=Fs BP.out)
  | (refine (Z5 p _ (HL.out _ HB.out) (Sq.of (HL.out _ HB.out).cl tT tT) HOK.out (Di tT (HL.out _ HB.out).cl).1 (Ci tT)).mono ?_;rintro e w1 ⟨rfl,hB⟩;replace BP:=hid (BP.out.below hB);replace HB:=hid (Ae HB.out hB);clear K hB;have K:=Fs BP.out))
 all_goals exact RN
theorem Pt (p:Prf) (w:World) (hl:p.lies w) (hok:p.ok):Calls Tryz.prog 73 #[.agg p.cells.toArray] w fun e w'=>e=.returned (vI (pfE p))∧Below w.heap.size w w':=by
 have BP:=hid (Has.new w p.cells.toArray 26);have HB:=hid (Aa w (.cells p.cells.toArray 26));have HL:=hid (fun w1 hB=>hl.below (w':=w1) hB);have HOK:=hid hok;have HE:=hid (show pfE p=Em (pfL p) from rfl);have b3:=hok.al;have b4:=hok.ms;have b8:=hok.de;have b9:=hok.id;have b10:=hok.mx;have b11:=hok.mn
 unfold maxLen at b3 b4 b8 b9 b10 b11
 have WE:inB p.em 1 3000000000=true→IntKind.i64.wrap (3000000000 - p.em)=3000000000 - p.em:=fun h=>IntWalk.i64_in _ (by have:=Al.1 h;omega);clear hl hok
 go_enter Tryz.func73,Tryz.ntmps73
 go_wp2_with fail
 generalize w.alloc (.cells p.cells.toArray 26)=w1 at *;obtain ⟨k3,k4⟩:=AaT BP.out
 go_quiet (fail)
 clear k3 k4;replace BP:=hid (BP.out.below (Ag (AJ _ _) nq));replace HB:=hid (Ag HB.out nq);generalize w1.drewN nq=w2 at *;have K:=Fs BP.out
 go_wp2_with fail
 refine (Aer p.nm 8 _ HOK.out.nm (by unfold maxLen;omega)).mono ?_;rintro e wx ⟨rfl,rfl⟩
 go_wp2_with (first
  | (with_reducible refine (QO _ _ _ _ _ _ _ (by first | exact (HL.out _ HB.out).al | exact (HL.out _ HB.out).ms | exact (HL.out _ HB.out).de | exact (HL.out _ HB.out).id | exact (HL.out _ HB.out).mx | exact (HL.out _ HB.out).mn) (by first | exact HOK.out.al | exact HOK.out.ms | exact HOK.out.de | exact HOK.out.id | exact HOK.out.mx | exact HOK.out.mn)).mono ?_;rintro e wx ⟨rfl,rfl⟩)
  | (with_reducible refine (Zj _ _ _ _ _ _ _ (by first | exact (HL.out _ HB.out).cl | exact (HL.out _ HB.out).cf | exact (HL.out _ HB.out).cr) (by first | exact HOK.out.cl | exact HOK.out.cf | exact HOK.out.cr) (by first | exact HOK.out.rcl | exact HOK.out.rcf | exact HOK.out.rcr)).mono ?_;rintro e wx ⟨rfl,rfl⟩)
  | (with_reducible refine (AcD _ _ _ _ _ (by first | exact (HL.out _ HB.out).al | exact (HL.out _ HB.out).ms) (by first | exact HOK.out.al | exact HOK.out.ms)).mono ?_;rintro e w1 ⟨rfl,hq⟩;have hB:=dB hq;clear hq;replace BP:=hid (BP.out.below hB);replace HB:=hid (Ae HB.out hB);clear K hB;have K:=Fs BP.out)
  | (with_reducible refine (AcL _ _ _ _ p.sal.n p.sms.n _ (by first | exact (HL.out _ HB.out).cl | exact (HL.out _ HB.out).cf | exact (HL.out _ HB.out).cr) (by first | exact HOK.out.cl | exact HOK.out.cf | exact HOK.out.cr) HOK.out.al HOK.out.ms (by first | exact HOK.out.rcl | exact HOK.out.rcf | exact HOK.out.rcr)).mono ?_;rintro e wx ⟨rfl,rfl⟩)
  | (with_reducible refine (AcF _ _ _ p.sms.n 50000 _ _ (by first | exact (Sq.of (HL.out _ HB.out).cf tT tT) | exact (Sq.of (HL.out _ HB.out).cr tT tT)) (by decide) (by first | exact HOK.out.cf | exact HOK.out.cr) HOK.out.ms).mono ?_;rintro e w1 ⟨rfl,hq⟩;have hB:=dB hq;clear hq;replace BP:=hid (BP.out.below hB);replace HB:=hid (Ae HB.out hB);clear K hB;have K:=Fs BP.out)
  | (with_reducible refine (Aew _ _ _ _ _ (by first | exact (HL.out _ HB.out).de | exact (HL.out _ HB.out).mn) (by first | exact HOK.out.de | exact HOK.out.mn)).mono ?_;rintro e w1 ⟨rfl,hq⟩;have hB:=dB hq;clear hq;replace BP:=hid (BP.out.below hB);replace HB:=hid (Ae HB.out hB);clear K hB;have K:=Fs BP.out)
  | (with_reducible refine (Aen _ _ _ _ _ (by first | exact (HL.out _ HB.out).id | exact (HL.out _ HB.out).mx) (by first | exact HOK.out.id | exact HOK.out.mx)).mono ?_;rintro e w1 ⟨rfl,hq⟩;have hB:=dB hq;clear hq;replace BP:=hid (BP.out.below hB);replace HB:=hid (Ae HB.out hB);clear K hB;have K:=Fs BP.out)
  | (with_reducible refine (QS p.ce _ _ _ _ (Ints.of_alloc _ #[vI p.ce] 2 [p.ce] 1 rfl rfl _ (by simp))).mono ?_;rintro e wx ⟨rfl,rfl⟩;replace BP:=hid (BP.out.alloc (.cells #[vI p.ce] 2));replace HB:=hid (Bh HB.out (.cells #[vI p.ce] 2));clear K;have K:=Fs BP.out)
  | (with_reducible refine (QS p.rf _ _ _ _ (Ints.of_alloc _ #[vI p.rf] 2 [p.rf] 1 rfl rfl _ (by simp))).mono ?_;rintro e wx ⟨rfl,rfl⟩;replace BP:=hid (BP.out.alloc (.cells #[vI p.rf] 2));replace HB:=hid (Bh HB.out (.cells #[vI p.rf] 2));clear K;have K:=Fs BP.out)
  | (with_reducible refine (QS p.ex _ _ _ _ (Ints.of_alloc _ #[vI p.ex] 2 [p.ex] 1 rfl rfl _ (by simp))).mono ?_;rintro e wx ⟨rfl,rfl⟩;replace BP:=hid (BP.out.alloc (.cells #[vI p.ex] 2));replace HB:=hid (Bh HB.out (.cells #[vI p.ex] 2));clear K;have K:=Fs BP.out)
  | (refine (Zl p _ (HL.out _ HB.out) (Sq.of (HL.out _ HB.out).cl tT tT) HOK.out (Di tT (HL.out _ HB.out).cl).1 (Ci tT)).mono ?_;rintro e w1 ⟨rfl,hB⟩;replace BP:=hid (BP.out.below hB);replace HB:=hid (Ae HB.out hB);clear K hB;have K:=Fs BP.out;generalize hCB:(Gd (Aj p.cl) && gnB p.al (Aj p.cl))=CB;have HCB:=hid hCB;clear hCB))
 all_goals exact RN
