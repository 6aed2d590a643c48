/- M26: Pl, TrD, TrE in one text. -/
import Derived.Test.YtedcanagfajcgaaGreatM18
import Derived.Test.YtedcanagfajcgaaGreatM13
import Derived.Test.YtedcanagfajcgaaGreatM31
import Derived.Laws.EntriesVeiled
set_option linter.unusedSimpArgs false
set_option linter.unusedVariables false
set_option maxRecDepth 100000
set_option maxHeartbeats 4000000
namespace Go.Proofs
theorem Uf{G:Prop}(h:G:=by
  go_wp2_with fail
  refine (HO.out _).mono ?_;rintro e w1 ⟨rfl,rfl⟩
  go_wp2_with fail
  refine (HP.out _).mono ?_;rintro e w1 ⟨rfl,rfl⟩
  go_wp2_with fail
  go_ret2
  exact ⟨Ay HV.out.symm HE.out.symm,AJ _ _⟩):G:=h
theorem LJ{G:Prop}(h:G:=by
  go_wp2_with fail
  go_ret2
  exact ⟨Ay HE.out.symm HZ.out.symm,HBF.out⟩):G:=h
theorem MQ{G:Prop}(h:G:=by
  go_wp2
  go_ret
  exact ⟨Mw (by rw [hv.out];simp;omega),rfl⟩):G:=h
theorem Ug{G:Prop}(h:G:=by
  go_wp2_with fail
  go_ret2
  exact ⟨Ay HE.out.symm rfl,rfl⟩):G:=h
theorem Abz{G:Prop}(h:G:=by
  go_wp2_with fail
  refine (HO.out _).mono ?_;rintro e w1 ⟨rfl,rfl⟩
  go_wp2_with fail
  go_ret2
  exact ⟨Ay HV.out.symm HE.out.symm,AJ _ _⟩):G:=h
theorem AbA{G:Prop}(h:G:=by
  go_wp2_with fail
  refine HC2.out.mono ?_;rintro e w1 ⟨rfl,hB1⟩
  have HB1:=hid hB1;clear hB1
  go_wp2_with fail
  go_ret2
  exact FIN.out _ HB1.out):G:=h
end Go.Proofs
namespace Go.Proofs.YtedcanagfajcgaaGreat
open Go.RowKit
open Go.Lib (hid)
def Kv (f:Int × Int→Int) (ws st:Cs.Wins) (n:Nat) (w:World) (e:Ending) (w':World):Prop :=
 (Cs.tgE ws st=0→∃ A c,e=.returned (.tuple #[.slice A n c,vI 0])∧Ints w' A n ((Cs.tight ws st).map f))∧(Cs.tgE ws st≠0→e=.returned (.tuple #[.slice none 0 0,vI (Cs.tgE ws st)]))∧Below w.heap.size w w'
def Adp (w:World) (g n:Nat) (l:List Int) (t:Value) (wr:World):Prop:=∃ k:Nat,k<=n∧t=vI k∧RowI w g n (Ec l k) wr
def Adq (w:World) (n:Nat) (l:List Int) (v t:Value) (wr:World):Prop:=∃ k:Nat,k<=n∧t=vI k∧wr.ownsRow w.heap.size 2 1 v k ((l.take k).map fun x=>vI x)∧Below w.heap.size w wr
theorem Abb {ws st:Cs.Wins} (h:Cs.tgE ws st=0):ws.length<=64:=(Cs.csOk_of (Cs.tgE_0 h).1).len
theorem JH (A S:Option Addr) (n cn m cm:Nat) (ws st:Cs.Wins) (w:World) (hw:Pairs w A n ws) (hs:Pairs w S m st) (hn:n<=maxLen) (hm:m<=maxLen) (hmc:m<=cm) (hcm:cm<=maxLen) :
  Calls Tryz.prog 219 #[.slice A n cn,.slice S m cm] w (Kv (fun p=>p.2) ws st n w):=by
 have HC:=hid (X7 A S n cn m cm ws st w hw hs hn hm hmc hcm);have HN:=hid hw.len
 by_cases he:Cs.tgE ws st=0
 ·have hn64:n<=64:=by have:=Abb he;have:=hw.len;omega
  have HE:=hid he
  have HC2:=hid (HC.out.mono (R':=fun e w'=>∃ A' c',e=.returned (.tuple #[.slice A' n c',vI 0])∧Pairs w' A' n (Cs.tight ws st)∧Below w.heap.size w w') fun e w' h=>by
   obtain ⟨A',c',h1,h2⟩:=h.1 he
   exact ⟨A',c',h1,h2,h.2.2⟩)
  have HL:=hid (show ((Cs.tight ws st).map fun p=>p.2).length=n by rw [List.length_map,Cs.tight_len];exact HN.out);clear hw hs he HC hn hm;have hmk:=run_make_row' (P:=Tryz.prog) 23 2 (vI 0) 8 Tryz.underlying23 CU rfl .i64 .i64 n (by omega) (by omega)
  go_enter Tryz.func219,Tryz.ntmps219
  go_wp2_with fail
  refine HC2.out.mono ?_;rintro e w1 ⟨A',c',rfl,hP1,hB1⟩
  have HP:=hid hP1;have HB1:=hid hB1;clear hP1 hB1
  go_wp2_with fail
  have HR0:=hid (RowI.made n HB1.out 2);have hw12:=hid ((AJ w1.heap.size w1).alloc (Bn _) (.cells (madeCells #[vI 0] n) 2));generalize hw2:w1.alloc (.cells (madeCells #[vI 0] n) 2)=w2 at *;generalize hg:w1.heap.size=g at *
  go_loopw [25] (fun t wr=>Adp w g n ((Cs.tight ws st).map fun p=>p.2) t wr∧Below g w1 wr) (fun t _=>n - (intOf t).toNat)
  case atStart=>exact ⟨⟨0,by omega,rfl,HR0.out.congr fun j _=>Fe _ j⟩,hw12.out⟩
  case round =>
   obtain ⟨⟨k,hk,rfl,hR⟩,hB⟩:=hrel;have HR:=hid hR;have HB:=hid hB;clear hR hB
   by_cases hlt:k<n
   ·obtain ⟨p,hp⟩:=Am (l:=Cs.tight ws st) (by rw [Cs.tight_len];exact HN.out) hlt
    have hpm:=hid (show ((Cs.tight ws st).map fun p=>p.2)[k]? = some (p.2) by rw [List.getElem?_map,hp];rfl);obtain ⟨b,off,rfl,hb,c0,c1⟩:=HP.out.cell hp;replace c0:=(HB.out.cell (p:=⟨b,off+k * 2,none⟩) (by rw [← hg];exact hb)).trans c0;replace c1:=(HB.out.cell (p:=⟨b,off+k * 2+1,none⟩) (by rw [← hg];exact hb)).trans c1;have d0:=HR.out.cell k hlt;have d1:=HR.out.fr k;have hgl:=HR.out.lt;clear hp
    go_wp2_with fail
    go_roundw
    case rel=>exact ⟨⟨k+1,by omega,by go_num,((HR.out.set hlt _).congr fun j _=>E9 hpm.out j).alloc _⟩,(HB.out.setCell (p:=⟨g,k,none⟩) (Bn _) _).alloc (by have:=HR.out.lt;simp [World.setCell];omega) _⟩
    case measure=>exact zMs
   ·have hkn:=hid (show k=n by omega)
    go_wp2_with fail
    go_ret2
    have hfin:=HR.out
    rw [hkn.out] at hfin
    exact ⟨fun _=>⟨_,_,rfl,hfin.ints HL.out⟩,fun h=>absurd HE.out h,hfin.bel⟩
 ·have HE:=hid he
  have hne:(Cs.tgE ws st != 0)=true:=by rw [bne_iff_ne];exact he
  have HC2:=hid (HC.out.mono (R':=fun e w'=>e=.returned (.tuple #[.slice none 0 0,vI (Cs.tgE ws st)])∧Below w.heap.size w w') fun e w' h=>⟨h.2.1 he,h.2.2⟩);have FIN:=hid (show ∀ (w':World),Below w.heap.size w w'→Kv (fun p=>p.2) ws st n w (.returned (.tuple #[.slice none 0 0,vI (Cs.tgE ws st)])) w' from fun w' hb=>⟨fun h=>absurd h HE.out,fun _=>rfl,hb⟩);clear hw hs he HC;generalize Cs.tgE ws st=E at *
  go_enter Tryz.func219,Tryz.ntmps219
  exact AbA
theorem Mr (A S:Option Addr) (n cn m cm:Nat) (ws st:Cs.Wins) (w:World) (hw:Pairs w A n ws) (hs:Pairs w S m st) (hn:n<=maxLen) (hm:m<=maxLen) (hmc:m<=cm) (hcm:cm<=maxLen) :
  Calls Tryz.prog 37 #[.slice A n cn,.slice S m cm] w (Kv (fun p=>p.2) ws st n w):=by
 have HC:=hid (Xf A S n cn m cm ws st w hw hs hn hm hmc hcm);have HN:=hid hw.len
 by_cases he:Cs.tgE ws st=0
 ·have hn64:n<=64:=by have:=Abb he;have:=hw.len;omega
  have HE:=hid he
  have HC2:=hid (HC.out.mono (R':=fun e w'=>∃ A' c',e=.returned (.tuple #[.slice A' n c',vI 0])∧Pairs w' A' n (Cs.tight ws st)∧Below w.heap.size w w') fun e w' h=>by
   obtain ⟨A',c',h1,h2⟩:=h.1 he
   exact ⟨A',c',h1,h2,h.2.2⟩)
  have HL:=hid (show ((Cs.tight ws st).map fun p=>p.2).length=n by rw [List.length_map,Cs.tight_len];exact HN.out);clear hw hs he HC hn hm;obtain ⟨i0,hi,hz0,hz1,hz2⟩:=info_parts CU
  go_enter Tryz.func37,Tryz.ntmps37
  go_wp2_with fail
  refine HC2.out.mono ?_;rintro e w1 ⟨A',c',rfl,hP1,hB1⟩
  have HP:=hid hP1;have HB1:=hid hB1;clear hP1 hB1
  go_wp2_with fail
  go_loopw [8,22] (fun v t wr=>Adq w1 n ((Cs.tight ws st).map fun p=>p.2) v t wr) (fun _ t _=>n - (intOf t).toNat)
  case atStart=>exact ⟨0,by omega,rfl,World.ownsRow_nil _ _ _ _,AJ _ _⟩
  case round =>
   obtain ⟨k,hk,rfl,hO,hB⟩:=hrel;have HO:=hid hO;have HB:=hid hB;have hsz:=hB.size;clear hO hB
   by_cases hlt:k<n
   ·obtain ⟨p,hp⟩:=Am (l:=Cs.tight ws st) (by rw [Cs.tight_len];exact HN.out) hlt
    have hpm:=hid (Aq ((Cs.tight ws st).map fun p=>p.2) k (p.2) (by rw [List.getElem?_map,hp];rfl));obtain ⟨b,off,rfl,hb,c0,c1⟩:=HP.out.cell hp;replace c0:=(HB.out.cell (p:=⟨b,off+k * 2,none⟩) hb).trans c0;replace c1:=(HB.out.cell (p:=⟨b,off+k * 2+1,none⟩) hb).trans c1;clear hp
    go_wp2_with (at_builtin;refine wpList_append_own _ rfl _ _ 23 rfl w1.heap.size 2 i0 (vI 0) 1 8 Tryz.underlying23 hi hz0 hz1 hz2 rfl (by decide) _ _ _ rfl ((HO.out.alloc _).alloc _) _ 1 1 [vI (p.2)] rfl rfl (AY _ _ (by simp) _ _ _ rfl) (by intro u hu;simp at hu;subst hu;rfl) (by unfold maxLen;omega) (by omega) (by simp;omega) ?_;intro v1 w3 hown1 hgrow1 hnil1)
    go_roundw
    case rel=>exact ⟨k+1,by omega,by go_num,by rw [hpm.out,List.map_append];exact hown1,((HB.out.alloc HB.out.size _).alloc (by simp;omega) _).grown hgrow1 (by simp;omega) (Bq HO.out)⟩
    case measure=>exact zMs
   ·have hkn:=hid (show k=n by omega)
    have hfin:=HO.out
    rw [hkn.out,CY (by rw [HL.out];exact Bn _)] at hfin
    obtain ⟨A2,c2,hv⟩:=Gh hfin;subst hv;have HF:=hid (Ints.of_own hfin);clear hfin
    go_wp2_with fail
    go_ret2
    exact ⟨fun _=>⟨_,_,rfl,HF.out⟩,fun h=>absurd HE.out h,Ae HB1.out HB.out⟩
 ·have HE:=hid he
  have hne:(Cs.tgE ws st != 0)=true:=by rw [bne_iff_ne];exact he
  have HC2:=hid (HC.out.mono (R':=fun e w'=>e=.returned (.tuple #[.slice none 0 0,vI (Cs.tgE ws st)])∧Below w.heap.size w w') fun e w' h=>⟨h.2.1 he,h.2.2⟩);have FIN:=hid (show ∀ (w':World),Below w.heap.size w w'→Kv (fun p=>p.2) ws st n w (.returned (.tuple #[.slice none 0 0,vI (Cs.tgE ws st)])) w' from fun w' hb=>⟨fun h=>absurd h HE.out,fun _=>rfl,hb⟩);clear hw hs he HC;generalize Cs.tgE ws st=E at *
  go_enter Tryz.func37,Tryz.ntmps37
  exact AbA
open Tr
theorem Mw {a b:Bool} (h:a=b):Ending.returned (.bool a)=.returned (.bool b):=by rw [h]
theorem DN {s m:Int} (hs : -1073741824<=s∧s<=1073741824) (hm:0<=m∧m<=2147483647):IntKind.i64.wrap (s * m)=s * m:=by
 have a:s * m<=1073741824 * m:=CR hs.2 hm.1;have b:(-1073741824) * m<=s * m:=CR hs.1 hm.1
 exact (iW _)
theorem AfL (c m n:Int) (b1 b2:Nat) (w:World) (hc0:0<=c) (hc1:c<=16200000) (hm:0<=m∧m<=2147483647) (hn:0<=n∧n<=2147483647) (k1:w.cell? ⟨b1,0,none⟩=some (vI m)) (k2:w.cell? ⟨b2,0,none⟩=some (vI n)) :
  Calls Tryz.prog 210 #[vI c,.pointer (some ⟨b1,0,none⟩),.pointer (some ⟨b2,0,none⟩)] w fun e w'=>e=.returned (.bool (okA m n c))∧Below w.heap.size w w':=by
 have hv:=hid (show okA m n c=decide (sinV c * m<=cosV c * n) from rfl);have H1:=hid (fun w=>Ux (Ac9 c ⟨by omega,by omega⟩ w));have H2:=hid (fun w=>Ux (AeF c ⟨by omega,by omega⟩ w));have e1:=DN (Dj c) hm;have e2:=DN (DJ c) hn;generalize sinV c=s at *;generalize cosV c=k at *;clear hm hn
 go_enter Tryz.func210,Tryz.ntmps210
 go_wp2_with fail
 go_quiet ((first | (go_at_call 194;first | exact Eo (H1.out _) | exact Calls.quiet_of_same (H1.out _)) | (go_at_call 195;first | exact Eo (H2.out _) | exact Calls.quiet_of_same (H2.out _))))
 go_wp2_with fail
 go_ret
 exact ⟨Mw (by rw [hv.out]),Ag (AJ _ _) _⟩
theorem AfM (i:Nat) (m n:Int) (b b1 b2:Nat) (w:World) (hi:i<16200000) (hm:0<=m∧m<=2147483647) (hn:0<=n∧n<=2147483647) (k0:w.cell? ⟨b,0,none⟩=some (.func (.func 210) #[] #[.pointer (some ⟨b1,0,none⟩),.pointer (some ⟨b2,0,none⟩)])) (k1:w.cell? ⟨b1,0,none⟩=some (vI m)) (k2:w.cell? ⟨b2,0,none⟩=some (vI n)) :
  Calls Tryz.prog 230 #[vI i,.pointer (some ⟨b,0,none⟩)] w fun e w'=>e=.returned (.bool (!okA m n ((i:Int)+1)))∧Below w.heap.size w w':=by
 have H:=hid (AfL ((i:Int)+1) m n b1 b2 w (by omega) (by omega) hm hn k1 k2);have eg:=enters_of Tryz.func210 (by kernel_rfl) rfl;generalize okA m n ((i:Int)+1)=B at *;clear k1 k2
 go_enter Tryz.func230,Tryz.ntmps230
 go_wp2_with fail
 refine H.out.mono ?_;rintro e w1 ⟨rfl,hB⟩
 go_wp2_with fail
 go_ret
 exact ⟨rfl,hB⟩
theorem Ac4 (m n:Int) (b1 b2:Nat) (w:World) (hm:0<=m∧m<=2147483647) (hn:0<=n∧n<=2147483647) (k1:w.cell? ⟨b1,0,none⟩=some (vI m)) (k2:w.cell? ⟨b2,0,none⟩=some (vI n)) :
  Calls Tryz.prog 209 #[vI 16200000,.func (.func 210) #[] #[.pointer (some ⟨b1,0,none⟩),.pointer (some ⟨b2,0,none⟩)]] w fun e w'=>(∃ q,e=.returned (vI q)∧GrA m n q)∧Below w.heap.size w w':=by
 have K1:=hid k1;have K2:=hid k2;clear k1 k2
 go_enter Tryz.func209,Tryz.ntmps209
 go_wp2_with fail
 have k0:=Zb w #[.func (.func 210) #[] #[.pointer (some ⟨b1,0,none⟩),.pointer (some ⟨b2,0,none⟩)]] 110 0;have HB:=hid (Aa w (.cells #[.func (.func 210) #[] #[.pointer (some ⟨b1,0,none⟩),.pointer (some ⟨b2,0,none⟩)]] 110));have L1:=World.block_lt_of_cell? w _ K1.out;have L2:=World.block_lt_of_cell? w _ K2.out
 have L0:w.heap.size<(w.alloc (.cells #[.func (.func 210) #[] #[.pointer (some ⟨b1,0,none⟩),.pointer (some ⟨b2,0,none⟩)]] 110)).heap.size:=by simp
 have k1:=(HB.out.cell (p:=⟨b1,0,none⟩) L1).trans K1.out;have k2:=(HB.out.cell (p:=⟨b2,0,none⟩) L2).trans K2.out;have L3:=Nat.lt_of_lt_of_le L1 HB.out.size;have L4:=Nat.lt_of_lt_of_le L2 HB.out.size;generalize (w.alloc (.cells #[.func (.func 210) #[] #[.pointer (some ⟨b1,0,none⟩),.pointer (some ⟨b2,0,none⟩)]] 110))=w1 at *
 refine (Rm (fun i=>okA m n (i+1)=false) 16200000 (by decide) 230 #[.pointer (some ⟨w.heap.size,0,none⟩)] _ (enters_of Tryz.func230 (by kernel_rfl) rfl)
  (fun W i hi hB=>(AfM i m n w.heap.size b1 b2 W hi hm hn ((hB.cell (p:=⟨_,0,none⟩) L0).trans k0) ((hB.cell (p:=⟨_,0,none⟩) L3).trans k1) ((hB.cell (p:=⟨_,0,none⟩) L4).trans k2)).mono fun e w' ⟨h1,h2⟩=>⟨by rw [h1];cases okA m n ((i:Int)+1) <;> rfl,h2⟩)).mono ?_
 rintro e w2 ⟨k,rfl,hk,h1,h2,hB⟩
 have HG:Hid (GrA m n k):=hid ⟨by omega,by omega,h2.imp (fun h=>by omega) (fun h=>by
  have h:¬ okA m n ((k:Int) - 1+1)=false:=h
  rw [show (k:Int) - 1+1=k by omega] at h
  cases hh:okA m n k
  ·exact absurd hh h
  ·rfl),h1.imp (fun h=>by omega) id⟩
 have HB2:=hid (Ae HB.out hB);clear h1 h2 hB
 go_wp2_with fail
 go_ret
 exact ⟨⟨_,rfl,HG.out⟩,HB2.out⟩
def Ch (x:Int):Bool:=decide (2147483647<x) || decide (x < -2147483647)
theorem Kh {x:Int} (h:Ch x=false) : -2147483647<=x∧x<=2147483647:=by simp [Ch] at h;omega
noncomputable def grV (m n:Int):Int:=Classical.choose (KP m n)
theorem Qv (m n:Int):GrA m n (grV m n):=Classical.choose_spec (KP m n)
theorem Jq {m n q:Int} (hm:0<=m) (hn:0<=n) (h:GrA m n q):q=grV m n:=Qu hm hn h (Qv m n)
theorem Jp (m n:Int):0<=grV m n∧grV m n<=16200000:=⟨(Qv m n).1,(Qv m n).2.1⟩
def BO (x:Int):Int:=(x.natAbs:Int)
noncomputable def atQ (y x:Int):Int:=if BO x<BO y then 32400000 - grV (max (BO x) (BO y)) (min (BO x) (BO y)) else grV (max (BO x) (BO y)) (min (BO x) (BO y))
def atE (y x:Int):Int:=if (Ch y || Ch x)=true then 2 else if x=0∧y=0 then 1 else 0
noncomputable def atV (y x:Int):Int :=
 if atE y x≠0 then 0 else
 if 0<=x∧0<=y then atQ y x else if 0<=y then 64800000 - atQ y x else if x<0 then 64800000+atQ y x else nrm (-atQ y x)
theorem Jn (y x:Int):0<=atQ y x∧atQ y x<=32400000:=by
 have:=Jp (max (BO x) (BO y)) (min (BO x) (BO y))
 unfold atQ
 split <;> omega
theorem Qd (y x:Int):0<=atV y x∧atV y x<129600000:=by
 have h:=Jn y x;have h2:=Dh (-atQ y x)
 unfold atV
 split
 ·omega
 ·split
  ·omega
  ·split
   ·omega
   ·split <;> omega
theorem RS {y x:Int} (h:(Ch y || Ch x)=true):atE y x=2:=if_pos h
theorem Aan {y x:Int} (h:(Ch y || Ch x)=false) (h2:x=0∧y=0):atE y x=1:=by unfold atE;rw [h,if_neg (by decide),if_pos h2]
theorem KD {y x:Int} (h:(Ch y || Ch x)=false) (h2:¬ (x=0∧y=0)):atE y x=0:=by unfold atE;rw [h,if_neg (by decide),if_neg h2]
theorem L8 {y x:Int} (h:atE y x≠0):atV y x=0:=if_pos h
theorem LZ {y x:Int} (h:atE y x=0):atV y x=if 0<=x∧0<=y then atQ y x else if 0<=y then 64800000 - atQ y x else if x<0 then 64800000+atQ y x else nrm (-atQ y x):=by unfold atV;rw [h,if_neg (by decide)]
theorem OB {x:Int} (h : -2147483647<=x∧x<=2147483647):Oa (x.natAbs:Int)=BO x:=Gm ⟨by omega,by omega⟩
theorem RP {x:Int} (h : -2147483647<=x∧x<=2147483647):0<=BO x∧BO x<=2147483647:=by unfold BO;omega
theorem Z8 (x:Int) (w:World):Calls Tryz.prog 208 #[vI x] w fun e w'=>e=.returned (.bool (Ch x))∧w=w':=by
 have hv:=hid (show Ch x=(decide (2147483647<x) || decide (x < -2147483647)) from rfl)
 by_cases h1:2147483647<x
 ·go_enter Tryz.func208,Tryz.ntmps208
  exact MQ
 ·by_cases h2:x < -2147483647
  ·go_enter Tryz.func208,Tryz.ntmps208
   exact MQ
  ·go_enter Tryz.func208,Tryz.ntmps208
   exact MQ
theorem XT (y x:Int) (hy:I64 y) (hx:I64 x) (w:World):Calls Tryz.prog 170 #[vI y,vI x] w fun e w'=>e=.returned (.tuple #[vI (atV y x),vI (atE y x)])∧Below w.heap.size w w':=by
 cases ho:Ch y
 rotate_left
 ·have HO:=hid (Z8 y)
  rw [ho] at HO
  have HE:=hid (RS (y:=y) (x:=x) (by rw [ho];rfl));have HV:=hid (L8 (y:=y) (x:=x) (by rw [HE.out];decide));clear ho
  go_enter Tryz.func170,Tryz.ntmps170
  exact Abz
 have HO:=hid (Z8 y)
 rw [ho] at HO
 have yb:=Kh ho
 cases hp:Ch x
 rotate_left
 ·have HP:=hid (Z8 x)
  rw [hp] at HP
  have HE:=hid (RS (y:=y) (x:=x) (by rw [ho,hp];rfl));have HV:=hid (L8 (y:=y) (x:=x) (by rw [HE.out];decide));clear ho hp
  go_enter Tryz.func170,Tryz.ntmps170
  exact Uf
 have HP:=hid (Z8 x)
 rw [hp] at HP
 have xb:=Kh hp;have HQ0:=hid (show (Ch y || Ch x)=false by rw [ho,hp];rfl);clear ho hp hy hx
 by_cases hz:x=0∧y=0
 ·have HE:=hid (Aan HQ0.out hz)
  have HV:=hid (L8 (y:=y) (x:=x) (by rw [HE.out];decide));have z1:(x == 0)=true:=beq_iff_eq.2 hz.1;have z2:(y == 0)=true:=beq_iff_eq.2 hz.2;clear hz
  go_enter Tryz.func170,Tryz.ntmps170
  exact Uf
 have HZ:=hid (KD HQ0.out hz);have HV:=hid (LZ HZ.out);have ab:=RP xb;have bb:=RP yb;have hq:=Jn y x;have HA:=hid (xAbs x ⟨by omega,by omega⟩);have HBb:=hid (xAbs y ⟨by omega,by omega⟩)
 rw [OB xb] at HA
 rw [OB yb] at HBb
 have HG:=hid (fun b1 b2 w=>Ac4 (max (BO x) (BO y)) (min (BO x) (BO y)) b1 b2 w ⟨by omega,by omega⟩ ⟨by omega,by omega⟩);have HU:=hid (fun q=>Jq (m:=max (BO x) (BO y)) (n:=min (BO x) (BO y)) (q:=q) (by omega) (by omega))
 have HD:=hid (show atQ y x=if BO x<BO y then 32400000 - grV (max (BO x) (BO y)) (min (BO x) (BO y)) else grV (max (BO x) (BO y)) (min (BO x) (BO y)) from rfl)
 have hgb:=Jp (max (BO x) (BO y)) (min (BO x) (BO y))
 have HZT:=hid (show (x == 0)=false∨(y == 0)=false by
  by_cases h:x=0
  ·exact .inr (BA.2 fun h2=>hz ⟨h,h2⟩)
  ·exact .inl (BA.2 h))
 clear hz;generalize atQ y x=Q at *;generalize BO x=a at *;generalize BO y=b at *;obtain ⟨q0,q1⟩:=hq;obtain ⟨g0,g1⟩:=hgb;obtain ⟨x0,x1⟩:=xb;obtain ⟨y0,y1⟩:=yb;obtain ⟨M,hM⟩:∃ M,max a b=M:=⟨_,rfl⟩;obtain ⟨N,hN⟩:∃ N,min a b=N:=⟨_,rfl⟩
 rw [hM,hN] at HG HU HD g0 g1
 have HM:=hid (And.intro hM hN);clear hM hN ab bb;generalize grV M N=G at *
 rcases (show ((x == 0)=false)∨((x == 0)=true∧(y == 0)=false) by
  cases h:(x == 0)
  ·exact .inl rfl
  ·exact .inr ⟨rfl,HZT.out.resolve_left (by rw [h];decide)⟩) with hz | ⟨hz,hz2⟩
 all_goals (
  go_enter Tryz.func170,Tryz.ntmps170
  go_wp2_with fail
  refine (HO.out _).mono ?_;rintro e w1 ⟨rfl,rfl⟩
  go_wp2_with fail
  refine (HP.out _).mono ?_;rintro e w1 ⟨rfl,rfl⟩
  go_wp2_with fail
  refine (HA.out _).mono ?_;rintro e w1 ⟨rfl,rfl⟩
  go_wp2_with fail
  refine (HBb.out _).mono ?_;rintro e w1 ⟨rfl,rfl⟩
  go_wp2_with fail
  rw [HM.out.1,HM.out.2]
  have tb:=ZP w #[vI M] #[vI N] 2 2;have HBF:=hid (Cg w (.cells #[vI M] 2) (.cells #[vI N] 2))
  refine (HG.out _ _ _ (tb.1 0) (tb.2 0)).mono ?_;rintro e w2 ⟨⟨q,rfl,hG⟩,hB⟩
  obtain rfl:=HU.out q hG;replace HBF:=hid (Ae HBF.out hB);clear hG hB tb HG HU HM
  try clear hz hz2
  by_cases hab:a<b
  ·replace HD:=hid (HD.out.trans (if_pos hab))
   have HQQ:=hid (show 32400000 - q=Q from HD.out.symm)
   have eq1:q=32400000 - Q:=by have:=HD.out;omega
   subst eq1
   have eq2:(32400000:Int) - (32400000 - Q)=Q:=by omega
   clear HD HQQ
   by_cases c1:0<=x
   ·by_cases c2:0<=y
    ·have HE:=hid (HV.out.trans (if_pos ⟨c1,c2⟩))
     have c1':¬ x<0:=by omega
     have c2':¬ y<0:=by omega
     exact LJ
    ·have HE:=hid (HV.out.trans ((if_neg (fun h=>c2 h.2)).trans ((if_neg c2).trans (if_neg (by omega)))))
     have c1':¬ x<0:=by omega
     have c2':y<0:=by omega
     have HN:=hid (Ji (-Q) ⟨by omega,by omega⟩)
     go_wp2_with fail
     refine (HN.out _).mono ?_;rintro e wn ⟨rfl,rfl⟩
     exact LJ
   ·by_cases c2:0<=y
    ·have HE:=hid (HV.out.trans ((if_neg (fun h=>c1 h.1)).trans (if_pos c2)))
     have c1':x<0:=by omega
     have c2':¬ y<0:=by omega
     exact LJ
    ·have HE:=hid (HV.out.trans ((if_neg (fun h=>c1 h.1)).trans ((if_neg c2).trans (if_pos (by omega)))))
     have c1':x<0:=by omega
     have c2':y<0:=by omega
     exact LJ
  ·replace HD:=hid (HD.out.trans (if_neg hab))
   obtain rfl:=HD.out;clear HD
   by_cases c1:0<=x
   ·by_cases c2:0<=y
    ·have HE:=hid (HV.out.trans (if_pos ⟨c1,c2⟩))
     have c1':¬ x<0:=by omega
     have c2':¬ y<0:=by omega
     exact LJ
    ·have HE:=hid (HV.out.trans ((if_neg (fun h=>c2 h.2)).trans ((if_neg c2).trans (if_neg (by omega)))))
     have c1':¬ x<0:=by omega
     have c2':y<0:=by omega
     have HN:=hid (Ji (-Q) ⟨by omega,by omega⟩)
     go_wp2_with fail
     refine (HN.out _).mono ?_;rintro e wn ⟨rfl,rfl⟩
     exact LJ
   ·by_cases c2:0<=y
    ·have HE:=hid (HV.out.trans ((if_neg (fun h=>c1 h.1)).trans (if_pos c2)))
     have c1':x<0:=by omega
     have c2':¬ y<0:=by omega
     exact LJ
    ·have HE:=hid (HV.out.trans ((if_neg (fun h=>c1 h.1)).trans ((if_neg c2).trans (if_pos (by omega)))))
     have c1':x<0:=by omega
     have c2':y<0:=by omega
     go_wp2_with fail
     go_ret2
     exact ⟨Ay HE.out.symm HZ.out.symm,HBF.out⟩)
theorem FO (x:Int) (w:World):Calls Tryz.prog 153 #[vI x] w fun e w'=>e=.returned (.bool (Ch x))∧w=w':=by
 have hv:=hid (show Ch x=(decide (2147483647<x) || decide (x < -2147483647)) from rfl)
 by_cases h1:2147483647<x
 ·go_enter Tryz.func153,Tryz.ntmps153
  exact MQ
 ·by_cases h2:x < -2147483647
  ·go_enter Tryz.func153,Tryz.ntmps153
   exact MQ
  ·go_enter Tryz.func153,Tryz.ntmps153
   exact MQ
theorem IJ {b:Int} (h:0<=b):BO b=b:=by unfold BO;omega
theorem IG {b:Int} (h:0<=b):BO (-b)=b:=by unfold BO;omega
def Af8 (m n:Int) (u v:Value):Prop:=∃ c a:Int,u=vI c∧v=vI a∧0<=c∧c<a∧a<=16200001∧(c=0∨okA m n c=true)∧(a=16200001∨okA m n a=false)
theorem Aeh (a b:Int) (ha:0<=a) (hb:0<=b) (ha1:a<=2147483647) (hb1:b<=2147483647) (hz:¬ (a=0∧b=0)) (w:World):Calls Tryz.prog 87 #[vI b,vI a] w fun e w'=>e=.returned (.tuple #[vI (atV b a),vI 0])∧w=w':=by
 have HO:=hid (FO b);have HP:=hid (FO a)
 have ho:Ch b=false:=by simp [Ch];omega
 have hp:Ch a=false:=by simp [Ch];omega
 rw [ho] at HO
 rw [hp] at HP
 have HV:=hid (LZ (y:=b) (x:=a) (KD (by rw [ho,hp];rfl) (by omega)));clear ho hp;have hq:=Jn b a
 have HD:=hid (show atQ b a=if a<b then 32400000 - grV (max a b) (min a b) else grV (max a b) (min a b) by
  unfold atQ;rw [IJ (b:=a) (by omega),IJ (b:=b) (by omega)])
 have HU:=hid (fun q=>Jq (m:=max a b) (n:=min a b) (q:=q) (by omega) (by omega));have hgb:=Jp (max a b) (min a b);have HOK:=hid (fun c=>show okA (max a b) (min a b) c=decide (sinV c * max a b<=cosV c * min a b) from rfl);have HPS:=hid (fun c=>DN (Dj c) (m:=max a b) ⟨by omega,by omega⟩);have HPC:=hid (fun c=>DN (DJ c) (m:=min a b) ⟨by omega,by omega⟩)
 have HZT:=hid (show (a == 0)=false∨(b == 0)=false by
  by_cases h:a=0
  ·exact .inr (BA.2 fun h2=>hz ⟨h,h2⟩)
  ·exact .inl (BA.2 h))
 clear hz;generalize atQ b a=Q at *;obtain ⟨q0,q1⟩:=hq
 have hmm:max a b=max b a:=by omega
 have hmn:min a b=min b a:=by omega
 obtain ⟨M,hM⟩:∃ M,max b a=M:=⟨_,rfl⟩;obtain ⟨N,hN⟩:∃ N,min b a=N:=⟨_,rfl⟩
 rw [hmm,hmn,hM,hN] at HD HU hgb HOK
 rw [hmm,hM] at HPS
 rw [hmn,hN] at HPC
 have HM:=hid (And.intro hM hN);clear hM hN hmm hmn;generalize grV M N=G at *;obtain ⟨g0,g1⟩:=hgb
 have hyz:Hid (((b:Int) == 0)=false∨(((b:Int) == 0)=true∧((a:Int) == 0)=false)):=hid (by
  cases h:((b:Int) == 0)
  ·exact .inl rfl
  ·refine .inr ⟨rfl,?_⟩
   rw [beq_iff_eq] at h
   rcases HZT.out with h2 | h2
   ·rw [BA] at h2 ⊢;omega
   ·rw [BA] at h2;omega)
 rcases hyz.out with hz | ⟨hz,hz2⟩
 all_goals (
  go_enter Tryz.func87,Tryz.ntmps87
  go_wp2_with fail
  refine (HO.out _).mono ?_;rintro e w1 ⟨rfl,rfl⟩
  go_wp2_with fail
  refine (HP.out _).mono ?_;rintro e w1 ⟨rfl,rfl⟩
  have c2:¬ b<0:=by omega
  have c1:¬ a<0:=by omega
  go_wp2_with fail
  rw [HM.out.1,HM.out.2]
  try clear hz
  try clear hz2
  go_loop [10,11] (fun u v=>Af8 M N u v) (fun u v=>(intOf v - intOf u).toNat)
  case atStart=>exact ⟨0,16200001,rfl,rfl,by decide,by decide,by decide,.inl rfl,.inl rfl⟩
  case round =>
   obtain ⟨c,d,rfl,rfl,hc0,hcd,hd1,hc,hd⟩:=hrel;have HC:=hid hc;have HDD:=hid hd;clear hc hd
   by_cases hlt:1<d - c
   ·obtain ⟨k,hk⟩:∃ k,(c+d) / 2=k:=⟨_,rfl⟩
    have f1:c<k:=by omega
    have f2:k<d:=by omega
    have HKE:=hid hk;clear hk;have HS:=hid (UH k ⟨by omega,by omega⟩);have HCo:=hid (WZ k ⟨by omega,by omega⟩);have HK:=hid (HOK.out k);have e1:=HPS.out k;have e2:=HPC.out k;generalize sinV k=s at *;generalize cosV k=t at *
    by_cases ht:s * M<=t * N
    ·have HT:=hid (HK.out.trans (Ct ht))
     go_wp2_with fail
     rw [HKE.out]
     refine (HS.out _).mono ?_;rintro e w1 ⟨rfl,rfl⟩
     go_wp2_with fail
     refine (HCo.out _).mono ?_;rintro e w1 ⟨rfl,rfl⟩
     go_wp2_with fail
     go_round
     case rel=>exact ⟨k,d,rfl,rfl,by omega,f2,hd1,.inr HT.out,HDD.out⟩
     case measure=>exact zMs
    ·have HT:=hid (HK.out.trans (BJ ht))
     go_wp2_with fail
     rw [HKE.out]
     refine (HS.out _).mono ?_;rintro e w1 ⟨rfl,rfl⟩
     go_wp2_with fail
     refine (HCo.out _).mono ?_;rintro e w1 ⟨rfl,rfl⟩
     go_wp2_with fail
     go_round
     case rel=>exact ⟨c,k,rfl,rfl,hc0,f1,by omega,HC.out,.inr HT.out⟩
     case measure=>exact zMs
   ·have hdd:d=c+1:=by omega
    have HG:Hid (GrA M N c):=hid ⟨hc0,by omega,HC.out,by rw [← hdd];exact HDD.out.imp (fun h=>by omega) id⟩;have HCG:=hid (HU.out c HG.out);clear HC HDD HG hdd;have hcg:=HCG.out;subst hcg;clear HCG HU HOK HPS HPC HM
    by_cases hab:a<b
    ·replace HD:=hid (HD.out.trans (if_pos hab))
     have eq1:c=32400000 - Q:=by have:=HD.out;omega
     subst eq1
     have eq2:(32400000:Int) - (32400000 - Q)=Q:=by omega
     clear HD;have HE:=hid (HV.out.trans (if_pos ⟨ha,hb⟩))
     exact Ug
    ·replace HD:=hid (HD.out.trans (if_neg hab))
     obtain rfl:=HD.out;clear HD;have HE:=hid (HV.out.trans (if_pos ⟨ha,hb⟩))
     go_wp2_with fail
     go_ret2
     exact ⟨Ay HE.out.symm rfl,rfl⟩)
theorem Aei (a b:Int) (ha:0<a) (hb:0<=b) (ha1:a<=2147483647) (hb1:b<=2147483647) (hz:¬ (a=0∧b=0)) (w:World):Calls Tryz.prog 87 #[vI b,vI (-a)] w fun e w'=>e=.returned (.tuple #[vI (atV b (-a)),vI 0])∧w=w':=by
 have HO:=hid (FO b);have HP:=hid (FO (-a))
 have ho:Ch b=false:=by simp [Ch];omega
 have hp:Ch (-a)=false:=by simp [Ch];omega
 rw [ho] at HO
 rw [hp] at HP
 have HV:=hid (LZ (y:=b) (x:=(-a)) (KD (by rw [ho,hp];rfl) (by omega)));clear ho hp;have hq:=Jn b (-a)
 have HD:=hid (show atQ b (-a)=if a<b then 32400000 - grV (max a b) (min a b) else grV (max a b) (min a b) by
  unfold atQ;rw [IG (b:=a) (by omega),IJ (b:=b) (by omega)])
 have HU:=hid (fun q=>Jq (m:=max a b) (n:=min a b) (q:=q) (by omega) (by omega));have hgb:=Jp (max a b) (min a b);have HOK:=hid (fun c=>show okA (max a b) (min a b) c=decide (sinV c * max a b<=cosV c * min a b) from rfl);have HPS:=hid (fun c=>DN (Dj c) (m:=max a b) ⟨by omega,by omega⟩);have HPC:=hid (fun c=>DN (DJ c) (m:=min a b) ⟨by omega,by omega⟩)
 have HZT:=hid (show (a == 0)=false∨(b == 0)=false by
  by_cases h:a=0
  ·exact .inr (BA.2 fun h2=>hz ⟨h,h2⟩)
  ·exact .inl (BA.2 h))
 clear hz;generalize atQ b (-a)=Q at *;obtain ⟨q0,q1⟩:=hq
 have hmm:max a b=max b a:=by omega
 have hmn:min a b=min b a:=by omega
 obtain ⟨M,hM⟩:∃ M,max b a=M:=⟨_,rfl⟩;obtain ⟨N,hN⟩:∃ N,min b a=N:=⟨_,rfl⟩
 rw [hmm,hmn,hM,hN] at HD HU hgb HOK
 rw [hmm,hM] at HPS
 rw [hmn,hN] at HPC
 have HM:=hid (And.intro hM hN);clear hM hN hmm hmn;generalize grV M N=G at *;obtain ⟨g0,g1⟩:=hgb
 have hyz:Hid (((b:Int) == 0)=false∨(((b:Int) == 0)=true∧(((-a):Int) == 0)=false)):=hid (by
  cases h:((b:Int) == 0)
  ·exact .inl rfl
  ·refine .inr ⟨rfl,?_⟩
   rw [beq_iff_eq] at h
   rcases HZT.out with h2 | h2
   ·rw [BA] at h2 ⊢;omega
   ·rw [BA] at h2;omega)
 rcases hyz.out with hz | ⟨hz,hz2⟩
 all_goals (
  go_enter Tryz.func87,Tryz.ntmps87
  go_wp2_with fail
  refine (HO.out _).mono ?_;rintro e w1 ⟨rfl,rfl⟩
  go_wp2_with fail
  refine (HP.out _).mono ?_;rintro e w1 ⟨rfl,rfl⟩
  have c2:¬ b<0:=by omega
  have c1:0<a:=ha
  go_wp2_with fail
  rw [HM.out.1,HM.out.2]
  try clear hz
  try clear hz2
  go_loop [10,11] (fun u v=>Af8 M N u v) (fun u v=>(intOf v - intOf u).toNat)
  case atStart=>exact ⟨0,16200001,rfl,rfl,by decide,by decide,by decide,.inl rfl,.inl rfl⟩
  case round =>
   obtain ⟨c,d,rfl,rfl,hc0,hcd,hd1,hc,hd⟩:=hrel;have HC:=hid hc;have HDD:=hid hd;clear hc hd
   by_cases hlt:1<d - c
   ·obtain ⟨k,hk⟩:∃ k,(c+d) / 2=k:=⟨_,rfl⟩
    have f1:c<k:=by omega
    have f2:k<d:=by omega
    have HKE:=hid hk;clear hk;have HS:=hid (UH k ⟨by omega,by omega⟩);have HCo:=hid (WZ k ⟨by omega,by omega⟩);have HK:=hid (HOK.out k);have e1:=HPS.out k;have e2:=HPC.out k;generalize sinV k=s at *;generalize cosV k=t at *
    by_cases ht:s * M<=t * N
    ·have HT:=hid (HK.out.trans (Ct ht))
     go_wp2_with fail
     rw [HKE.out]
     refine (HS.out _).mono ?_;rintro e w1 ⟨rfl,rfl⟩
     go_wp2_with fail
     refine (HCo.out _).mono ?_;rintro e w1 ⟨rfl,rfl⟩
     go_wp2_with fail
     go_round
     case rel=>exact ⟨k,d,rfl,rfl,by omega,f2,hd1,.inr HT.out,HDD.out⟩
     case measure=>exact zMs
    ·have HT:=hid (HK.out.trans (BJ ht))
     go_wp2_with fail
     rw [HKE.out]
     refine (HS.out _).mono ?_;rintro e w1 ⟨rfl,rfl⟩
     go_wp2_with fail
     refine (HCo.out _).mono ?_;rintro e w1 ⟨rfl,rfl⟩
     go_wp2_with fail
     go_round
     case rel=>exact ⟨c,k,rfl,rfl,hc0,f1,by omega,HC.out,.inr HT.out⟩
     case measure=>exact zMs
   ·have hdd:d=c+1:=by omega
    have HG:Hid (GrA M N c):=hid ⟨hc0,by omega,HC.out,by rw [← hdd];exact HDD.out.imp (fun h=>by omega) id⟩;have HCG:=hid (HU.out c HG.out);clear HC HDD HG hdd;have hcg:=HCG.out;subst hcg;clear HCG HU HOK HPS HPC HM
    by_cases hab:a<b
    ·replace HD:=hid (HD.out.trans (if_pos hab))
     have eq1:c=32400000 - Q:=by have:=HD.out;omega
     subst eq1
     have eq2:(32400000:Int) - (32400000 - Q)=Q:=by omega
     clear HD;have HE:=hid (HV.out.trans ((if_neg (fun h=>absurd h.1 (by omega))).trans (if_pos hb)))
     exact Ug
    ·replace HD:=hid (HD.out.trans (if_neg hab))
     obtain rfl:=HD.out;clear HD;have HE:=hid (HV.out.trans ((if_neg (fun h=>absurd h.1 (by omega))).trans (if_pos hb)))
     go_wp2_with fail
     go_ret2
     exact ⟨Ay HE.out.symm rfl,rfl⟩)
theorem Aej (a b:Int) (ha:0<=a) (hb:0<b) (ha1:a<=2147483647) (hb1:b<=2147483647) (hz:¬ (a=0∧b=0)) (w:World):Calls Tryz.prog 87 #[vI (-b),vI a] w fun e w'=>e=.returned (.tuple #[vI (atV (-b) a),vI 0])∧w=w':=by
 have HO:=hid (FO (-b));have HP:=hid (FO a)
 have ho:Ch (-b)=false:=by simp [Ch];omega
 have hp:Ch a=false:=by simp [Ch];omega
 rw [ho] at HO
 rw [hp] at HP
 have HV:=hid (LZ (y:=(-b)) (x:=a) (KD (by rw [ho,hp];rfl) (by omega)));clear ho hp;have hq:=Jn (-b) a
 have HD:=hid (show atQ (-b) a=if a<b then 32400000 - grV (max a b) (min a b) else grV (max a b) (min a b) by
  unfold atQ;rw [IJ (b:=a) (by omega),IG (b:=b) (by omega)])
 have HU:=hid (fun q=>Jq (m:=max a b) (n:=min a b) (q:=q) (by omega) (by omega));have hgb:=Jp (max a b) (min a b);have HOK:=hid (fun c=>show okA (max a b) (min a b) c=decide (sinV c * max a b<=cosV c * min a b) from rfl);have HPS:=hid (fun c=>DN (Dj c) (m:=max a b) ⟨by omega,by omega⟩);have HPC:=hid (fun c=>DN (DJ c) (m:=min a b) ⟨by omega,by omega⟩)
 have HZT:=hid (show (a == 0)=false∨(b == 0)=false by
  by_cases h:a=0
  ·exact .inr (BA.2 fun h2=>hz ⟨h,h2⟩)
  ·exact .inl (BA.2 h))
 clear hz;generalize atQ (-b) a=Q at *;obtain ⟨q0,q1⟩:=hq
 have hmm:max a b=max b a:=by omega
 have hmn:min a b=min b a:=by omega
 obtain ⟨M,hM⟩:∃ M,max b a=M:=⟨_,rfl⟩;obtain ⟨N,hN⟩:∃ N,min b a=N:=⟨_,rfl⟩
 rw [hmm,hmn,hM,hN] at HD HU hgb HOK
 rw [hmm,hM] at HPS
 rw [hmn,hN] at HPC
 have HM:=hid (And.intro hM hN);clear hM hN hmm hmn;generalize grV M N=G at *;obtain ⟨g0,g1⟩:=hgb
 have hyz:Hid ((((-b):Int) == 0)=false∨((((-b):Int) == 0)=true∧((a:Int) == 0)=false)):=hid (by
  cases h:(((-b):Int) == 0)
  ·exact .inl rfl
  ·refine .inr ⟨rfl,?_⟩
   rw [beq_iff_eq] at h
   rcases HZT.out with h2 | h2
   ·rw [BA] at h2 ⊢;omega
   ·rw [BA] at h2;omega)
 rcases hyz.out with hz | ⟨hz,hz2⟩
 all_goals (
  go_enter Tryz.func87,Tryz.ntmps87
  go_wp2_with fail
  refine (HO.out _).mono ?_;rintro e w1 ⟨rfl,rfl⟩
  go_wp2_with fail
  refine (HP.out _).mono ?_;rintro e w1 ⟨rfl,rfl⟩
  have c2:0<b:=hb
  have c1:¬ a<0:=by omega
  go_wp2_with fail
  rw [HM.out.1,HM.out.2]
  try clear hz
  try clear hz2
  go_loop [10,11] (fun u v=>Af8 M N u v) (fun u v=>(intOf v - intOf u).toNat)
  case atStart=>exact ⟨0,16200001,rfl,rfl,by decide,by decide,by decide,.inl rfl,.inl rfl⟩
  case round =>
   obtain ⟨c,d,rfl,rfl,hc0,hcd,hd1,hc,hd⟩:=hrel;have HC:=hid hc;have HDD:=hid hd;clear hc hd
   by_cases hlt:1<d - c
   ·obtain ⟨k,hk⟩:∃ k,(c+d) / 2=k:=⟨_,rfl⟩
    have f1:c<k:=by omega
    have f2:k<d:=by omega
    have HKE:=hid hk;clear hk;have HS:=hid (UH k ⟨by omega,by omega⟩);have HCo:=hid (WZ k ⟨by omega,by omega⟩);have HK:=hid (HOK.out k);have e1:=HPS.out k;have e2:=HPC.out k;generalize sinV k=s at *;generalize cosV k=t at *
    by_cases ht:s * M<=t * N
    ·have HT:=hid (HK.out.trans (Ct ht))
     go_wp2_with fail
     rw [HKE.out]
     refine (HS.out _).mono ?_;rintro e w1 ⟨rfl,rfl⟩
     go_wp2_with fail
     refine (HCo.out _).mono ?_;rintro e w1 ⟨rfl,rfl⟩
     go_wp2_with fail
     go_round
     case rel=>exact ⟨k,d,rfl,rfl,by omega,f2,hd1,.inr HT.out,HDD.out⟩
     case measure=>exact zMs
    ·have HT:=hid (HK.out.trans (BJ ht))
     go_wp2_with fail
     rw [HKE.out]
     refine (HS.out _).mono ?_;rintro e w1 ⟨rfl,rfl⟩
     go_wp2_with fail
     refine (HCo.out _).mono ?_;rintro e w1 ⟨rfl,rfl⟩
     go_wp2_with fail
     go_round
     case rel=>exact ⟨c,k,rfl,rfl,hc0,f1,by omega,HC.out,.inr HT.out⟩
     case measure=>exact zMs
   ·have hdd:d=c+1:=by omega
    have HG:Hid (GrA M N c):=hid ⟨hc0,by omega,HC.out,by rw [← hdd];exact HDD.out.imp (fun h=>by omega) id⟩;have HCG:=hid (HU.out c HG.out);clear HC HDD HG hdd;have hcg:=HCG.out;subst hcg;clear HCG HU HOK HPS HPC HM
    by_cases hab:a<b
    ·replace HD:=hid (HD.out.trans (if_pos hab))
     have eq1:c=32400000 - Q:=by have:=HD.out;omega
     subst eq1
     have eq2:(32400000:Int) - (32400000 - Q)=Q:=by omega
     clear HD;have HE:=hid (HV.out.trans ((if_neg (fun h=>absurd h.2 (by omega))).trans ((if_neg (by omega)).trans (if_neg (by omega)))));have HN:=hid (IZ (-Q) ⟨by omega,by omega⟩)
     go_wp2_with fail
     refine (HN.out _).mono ?_;rintro e wn ⟨rfl,rfl⟩
     exact Ug
    ·replace HD:=hid (HD.out.trans (if_neg hab))
     obtain rfl:=HD.out;clear HD;have HE:=hid (HV.out.trans ((if_neg (fun h=>absurd h.2 (by omega))).trans ((if_neg (by omega)).trans (if_neg (by omega)))));have HN:=hid (IZ (-Q) ⟨by omega,by omega⟩)
     go_wp2_with fail
     refine (HN.out _).mono ?_;rintro e wn ⟨rfl,rfl⟩
     go_wp2_with fail
     go_ret2
     exact ⟨Ay HE.out.symm rfl,rfl⟩)
theorem Aek (a b:Int) (ha:0<a) (hb:0<b) (ha1:a<=2147483647) (hb1:b<=2147483647) (hz:¬ (a=0∧b=0)) (w:World):Calls Tryz.prog 87 #[vI (-b),vI (-a)] w fun e w'=>e=.returned (.tuple #[vI (atV (-b) (-a)),vI 0])∧w=w':=by
 have HO:=hid (FO (-b));have HP:=hid (FO (-a))
 have ho:Ch (-b)=false:=by simp [Ch];omega
 have hp:Ch (-a)=false:=by simp [Ch];omega
 rw [ho] at HO
 rw [hp] at HP
 have HV:=hid (LZ (y:=(-b)) (x:=(-a)) (KD (by rw [ho,hp];rfl) (by omega)));clear ho hp;have hq:=Jn (-b) (-a)
 have HD:=hid (show atQ (-b) (-a)=if a<b then 32400000 - grV (max a b) (min a b) else grV (max a b) (min a b) by
  unfold atQ;rw [IG (b:=a) (by omega),IG (b:=b) (by omega)])
 have HU:=hid (fun q=>Jq (m:=max a b) (n:=min a b) (q:=q) (by omega) (by omega));have hgb:=Jp (max a b) (min a b);have HOK:=hid (fun c=>show okA (max a b) (min a b) c=decide (sinV c * max a b<=cosV c * min a b) from rfl);have HPS:=hid (fun c=>DN (Dj c) (m:=max a b) ⟨by omega,by omega⟩);have HPC:=hid (fun c=>DN (DJ c) (m:=min a b) ⟨by omega,by omega⟩)
 have HZT:=hid (show (a == 0)=false∨(b == 0)=false by
  by_cases h:a=0
  ·exact .inr (BA.2 fun h2=>hz ⟨h,h2⟩)
  ·exact .inl (BA.2 h))
 clear hz;generalize atQ (-b) (-a)=Q at *;obtain ⟨q0,q1⟩:=hq
 have hmm:max a b=max b a:=by omega
 have hmn:min a b=min b a:=by omega
 obtain ⟨M,hM⟩:∃ M,max b a=M:=⟨_,rfl⟩;obtain ⟨N,hN⟩:∃ N,min b a=N:=⟨_,rfl⟩
 rw [hmm,hmn,hM,hN] at HD HU hgb HOK
 rw [hmm,hM] at HPS
 rw [hmn,hN] at HPC
 have HM:=hid (And.intro hM hN);clear hM hN hmm hmn;generalize grV M N=G at *;obtain ⟨g0,g1⟩:=hgb
 have hyz:Hid ((((-b):Int) == 0)=false∨((((-b):Int) == 0)=true∧(((-a):Int) == 0)=false)):=hid (by
  cases h:(((-b):Int) == 0)
  ·exact .inl rfl
  ·refine .inr ⟨rfl,?_⟩
   rw [beq_iff_eq] at h
   rcases HZT.out with h2 | h2
   ·rw [BA] at h2 ⊢;omega
   ·rw [BA] at h2;omega)
 rcases hyz.out with hz | ⟨hz,hz2⟩
 all_goals (
  go_enter Tryz.func87,Tryz.ntmps87
  go_wp2_with fail
  refine (HO.out _).mono ?_;rintro e w1 ⟨rfl,rfl⟩
  go_wp2_with fail
  refine (HP.out _).mono ?_;rintro e w1 ⟨rfl,rfl⟩
  have c2:0<b:=hb;have c1:0<a:=ha
  go_wp2_with fail
  rw [HM.out.1,HM.out.2]
  try clear hz
  try clear hz2
  go_loop [10,11] (fun u v=>Af8 M N u v) (fun u v=>(intOf v - intOf u).toNat)
  case atStart=>exact ⟨0,16200001,rfl,rfl,by decide,by decide,by decide,.inl rfl,.inl rfl⟩
  case round =>
   obtain ⟨c,d,rfl,rfl,hc0,hcd,hd1,hc,hd⟩:=hrel;have HC:=hid hc;have HDD:=hid hd;clear hc hd
   by_cases hlt:1<d - c
   ·obtain ⟨k,hk⟩:∃ k,(c+d) / 2=k:=⟨_,rfl⟩
    have f1:c<k:=by omega
    have f2:k<d:=by omega
    have HKE:=hid hk;clear hk;have HS:=hid (UH k ⟨by omega,by omega⟩);have HCo:=hid (WZ k ⟨by omega,by omega⟩);have HK:=hid (HOK.out k);have e1:=HPS.out k;have e2:=HPC.out k;generalize sinV k=s at *;generalize cosV k=t at *
    by_cases ht:s * M<=t * N
    ·have HT:=hid (HK.out.trans (Ct ht))
     go_wp2_with fail
     rw [HKE.out]
     refine (HS.out _).mono ?_;rintro e w1 ⟨rfl,rfl⟩
     go_wp2_with fail
     refine (HCo.out _).mono ?_;rintro e w1 ⟨rfl,rfl⟩
     go_wp2_with fail
     go_round
     case rel=>exact ⟨k,d,rfl,rfl,by omega,f2,hd1,.inr HT.out,HDD.out⟩
     case measure=>exact zMs
    ·have HT:=hid (HK.out.trans (BJ ht))
     go_wp2_with fail
     rw [HKE.out]
     refine (HS.out _).mono ?_;rintro e w1 ⟨rfl,rfl⟩
     go_wp2_with fail
     refine (HCo.out _).mono ?_;rintro e w1 ⟨rfl,rfl⟩
     go_wp2_with fail
     go_round
     case rel=>exact ⟨c,k,rfl,rfl,hc0,f1,by omega,HC.out,.inr HT.out⟩
     case measure=>exact zMs
   ·have hdd:d=c+1:=by omega
    have HG:Hid (GrA M N c):=hid ⟨hc0,by omega,HC.out,by rw [← hdd];exact HDD.out.imp (fun h=>by omega) id⟩;have HCG:=hid (HU.out c HG.out);clear HC HDD HG hdd;have hcg:=HCG.out;subst hcg;clear HCG HU HOK HPS HPC HM
    by_cases hab:a<b
    ·replace HD:=hid (HD.out.trans (if_pos hab))
     have eq1:c=32400000 - Q:=by have:=HD.out;omega
     subst eq1
     have eq2:(32400000:Int) - (32400000 - Q)=Q:=by omega
     clear HD;have HE:=hid (HV.out.trans ((if_neg (fun h=>absurd h.1 (by omega))).trans ((if_neg (by omega)).trans (if_pos (by omega)))))
     exact Ug
    ·replace HD:=hid (HD.out.trans (if_neg hab))
     obtain rfl:=HD.out;clear HD;have HE:=hid (HV.out.trans ((if_neg (fun h=>absurd h.1 (by omega))).trans ((if_neg (by omega)).trans (if_pos (by omega)))))
     go_wp2_with fail
     go_ret2
     exact ⟨Ay HE.out.symm rfl,rfl⟩)
theorem WW (y x:Int) (hy:I64 y) (hx:I64 x) (w:World):Calls Tryz.prog 87 #[vI y,vI x] w fun e w'=>e=.returned (.tuple #[vI (atV y x),vI (atE y x)])∧Below w.heap.size w w':=by
 cases ho:Ch y
 rotate_left
 ·have HO:=hid (FO y)
  rw [ho] at HO
  have HE:=hid (RS (y:=y) (x:=x) (by rw [ho];rfl));have HV:=hid (L8 (y:=y) (x:=x) (by rw [HE.out];decide));clear ho
  go_enter Tryz.func87,Tryz.ntmps87
  exact Abz
 have HO:=hid (FO y)
 rw [ho] at HO
 have yb:=Kh ho
 cases hp:Ch x
 rotate_left
 ·have HP:=hid (FO x)
  rw [hp] at HP
  have HE:=hid (RS (y:=y) (x:=x) (by rw [ho,hp];rfl));have HV:=hid (L8 (y:=y) (x:=x) (by rw [HE.out];decide));clear ho hp
  go_enter Tryz.func87,Tryz.ntmps87
  exact Uf
 have HP:=hid (FO x)
 rw [hp] at HP
 have xb:=Kh hp;have HQ0:=hid (show (Ch y || Ch x)=false by rw [ho,hp];rfl);clear ho hp hy hx
 by_cases hz:x=0∧y=0
 ·have HE:=hid (Aan HQ0.out hz)
  have HV:=hid (L8 (y:=y) (x:=x) (by rw [HE.out];decide));have z1:(x == 0)=true:=beq_iff_eq.2 hz.1;have z2:(y == 0)=true:=beq_iff_eq.2 hz.2;clear hz
  go_enter Tryz.func87,Tryz.ntmps87
  exact Uf
 rw [KD HQ0.out hz]
 by_cases s2:y<0 <;> by_cases s1:x<0
 ·have:=Aek (-x) (-y) (by omega) (by omega) (by omega) (by omega) (by omega) w
  rw [Int.neg_neg,Int.neg_neg] at this
  exact this.mono fun e w' ⟨h1,h2⟩=>⟨h1,h2 ▸ AJ _ _⟩
 ·have:=Aej x (-y) (by omega) (by omega) (by omega) (by omega) (by omega) w
  rw [Int.neg_neg] at this
  exact this.mono fun e w' ⟨h1,h2⟩=>⟨h1,h2 ▸ AJ _ _⟩
 ·have:=Aei (-x) y (by omega) (by omega) (by omega) (by omega) (by omega) w
  rw [Int.neg_neg] at this
  exact this.mono fun e w' ⟨h1,h2⟩=>⟨h1,h2 ▸ AJ _ _⟩
 ·exact (Aeh x y (by omega) (by omega) (by omega) (by omega) (by omega) w).mono fun e w' ⟨h1,h2⟩=>⟨h1,h2 ▸ AJ _ _⟩
