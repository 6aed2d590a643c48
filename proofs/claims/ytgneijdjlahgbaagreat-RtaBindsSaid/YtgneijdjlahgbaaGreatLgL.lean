
/- Layer 38: the law's list of the legs . -/
import Derived.Test.YtgneijdjlahgbaaGreatRtO
import Derived.RegionTactic
namespace Go.Proofs.YtgneijdjlahgbaaGreat
set_option maxRecDepth 100000
set_option maxHeartbeats 16000000
set_option linter.unusedSimpArgs false
set_option linter.unusedVariables false
open Go.RowKit
def LgR (s:Stp) (B:World) (v t:Value) (wr:World):Prop:=∃ k:Nat,k≤s.no.length∧t=.int .i64 (k:Int)∧BoxS B 0 [] wr∧Ow oneI 1 2 B.heap.size ((dstL s).take (k - 1)) v wr
def LgP (s:Stp) (w:World) (e:Ending) (w':World):Prop:=∃ A c,e=.returned (.slice A (s.no.length - 1) c)∧Ints w' A (s.no.length - 1) (dstL s)∧Below w.heap.size w w'
theorem dstL_len' (s:Stp):(dstL s).length=s.no.length - 1:=by unfold dstL;simp
theorem xLegs (s:Stp) (w:World) (hl:s.lies w) (hok:s.ok) (h0:0<s.no.length) (hmx:s.no.length≤64):Calls Tryz.prog 35 #[.agg s.cells.toArray] w (LgP s w):=by
 obtain ⟨i0,hi,hz0,hz1,hz2⟩:=info_parts infoI64
 have HS:=Lib.hid (boxS1 w s.cells.toArray 35)
 have hno:=(StN.of hl).no
 obtain ⟨b,off,hA⟩:=su_A hl h0
 have HNS:=Lib.hid (fun W (h:BoxS w 1 [s.cells] W)=>show W.cell? ⟨w.heap.size,0,none⟩=some (.slice (some ⟨b,off,none⟩) s.sno.n s.sno.c) from su_sl (h.has 0 _ rfl) hA)
 have HNV:=Lib.hid (fun W (h:BoxS w 1 [s.cells] W) k (hk:k<s.no.length)=>su_nd (hl.below h.B) hA hk)
 have HDL:=Lib.hid (dstL_len' s)
 have HNO:=Lib.hid hno
 have HB0:=Lib.hid (fun W (h:BoxS w 1 [s.cells] W)=>h.B)
 clear hl hok hno hA h0
 go_enter Tryz.func35,Tryz.ntmps35
 have k0:=HNS.out _ HS.out
 go_wp2_with fail
 clear k0
 generalize (w.alloc (.cells s.cells.toArray 35))=w6 at *
 have HYB:=Lib.hid (fun W (h:BoxS w6 0 [] W)=>HS.out.below h.B)
 have HNK:=Lib.hid (fun W (h:BoxS w6 0 [] W) k (hk:k<s.no.length)=>HNV.out W (HYB.out W h) k hk)
 go_loopw [3,9] (fun v t wr=>LgR s w6 v t wr) (fun _ t _=>s.sno.n - (intOf t).toNat)
 case atStart=>exact ⟨0,by omega,rfl,boxS0'' _,Ow.start _ _ _ _ _⟩
 case round =>
  obtain ⟨k,hk,rfl,hs,ho⟩:=hrel
  have HW:=Lib.hid hs
  have HO:=Lib.hid ho
  clear hs ho
  by_cases hlt:k<s.sno.n
  ·have hlt':(k:Int)<(s.sno.n:Int):=by omega
   have hk0:(0:Int)≤(k:Int):=by omega
   have hg:IntKind.i64.wrap ((k:Int)+1)=(k:Int)+1:=IntWalk.i64_in _ (by omega)
   obtain ⟨n0,n1,n2,n3,n4,n5,n6⟩:=HNK.out _ HW.out k (by have:=HNO.out;omega)
   rcases Nat.eq_zero_or_pos k with hz | hz
   ·have HZ:=Lib.hid hz
    have hgt:¬ (0:Int)<(k:Int):=by omega
    clear hz
    go_wp2_with fail
    go_roundw
    case rel=>exact ⟨k+1,by have:=HNO.out;omega,by go_num,HW.out.alloc _,by have h:=HO.out.alloc (.cells #[.int .i64 (nodA s k).px,.int .i64 (nodA s k).py,.int .i64 (nodA s k).di,.int .i64 (nodA s k).a0,.int .i64 (nodA s k).a1,.int .i64 (nodA s k).s0,.int .i64 (nodA s k).s1] 60);rw [HZ.out] at h ⊢;exact h⟩
    case measure=>simp only [intOf];omega
   ·have hgt:(0:Int)<(k:Int):=by omega
    have HTK:=Lib.hid (show (dstL s).take k=(dstL s).take (k - 1) ++ [(nodA s k).di] from by have h:=dst_take (s:=s) (k:=k - 1) (by have:=HNO.out;omega);rwa [show k - 1+1=k from by omega] at h)
    have hlen:((dstL s).take (k - 1)).length≤64:=by rw [List.length_take];omega
    generalize (dstL s).take (k - 1)=LL at *
    go_wp2_with (at_builtin;refine wpList_append_own_at _ rfl _ _ 23 rfl w6.heap.size 2 i0 (.int .i64 0) 1 8 Tryz.underlying23 hi hz0 hz1 hz2 rfl (by decide) _ _ _ rfl (((HO.out.alloc _).alloc _).own) ⟨(wr.heap.size+1),0,none⟩ 1 1 [.int .i64 (nodA s k).di] rfl rfl (news_new _ _ (by first | rfl | simp) _ _ _ rfl) (by intro u hu;simp at hu;subst hu;rfl) (by unfold maxLen;omega) (by omega) (by have:=HW.out.B.size;simp;omega) ?_;intro v1 w7 hown hgrow hnil hblk)
    have HS7:=Lib.hid (((HW.out.alloc _).alloc _).grown hgrow (fun k hk=>(HO.out.lt hk).1))
    have HO7:=Lib.hid (Ow.next (l:=LL) (f:=oneI) (x:=(nodA s k).di) hown)
    clear hown hgrow hnil hblk
    go_roundw
    case rel=>exact ⟨k+1,by have:=HNO.out;omega,by go_num,HS7.out,by rw [show k+1 - 1=k from rfl,HTK.out];exact HO7.out⟩
    case measure=>simp only [intOf];omega
  ·have hlt':¬ (k:Int)<(s.sno.n:Int):=by omega
   have HL:=Lib.hid (show Ow oneI 1 2 w6.heap.size (dstL s) _ wr from by have h:=HO.out;rwa [List.take_of_length_le (by have:=HDL.out;have:=HNO.out;omega)] at h)
   obtain ⟨A',c',hv,hD,-⟩:=HL.out.ints HDL.out
   subst hv
   have HBB:=HB0.out _ (HYB.out _ HW.out)
   go_wp2_with fail
   go_ret
   exact ⟨A',c',rfl,hD,HBB⟩
end Go.Proofs.YtgneijdjlahgbaaGreat
