
/- Layer 37: the reference's check of a setup. -/
import Derived.Test.YtheepmnhpclimaaGreatRfGd
import Derived.Test.YtheepmnhpclimaaGreatRfFu
import Derived.Test.YtheepmnhpclimaaGreatM6
namespace Go.Proofs.YtheepmnhpclimaaGreat
set_option linter.unusedSimpArgs false
set_option linter.unusedVariables false
set_option maxRecDepth 100000
set_option maxHeartbeats 8000000
open Go.RowKit
open Go.Lib (hid)
theorem noE_eq (n:Nod) (k:Nat):noE n k=if ¬ ((-2000000≤n.px∧n.px≤2000000)∧(-2000000≤n.py∧n.py≤2000000)∧0≤n.di∧n.di≤8000000) then 2 else if k=0∧n.di≠0 then 1 else if ¬ (-200000≤n.a0∧n.a1≤6000000∧n.a0≤n.a1) then 2 else if ¬ (0≤n.s0∧n.s0≤n.s1∧n.s1≤1000) then 2 else 0:=by
  unfold noE inB
  simp only [Bool.and_eq_false_iff,decide_eq_false_iff_not]
  (repeat' split) <;> omega
theorem su_node {s:Stp} {k:Nat} {n:Nod} {E:Int} (h1:inB s.sno.n 2 64=true) (h:∀ j m,j<k→s.no[j]? = some m→noE m j=0) (hk:s.no[k]? = some n) (he:noE n k=E) (h0:E≠0):suE s=E:=by
  subst he;have hne:=nds_at (l:=s.no) (i:=0) (k:=k) (fun j m hj hm=>by rw [Nat.zero_add];exact h j m hj hm) hk (by rw [Nat.zero_add];exact h0)
  rw [Nat.zero_add] at hne
  exact (su_n h1 (by rw [hne];exact h0)).trans hne
theorem suT_iff (s:Stp):suT s=true ↔ ((-200000≤s.lv∧s.lv≤6000000)∧(-200000≤s.la∧s.la≤6000000))∧((1≤s.cas∧s.cas≤1000)∧(1≤s.mch∧s.mch≤2000)∧1≤s.ls∧s.ls≤1000)∧(0≤s.acc∧s.acc≤1000)∧0≤s.dec∧s.dec≤1000:=by
  unfold suT
  simp only [Bool.and_eq_true,inB_iff]
  omega
theorem rPrCheck (s:Stp) (w:World) (hl:s.lies w) (hok:s.ok):Calls Tryz.prog 35 #[.agg s.cells.toArray] w fun e w'=>e=.returned (vI (suE s))∧Below w.heap.size w w':=by
  have HS:Hid (Has (w.alloc (.cells s.cells.toArray 35)) w.heap.size s.cells):=hid (Has.new w _ _);have k0:=su_no HS.out;have k1:=stp_c0 s;have hn:=hok.no
  unfold maxLen at hn
  by_cases h1:2≤(s.sno.n:Int)∧(s.sno.n:Int)≤64
  rotate_left
  · have HF:=hid (su_3 (s:=s) (by rw [inB_no];omega))
    clear hl hok
    go_enter Tryz.func35,Tryz.ntmps35
    go_wp2_with fail
    all_goals first | (exfalso;omega) | (go_ret;exact ⟨ret_int HF.out.symm,below_alloc1 _ _⟩)
  have G1:=hid (show inB s.sno.n 2 64=true by rw [inB_iff];omega);have HB:=hid (below_alloc1 w (.cells s.cells.toArray 35));have HL:=hid (fun W (hB:Below w.heap.size w W)=>hl.below hB);have HOK:=hid hok;have HLN:=hid hl.no.len;obtain ⟨h1,h2⟩:=h1;clear hl hok
  go_enter Tryz.func35,Tryz.ntmps35
  go_wp2_with fail
  clear k0 k1;generalize w.alloc (.cells s.cells.toArray 35)=w1 at *
  go_loopw [21] (fun t wr=>ScRel s w t wr) (fun t _=>s.sno.n - (intOf t).toNat)
  case atStart=>exact ⟨0,by omega,rfl,fun j m hj=>by omega,HS.out,HB.out⟩
  case round =>
  obtain ⟨k,hk,rfl,ha,hs,hb⟩:=hrel;replace HS:=hid hs;replace HB:=hid hb;have HA:=hid ha;clear hs hb ha
  by_cases hlt:k<s.sno.n
  · obtain ⟨n,hx⟩:=get_ex HLN.out hlt
    obtain ⟨b,off,hA,-,hc⟩:=(HL.out _ HB.out).no.cells (by omega);have HC:=hid (hc k n hx);have HQ:=hid hx
    rw [hA]
    clear hx hc hA;have c0:wr.cell? ⟨b,off+k * 7,none⟩=some (vI n.px):=HC.out 0 _ rfl;have c1:wr.cell? ⟨b,off+k * 7+1,none⟩=some (vI n.py):=HC.out 1 _ rfl;have c2:wr.cell? ⟨b,off+k * 7+2,none⟩=some (vI n.di):=HC.out 2 _ rfl;have c3:wr.cell? ⟨b,off+k * 7+3,none⟩=some (vI n.a0):=HC.out 3 _ rfl;have c4:wr.cell? ⟨b,off+k * 7+4,none⟩=some (vI n.a1):=HC.out 4 _ rfl;have c5:wr.cell? ⟨b,off+k * 7+5,none⟩=some (vI n.s0):=HC.out 5 _ rfl;have c6:wr.cell? ⟨b,off+k * 7+6,none⟩=some (vI n.s1):=HC.out 6 _ rfl
    go_wp2_with fail
    all_goals first
      | (go_ret;(try simp only [bne_iff_ne,bne_eq_false_iff_eq,ne_eq] at *);exact ⟨ret_int (su_node G1.out HA.out HQ.out (by rw [noE_eq];(repeat' split) <;> omega) (by decide)).symm,bel_alloc1 HB.out _⟩)
      | (have HE:=hid (show noE n k=0 from by (try simp only [bne_iff_ne,bne_eq_false_iff_eq,ne_eq] at *);rw [noE_eq];(repeat' split) <;> omega)
         go_roundw
         case rel=>exact ⟨k+1,by omega,by first | go_num | simp [*],fun j m hj hm=>by
           by_cases e:j=k
           · subst e;rw [HQ.out] at hm;injection hm with hm;subst hm;exact HE.out
           · exact HA.out j m (by omega) hm,HS.out.alloc _,bel_alloc1 HB.out _⟩
         case measure=>simp only [intOf];omega)
  have hz:nosE s.no 0=0:=nds_all (fun j m hm=>by
    rw [Nat.zero_add]
    exact HA.out j m (by have:=(List.getElem?_eq_some_iff.1 hm).1;have:=HLN.out;omega) hm)
  have HR:=hid (su_p G1.out hz);have HP:=hid (fun W hB=>rPfCheck s.pf W (HL.out W hB).pf HOK.out.pf);have HG:=hid (fun W hB=>rGdCheck s.gr W (HL.out W hB).gr HOK.out.gr);have HC:=hid (fun W=>rFuCheck s.ac W);have HT:=hid (suT_iff s);clear hz HA HOK HL HLN;generalize pfE s.pf=E1 at *;generalize gdE s.gr=E2 at *;generalize s.ac.E=E3 at *
  go_wp2_with (refine at_spf (.tmp 107) rfl rfl rfl HS.out ?_)
  refine (HP.out _ HB.out).mono ?_;rintro e w2 ⟨rfl,hB⟩
  replace HS:=hid (HS.out.below hB);replace HB:=hid (bel_trans HB.out hB);clear hB HP
  go_wp2_with (refine at_sgr (.tmp 113) rfl rfl rfl HS.out ?_)
  all_goals try (go_ret;exact ⟨ret_int (HR.out.trans (if_pos (bne_iff_ne.1 ‹_›))).symm,HB.out⟩)
  refine (HG.out _ HB.out).mono ?_;rintro e w3 ⟨rfl,hB⟩
  replace HS:=hid (HS.out.below hB);replace HB:=hid (bel_trans HB.out hB);replace HR:=hid (HR.out.trans (if_neg (by simpa using ‹(E1 != 0)=false›)));clear hB HG
  go_wp2_with (refine at_sac (.tmp 119) rfl rfl rfl HS.out ?_)
  all_goals try (go_ret;exact ⟨ret_int (HR.out.trans (if_pos (bne_iff_ne.1 ‹(E2 != 0)=true›))).symm,HB.out⟩)
  refine (HC.out _).mono ?_;rintro e w4 ⟨rfl,hB⟩
  replace HS:=hid (HS.out.below hB);replace HB:=hid (bel_trans HB.out hB);replace HR:=hid (HR.out.trans (if_neg (by simpa using ‹(E2 != 0)=false›)));clear hB HC;have q0:=su_lv HS.out;have q1:=su_cas HS.out;have q2:=su_mch HS.out;have q3:=su_acc HS.out;have q4:=su_dec HS.out;have q5:=su_la HS.out;have q6:=su_ls HS.out
  go_wp2_with fail
  all_goals
    go_ret
    first
      | exact ⟨ret_int (HR.out.trans (if_pos (bne_iff_ne.1 ‹(E3 != 0)=true›))).symm,HB.out⟩
      | exact ⟨ret_int (HR.out.trans ((if_neg (by simpa using ‹(E3 != 0)=false›)).trans (if_neg (fun h=>by have:=HT.out.1 h;omega)))).symm,HB.out⟩
      | exact ⟨ret_int (HR.out.trans ((if_neg (by simpa using ‹(E3 != 0)=false›)).trans (if_pos (HT.out.2 (by omega))))).symm,HB.out⟩
end Go.Proofs.YtheepmnhpclimaaGreat
