
/- Layers 37 and 38, plain laws: the required time and the predicted flight. -/
import Derived.Test.YtgneijdjlahgbaaGreatRtS
namespace Go.Proofs.YtgneijdjlahgbaaGreat
set_option linter.unusedSimpArgs false
set_option linter.unusedVariables false
open Go.RowKit
section
variable {s:Stp}
structure ToG (s:Stp) (node lo hi t:Int):Prop where
 t0:0≤t
 at':∃ p,(runL s)[node.toNat]? = some p∧p.tick=t
 no:soE s node lo hi≠0→soE s node lo hi=16∧hi<t∧soV s node lo hi=0
 yes:soE s node lo hi=0→t≤hi∧∃ u,(t≤u∧u≤hi)∧soV s node lo hi=max (lo - u) 0∧(∃ q,(soL s node lo hi)[node.toNat]? = some q∧q.tick=u)∧∀ k,k<s.no.length→∃ p q,(runL s)[k]? = some p∧(soL s node lo hi)[k]? = some q∧q.alt=p.alt∧q.cas≤p.cas
theorem to_bad (N:StN s) {node lo hi:Int} (hr:runE s=0) (hb:node<1∨(s.no.length:Int)≤node∨hi<lo):soE s node lo hi=1∧soV s node lo hi=0:=by
 have R:=(run_good N hr).1
 have e:opE s node (decide (hi<lo))=1:=opE_1 R.su (by simpa using hb)
 have e2:soE s node lo hi=1:=(soE_o (by rw [e];decide)).trans e
 exact ⟨e2,if_neg (by rw [e2];decide)⟩
theorem to_good (N:StN s) {node lo hi:Int} (hr:runE s=0) (h1:1≤node) (h2:node<s.no.length) (hle:lo≤hi):ToG s node lo hi (fkT s (spn s) node.toNat):=by
 obtain ⟨R,hL⟩:=run_good N hr
 have ho:opE s node (decide (hi<lo))=0:=R.op N h1 h2 (runE_alt hr) (decide_eq_false (by omega))
 obtain ⟨O,-⟩:=op_good N ho
 have hm:node.toNat<s.no.length:=by omega
 have hs0:0≤spn s:=spV_0 _ _
 have hk:fkE s (spn s)=0:=(run_fk O N).symm.trans hr
 have hg:∀ {i:Nat},i<s.no.length→(runL s)[i]? = some (psP s (altL s) (fam s (spn s)) i):=fun {i} hi=>by
  rw [hL,← (fam_top O N).1]
  exact wtL_get hi
 refine ⟨(fk_psI O N hs0 hk hm).tick.1,⟨_,hg hm,rfl⟩,fun hne=>?_,fun h0=>?_⟩
 ·obtain ⟨a1,a2⟩:=so_16 N ho hne
  have:=a2 (spn s).toNat (by omega)
  rw [show (((spn s).toNat:Nat):Int)=spn s by omega] at this
  refine ⟨a1,?_,if_neg hne⟩
  by_cases hh:fkT s (spn s) node.toNat≤hi
  ·exact absurd ⟨hk,hh⟩ this
  ·omega
 ·obtain ⟨k,F⟩:=so_good N h0
  have hle2:=fk_mono O N (by omega) F.ks F.e hk hm
  refine ⟨Int.le_trans hle2 F.t,_,⟨hle2,F.t⟩,F.soV,⟨_,by rw [F.soL];exact fkL_get hm,rfl⟩,fun i hi=>⟨_,_,hg hi,by rw [F.soL];exact fkL_get hi,?_,?_⟩⟩
  ·rw [(psP_alt (altL s) (fam s k) i).1,(psP_alt (altL s) (fam s (spn s)) i).1]
  ·rw [(psP_alt (altL s) (fam s k) i).2,(psP_alt (altL s) (fam s (spn s)) i).2,fam_get O.al hi,fam_get O.al hi]
   have:=F.ks
   omega
end
end Go.Proofs.YtgneijdjlahgbaaGreat
