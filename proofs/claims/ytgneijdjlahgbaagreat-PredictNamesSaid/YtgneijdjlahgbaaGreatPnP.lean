
/- Layer 37, plain laws: the conflict that a prediction names. -/
import Derived.Test.YtgneijdjlahgbaaGreatM14
import Derived.Test.YtgneijdjlahgbaaGreatM20
namespace Go.Proofs.YtgneijdjlahgbaaGreat
set_option linter.unusedSimpArgs false
set_option linter.unusedVariables false
open Go.RowKit
section
variable {s:Stp}
theorem bi_11 (l0 l1 f0 f1 t0 t1:Int):biE l0 l1 f0 f1 t0 t1≠11:=by unfold biE;split <;> (try split) <;> (try split) <;> decide
theorem gs_11 (a b c d:Int):gsE a b c d≠11:=by unfold gsE;split <;> (try split) <;> (try split) <;> decide
theorem gi_11 (a b c d e f g:Int):giE a b c d e f g≠11:=by unfold giE;split <;> (try split) <;> (try split) <;> decide
theorem nx_11 (x:Nx) (s:Stp) (p:Pass):x.E s p≠11:=by
 unfold Nx.E
 split
 ·decide
 split
 ·exact gs_11 _ _ _ _
 split
 ·exact gi_11 _ _ _ _ _ _ _
 split
 ·decide
 ·exact bi_11 _ _ _ _ _ _
theorem ps_11 (s:Stp) (al sp:List Int):∀ k,psE s al sp k≠11
 | 0=>by unfold psE;decide
 | k+1=>by
  unfold psE
  split
  ·exact ps_11 s al sp k
  ·exact nx_11 _ _ _
theorem fc_11 (s:Stp) (al sp:List Int):fcE s al sp≠11:=by unfold fcE;split <;> (try split) <;> decide
theorem wt_11 (h:suE s=0) (al sp:List Int):wtE s al sp≠11:=by
 unfold wtE
 rw [if_neg (by rw [h];decide)]
 split
 ·exact fc_11 _ _ _
 ·exact ps_11 _ _ _ _
structure NmG (ws st:Cs.Wins) (n:Nat) (c:Int × Int) (i j:Nat):Prop where
 e:c=((i:Int),(j:Int))
 ij:i≤j
 jn:j<n
 x:0<Cs.exc ws st i j
theorem nm_of {ws st:Cs.Wins} {n:Nat} (h:Cs.confL ws st≠[]) (hn:ws.length=n):∃ i j,NmG ws st n (hdC (Cs.confL ws st)) i j:=by
 obtain ⟨i,j,h1,h2,h3,h4⟩:=Cs.mem_confL (hdC_mem h)
 exact ⟨i,j,h1,h2,by omega,h4⟩
theorem nm_no (N:StN s) (h:suE s≠0∨runE s≠11):runC s=(0,0)∧runS s=false:=by
 by_cases h0:suE s=0
 ·rcases h with h | h
  ·exact absurd h0 h
  have ha:altE s=0:=by
   by_cases ha:altE s=0
   ·exact ha
   ·have e:=(runE_a ha).1
    have G:=su_good h0
    have e2:altE s=crE (awL s) (stpL s) s.lv:=by unfold altE;rw [if_neg (by rw [h0];decide)]
    rcases cr_011 G N with ⟨h1,-⟩ | ⟨h1,-⟩
    ·exact absurd (e2.trans h1) ha
    ·exact absurd (e.trans (e2.trans h1)) h
  rcases pn_011 N ha with hp | hp
  ·exact (runE_w ha hp).2
  ·exact absurd (runE_p ha hp).1 h
 ·have ha:altE s≠0:=by unfold altE;rw [if_pos h0];exact h0
  obtain ⟨-,h1,h2⟩:=runE_a ha
  exact ⟨h1.trans (if_pos h0),h2⟩
theorem nm_alt (N:StN s) (h0:suE s=0) (ha:altE s≠0):runS s=false∧Cs.chkE (awC s) (stpL s)=0∧∃ i j,NmG (awC s) (stpL s) s.no.length (runC s) i j:=by
 have G:=su_good h0
 obtain ⟨-,h1,h2⟩:=runE_a ha
 have e2:altE s=crE (awL s) (stpL s) s.lv:=by unfold altE;rw [if_neg (by rw [h0];decide)]
 rcases cr_011 G N with ⟨h3,-⟩ | ⟨h3,h4⟩
 ·exact absurd (e2.trans h3) ha
 ·refine ⟨h2,(awC_ok G N).err,?_⟩
  have e3:runC s=hdC (Cs.confL (awC s) (stpL s)):=by
   rw [h1]
   unfold altC
   rw [if_neg (by rw [h0];decide),if_neg (by rw [h3];decide)]
  rw [e3]
  exact nm_of h4 (by unfold awC;simp)
theorem nm_spd (N:StN s) (h0:suE s=0) (ha:altE s=0) (h:runE s=11):runS s=true∧Cs.chkE (sdL s (altL s)) (spS s)=0∧∃ i j,NmG (sdL s (altL s)) (spS s) s.no.length (runC s) i j:=by
 have G:=su_good h0
 have A:=alt_good N ha
 have hp:pnE s=11:=by
  rcases pn_011 N ha with hp | hp
  ·exact absurd ((runE_w ha hp).1.symm.trans h) (wt_11 h0 _ _)
  ·exact hp
 obtain ⟨-,h1,h2⟩:=runE_p ha hp
 have hp':plE (sdL s (altL s)) (spS s) (wsh s)=11:=hp
 rcases pl_011 G N A.len with ⟨h3,-⟩ | ⟨-,h4⟩
 ·rw [h3] at hp';exact absurd hp' (by decide)
 ·refine ⟨h2,(Sp.rdE_0 (sp_ok G N A.len)).1,?_⟩
  have e3:runC s=hdC (Cs.confL (sdL s (altL s)) (spS s)):=by
   rw [h1]
   unfold pnC
   rw [if_pos hp]
  rw [e3]
  exact nm_of h4 (sdL_len A.len)
end
end Go.Proofs.YtgneijdjlahgbaaGreat
