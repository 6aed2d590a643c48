/- M16: Ex37, ExE, ExP, Pr13 in one text. -/
import Derived.Test.YtedcanagfajcgaaGreatM23
import Derived.Test.YtedcanagfajcgaaGreatM14
import Derived.Test.YtedcanagfajcgaaGreatM21
import Derived.Test.YtedcanagfajcgaaGreatM29
set_option linter.unusedSimpArgs false
set_option linter.unusedVariables false
set_option maxRecDepth 100000
set_option maxHeartbeats 16000000
namespace Go.Proofs.YtedcanagfajcgaaGreat
open Go.RowKit
def exP (H:Nat):Prf:=⟨⟨#[74,69,84]⟩,1000,1000000,exL H 8 2,exL H 9 2,exL H 3 2,exL H 6 2,exL H 6 2,exL H 10 2,exL H 11 2,exL H 12 2,exL H 13 2,400,0,3000000,[0,3000000],[1000,1000000],[exR H 1 [3000,3000],exR H 2 [2000,2000]],[exR H 4 [2000,2000],exR H 5 [2000,2000]],[exR H 4 [2000,2000],exR H 5 [2000,2000]],[1000,1000],[500,500],[340,300],[100,100]⟩
def exG (H:Nat) (err:Int):Grd:=⟨0,0,1,1,1,exL H 14 1,exL H 15 1,exL H 16 1,err,[0],[(0,0)],[0]⟩
def exS (H:Nat) (lo err:Int):Stp:=⟨exL H 7 2,[⟨0,0,0,0,0,lo,300⟩,⟨0,60000,60000,0,0,lo,300⟩],exP H,exG H err,⟨1000,900000,0,0⟩,0,300,900,0,0,0,250⟩
abbrev Dq:List Value:=[.slice none 0 0,.string ⟨#[]⟩,vI 0,vI 0,.slice none 0 0,.slice none 0 0,.slice none 0 0,.slice none 0 0,.slice none 0 0,.slice none 0 0,.slice none 0 0,.slice none 0 0,.slice none 0 0,vI 0,vI 0,vI 0,vI 0,vI 0,vI 0,vI 0,vI 0,.slice none 0 0,.slice none 0 0,.slice none 0 0,vI 0,vI 0,vI 0,vI 0,vI 0,vI 0,vI 0,vI 0,vI 0,vI 0,vI 0,vI 0]
open Go.Lib (hid)
theorem Af6 (err:Int) (w:World):Calls Tryz.prog 14 #[vI err] w fun e' w'=>∃ H,e'=.returned (.agg (exS H 0 err).cells.toArray)∧(exS H 0 err).lies w'∧Below w.heap.size w w':=by
 have HPO:=hid (fun (W:World) (h:∀ i cs,1<=i→([Dq,(lz2 3000 3000),(lz2 2000 2000),[.slice (some ⟨w.heap.size+1,0,none⟩) 2 2,.slice (some ⟨w.heap.size+1+1,0,none⟩) 2 2],(lz2 2000 2000),(lz2 2000 2000),[.slice (some ⟨w.heap.size+1+1+1+1,0,none⟩) 2 2,.slice (some ⟨w.heap.size+1+1+1+1+1,0,none⟩) 2 2],[vI 0,vI 0,vI 0,vI 0,vI 0,vI 0,vI 300,vI 0,vI 60000,vI 60000,vI 0,vI 0,vI 0,vI 300],(lz2 0 3000000),(lz2 1000 1000000),(lz2 1000 1000),(lz2 500 500),(lz2 340 300),(lz2 100 100),[vI 0],(lz2 0 0),[vI 0]]:List (List Value))[i]? = some cs→Has W (pl w.heap.size i) cs)=>show (exS w.heap.size 0 err).lies W from
  have R:∀ i (l:List Int),1<=i→([Dq,(lz2 3000 3000),(lz2 2000 2000),[.slice (some ⟨w.heap.size+1,0,none⟩) 2 2,.slice (some ⟨w.heap.size+1+1,0,none⟩) 2 2],(lz2 2000 2000),(lz2 2000 2000),[.slice (some ⟨w.heap.size+1+1+1+1,0,none⟩) 2 2,.slice (some ⟨w.heap.size+1+1+1+1+1,0,none⟩) 2 2],[vI 0,vI 0,vI 0,vI 0,vI 0,vI 0,vI 300,vI 0,vI 60000,vI 60000,vI 0,vI 0,vI 0,vI 300],(lz2 0 3000000),(lz2 1000 1000000),(lz2 1000 1000),(lz2 500 500),(lz2 340 300),(lz2 100 100),[vI 0],(lz2 0 0),[vI 0]]:List (List Value))[i]? = some (l.map fun v=>vI v)→∀ n,l.length=n→Ints W (some ⟨pl w.heap.size i,0,none⟩) n l:=fun i l h1 h2 n hn=>Wq (h i _ h1 h2) rfl hn
  have T:∀ i j k (a b:List Int),1<=k→([Dq,(lz2 3000 3000),(lz2 2000 2000),[.slice (some ⟨w.heap.size+1,0,none⟩) 2 2,.slice (some ⟨w.heap.size+1+1,0,none⟩) 2 2],(lz2 2000 2000),(lz2 2000 2000),[.slice (some ⟨w.heap.size+1+1+1+1,0,none⟩) 2 2,.slice (some ⟨w.heap.size+1+1+1+1+1,0,none⟩) 2 2],[vI 0,vI 0,vI 0,vI 0,vI 0,vI 0,vI 300,vI 0,vI 60000,vI 60000,vI 0,vI 0,vI 0,vI 300],(lz2 0 3000000),(lz2 1000 1000000),(lz2 1000 1000),(lz2 500 500),(lz2 340 300),(lz2 100 100),[vI 0],(lz2 0 0),[vI 0]]:List (List Value))[k]? = some ([exR w.heap.size i a,exR w.heap.size j b].flatMap Row.cells)→Ints W (some ⟨pl w.heap.size i,0,none⟩) 2 a→Ints W (some ⟨pl w.heap.size j,0,none⟩) 2 b→Tab W (some ⟨pl w.heap.size k,0,none⟩) 2 [exR w.heap.size i a,exR w.heap.size j b]:=fun i j k a b h1 h2 ha hb=>⟨K9 (f:=Row.cells) (sz:=1) (fun _=>rfl) (h k _ h1 h2) rfl rfl,fun r hr=>by
   rcases List.mem_cons.1 hr with rfl | hr
   ·exact ha
   ·obtain rfl:=List.mem_singleton.1 hr
    exact hb⟩
  have r1:=R 1 [3000,3000] (by decide) rfl 2 rfl;have r2:=R 2 [2000,2000] (by decide) rfl 2 rfl;have r4:=R 4 [2000,2000] (by decide) rfl 2 rfl;have r5:=R 5 [2000,2000] (by decide) rfl 2 rfl;have t6:=T 4 5 6 [2000,2000] [2000,2000] (by decide) rfl r4 r5
  ⟨K9 (f:=Nod.cells) (sz:=7) (fun _=>rfl) (h 7 _ (by decide) rfl) rfl rfl,
   ⟨R 8 _ (by decide) rfl 2 rfl,R 9 _ (by decide) rfl 2 rfl,T 1 2 3 [3000,3000] [2000,2000] (by decide) rfl r1 r2,t6,t6,R 10 _ (by decide) rfl 2 rfl,R 11 _ (by decide) rfl 2 rfl,R 12 _ (by decide) rfl 2 rfl,R 13 _ (by decide) rfl 2 rfl⟩,
   ⟨R 14 [0] (by decide) rfl 1 rfl,K9 (f:=win) (sz:=2) (fun _=>rfl) (h 15 _ (by decide) rfl) rfl rfl,R 16 [0] (by decide) rfl 1 rfl⟩⟩)
 have HB:=hid (And.intro (DR w #[.slice none 0 0,.string ⟨#[]⟩,vI 0,vI 0,.slice none 0 0,.slice none 0 0,.slice none 0 0,.slice none 0 0,.slice none 0 0,.slice none 0 0,.slice none 0 0,.slice none 0 0,.slice none 0 0,vI 0,vI 0,vI 0,vI 0,vI 0,vI 0,vI 0,vI 0,.slice none 0 0,.slice none 0 0,.slice none 0 0,vI 0,vI 0,vI 0,vI 0,vI 0,vI 0,vI 0,vI 0,vI 0,vI 0,vI 0,vI 0] 35) (show (w.alloc (.cells #[.slice none 0 0,.string ⟨#[]⟩,vI 0,vI 0,.slice none 0 0,.slice none 0 0,.slice none 0 0,.slice none 0 0,.slice none 0 0,.slice none 0 0,.slice none 0 0,.slice none 0 0,.slice none 0 0,vI 0,vI 0,vI 0,vI 0,vI 0,vI 0,vI 0,vI 0,.slice none 0 0,.slice none 0 0,.slice none 0 0,vI 0,vI 0,vI 0,vI 0,vI 0,vI 0,vI 0,vI 0,vI 0,vI 0,vI 0,vI 0] 35)).heap.size=w.heap.size+1 by simp))
 go_enter Tryz.func14,Tryz.ntmps14
 go_wp2_with (refine AZ _ _ _ rfl rfl (w.heap.size+1) HB.out.2 #[vI 3000,vI 3000] 2 (fun W=>by go_simp) ?_)
 refine Named.mk fun W1 hW=>?_
 replace HB:=hid (show BoxS w 2 [Dq,(lz2 3000 3000)] W1∧W1.heap.size=w.heap.size+1+1 from by rw [hW];exact HB.out.1.more rfl HB.out.2 #[vI 3000,vI 3000] 2);clear hW
 go_wp2_with (refine AZ _ _ _ rfl rfl (w.heap.size+1+1) HB.out.2 #[vI 2000,vI 2000] 2 (fun W=>by go_simp) ?_)
 refine Named.mk fun W2 hW=>?_
 replace HB:=hid (show BoxS w 3 [Dq,(lz2 3000 3000),(lz2 2000 2000)] W2∧W2.heap.size=w.heap.size+1+1+1 from by rw [hW];exact HB.out.1.more rfl HB.out.2 #[vI 2000,vI 2000] 2);clear hW
 go_wp2_with (refine AZ _ _ _ rfl rfl (w.heap.size+1+1+1) HB.out.2 #[.slice (some ⟨w.heap.size+1,0,none⟩) 2 2,.slice (some ⟨w.heap.size+1+1,0,none⟩) 2 2] 23 (fun W=>by go_simp) ?_)
 refine Named.mk fun W3 hW=>?_
 replace HB:=hid (show BoxS w 4 [Dq,(lz2 3000 3000),(lz2 2000 2000),[.slice (some ⟨w.heap.size+1,0,none⟩) 2 2,.slice (some ⟨w.heap.size+1+1,0,none⟩) 2 2]] W3∧W3.heap.size=w.heap.size+1+1+1+1 from by rw [hW];exact HB.out.1.more rfl HB.out.2 #[.slice (some ⟨w.heap.size+1,0,none⟩) 2 2,.slice (some ⟨w.heap.size+1+1,0,none⟩) 2 2] 23);clear hW
 go_wp2_with (refine AZ _ _ _ rfl rfl (w.heap.size+1+1+1+1) HB.out.2 #[vI 2000,vI 2000] 2 (fun W=>by go_simp) ?_)
 refine Named.mk fun W4 hW=>?_
 replace HB:=hid (show BoxS w 5 [Dq,(lz2 3000 3000),(lz2 2000 2000),[.slice (some ⟨w.heap.size+1,0,none⟩) 2 2,.slice (some ⟨w.heap.size+1+1,0,none⟩) 2 2],(lz2 2000 2000)] W4∧W4.heap.size=w.heap.size+1+1+1+1+1 from by rw [hW];exact HB.out.1.more rfl HB.out.2 #[vI 2000,vI 2000] 2);clear hW
 go_wp2_with (refine AZ _ _ _ rfl rfl (w.heap.size+1+1+1+1+1) HB.out.2 #[vI 2000,vI 2000] 2 (fun W=>by go_simp) ?_)
 refine Named.mk fun W5 hW=>?_
 replace HB:=hid (show BoxS w 6 [Dq,(lz2 3000 3000),(lz2 2000 2000),[.slice (some ⟨w.heap.size+1,0,none⟩) 2 2,.slice (some ⟨w.heap.size+1+1,0,none⟩) 2 2],(lz2 2000 2000),(lz2 2000 2000)] W5∧W5.heap.size=w.heap.size+1+1+1+1+1+1 from by rw [hW];exact HB.out.1.more rfl HB.out.2 #[vI 2000,vI 2000] 2);clear hW
 go_wp2_with (refine AZ _ _ _ rfl rfl (w.heap.size+1+1+1+1+1+1) HB.out.2 #[.slice (some ⟨w.heap.size+1+1+1+1,0,none⟩) 2 2,.slice (some ⟨w.heap.size+1+1+1+1+1,0,none⟩) 2 2] 23 (fun W=>by go_simp) ?_)
 refine Named.mk fun W6 hW=>?_
 replace HB:=hid (show BoxS w 7 [Dq,(lz2 3000 3000),(lz2 2000 2000),[.slice (some ⟨w.heap.size+1,0,none⟩) 2 2,.slice (some ⟨w.heap.size+1+1,0,none⟩) 2 2],(lz2 2000 2000),(lz2 2000 2000),[.slice (some ⟨w.heap.size+1+1+1+1,0,none⟩) 2 2,.slice (some ⟨w.heap.size+1+1+1+1+1,0,none⟩) 2 2]] W6∧W6.heap.size=w.heap.size+1+1+1+1+1+1+1 from by rw [hW];exact HB.out.1.more rfl HB.out.2 #[.slice (some ⟨w.heap.size+1+1+1+1,0,none⟩) 2 2,.slice (some ⟨w.heap.size+1+1+1+1+1,0,none⟩) 2 2] 23);clear hW
 go_wp2_with (refine AZ _ _ _ rfl rfl (w.heap.size+1+1+1+1+1+1+1) HB.out.2 #[vI 0,vI 0,vI 0,vI 0,vI 0,vI 0,vI 300,vI 0,vI 60000,vI 60000,vI 0,vI 0,vI 0,vI 300] 67 (fun W=>by go_simp) ?_)
 refine Named.mk fun W7 hW=>?_
 replace HB:=hid (show BoxS w 8 [Dq,(lz2 3000 3000),(lz2 2000 2000),[.slice (some ⟨w.heap.size+1,0,none⟩) 2 2,.slice (some ⟨w.heap.size+1+1,0,none⟩) 2 2],(lz2 2000 2000),(lz2 2000 2000),[.slice (some ⟨w.heap.size+1+1+1+1,0,none⟩) 2 2,.slice (some ⟨w.heap.size+1+1+1+1+1,0,none⟩) 2 2],[vI 0,vI 0,vI 0,vI 0,vI 0,vI 0,vI 300,vI 0,vI 60000,vI 60000,vI 0,vI 0,vI 0,vI 300]] W7∧W7.heap.size=w.heap.size+1+1+1+1+1+1+1+1 from by rw [hW];exact HB.out.1.more rfl HB.out.2 #[vI 0,vI 0,vI 0,vI 0,vI 0,vI 0,vI 300,vI 0,vI 60000,vI 60000,vI 0,vI 0,vI 0,vI 300] 67);clear hW
 go_wp2_with (refine AZ _ _ _ rfl rfl (w.heap.size+1+1+1+1+1+1+1+1) HB.out.2 #[vI 0,vI 3000000] 2 (fun W=>by go_simp) ?_)
 refine Named.mk fun W8 hW=>?_
 replace HB:=hid (show BoxS w 9 [Dq,(lz2 3000 3000),(lz2 2000 2000),[.slice (some ⟨w.heap.size+1,0,none⟩) 2 2,.slice (some ⟨w.heap.size+1+1,0,none⟩) 2 2],(lz2 2000 2000),(lz2 2000 2000),[.slice (some ⟨w.heap.size+1+1+1+1,0,none⟩) 2 2,.slice (some ⟨w.heap.size+1+1+1+1+1,0,none⟩) 2 2],[vI 0,vI 0,vI 0,vI 0,vI 0,vI 0,vI 300,vI 0,vI 60000,vI 60000,vI 0,vI 0,vI 0,vI 300],(lz2 0 3000000)] W8∧W8.heap.size=w.heap.size+1+1+1+1+1+1+1+1+1 from by rw [hW];exact HB.out.1.more rfl HB.out.2 #[vI 0,vI 3000000] 2);clear hW
 go_wp2_with (refine AZ _ _ _ rfl rfl (w.heap.size+1+1+1+1+1+1+1+1+1) HB.out.2 #[vI 1000,vI 1000000] 2 (fun W=>by go_simp) ?_)
 refine Named.mk fun W9 hW=>?_
 replace HB:=hid (show BoxS w 10 [Dq,(lz2 3000 3000),(lz2 2000 2000),[.slice (some ⟨w.heap.size+1,0,none⟩) 2 2,.slice (some ⟨w.heap.size+1+1,0,none⟩) 2 2],(lz2 2000 2000),(lz2 2000 2000),[.slice (some ⟨w.heap.size+1+1+1+1,0,none⟩) 2 2,.slice (some ⟨w.heap.size+1+1+1+1+1,0,none⟩) 2 2],[vI 0,vI 0,vI 0,vI 0,vI 0,vI 0,vI 300,vI 0,vI 60000,vI 60000,vI 0,vI 0,vI 0,vI 300],(lz2 0 3000000),(lz2 1000 1000000)] W9∧W9.heap.size=w.heap.size+1+1+1+1+1+1+1+1+1+1 from by rw [hW];exact HB.out.1.more rfl HB.out.2 #[vI 1000,vI 1000000] 2);clear hW
 go_wp2_with (refine AZ _ _ _ rfl rfl (w.heap.size+1+1+1+1+1+1+1+1+1+1) HB.out.2 #[vI 1000,vI 1000] 2 (fun W=>by go_simp) ?_)
 refine Named.mk fun W10 hW=>?_
 replace HB:=hid (show BoxS w 11 [Dq,(lz2 3000 3000),(lz2 2000 2000),[.slice (some ⟨w.heap.size+1,0,none⟩) 2 2,.slice (some ⟨w.heap.size+1+1,0,none⟩) 2 2],(lz2 2000 2000),(lz2 2000 2000),[.slice (some ⟨w.heap.size+1+1+1+1,0,none⟩) 2 2,.slice (some ⟨w.heap.size+1+1+1+1+1,0,none⟩) 2 2],[vI 0,vI 0,vI 0,vI 0,vI 0,vI 0,vI 300,vI 0,vI 60000,vI 60000,vI 0,vI 0,vI 0,vI 300],(lz2 0 3000000),(lz2 1000 1000000),(lz2 1000 1000)] W10∧W10.heap.size=w.heap.size+1+1+1+1+1+1+1+1+1+1+1 from by rw [hW];exact HB.out.1.more rfl HB.out.2 #[vI 1000,vI 1000] 2);clear hW
 go_wp2_with (refine AZ _ _ _ rfl rfl (w.heap.size+1+1+1+1+1+1+1+1+1+1+1) HB.out.2 #[vI 500,vI 500] 2 (fun W=>by go_simp) ?_)
 refine Named.mk fun W11 hW=>?_
 replace HB:=hid (show BoxS w 12 [Dq,(lz2 3000 3000),(lz2 2000 2000),[.slice (some ⟨w.heap.size+1,0,none⟩) 2 2,.slice (some ⟨w.heap.size+1+1,0,none⟩) 2 2],(lz2 2000 2000),(lz2 2000 2000),[.slice (some ⟨w.heap.size+1+1+1+1,0,none⟩) 2 2,.slice (some ⟨w.heap.size+1+1+1+1+1,0,none⟩) 2 2],[vI 0,vI 0,vI 0,vI 0,vI 0,vI 0,vI 300,vI 0,vI 60000,vI 60000,vI 0,vI 0,vI 0,vI 300],(lz2 0 3000000),(lz2 1000 1000000),(lz2 1000 1000),(lz2 500 500)] W11∧W11.heap.size=w.heap.size+1+1+1+1+1+1+1+1+1+1+1+1 from by rw [hW];exact HB.out.1.more rfl HB.out.2 #[vI 500,vI 500] 2);clear hW
 go_wp2_with (refine AZ _ _ _ rfl rfl (w.heap.size+1+1+1+1+1+1+1+1+1+1+1+1) HB.out.2 #[vI 340,vI 300] 2 (fun W=>by go_simp) ?_)
 refine Named.mk fun W12 hW=>?_
 replace HB:=hid (show BoxS w 13 [Dq,(lz2 3000 3000),(lz2 2000 2000),[.slice (some ⟨w.heap.size+1,0,none⟩) 2 2,.slice (some ⟨w.heap.size+1+1,0,none⟩) 2 2],(lz2 2000 2000),(lz2 2000 2000),[.slice (some ⟨w.heap.size+1+1+1+1,0,none⟩) 2 2,.slice (some ⟨w.heap.size+1+1+1+1+1,0,none⟩) 2 2],[vI 0,vI 0,vI 0,vI 0,vI 0,vI 0,vI 300,vI 0,vI 60000,vI 60000,vI 0,vI 0,vI 0,vI 300],(lz2 0 3000000),(lz2 1000 1000000),(lz2 1000 1000),(lz2 500 500),(lz2 340 300)] W12∧W12.heap.size=w.heap.size+1+1+1+1+1+1+1+1+1+1+1+1+1 from by rw [hW];exact HB.out.1.more rfl HB.out.2 #[vI 340,vI 300] 2);clear hW
 go_wp2_with (refine AZ _ _ _ rfl rfl (w.heap.size+1+1+1+1+1+1+1+1+1+1+1+1+1) HB.out.2 #[vI 100,vI 100] 2 (fun W=>by go_simp) ?_)
 refine Named.mk fun W13 hW=>?_
 replace HB:=hid (show BoxS w 14 [Dq,(lz2 3000 3000),(lz2 2000 2000),[.slice (some ⟨w.heap.size+1,0,none⟩) 2 2,.slice (some ⟨w.heap.size+1+1,0,none⟩) 2 2],(lz2 2000 2000),(lz2 2000 2000),[.slice (some ⟨w.heap.size+1+1+1+1,0,none⟩) 2 2,.slice (some ⟨w.heap.size+1+1+1+1+1,0,none⟩) 2 2],[vI 0,vI 0,vI 0,vI 0,vI 0,vI 0,vI 300,vI 0,vI 60000,vI 60000,vI 0,vI 0,vI 0,vI 300],(lz2 0 3000000),(lz2 1000 1000000),(lz2 1000 1000),(lz2 500 500),(lz2 340 300),(lz2 100 100)] W13∧W13.heap.size=w.heap.size+1+1+1+1+1+1+1+1+1+1+1+1+1+1 from by rw [hW];exact HB.out.1.more rfl HB.out.2 #[vI 100,vI 100] 2);clear hW
 go_wp2_with (refine AZ _ _ _ rfl rfl (w.heap.size+1+1+1+1+1+1+1+1+1+1+1+1+1+1) HB.out.2 #[vI 0] 2 (fun W=>by go_simp) ?_)
 refine Named.mk fun W14 hW=>?_
 replace HB:=hid (show BoxS w 15 [Dq,(lz2 3000 3000),(lz2 2000 2000),[.slice (some ⟨w.heap.size+1,0,none⟩) 2 2,.slice (some ⟨w.heap.size+1+1,0,none⟩) 2 2],(lz2 2000 2000),(lz2 2000 2000),[.slice (some ⟨w.heap.size+1+1+1+1,0,none⟩) 2 2,.slice (some ⟨w.heap.size+1+1+1+1+1,0,none⟩) 2 2],[vI 0,vI 0,vI 0,vI 0,vI 0,vI 0,vI 300,vI 0,vI 60000,vI 60000,vI 0,vI 0,vI 0,vI 300],(lz2 0 3000000),(lz2 1000 1000000),(lz2 1000 1000),(lz2 500 500),(lz2 340 300),(lz2 100 100),[vI 0]] W14∧W14.heap.size=w.heap.size+1+1+1+1+1+1+1+1+1+1+1+1+1+1+1 from by rw [hW];exact HB.out.1.more rfl HB.out.2 #[vI 0] 2);clear hW
 go_wp2_with (refine AZ _ _ _ rfl rfl (w.heap.size+1+1+1+1+1+1+1+1+1+1+1+1+1+1+1) HB.out.2 #[vI 0,vI 0] 62 (fun W=>by go_simp) ?_)
 refine Named.mk fun W15 hW=>?_
 replace HB:=hid (show BoxS w 16 [Dq,(lz2 3000 3000),(lz2 2000 2000),[.slice (some ⟨w.heap.size+1,0,none⟩) 2 2,.slice (some ⟨w.heap.size+1+1,0,none⟩) 2 2],(lz2 2000 2000),(lz2 2000 2000),[.slice (some ⟨w.heap.size+1+1+1+1,0,none⟩) 2 2,.slice (some ⟨w.heap.size+1+1+1+1+1,0,none⟩) 2 2],[vI 0,vI 0,vI 0,vI 0,vI 0,vI 0,vI 300,vI 0,vI 60000,vI 60000,vI 0,vI 0,vI 0,vI 300],(lz2 0 3000000),(lz2 1000 1000000),(lz2 1000 1000),(lz2 500 500),(lz2 340 300),(lz2 100 100),[vI 0],(lz2 0 0)] W15∧W15.heap.size=w.heap.size+1+1+1+1+1+1+1+1+1+1+1+1+1+1+1+1 from by rw [hW];exact HB.out.1.more rfl HB.out.2 #[vI 0,vI 0] 62);clear hW
 go_wp2_with (refine AZ _ _ _ rfl rfl (w.heap.size+1+1+1+1+1+1+1+1+1+1+1+1+1+1+1+1) HB.out.2 #[vI 0] 2 (fun W=>by go_simp) ?_)
 refine Named.mk fun W16 hW=>?_
 replace HB:=hid (show BoxS w 17 [Dq,(lz2 3000 3000),(lz2 2000 2000),[.slice (some ⟨w.heap.size+1,0,none⟩) 2 2,.slice (some ⟨w.heap.size+1+1,0,none⟩) 2 2],(lz2 2000 2000),(lz2 2000 2000),[.slice (some ⟨w.heap.size+1+1+1+1,0,none⟩) 2 2,.slice (some ⟨w.heap.size+1+1+1+1+1,0,none⟩) 2 2],[vI 0,vI 0,vI 0,vI 0,vI 0,vI 0,vI 300,vI 0,vI 60000,vI 60000,vI 0,vI 0,vI 0,vI 300],(lz2 0 3000000),(lz2 1000 1000000),(lz2 1000 1000),(lz2 500 500),(lz2 340 300),(lz2 100 100),[vI 0],(lz2 0 0),[vI 0]] W16∧W16.heap.size=w.heap.size+1+1+1+1+1+1+1+1+1+1+1+1+1+1+1+1+1 from by rw [hW];exact HB.out.1.more rfl HB.out.2 #[vI 0] 2);clear hW
 go_wp2_with (refine PO 35 (.tmp 2) (.tmp 34) rfl rfl w.heap.size _ rfl rfl (by kernel_rfl) (by kernel_rfl) ?_)
 refine Named.mk fun W hW=>?_
 subst hW;have HX:=hid HB.out.1;clear HB
 refine ⟨(HX.out.has 0 _ rfl).there rfl,Named.mk fun W2 hW2=>?_⟩
 have HY:=hid (show Has W2 w.heap.size [.slice (some ⟨w.heap.size+1+1+1+1+1+1+1,0,none⟩) 2 2,.string ⟨#[74,69,84]⟩,vI 1000,vI 1000000,.slice (some ⟨w.heap.size+1+1+1+1+1+1+1+1,0,none⟩) 2 2,.slice (some ⟨w.heap.size+1+1+1+1+1+1+1+1+1,0,none⟩) 2 2,.slice (some ⟨w.heap.size+1+1+1,0,none⟩) 2 2,.slice (some ⟨w.heap.size+1+1+1+1+1+1,0,none⟩) 2 2,.slice (some ⟨w.heap.size+1+1+1+1+1+1,0,none⟩) 2 2,.slice (some ⟨w.heap.size+1+1+1+1+1+1+1+1+1+1,0,none⟩) 2 2,.slice (some ⟨w.heap.size+1+1+1+1+1+1+1+1+1+1+1,0,none⟩) 2 2,.slice (some ⟨w.heap.size+1+1+1+1+1+1+1+1+1+1+1+1,0,none⟩) 2 2,.slice (some ⟨w.heap.size+1+1+1+1+1+1+1+1+1+1+1+1+1,0,none⟩) 2 2,vI 400,vI 0,vI 3000000,vI 0,vI 0,vI 1,vI 1,vI 1,.slice (some ⟨w.heap.size+1+1+1+1+1+1+1+1+1+1+1+1+1+1,0,none⟩) 1 1,.slice (some ⟨w.heap.size+1+1+1+1+1+1+1+1+1+1+1+1+1+1+1,0,none⟩) 1 1,.slice (some ⟨w.heap.size+1+1+1+1+1+1+1+1+1+1+1+1+1+1+1+1,0,none⟩) 1 1,vI err,vI 1000,vI 900000,vI 0,vI 0,vI 0,vI 300,vI 900,vI 0,vI 0,vI 0,vI 250] from by rw [hW2];exact (HX.out.has 0 _ rfl).setCells_same rfl);have HZ:=hid (show (exS w.heap.size 0 err).lies W2 from HPO.out W2 fun i cs h1 h2=>by rw [hW2,AaV];exact (HX.out.has i cs h2).setCells_other _ _ _ (by omega));have HBW:=hid (show Below w.heap.size w W2 from by rw [hW2];exact F7 _ HX.out.B _ _ (Bn _));clear hW2 HX HPO
 go_wp2_with fail
 exact bodyPost_ret (UJ Tryz.results14 _ W2 w.heap.size [.slice (some ⟨w.heap.size+1+1+1+1+1+1+1,0,none⟩) 2 2,.string ⟨#[74,69,84]⟩,vI 1000,vI 1000000,.slice (some ⟨w.heap.size+1+1+1+1+1+1+1+1,0,none⟩) 2 2,.slice (some ⟨w.heap.size+1+1+1+1+1+1+1+1+1,0,none⟩) 2 2,.slice (some ⟨w.heap.size+1+1+1,0,none⟩) 2 2,.slice (some ⟨w.heap.size+1+1+1+1+1+1,0,none⟩) 2 2,.slice (some ⟨w.heap.size+1+1+1+1+1+1,0,none⟩) 2 2,.slice (some ⟨w.heap.size+1+1+1+1+1+1+1+1+1+1,0,none⟩) 2 2,.slice (some ⟨w.heap.size+1+1+1+1+1+1+1+1+1+1+1,0,none⟩) 2 2,.slice (some ⟨w.heap.size+1+1+1+1+1+1+1+1+1+1+1+1,0,none⟩) 2 2,.slice (some ⟨w.heap.size+1+1+1+1+1+1+1+1+1+1+1+1+1,0,none⟩) 2 2,vI 400,vI 0,vI 3000000,vI 0,vI 0,vI 1,vI 1,vI 1,.slice (some ⟨w.heap.size+1+1+1+1+1+1+1+1+1+1+1+1+1+1,0,none⟩) 1 1,.slice (some ⟨w.heap.size+1+1+1+1+1+1+1+1+1+1+1+1+1+1+1,0,none⟩) 1 1,.slice (some ⟨w.heap.size+1+1+1+1+1+1+1+1+1+1+1+1+1+1+1+1,0,none⟩) 1 1,vI err,vI 1000,vI 900000,vI 0,vI 0,vI 0,vI 300,vI 900,vI 0,vI 0,vI 0,vI 250] _ rfl (HY.out.range 0 fun j v hv=>by rw [Nat.zero_add];exact hv) Tryz.underlying35 rfl (by kernel_rfl)) rfl ⟨w.heap.size,rfl,HZ.out,HBW.out⟩
theorem AdR (H:Nat) (err:Int) (he:err=0∨err=30):suE (exS H 0 err)=0:=by rcases he with rfl | rfl <;> kernel_rfl
theorem AdS (H:Nat) (err:Int) (he:err=0∨err=30):Dr (exS H 0 err)=0:=by rcases he with rfl | rfl <;> kernel_rfl
theorem YQ (H:Nat) (err:Int) (he:err=0∨err=30):C8 (exS H 0 err)=[0,0]:=by rcases he with rfl | rfl <;> kernel_rfl
theorem AdT (H:Nat) (err:Int) (he:err=0∨err=30):pnE (exS H 0 err)=0:=by rcases he with rfl | rfl <;> kernel_rfl
theorem YR (H:Nat) (err:Int) (he:err=0∨err=30):pnL (exS H 0 err)=[300,300]:=by rcases he with rfl | rfl <;> kernel_rfl
theorem AdU (H:Nat) (err:Int) (he:err=0∨err=30):fcE (exS H 0 err) [0,0] [300,300]=0:=by rcases he with rfl | rfl <;> kernel_rfl
theorem Afq (H:Nat):suH (exS H 0 30) 0=⟨-30,30,-30,30,0,0⟩:=by kernel_rfl
theorem AdV (H:Nat):suH (exS H 0 0) 0=⟨0,0,0,0,0,0⟩:=by kernel_rfl
theorem YT:Ck 300 900 0 0=300:=by
 have h:sdV 0 0=10583:=AfJ
 have h2:omV 900 0 0=596:=by unfold omV;rw [h];decide
 have h3:tsV 300 0 0=300:=by decide
 unfold Ck
 rw [h2,h3]
 decide
theorem Qr:gsV 0 300 0 0=307200∧gsE 0 300 0 0=0:=by
 obtain ⟨h1,h2⟩:=Afi 0 0 (.inr (.inl rfl)) (.inr (.inl rfl))
 have h3:gsR 0 300 0 0=307200:=by unfold gsR;rw [h2];exact JD (by decide) (by decide) (by decide)
 have h4:gsE 0 300 0 0=0:=by unfold gsE;rw [h1,h2,h3];decide
 refine ⟨?_,h4⟩
 unfold gsV
 rw [if_pos h4,h1,h3];decide
theorem VY:giE 0 300 300 (-30) 30 (-30) 30=0∧giL 0 300 300 (-30) 30 (-30) 30=268∧giH 0 300 300 (-30) 30 (-30) 30=330:=by
 have m1:mn4 (alV 0) (-30) 30 (-30) 30 = -30720:=by decide
 have m2:mx4 (alV 0) (-30) 30 (-30) 30=30720:=by decide
 have f1:giF 0 (-30) 30 (-30) 30=30720:=by decide
 have f2:giN 0 (-30) 30 (-30) 30=0:=by decide
 have l1:Ey 0 300 (-30) 30 (-30) 30=274940:=by unfold Ey;rw [m1,f1,JD (r:=305660) (by decide) (by decide) (by decide)];decide
 have l2:FU 0 300 (-30) 30 (-30) 30=337920:=by unfold FU;rw [m2,f2,JD (r:=307200) (by decide) (by decide) (by decide)];decide
 have h:giE 0 300 300 (-30) 30 (-30) 30=0:=by unfold giE;rw [f1,l1];decide
 refine ⟨h,?_,?_⟩
 ·unfold giL;rw [if_pos h,l1];decide
 ·unfold giH;rw [if_pos h,l2];decide
theorem Acf:giE 0 300 300 0 0 0 0=0∧giL 0 300 300 0 0 0 0=300∧giH 0 300 300 0 0 0 0=300:=by
 have m1:mn4 (alV 0) 0 0 0 0=0:=by decide
 have m2:mx4 (alV 0) 0 0 0 0=0:=by decide
 have f1:giF 0 0 0 0 0=0:=by decide
 have f2:giN 0 0 0 0 0=0:=by decide
 have l1:Ey 0 300 0 0 0 0=307200:=by unfold Ey;rw [m1,f1,JD (r:=307200) (by decide) (by decide) (by decide)];decide
 have l2:FU 0 300 0 0 0 0=307200:=by unfold FU;rw [m2,f2,JD (r:=307200) (by decide) (by decide) (by decide)];decide
 have h:giE 0 300 300 0 0 0 0=0:=by unfold giE;rw [f1,l1];decide
 refine ⟨h,?_,?_⟩
 ·unfold giL;rw [if_pos h,l1];decide
 ·unfold giH;rw [if_pos h,l2];decide
theorem Aaz (H:Nat) (err:Int):lgV (exS H 0 err) [0,0] [300,300] 0=⟨0,0,2,300,300,0,0⟩:=by
 have e1:lgA [0,0] 0=0:=by decide
 have e2:lgA [300,300] 0=300:=by decide
 have e3:lgP [0,0] 0=2:=by decide
 have e4:coV (Ac (exS H 0 err) 0).px (Ac (exS H 0 err) 0).py (Ac (exS H 0 err) (0+1)).px (Ac (exS H 0 err) (0+1)).py=0:=Afp
 have e5:gAt (exS H 0 err).gr (elE (exS H 0 err).gr) (lgX (exS H 0 err) 0) (lgY (exS H 0 err) 0) 0=0:=by kernel_rfl
 have e6:gAt (exS H 0 err).gr (elN (exS H 0 err).gr) (lgX (exS H 0 err) 0) (lgY (exS H 0 err) 0) 0=0:=by kernel_rfl
 have e7:gAt (exS H 0 err).gr (elD (exS H 0 err).gr) (lgX (exS H 0 err) 0) (lgY (exS H 0 err) 0) 0=0:=by kernel_rfl
 unfold lgV
 rw [e1,e2,e3,e4,e5,e6,e7]
 have e8':Ck 300 (exS H 0 err).mch 0 0=300:=YT
 rw [e8']
def Jo:Pass:=⟨0,300,300,0,0,900000,0,0,0,0,900000,900000,0⟩
def exX0:Nx:=⟨⟨0,0,2,300,300,0,0⟩,⟨0,0,0,0,0,0⟩,300,300,60000⟩
def exX30:Nx:=⟨⟨0,0,2,300,300,0,0⟩,⟨-30,30,-30,30,0,0⟩,300,300,60000⟩
theorem AaB (H:Nat) (err:Int):psP (exS H 0 err) [0,0] [300,300] 0=Jo:=by
 have e5:gAt (exS H 0 err).gr (elD (exS H 0 err).gr) (Ac (exS H 0 err) 0).px (Ac (exS H 0 err) 0).py 0=0:=by kernel_rfl
 have e6:(exS H 0 err).ac.left=900000:=by kernel_rfl
 show YV (exS H 0 err) [0,0] [300,300]=Jo
 unfold YV
 rw [show ([0,0]:List Int).getD 0 0=0 by decide,show ([300,300]:List Int).getD 0 0=300 by decide,e5,e6,show Ck 300 (exS H 0 err).mch 0 0=300 from YT]
 rfl
theorem AaC (H:Nat):nxV (exS H 0 0) [0,0] [300,300] 0=exX0:=by
 unfold nxV
 rw [Aaz,AdV,show lgA [0,0] 0=0 by decide,show lgA [300,300] 0=300 by decide,show Ck 300 (exS H 0 0).mch 0 0=300 from YT]
 rfl
theorem VF (H:Nat):nxV (exS H 0 30) [0,0] [300,300] 0=exX30:=by
 unfold nxV
 rw [Aaz,Afq,show lgA [0,0] 0=0 by decide,show lgA [300,300] 0=300 by decide,show Ck 300 (exS H 0 30).mch 0 0=300 from YT]
 rfl
theorem Aay (H:Nat) (err:Int) (x:Nx) (hx:x.l=⟨0,0,2,300,300,0,0⟩) (hd:x.di=60000):x.g=300∧x.t=200∧x.fu (exS H 0 err) Jo=500000:=by
 have h1:x.g=300:=by
  unfold Nx.g
  rw [hx]
  show gsV 0 300 0 0 / 1024=300
  rw [Qr.1];decide
 have h2:x.t=200:=by unfold Nx.t;rw [h1,hd];decide
 refine ⟨h1,h2,?_⟩
 unfold Nx.fu
 rw [h2,hx]
 kernel_rfl
theorem AdQ (H:Nat):exX0.E (exS H 0 0) Jo=0∧exX0.P (exS H 0 0) Jo 0 300=⟨0,300,300,300,200,500000,300,300,200,200,500000,500000,2⟩:=by
 obtain ⟨h1,h2,h3⟩:=Aay H 0 exX0 rfl rfl;have g1:giE exX0.l.co exX0.slow exX0.fast exX0.h.e0 exX0.h.e1 exX0.h.n0 exX0.h.n1=0:=Acf.1;have l1:exX0.gl=300:=Acf.2.1;have l2:exX0.gh=300:=Acf.2.2
 have t0:exX0.t0=200:=by unfold Nx.t0;rw [l2];decide
 have t1:exX0.t1=200:=by unfold Nx.t1;rw [l1];decide
 have f0:exX0.f0 (exS H 0 0) Jo=2000:=by kernel_rfl
 have f1:exX0.f1 (exS H 0 0) Jo=2000:=by kernel_rfl
 constructor
 ·unfold Nx.E
  rw [if_neg (by decide),if_neg (by rw [show gsE exX0.l.co exX0.l.ta exX0.l.we exX0.l.wn=0 from Qr.2];decide),if_neg (by rw [g1];decide),if_neg (by rw [h3];decide),f0,f1,t0,t1]
  decide
 ·unfold Nx.P
  rw [h1,h2,h3,l1,l2,f0,f1,t0,t1]
  kernel_rfl
theorem R8 (H:Nat):Fy (exS H 0 0)=0∧PE (exS H 0 0)=[Jo,⟨0,300,300,300,200,500000,300,300,200,200,500000,500000,2⟩]:=by
 obtain ⟨a1,a2⟩:=AdQ H
 have he:(0:Int)=0∨(0:Int)=30:=by decide
 have p0:=AaB H 0
 have p1:psP (exS H 0 0) [0,0] [300,300] 1=⟨0,300,300,300,200,500000,300,300,200,200,500000,500000,2⟩:=by
  show nxP (exS H 0 0) (psP (exS H 0 0) [0,0] [300,300] 0) [0,0] [300,300] 0=_
  unfold nxP
  rw [p0,AaC,← a2]
  rfl
 have e1:psE (exS H 0 0) [0,0] [300,300] 1=0:=by
  have h:psE (exS H 0 0) [0,0] [300,300] 1=nxE (exS H 0 0) (psP (exS H 0 0) [0,0] [300,300] 0) [0,0] [300,300] 0:=if_neg (fun h=>h rfl)
  rw [h]
  unfold nxE
  rw [p0,AaC,a1]
 have w:wtE (exS H 0 0) [0,0] [300,300]=0:=by
  unfold wtE
  rw [if_neg (by rw [AdR H _ he];decide),if_neg (by rw [AdU H _ he];decide)]
  exact e1
 have r:Fy (exS H 0 0)=0:=by
  unfold Fy
  rw [if_neg (by rw [AdS H _ he];decide),if_neg (by rw [AdT H _ he];decide),YQ H _ he,YR H _ he,w]
 refine ⟨r,?_⟩
 unfold PE
 rw [if_pos r,YQ H _ he,YR H _ he]
 show [psP (exS H 0 0) [0,0] [300,300] 0,psP (exS H 0 0) [0,0] [300,300] 1]=_
 rw [p0,p1]
theorem Ab8 (H:Nat):exX30.E (exS H 0 30) Jo=0∧exX30.P (exS H 0 30) Jo 0 300=⟨0,300,300,300,200,500000,268,330,182,224,452000,536000,2⟩:=by
 obtain ⟨h1,h2,h3⟩:=Aay H 30 exX30 rfl rfl;have g1:giE exX30.l.co exX30.slow exX30.fast exX30.h.e0 exX30.h.e1 exX30.h.n0 exX30.h.n1=0:=VY.1;have l1:exX30.gl=268:=VY.2.1;have l2:exX30.gh=330:=VY.2.2
 have t0:exX30.t0=182:=by unfold Nx.t0;rw [l2];decide
 have t1:exX30.t1=224:=by unfold Nx.t1;rw [l1];decide
 have f0:exX30.f0 (exS H 0 30) Jo=2000:=by kernel_rfl
 have f1:exX30.f1 (exS H 0 30) Jo=2000:=by kernel_rfl
 constructor
 ·unfold Nx.E
  rw [if_neg (by decide),if_neg (by rw [show gsE exX30.l.co exX30.l.ta exX30.l.we exX30.l.wn=0 from Qr.2];decide),if_neg (by rw [g1];decide),if_neg (by rw [h3];decide),f0,f1,t0,t1]
  decide
 ·unfold Nx.P
  rw [h1,h2,h3,l1,l2,f0,f1,t0,t1]
  kernel_rfl
theorem OQ (H:Nat):Fy (exS H 0 30)=0∧PE (exS H 0 30)=[Jo,⟨0,300,300,300,200,500000,268,330,182,224,452000,536000,2⟩]:=by
 obtain ⟨a1,a2⟩:=Ab8 H
 have he:(30:Int)=0∨(30:Int)=30:=by decide
 have p0:=AaB H 30
 have p1:psP (exS H 0 30) [0,0] [300,300] 1=⟨0,300,300,300,200,500000,268,330,182,224,452000,536000,2⟩:=by
  show nxP (exS H 0 30) (psP (exS H 0 30) [0,0] [300,300] 0) [0,0] [300,300] 0=_
  unfold nxP
  rw [p0,VF,← a2]
  rfl
 have e1:psE (exS H 0 30) [0,0] [300,300] 1=0:=by
  have h:psE (exS H 0 30) [0,0] [300,300] 1=nxE (exS H 0 30) (psP (exS H 0 30) [0,0] [300,300] 0) [0,0] [300,300] 0:=if_neg (fun h=>h rfl)
  rw [h]
  unfold nxE
  rw [p0,VF,a1]
 have w:wtE (exS H 0 30) [0,0] [300,300]=0:=by
  unfold wtE
  rw [if_neg (by rw [AdR H _ he];decide),if_neg (by rw [AdU H _ he];decide)]
  exact e1
 have r:Fy (exS H 0 30)=0:=by
  unfold Fy
  rw [if_neg (by rw [AdS H _ he];decide),if_neg (by rw [AdT H _ he];decide),YQ H _ he,YR H _ he,w]
 refine ⟨r,?_⟩
 unfold PE
 rw [if_pos r,YQ H _ he,YR H _ he]
 show [psP (exS H 0 30) [0,0] [300,300] 0,psP (exS H 0 30) [0,0] [300,300] 1]=_
 rw [p0,p1]
theorem AaA (H:Nat) (lo err:Int):(exS H lo err).ok :=
 ⟨by show 2<=maxLen;decide,⟨by show 3<=maxLen;decide,by show 2<=maxLen;decide,by show 2<=maxLen;decide,by show 2<=maxLen;decide,by show 2<=maxLen;decide,by show 2<=maxLen;decide,by show 2<=maxLen;decide,by show 2<=maxLen;decide,by show 2<=maxLen;decide,by show 2<=maxLen;decide,
  Qq H _ _ _ _,Qq H _ _ _ _,Qq H _ _ _ _⟩,
  ⟨by show I64 0;unfold I64;decide,by show I64 0;unfold I64;decide,by show I64 1;unfold I64;decide,by show I64 1;unfold I64;decide,by show I64 1;unfold I64;decide,by show 1<=maxLen;decide,by show 1<=maxLen;decide,by show 1<=maxLen;decide⟩,by show I64 900000;unfold I64;decide,by show I64 1000;unfold I64;decide⟩
theorem Ack:(Tryz.prog.info? 2).map (fun i=>(i.zero,i.size,i.bytes))=some (some (vI 0),1,8):=by kernel_rfl
def pnC (s:Stp):Int × Int:=if pnE s=11 then hdC (Cs.confL (sdL s (C8 s)) (spS s)) else (0,0)
def Vb (s:Stp) (w:World) (e:Ending) (w':World):Prop:=∃ A c,e=.returned (.tuple #[.slice A (okN (pnE s) s.no.length) c,.agg #[vI (pnC s).1,vI (pnC s).2],vI (pnE s)])∧Ints w' A (okN (pnE s) s.no.length) (okL (pnE s) (pnL s))∧Below w.heap.size w w'
theorem Vz {s:Stp} (G:StG s) (N:StN s) {k:Nat} (hk:k+1<s.no.length):(EI s)[k]? = some (Ac s (k+1)).di:=by
 unfold EI
 rw [List.getElem?_map,List.getElem?_drop,Nat.add_comm 1 k]
 obtain ⟨n,hn⟩:=Am rfl hk
 rw [hn,GJ hn];rfl
def AbO (s:Stp) (B0:World) (v1 v2 t:Value) (wr:World):Prop:=∃ k:Nat,k<=s.no.length∧t=vI (k:Int)∧OwII B0 ((EI s).take (k - 1)) ((wsh s).take k) v1 v2 wr
theorem XM {s:Stp} {k:Nat} (hk:k<s.no.length):(wsh s).take (k+1)=(wsh s).take k ++ [s.cas]:=Aq _ k _ (by unfold wsh;rw [List.getElem?_replicate,if_pos hk])
theorem Ut {s:Stp} (G:StG s) (N:StN s) {k:Nat} (h0:0<k) (hk:k<s.no.length):(EI s).take (k+1 - 1)=(EI s).take (k - 1) ++ [(Ac s k).di]:=by
 obtain ⟨j,rfl⟩:∃ j,k=j+1:=⟨k - 1,by omega⟩
 exact Aq _ j _ (Vz G N hk)
theorem Ac6 (s:Stp) (A:Option Addr) (n c:Nat) (w:World) (hl:s.lies w) (hok:s.ok) (hal:Ints w A n (C8 s)) (hn:n<=maxLen) (h0:Dr s=0):Calls Tryz.prog 47 #[.agg s.cells.toArray,.slice A n c] w (Vb s w):=by
 obtain ⟨i0,hi,hz0,hz1,hz2⟩:=info_parts Ack;have HS:=hid (Dt w s.cells.toArray #[vI 0,vI 0] 35 44);have hE:=(JZ h0).1;have G:=Cm hE;have N:=StN.of hl;have hno:=N.no;have hn2:=Cq G N;have AG:=OG N h0;have hsd:=AfH G N hE AG
 have hnl:n=s.no.length:=by have:=hal.len;have:=AG.len;omega
 subst hnl;have HSP:=hid (fun W (h:BoxS w 2 [s.cells,(lz2 0 0)] W)=>XY s A s.no.length c (C8 s) W (hl.below h.B) hok (hal.below h.B) hn)
 rw [hsd] at HSP
 unfold FY at HSP
 simp only [IX,Gf] at HSP
 obtain ⟨b,off,hA⟩:=FC hl (by omega);have HNS:=hid (fun W (h:BoxS w 2 [s.cells,(lz2 0 0)] W)=>show W.cell? ⟨w.heap.size,0,none⟩=some (.slice (some ⟨b,off,none⟩) s.sno.n s.sno.c) from Dk (h.has 0 _ rfl) hA);have HND:=hid (fun W (h:BoxS w 2 [s.cells,(lz2 0 0)] W) k (hk:k<s.no.length)=>Ce (hl.below h.B) hA hk);have HSC:=hid (fun W (h:BoxS w 2 [s.cells,(lz2 0 0)] W)=>show W.cell? ⟨w.heap.size,30,none⟩=some (vI s.cas)∧W.cell? ⟨w.heap.size,32,none⟩=some (vI s.acc)∧W.cell? ⟨w.heap.size,33,none⟩=some (vI s.dec) from ⟨IA (h.has 0 _ rfl),Oh (h.has 0 _ rfl),Oi (h.has 0 _ rfl)⟩);have HCF:=hid (fun W (h:BoxS w 2 [s.cells,(lz2 0 0)] W)=>show (W.cell? ⟨w.heap.size+1,0,none⟩=some (vI 0)∧W.cell? ⟨w.heap.size+1,1,none⟩=some (vI 0))∧∀ o,W.frozen? ⟨w.heap.size+1,o,none⟩=false from ⟨⟨h.at 1 _ rfl 0 _ rfl,h.at 1 _ rfl 1 _ rfl⟩,h.fr 1 _ rfl⟩);have HGN:=hid (And.intro G N);have HNO:=hid hno;have HLL:=hid AG.len;have HST:=hid (AcT G N);have HDL:=hid (Qo G N).2;have HN2:=hid hn2;clear hl hok hE G N hA hno hn2 AG hsd hal hn h0
 go_enter Tryz.func47,Tryz.ntmps47
 go_wp2_with (refine AC (.tmp 2) rfl rfl rfl (HS.out.has 0 _ rfl) ?_)
 refine (HSP.out _ HS.out).mono ?_;rintro e' B0 ⟨A1,c1,rfl,hP1,hcap1,hB⟩
 replace HS:=hid (HS.out.below hB);have HP1:=hid hP1;have HC1:=hid hcap1;clear hB hP1 hcap1 HSP;have k0:=HNS.out _ HS.out
 go_wp2_with fail
 go_loopw [9,10,31] (fun v1 v2 t wr=>AbO s B0 v1 v2 t wr) (fun _ _ t _=>s.no.length - (intOf t).toNat)
 case atStart=>exact ⟨0,by omega,rfl,OwII.start B0⟩
 case round =>
  obtain ⟨k,hk,rfl,ho⟩:=hrel;have HO:=hid ho;have HSW:=hid (HS.out.below ho.bel);clear ho k0
  by_cases hlt:k<s.no.length
  ·have i1:(0:Int)<=(k:Int):=by omega
   have i2:(k:Int)<(s.sno.n:Int):=by have:=HNO.out;omega
   obtain ⟨c0,c1,c2,c3,c4,c5,c6⟩:=HND.out _ HSW.out k hlt
   have hlt64:k<64:=by have:=HN2.out;omega
   have HWT:=hid (XM (s:=s) hlt)
   have hlen2:((wsh s).take k).length<=64:=by rw [List.length_take];have:=HN2.out;omega
   have hlen1:((EI s).take (k - 1)).length<=64:=by rw [List.length_take];have:=HN2.out;omega
   obtain ⟨s30,-,-⟩:=HSC.out _ HSW.out;generalize hLW:(wsh s).take k=LW at *;have HLW:=hid hLW;clear hLW
   by_cases hk0:0<k
   ·have HDT:=hid (Ut HGN.out.1 HGN.out.2 hk0 hlt)
    have i5:(0:Int)<(k:Int):=by omega
    generalize hLD:(EI s).take (k - 1)=LD at *;have HLD:=hid hLD;clear hLD;have hlen:=hlen1;have HBZ:=hid (show B0.heap.size<=wr.heap.size from HO.out.bel.size)
    go_wp2_with (first | (at_builtin;refine wpList_append_own_at _ rfl _ _ 23 rfl B0.heap.size 2 i0 (vI 0) 1 8 Tryz.underlying23 hi hz0 hz1 hz2 rfl (by decide) _ _ _ rfl (((HO.out.alloc _).alloc _).o1.own) ⟨wr.heap.size+1,0,none⟩ 1 1 [vI (Ac s k).di] rfl rfl (AY _ _ (by first | rfl | simp) _ _ _ rfl) (by intro u hu;simp at hu;subst hu;rfl) (by unfold maxLen;omega) (by omega) (by have:=HBZ.out;simp;omega) ?_;intro v1 w7 hown hgrow hnil hblk;have hoo:=hid (OwII.app1 (x:=(Ac s k).di) ((HO.out.alloc _).alloc _) hown hgrow hblk);have s30w:=(HSC.out _ (HS.out.below hoo.out.bel)).1;have HBZ2:=hid (show B0.heap.size<=w7.heap.size from hoo.out.bel.size)) | (at_builtin;refine wpList_append_own_at _ rfl _ _ 23 rfl B0.heap.size 2 i0 (vI 0) 1 8 Tryz.underlying23 hi hz0 hz1 hz2 rfl (by decide) _ _ _ rfl ((hoo.out.alloc _).o2.own) ⟨w7.heap.size,0,none⟩ 1 1 [vI s.cas] rfl rfl (AY _ _ (by first | rfl | simp) _ _ _ rfl) (by intro u hu;simp at hu;subst hu;rfl) (by unfold maxLen;omega) (by omega) (by have:=HBZ2.out;simp;omega) ?_;intro v2 w9 hown2 hgrow2 hnil2 hblk2))
    replace HO:=hid (OwII.app2 (x:=s.cas) (hoo.out.alloc _) hown2 hgrow2 hblk2);clear hown hgrow hnil hblk hown2 hgrow2 hnil2 hblk2 s30 s30w hoo HBZ2
    go_roundw
    case rel=>exact ⟨k+1,by omega,by go_num,by rw [HDT.out,HWT.out];exact HO.out⟩
    case measure=>exact zMs
   ·have i5:¬ (0:Int)<(k:Int):=by omega
    have HD0:=hid (show (EI s).take (k+1 - 1)=(EI s).take (k - 1) from by rw [show k=0 by omega]);have hlen:=hlen2;have s30w:=(HSC.out _ (HSW.out.alloc (.cells #[vI (Ac s k).px,vI (Ac s k).py,vI (Ac s k).di,vI (Ac s k).a0,vI (Ac s k).a1,vI (Ac s k).s0,vI (Ac s k).s1] 67))).1;have HBZ:=hid (show B0.heap.size<=wr.heap.size from HO.out.bel.size)
    go_wp2_with (at_builtin;refine wpList_append_own_at _ rfl _ _ 23 rfl B0.heap.size 2 i0 (vI 0) 1 8 Tryz.underlying23 hi hz0 hz1 hz2 rfl (by decide) _ _ _ rfl (((HO.out.alloc _).alloc _).o2.own) ⟨wr.heap.size+1,0,none⟩ 1 1 [vI s.cas] rfl rfl (AY _ _ (by first | rfl | simp) _ _ _ rfl) (by intro u hu;simp at hu;subst hu;rfl) (by unfold maxLen;omega) (by omega) (by have:=HBZ.out;simp;omega) ?_;intro v2 w9 hown hgrow hnil hblk)
    replace HO:=hid (OwII.app2 (x:=s.cas) ((HO.out.alloc _).alloc _) hown hgrow hblk);clear hown hgrow hnil hblk s30
    go_roundw
    case rel=>exact ⟨k+1,by omega,by go_num,by rw [HD0.out,HWT.out];exact HO.out⟩
    case measure=>exact zMs
  ·have hkn:=hid (show k=s.no.length by omega)
   have i2:¬ (k:Int)<(s.sno.n:Int):=by have:=HNO.out;omega
   have h1:(EI s).take (k - 1)=EI s:=CY (by rw [HDL.out];omega);have h2:(wsh s).take k=wsh s:=CY (by unfold wsh;simp;omega)
   rw [h1,h2] at HO
   obtain ⟨⟨A2,c2,hv1,hI2,hc2⟩,A3,c3,hv2,hI3,hc3⟩:=HO.out.ints (n:=s.no.length - 1) (m:=s.no.length) HDL.out (by unfold wsh;simp);have HI2:=hid hI2;have HI3:=hid hI3;have HBL:=hid HO.out.bel;obtain ⟨-,k33,k34⟩:=HSC.out _ HSW.out;have HX1:=hid (fun W (h:Below wr.heap.size wr W)=>Af7 A2 (s.no.length - 1) c2 (EI s) s.acc s.dec W (HI2.out.below h) (by have:=HN2.out;unfold maxLen;omega))
   rw [HST.out] at HX1
   unfold FY at HX1
   simp only [IX,Gf] at HX1
   clear h1 h2 hI2 hI3 hc2 hc3 HO hlt hk HND HNS HST HDL;subst hv1;subst hv2;generalize hN:s.no.length=nn at *;have HNN:=hid hN;clear hN
   go_wp2_with fail
   refine (HX1.out _ (AJ _ _)).mono ?_;rintro e' w5 ⟨A5,c5,rfl,hP5,hcap5,hB⟩
   replace HSW:=hid (HSW.out.below hB);have HP5:=hid hP5;have HC5:=hid hcap5;have HP1':=hid (HP1.out.below (Ae HBL.out hB));have HI3':=hid (HI3.out.below hB);clear hB hP5 hcap5 HX1 HI2 HI3 k33 k34;have HPL:=hid (Aaa A1 A5 A3 nn c1 (nn - 1) c5 nn c3 (sdL s (C8 s)) (Sp.stL (EI s) s.acc s.dec) (wsh s) w5 HP1'.out HP5.out HI3'.out (by have:=HN2.out;unfold maxLen;omega) (by have:=HN2.out;unfold maxLen;omega) (by have:=HN2.out;unfold maxLen;omega) HC5.out.le HC5.out.mx)
   go_wp2_with fail
   rcases WR HGN.out.1 HGN.out.2 (HLL.out.trans HNN.out.symm) with ⟨hz,hcl⟩ | ⟨hz,hcl⟩
   ·have HPE:=hid (show pnE s=0 from hz)
    have HPC:=hid (show pnC s=(0,0) from if_neg (by rw [show pnE s=0 from hz];decide))
    have HR:=hid (show Calls Tryz.prog _ _ w5 (JJ (pnL s) nn 0 w5) from by
     have h:=HPL.out
     rw [show plE (sdL s (C8 s)) (Sp.stL (EI s) s.acc s.dec) (wsh s)=0 from hz,IX,Gf] at h
     exact h)
    unfold JJ at HR
    clear HPL hz hcl
    refine HR.out.mono ?_;rintro e' w6 ⟨A6,c6,rfl,hI6,hB⟩
    replace HSW:=hid (HSW.out.below hB);have HI6:=hid hI6;clear hB hI6 HR;obtain ⟨⟨z0,z1⟩,zf⟩:=HCF.out _ HSW.out
    go_wp2_with fail
    exact bodyPost_ret (v:=.tuple #[.slice A6 nn c6,.agg #[vI 0,vI 0],vI 0]) (by simp [results,Tryz.results47,go_sem,z0,z1]) rfl (by
     unfold Vb
     rw [HPE.out,HPC.out,Gf,IX,HNN.out]
     exact ⟨A6,c6,rfl,(HI6.out.same z0).same (EM z0 z1),(HSW.out.B.setCell (p:=⟨w.heap.size+1,0,none⟩) (by show w.heap.size<=w.heap.size+1;omega) _).setCell (p:=⟨w.heap.size+1,1,none⟩) (by show w.heap.size<=w.heap.size+1;omega) _⟩)
   ·have HPE:=hid (show pnE s=11 from hz)
    have HPC:=hid (show pnC s=hdC (Cs.confL (sdL s (C8 s)) (spS s)) from if_pos hz)
    have HR:=hid (show Calls Tryz.prog _ _ w5 (JJ (okL 11 (pnL s)) (okN 11 nn) 11 w5) from by
     have h:=HPL.out
     rw [show plE (sdL s (C8 s)) (Sp.stL (EI s) s.acc s.dec) (wsh s)=11 from hz] at h
     exact h)
    unfold JJ at HR
    clear HPL hz
    refine HR.out.mono ?_;rintro e' w6 ⟨A6,c6,rfl,-,hB⟩
    replace HSW:=hid (HSW.out.below hB);have HCO:=hid (Ls A1 A5 nn c1 (nn - 1) c5 (sdL s (C8 s)) (spS s) w6 (HP1'.out.below hB) (HP5.out.below hB) (by have:=HN2.out;unfold maxLen;omega) (by have:=HN2.out;unfold maxLen;omega) HC5.out.le HC5.out.mx (Sp.rdE_0 (Xt HGN.out.1 HGN.out.2 (HLL.out.trans HNN.out.symm))).1 hcl);clear hB HR hcl;generalize hdC (Cs.confL (sdL s (C8 s)) (spS s))=p at *
    go_wp2_with fail
    refine (HCO.out).mono ?_;rintro e' w4 ⟨rfl,hB⟩
    replace HSW:=hid (HSW.out.below hB);clear hB HCO
    go_wp2_with fail
    have HT:Hid (Has (w4.alloc (.cells #[vI p.1,vI p.2] 44)) w4.heap.size (lz2 p.1 p.2)):=hid (Has.new _ _ _);have hge:=HSW.out.sz;replace HSW:=hid (HSW.out.alloc (.cells #[vI p.1,vI p.2] 44));generalize w4.alloc (.cells #[vI p.1,vI p.2] 44)=w5' at *;generalize w4.heap.size=HB5 at *
    refine rS (fun W=>Has W HB5 (lz2 p.1 p.2)) 5 (HT.out.drew) (fun hHeld=>?_)
    replace HSW:=hid HSW.out.drew;generalize w5'.drew=w6' at *;obtain ⟨⟨z0,z1⟩,zf⟩:=HCF.out _ HSW.out;have HB:=hid HSW.out.B
    refine rT (fun W hW=>And.intro ((show Has W HB5 (lz2 p.1 p.2) from hW).cell 0 _ rfl) ((show Has W HB5 (lz2 p.1 p.2) from hW).cell 1 _ rfl)) ?_
    iterate 2 refine rQ ?_
    refine rEk ?_
    intro K hK
    have hNew:=((hHeld.other (w.heap.size+1) 0 (vI p.1) (by omega)).other (w.heap.size+1) 1 (vI p.2) (by omega))
    refine rEt hK hNew ?_
    clear hK K hNew hHeld
    intro hHeld
    refine rQ ?_
    refine rD ?_
    clear hHeld
    go_wp2_with fail
    exact bodyPost_ret (v:=.tuple #[.slice none 0 0,.agg #[vI p.1,vI p.2],vI 11]) (by simp [results,Tryz.results47,go_sem,z0,z1]) rfl (by
     unfold Vb
     rw [HPE.out,HPC.out]
     unfold okN okL
     rw [if_neg (by decide),if_neg (by decide)]
     exact ⟨none,0,rfl,Ints.nil _,(HB.out.setCell (p:=⟨w.heap.size+1,0,none⟩) (by show w.heap.size<=w.heap.size+1;omega) _).setCell (p:=⟨w.heap.size+1,1,none⟩) (by show w.heap.size<=w.heap.size+1;omega) _⟩)
