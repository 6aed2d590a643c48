
/- Over the layers: the example holds. -/
import Derived.Test.YtgneijdjlahgbaaGreatM20
import Derived.Test.YtgneijdjlahgbaaGreatM16
import Derived.Test.YtgneijdjlahgbaaGreatEx37
import Derived.RegionTactic
namespace Go.Proofs.YtgneijdjlahgbaaGreat
abbrev zqB_0:List Value:=[.slice none 0 0,.string ⟨#[]⟩,.int .i64 0,.int .i64 0,.slice none 0 0,.slice none 0 0,.slice none 0 0,.slice none 0 0,.slice none 0 0,.slice none 0 0,.slice none 0 0,.slice none 0 0,.slice none 0 0,.int .i64 0,.int .i64 0,.int .i64 0,.int .i64 0,.int .i64 0,.int .i64 0,.int .i64 0,.int .i64 0,.slice none 0 0,.slice none 0 0,.slice none 0 0,.int .i64 0,.int .i64 0,.int .i64 0,.int .i64 0,.int .i64 0,.int .i64 0,.int .i64 0,.int .i64 0,.int .i64 0,.int .i64 0,.int .i64 0,.int .i64 0]
set_option maxRecDepth 100000
set_option maxHeartbeats 16000000
set_option linter.unusedSimpArgs false
set_option linter.unusedVariables false
open Go.RowKit
theorem xBSetup (w:World):Calls Tryz.prog 41 #[] w fun e' w'=>∃ H,e'=.returned (.agg (exS H 0 0).cells.toArray)∧(exS H 0 0).lies w'∧Below w.heap.size w w':=by
 have HPO:=Lib.hid (fun (W:World) (h:∀ i cs,1≤i→([zqB_0,(lz2 3000 3000),(lz2 2000 2000),[.slice (some ⟨w.heap.size+1,0,none⟩) 2 2,.slice (some ⟨w.heap.size+1+1,0,none⟩) 2 2],(lz2 2000 2000),(lz2 2000 2000),[.slice (some ⟨w.heap.size+1+1+1+1,0,none⟩) 2 2,.slice (some ⟨w.heap.size+1+1+1+1+1,0,none⟩) 2 2],[.int .i64 0,.int .i64 0,.int .i64 0,.int .i64 0,.int .i64 0,.int .i64 0,.int .i64 300,.int .i64 0,.int .i64 60000,.int .i64 60000,.int .i64 0,.int .i64 0,.int .i64 0,.int .i64 300],(lz2 0 3000000),(lz2 1000 1000000),(lz2 1000 1000),(lz2 500 500),(lz2 340 300),(lz2 100 100),[.int .i64 0],(lz2 0 0),[.int .i64 0]]:List (List Value))[i]? = some cs→Has W (pl w.heap.size i) cs)=>show (exS w.heap.size 0 0).lies W from
  have R:∀ i (l:List Int),1≤i→([zqB_0,(lz2 3000 3000),(lz2 2000 2000),[.slice (some ⟨w.heap.size+1,0,none⟩) 2 2,.slice (some ⟨w.heap.size+1+1,0,none⟩) 2 2],(lz2 2000 2000),(lz2 2000 2000),[.slice (some ⟨w.heap.size+1+1+1+1,0,none⟩) 2 2,.slice (some ⟨w.heap.size+1+1+1+1+1,0,none⟩) 2 2],[.int .i64 0,.int .i64 0,.int .i64 0,.int .i64 0,.int .i64 0,.int .i64 0,.int .i64 300,.int .i64 0,.int .i64 60000,.int .i64 60000,.int .i64 0,.int .i64 0,.int .i64 0,.int .i64 300],(lz2 0 3000000),(lz2 1000 1000000),(lz2 1000 1000),(lz2 500 500),(lz2 340 300),(lz2 100 100),[.int .i64 0],(lz2 0 0),[.int .i64 0]]:List (List Value))[i]? = some (l.map fun v=>.int .i64 v)→∀ n,l.length=n→Ints W (some ⟨pl w.heap.size i,0,none⟩) n l:=fun i l h1 h2 n hn=>ints_has (h i _ h1 h2) rfl hn
  have T:∀ i j k (a b:List Int),1≤k→([zqB_0,(lz2 3000 3000),(lz2 2000 2000),[.slice (some ⟨w.heap.size+1,0,none⟩) 2 2,.slice (some ⟨w.heap.size+1+1,0,none⟩) 2 2],(lz2 2000 2000),(lz2 2000 2000),[.slice (some ⟨w.heap.size+1+1+1+1,0,none⟩) 2 2,.slice (some ⟨w.heap.size+1+1+1+1+1,0,none⟩) 2 2],[.int .i64 0,.int .i64 0,.int .i64 0,.int .i64 0,.int .i64 0,.int .i64 0,.int .i64 300,.int .i64 0,.int .i64 60000,.int .i64 60000,.int .i64 0,.int .i64 0,.int .i64 0,.int .i64 300],(lz2 0 3000000),(lz2 1000 1000000),(lz2 1000 1000),(lz2 500 500),(lz2 340 300),(lz2 100 100),[.int .i64 0],(lz2 0 0),[.int .i64 0]]:List (List Value))[k]? = some ([exR w.heap.size i a,exR w.heap.size j b].flatMap Row.cells)→Ints W (some ⟨pl w.heap.size i,0,none⟩) 2 a→Ints W (some ⟨pl w.heap.size j,0,none⟩) 2 b→Tab W (some ⟨pl w.heap.size k,0,none⟩) 2 [exR w.heap.size i a,exR w.heap.size j b]:=fun i j k a b h1 h2 ha hb=>⟨recs_has (f:=Row.cells) (sz:=1) (fun _=>rfl) (h k _ h1 h2) rfl rfl,fun r hr=>by
   rcases List.mem_cons.1 hr with rfl | hr
   ·exact ha
   ·obtain rfl:=List.mem_singleton.1 hr
    exact hb⟩
  have r1:=R 1 [3000,3000] (by decide) rfl 2 rfl
  have r2:=R 2 [2000,2000] (by decide) rfl 2 rfl
  have r4:=R 4 [2000,2000] (by decide) rfl 2 rfl
  have r5:=R 5 [2000,2000] (by decide) rfl 2 rfl
  have t6:=T 4 5 6 [2000,2000] [2000,2000] (by decide) rfl r4 r5
  ⟨recs_has (f:=Nod.cells) (sz:=7) (fun _=>rfl) (h 7 _ (by decide) rfl) rfl rfl,
   ⟨R 8 _ (by decide) rfl 2 rfl,R 9 _ (by decide) rfl 2 rfl,T 1 2 3 [3000,3000] [2000,2000] (by decide) rfl r1 r2,t6,t6,R 10 _ (by decide) rfl 2 rfl,R 11 _ (by decide) rfl 2 rfl,R 12 _ (by decide) rfl 2 rfl,R 13 _ (by decide) rfl 2 rfl⟩,
   ⟨R 14 [0] (by decide) rfl 1 rfl,recs_has (f:=win) (sz:=2) (fun _=>rfl) (h 15 _ (by decide) rfl) rfl rfl,R 16 [0] (by decide) rfl 1 rfl⟩⟩)
 have HB:=Lib.hid (And.intro (boxS1 w #[.slice none 0 0,.string ⟨#[]⟩,.int .i64 0,.int .i64 0,.slice none 0 0,.slice none 0 0,.slice none 0 0,.slice none 0 0,.slice none 0 0,.slice none 0 0,.slice none 0 0,.slice none 0 0,.slice none 0 0,.int .i64 0,.int .i64 0,.int .i64 0,.int .i64 0,.int .i64 0,.int .i64 0,.int .i64 0,.int .i64 0,.slice none 0 0,.slice none 0 0,.slice none 0 0,.int .i64 0,.int .i64 0,.int .i64 0,.int .i64 0,.int .i64 0,.int .i64 0,.int .i64 0,.int .i64 0,.int .i64 0,.int .i64 0,.int .i64 0,.int .i64 0] 35) (show (w.alloc (.cells #[.slice none 0 0,.string ⟨#[]⟩,.int .i64 0,.int .i64 0,.slice none 0 0,.slice none 0 0,.slice none 0 0,.slice none 0 0,.slice none 0 0,.slice none 0 0,.slice none 0 0,.slice none 0 0,.slice none 0 0,.int .i64 0,.int .i64 0,.int .i64 0,.int .i64 0,.int .i64 0,.int .i64 0,.int .i64 0,.int .i64 0,.slice none 0 0,.slice none 0 0,.slice none 0 0,.int .i64 0,.int .i64 0,.int .i64 0,.int .i64 0,.int .i64 0,.int .i64 0,.int .i64 0,.int .i64 0,.int .i64 0,.int .i64 0,.int .i64 0,.int .i64 0] 35)).heap.size=w.heap.size+1 by simp))
 go_enter Tryz.func41,Tryz.ntmps41
 go_wp2_with (refine build_named _ _ _ rfl rfl (w.heap.size+1) HB.out.2 #[.int .i64 3000,.int .i64 3000] 2 (fun W=>by go_simp) ?_)
 refine Named.mk fun W1 hW=>?_
 replace HB:=Lib.hid (show BoxS w 2 [zqB_0,(lz2 3000 3000)] W1∧W1.heap.size=w.heap.size+1+1 from by rw [hW];exact HB.out.1.more rfl HB.out.2 #[.int .i64 3000,.int .i64 3000] 2)
 clear hW
 go_wp2_with (refine build_named _ _ _ rfl rfl (w.heap.size+1+1) HB.out.2 #[.int .i64 2000,.int .i64 2000] 2 (fun W=>by go_simp) ?_)
 refine Named.mk fun W2 hW=>?_
 replace HB:=Lib.hid (show BoxS w 3 [zqB_0,(lz2 3000 3000),(lz2 2000 2000)] W2∧W2.heap.size=w.heap.size+1+1+1 from by rw [hW];exact HB.out.1.more rfl HB.out.2 #[.int .i64 2000,.int .i64 2000] 2)
 clear hW
 go_wp2_with (refine build_named _ _ _ rfl rfl (w.heap.size+1+1+1) HB.out.2 #[.slice (some ⟨w.heap.size+1,0,none⟩) 2 2,.slice (some ⟨w.heap.size+1+1,0,none⟩) 2 2] 23 (fun W=>by go_simp) ?_)
 refine Named.mk fun W3 hW=>?_
 replace HB:=Lib.hid (show BoxS w 4 [zqB_0,(lz2 3000 3000),(lz2 2000 2000),[.slice (some ⟨w.heap.size+1,0,none⟩) 2 2,.slice (some ⟨w.heap.size+1+1,0,none⟩) 2 2]] W3∧W3.heap.size=w.heap.size+1+1+1+1 from by rw [hW];exact HB.out.1.more rfl HB.out.2 #[.slice (some ⟨w.heap.size+1,0,none⟩) 2 2,.slice (some ⟨w.heap.size+1+1,0,none⟩) 2 2] 23)
 clear hW
 go_wp2_with (refine build_named _ _ _ rfl rfl (w.heap.size+1+1+1+1) HB.out.2 #[.int .i64 2000,.int .i64 2000] 2 (fun W=>by go_simp) ?_)
 refine Named.mk fun W4 hW=>?_
 replace HB:=Lib.hid (show BoxS w 5 [zqB_0,(lz2 3000 3000),(lz2 2000 2000),[.slice (some ⟨w.heap.size+1,0,none⟩) 2 2,.slice (some ⟨w.heap.size+1+1,0,none⟩) 2 2],(lz2 2000 2000)] W4∧W4.heap.size=w.heap.size+1+1+1+1+1 from by rw [hW];exact HB.out.1.more rfl HB.out.2 #[.int .i64 2000,.int .i64 2000] 2)
 clear hW
 go_wp2_with (refine build_named _ _ _ rfl rfl (w.heap.size+1+1+1+1+1) HB.out.2 #[.int .i64 2000,.int .i64 2000] 2 (fun W=>by go_simp) ?_)
 refine Named.mk fun W5 hW=>?_
 replace HB:=Lib.hid (show BoxS w 6 [zqB_0,(lz2 3000 3000),(lz2 2000 2000),[.slice (some ⟨w.heap.size+1,0,none⟩) 2 2,.slice (some ⟨w.heap.size+1+1,0,none⟩) 2 2],(lz2 2000 2000),(lz2 2000 2000)] W5∧W5.heap.size=w.heap.size+1+1+1+1+1+1 from by rw [hW];exact HB.out.1.more rfl HB.out.2 #[.int .i64 2000,.int .i64 2000] 2)
 clear hW
 go_wp2_with (refine build_named _ _ _ rfl rfl (w.heap.size+1+1+1+1+1+1) HB.out.2 #[.slice (some ⟨w.heap.size+1+1+1+1,0,none⟩) 2 2,.slice (some ⟨w.heap.size+1+1+1+1+1,0,none⟩) 2 2] 23 (fun W=>by go_simp) ?_)
 refine Named.mk fun W6 hW=>?_
 replace HB:=Lib.hid (show BoxS w 7 [zqB_0,(lz2 3000 3000),(lz2 2000 2000),[.slice (some ⟨w.heap.size+1,0,none⟩) 2 2,.slice (some ⟨w.heap.size+1+1,0,none⟩) 2 2],(lz2 2000 2000),(lz2 2000 2000),[.slice (some ⟨w.heap.size+1+1+1+1,0,none⟩) 2 2,.slice (some ⟨w.heap.size+1+1+1+1+1,0,none⟩) 2 2]] W6∧W6.heap.size=w.heap.size+1+1+1+1+1+1+1 from by rw [hW];exact HB.out.1.more rfl HB.out.2 #[.slice (some ⟨w.heap.size+1+1+1+1,0,none⟩) 2 2,.slice (some ⟨w.heap.size+1+1+1+1+1,0,none⟩) 2 2] 23)
 clear hW
 go_wp2_with (refine build_named _ _ _ rfl rfl (w.heap.size+1+1+1+1+1+1+1) HB.out.2 #[.int .i64 0,.int .i64 0,.int .i64 0,.int .i64 0,.int .i64 0,.int .i64 0,.int .i64 300,.int .i64 0,.int .i64 60000,.int .i64 60000,.int .i64 0,.int .i64 0,.int .i64 0,.int .i64 300] 60 (fun W=>by go_simp) ?_)
 refine Named.mk fun W7 hW=>?_
 replace HB:=Lib.hid (show BoxS w 8 [zqB_0,(lz2 3000 3000),(lz2 2000 2000),[.slice (some ⟨w.heap.size+1,0,none⟩) 2 2,.slice (some ⟨w.heap.size+1+1,0,none⟩) 2 2],(lz2 2000 2000),(lz2 2000 2000),[.slice (some ⟨w.heap.size+1+1+1+1,0,none⟩) 2 2,.slice (some ⟨w.heap.size+1+1+1+1+1,0,none⟩) 2 2],[.int .i64 0,.int .i64 0,.int .i64 0,.int .i64 0,.int .i64 0,.int .i64 0,.int .i64 300,.int .i64 0,.int .i64 60000,.int .i64 60000,.int .i64 0,.int .i64 0,.int .i64 0,.int .i64 300]] W7∧W7.heap.size=w.heap.size+1+1+1+1+1+1+1+1 from by rw [hW];exact HB.out.1.more rfl HB.out.2 #[.int .i64 0,.int .i64 0,.int .i64 0,.int .i64 0,.int .i64 0,.int .i64 0,.int .i64 300,.int .i64 0,.int .i64 60000,.int .i64 60000,.int .i64 0,.int .i64 0,.int .i64 0,.int .i64 300] 60)
 clear hW
 go_wp2_with (refine build_named _ _ _ rfl rfl (w.heap.size+1+1+1+1+1+1+1+1) HB.out.2 #[.int .i64 0,.int .i64 3000000] 2 (fun W=>by go_simp) ?_)
 refine Named.mk fun W8 hW=>?_
 replace HB:=Lib.hid (show BoxS w 9 [zqB_0,(lz2 3000 3000),(lz2 2000 2000),[.slice (some ⟨w.heap.size+1,0,none⟩) 2 2,.slice (some ⟨w.heap.size+1+1,0,none⟩) 2 2],(lz2 2000 2000),(lz2 2000 2000),[.slice (some ⟨w.heap.size+1+1+1+1,0,none⟩) 2 2,.slice (some ⟨w.heap.size+1+1+1+1+1,0,none⟩) 2 2],[.int .i64 0,.int .i64 0,.int .i64 0,.int .i64 0,.int .i64 0,.int .i64 0,.int .i64 300,.int .i64 0,.int .i64 60000,.int .i64 60000,.int .i64 0,.int .i64 0,.int .i64 0,.int .i64 300],(lz2 0 3000000)] W8∧W8.heap.size=w.heap.size+1+1+1+1+1+1+1+1+1 from by rw [hW];exact HB.out.1.more rfl HB.out.2 #[.int .i64 0,.int .i64 3000000] 2)
 clear hW
 go_wp2_with (refine build_named _ _ _ rfl rfl (w.heap.size+1+1+1+1+1+1+1+1+1) HB.out.2 #[.int .i64 1000,.int .i64 1000000] 2 (fun W=>by go_simp) ?_)
 refine Named.mk fun W9 hW=>?_
 replace HB:=Lib.hid (show BoxS w 10 [zqB_0,(lz2 3000 3000),(lz2 2000 2000),[.slice (some ⟨w.heap.size+1,0,none⟩) 2 2,.slice (some ⟨w.heap.size+1+1,0,none⟩) 2 2],(lz2 2000 2000),(lz2 2000 2000),[.slice (some ⟨w.heap.size+1+1+1+1,0,none⟩) 2 2,.slice (some ⟨w.heap.size+1+1+1+1+1,0,none⟩) 2 2],[.int .i64 0,.int .i64 0,.int .i64 0,.int .i64 0,.int .i64 0,.int .i64 0,.int .i64 300,.int .i64 0,.int .i64 60000,.int .i64 60000,.int .i64 0,.int .i64 0,.int .i64 0,.int .i64 300],(lz2 0 3000000),(lz2 1000 1000000)] W9∧W9.heap.size=w.heap.size+1+1+1+1+1+1+1+1+1+1 from by rw [hW];exact HB.out.1.more rfl HB.out.2 #[.int .i64 1000,.int .i64 1000000] 2)
 clear hW
 go_wp2_with (refine build_named _ _ _ rfl rfl (w.heap.size+1+1+1+1+1+1+1+1+1+1) HB.out.2 #[.int .i64 1000,.int .i64 1000] 2 (fun W=>by go_simp) ?_)
 refine Named.mk fun W10 hW=>?_
 replace HB:=Lib.hid (show BoxS w 11 [zqB_0,(lz2 3000 3000),(lz2 2000 2000),[.slice (some ⟨w.heap.size+1,0,none⟩) 2 2,.slice (some ⟨w.heap.size+1+1,0,none⟩) 2 2],(lz2 2000 2000),(lz2 2000 2000),[.slice (some ⟨w.heap.size+1+1+1+1,0,none⟩) 2 2,.slice (some ⟨w.heap.size+1+1+1+1+1,0,none⟩) 2 2],[.int .i64 0,.int .i64 0,.int .i64 0,.int .i64 0,.int .i64 0,.int .i64 0,.int .i64 300,.int .i64 0,.int .i64 60000,.int .i64 60000,.int .i64 0,.int .i64 0,.int .i64 0,.int .i64 300],(lz2 0 3000000),(lz2 1000 1000000),(lz2 1000 1000)] W10∧W10.heap.size=w.heap.size+1+1+1+1+1+1+1+1+1+1+1 from by rw [hW];exact HB.out.1.more rfl HB.out.2 #[.int .i64 1000,.int .i64 1000] 2)
 clear hW
 go_wp2_with (refine build_named _ _ _ rfl rfl (w.heap.size+1+1+1+1+1+1+1+1+1+1+1) HB.out.2 #[.int .i64 500,.int .i64 500] 2 (fun W=>by go_simp) ?_)
 refine Named.mk fun W11 hW=>?_
 replace HB:=Lib.hid (show BoxS w 12 [zqB_0,(lz2 3000 3000),(lz2 2000 2000),[.slice (some ⟨w.heap.size+1,0,none⟩) 2 2,.slice (some ⟨w.heap.size+1+1,0,none⟩) 2 2],(lz2 2000 2000),(lz2 2000 2000),[.slice (some ⟨w.heap.size+1+1+1+1,0,none⟩) 2 2,.slice (some ⟨w.heap.size+1+1+1+1+1,0,none⟩) 2 2],[.int .i64 0,.int .i64 0,.int .i64 0,.int .i64 0,.int .i64 0,.int .i64 0,.int .i64 300,.int .i64 0,.int .i64 60000,.int .i64 60000,.int .i64 0,.int .i64 0,.int .i64 0,.int .i64 300],(lz2 0 3000000),(lz2 1000 1000000),(lz2 1000 1000),(lz2 500 500)] W11∧W11.heap.size=w.heap.size+1+1+1+1+1+1+1+1+1+1+1+1 from by rw [hW];exact HB.out.1.more rfl HB.out.2 #[.int .i64 500,.int .i64 500] 2)
 clear hW
 go_wp2_with (refine build_named _ _ _ rfl rfl (w.heap.size+1+1+1+1+1+1+1+1+1+1+1+1) HB.out.2 #[.int .i64 340,.int .i64 300] 2 (fun W=>by go_simp) ?_)
 refine Named.mk fun W12 hW=>?_
 replace HB:=Lib.hid (show BoxS w 13 [zqB_0,(lz2 3000 3000),(lz2 2000 2000),[.slice (some ⟨w.heap.size+1,0,none⟩) 2 2,.slice (some ⟨w.heap.size+1+1,0,none⟩) 2 2],(lz2 2000 2000),(lz2 2000 2000),[.slice (some ⟨w.heap.size+1+1+1+1,0,none⟩) 2 2,.slice (some ⟨w.heap.size+1+1+1+1+1,0,none⟩) 2 2],[.int .i64 0,.int .i64 0,.int .i64 0,.int .i64 0,.int .i64 0,.int .i64 0,.int .i64 300,.int .i64 0,.int .i64 60000,.int .i64 60000,.int .i64 0,.int .i64 0,.int .i64 0,.int .i64 300],(lz2 0 3000000),(lz2 1000 1000000),(lz2 1000 1000),(lz2 500 500),(lz2 340 300)] W12∧W12.heap.size=w.heap.size+1+1+1+1+1+1+1+1+1+1+1+1+1 from by rw [hW];exact HB.out.1.more rfl HB.out.2 #[.int .i64 340,.int .i64 300] 2)
 clear hW
 go_wp2_with (refine build_named _ _ _ rfl rfl (w.heap.size+1+1+1+1+1+1+1+1+1+1+1+1+1) HB.out.2 #[.int .i64 100,.int .i64 100] 2 (fun W=>by go_simp) ?_)
 refine Named.mk fun W13 hW=>?_
 replace HB:=Lib.hid (show BoxS w 14 [zqB_0,(lz2 3000 3000),(lz2 2000 2000),[.slice (some ⟨w.heap.size+1,0,none⟩) 2 2,.slice (some ⟨w.heap.size+1+1,0,none⟩) 2 2],(lz2 2000 2000),(lz2 2000 2000),[.slice (some ⟨w.heap.size+1+1+1+1,0,none⟩) 2 2,.slice (some ⟨w.heap.size+1+1+1+1+1,0,none⟩) 2 2],[.int .i64 0,.int .i64 0,.int .i64 0,.int .i64 0,.int .i64 0,.int .i64 0,.int .i64 300,.int .i64 0,.int .i64 60000,.int .i64 60000,.int .i64 0,.int .i64 0,.int .i64 0,.int .i64 300],(lz2 0 3000000),(lz2 1000 1000000),(lz2 1000 1000),(lz2 500 500),(lz2 340 300),(lz2 100 100)] W13∧W13.heap.size=w.heap.size+1+1+1+1+1+1+1+1+1+1+1+1+1+1 from by rw [hW];exact HB.out.1.more rfl HB.out.2 #[.int .i64 100,.int .i64 100] 2)
 clear hW
 go_wp2_with (refine build_named _ _ _ rfl rfl (w.heap.size+1+1+1+1+1+1+1+1+1+1+1+1+1+1) HB.out.2 #[.int .i64 0] 2 (fun W=>by go_simp) ?_)
 refine Named.mk fun W14 hW=>?_
 replace HB:=Lib.hid (show BoxS w 15 [zqB_0,(lz2 3000 3000),(lz2 2000 2000),[.slice (some ⟨w.heap.size+1,0,none⟩) 2 2,.slice (some ⟨w.heap.size+1+1,0,none⟩) 2 2],(lz2 2000 2000),(lz2 2000 2000),[.slice (some ⟨w.heap.size+1+1+1+1,0,none⟩) 2 2,.slice (some ⟨w.heap.size+1+1+1+1+1,0,none⟩) 2 2],[.int .i64 0,.int .i64 0,.int .i64 0,.int .i64 0,.int .i64 0,.int .i64 0,.int .i64 300,.int .i64 0,.int .i64 60000,.int .i64 60000,.int .i64 0,.int .i64 0,.int .i64 0,.int .i64 300],(lz2 0 3000000),(lz2 1000 1000000),(lz2 1000 1000),(lz2 500 500),(lz2 340 300),(lz2 100 100),[.int .i64 0]] W14∧W14.heap.size=w.heap.size+1+1+1+1+1+1+1+1+1+1+1+1+1+1+1 from by rw [hW];exact HB.out.1.more rfl HB.out.2 #[.int .i64 0] 2)
 clear hW
 go_wp2_with (refine build_named _ _ _ rfl rfl (w.heap.size+1+1+1+1+1+1+1+1+1+1+1+1+1+1+1) HB.out.2 #[.int .i64 0,.int .i64 0] 87 (fun W=>by go_simp) ?_)
 refine Named.mk fun W15 hW=>?_
 replace HB:=Lib.hid (show BoxS w 16 [zqB_0,(lz2 3000 3000),(lz2 2000 2000),[.slice (some ⟨w.heap.size+1,0,none⟩) 2 2,.slice (some ⟨w.heap.size+1+1,0,none⟩) 2 2],(lz2 2000 2000),(lz2 2000 2000),[.slice (some ⟨w.heap.size+1+1+1+1,0,none⟩) 2 2,.slice (some ⟨w.heap.size+1+1+1+1+1,0,none⟩) 2 2],[.int .i64 0,.int .i64 0,.int .i64 0,.int .i64 0,.int .i64 0,.int .i64 0,.int .i64 300,.int .i64 0,.int .i64 60000,.int .i64 60000,.int .i64 0,.int .i64 0,.int .i64 0,.int .i64 300],(lz2 0 3000000),(lz2 1000 1000000),(lz2 1000 1000),(lz2 500 500),(lz2 340 300),(lz2 100 100),[.int .i64 0],(lz2 0 0)] W15∧W15.heap.size=w.heap.size+1+1+1+1+1+1+1+1+1+1+1+1+1+1+1+1 from by rw [hW];exact HB.out.1.more rfl HB.out.2 #[.int .i64 0,.int .i64 0] 87)
 clear hW
 go_wp2_with (refine build_named _ _ _ rfl rfl (w.heap.size+1+1+1+1+1+1+1+1+1+1+1+1+1+1+1+1) HB.out.2 #[.int .i64 0] 2 (fun W=>by go_simp) ?_)
 refine Named.mk fun W16 hW=>?_
 replace HB:=Lib.hid (show BoxS w 17 [zqB_0,(lz2 3000 3000),(lz2 2000 2000),[.slice (some ⟨w.heap.size+1,0,none⟩) 2 2,.slice (some ⟨w.heap.size+1+1,0,none⟩) 2 2],(lz2 2000 2000),(lz2 2000 2000),[.slice (some ⟨w.heap.size+1+1+1+1,0,none⟩) 2 2,.slice (some ⟨w.heap.size+1+1+1+1+1,0,none⟩) 2 2],[.int .i64 0,.int .i64 0,.int .i64 0,.int .i64 0,.int .i64 0,.int .i64 0,.int .i64 300,.int .i64 0,.int .i64 60000,.int .i64 60000,.int .i64 0,.int .i64 0,.int .i64 0,.int .i64 300],(lz2 0 3000000),(lz2 1000 1000000),(lz2 1000 1000),(lz2 500 500),(lz2 340 300),(lz2 100 100),[.int .i64 0],(lz2 0 0),[.int .i64 0]] W16∧W16.heap.size=w.heap.size+1+1+1+1+1+1+1+1+1+1+1+1+1+1+1+1+1 from by rw [hW];exact HB.out.1.more rfl HB.out.2 #[.int .i64 0] 2)
 clear hW
 go_wp2_with (refine store_named 35 (.tmp 0) (.tmp 31) rfl rfl w.heap.size _ rfl rfl (by kernel_rfl) (by kernel_rfl) ?_)
 refine Named.mk fun W hW=>?_
 subst hW
 have HX:=Lib.hid HB.out.1
 clear HB
 refine ⟨(HX.out.has 0 _ rfl).there rfl,Named.mk fun W2 hW2=>?_⟩
 have HY:=Lib.hid (show Has W2 w.heap.size [.slice (some ⟨w.heap.size+1+1+1+1+1+1+1,0,none⟩) 2 2,.string ⟨#[74,69,84]⟩,.int .i64 1000,.int .i64 1000000,.slice (some ⟨w.heap.size+1+1+1+1+1+1+1+1,0,none⟩) 2 2,.slice (some ⟨w.heap.size+1+1+1+1+1+1+1+1+1,0,none⟩) 2 2,.slice (some ⟨w.heap.size+1+1+1,0,none⟩) 2 2,.slice (some ⟨w.heap.size+1+1+1+1+1+1,0,none⟩) 2 2,.slice (some ⟨w.heap.size+1+1+1+1+1+1,0,none⟩) 2 2,.slice (some ⟨w.heap.size+1+1+1+1+1+1+1+1+1+1,0,none⟩) 2 2,.slice (some ⟨w.heap.size+1+1+1+1+1+1+1+1+1+1+1,0,none⟩) 2 2,.slice (some ⟨w.heap.size+1+1+1+1+1+1+1+1+1+1+1+1,0,none⟩) 2 2,.slice (some ⟨w.heap.size+1+1+1+1+1+1+1+1+1+1+1+1+1,0,none⟩) 2 2,.int .i64 400,.int .i64 0,.int .i64 3000000,.int .i64 0,.int .i64 0,.int .i64 1,.int .i64 1,.int .i64 1,.slice (some ⟨w.heap.size+1+1+1+1+1+1+1+1+1+1+1+1+1+1,0,none⟩) 1 1,.slice (some ⟨w.heap.size+1+1+1+1+1+1+1+1+1+1+1+1+1+1+1,0,none⟩) 1 1,.slice (some ⟨w.heap.size+1+1+1+1+1+1+1+1+1+1+1+1+1+1+1+1,0,none⟩) 1 1,.int .i64 0,.int .i64 1000,.int .i64 900000,.int .i64 0,.int .i64 0,.int .i64 0,.int .i64 300,.int .i64 900,.int .i64 0,.int .i64 0,.int .i64 0,.int .i64 250] from by rw [hW2];exact (HX.out.has 0 _ rfl).setCells_same rfl)
 have HZ:=Lib.hid (show (exS w.heap.size 0 0).lies W2 from HPO.out W2 fun i cs h1 h2=>by rw [hW2,pl_eq];exact (HX.out.has i cs h2).setCells_other _ _ _ (by omega))
 have HBW:=Lib.hid (show Below w.heap.size w W2 from by rw [hW2];exact below_setCells _ HX.out.B _ _ (Nat.le_refl _))
 clear hW2 HX HPO
 go_wp2_with fail
 exact bodyPost_ret (res_cell1 Tryz.results41 _ W2 w.heap.size [.slice (some ⟨w.heap.size+1+1+1+1+1+1+1,0,none⟩) 2 2,.string ⟨#[74,69,84]⟩,.int .i64 1000,.int .i64 1000000,.slice (some ⟨w.heap.size+1+1+1+1+1+1+1+1,0,none⟩) 2 2,.slice (some ⟨w.heap.size+1+1+1+1+1+1+1+1+1,0,none⟩) 2 2,.slice (some ⟨w.heap.size+1+1+1,0,none⟩) 2 2,.slice (some ⟨w.heap.size+1+1+1+1+1+1,0,none⟩) 2 2,.slice (some ⟨w.heap.size+1+1+1+1+1+1,0,none⟩) 2 2,.slice (some ⟨w.heap.size+1+1+1+1+1+1+1+1+1+1,0,none⟩) 2 2,.slice (some ⟨w.heap.size+1+1+1+1+1+1+1+1+1+1+1,0,none⟩) 2 2,.slice (some ⟨w.heap.size+1+1+1+1+1+1+1+1+1+1+1+1,0,none⟩) 2 2,.slice (some ⟨w.heap.size+1+1+1+1+1+1+1+1+1+1+1+1+1,0,none⟩) 2 2,.int .i64 400,.int .i64 0,.int .i64 3000000,.int .i64 0,.int .i64 0,.int .i64 1,.int .i64 1,.int .i64 1,.slice (some ⟨w.heap.size+1+1+1+1+1+1+1+1+1+1+1+1+1+1,0,none⟩) 1 1,.slice (some ⟨w.heap.size+1+1+1+1+1+1+1+1+1+1+1+1+1+1+1,0,none⟩) 1 1,.slice (some ⟨w.heap.size+1+1+1+1+1+1+1+1+1+1+1+1+1+1+1+1,0,none⟩) 1 1,.int .i64 0,.int .i64 1000,.int .i64 900000,.int .i64 0,.int .i64 0,.int .i64 0,.int .i64 300,.int .i64 900,.int .i64 0,.int .i64 0,.int .i64 0,.int .i64 250] _ rfl (HY.out.range 0 fun j v hv=>by rw [Nat.zero_add];exact hv) Tryz.underlying35 rfl (by kernel_rfl)) rfl ⟨w.heap.size,rfl,HZ.out,HBW.out⟩
theorem bFlight_ok (w:World):Calls Tryz.prog 15 #[] w fun e w'=>e=.returned (.bool true)∧Below w.heap.size w w':=by
 have HB0:=Lib.hid (Below.refl w.heap.size w)
 go_enter Tryz.func15,Tryz.ntmps15
 go_wp2_with fail
 refine (xBSetup _).mono ?_;rintro e' w1 ⟨Ha,rfl,hla,hB⟩
 have HBa:=Lib.hid (bel_trans HB0.out hB)
 have HRa:=Lib.hid (run_ok hla (ex_ok Ha 0 0) (ex_run0 Ha).1 (l:=[⟨0,300,300,0,0,900000,0,0,0,0,900000,900000,0⟩,⟨0,300,300,300,200,500000,300,300,200,200,500000,500000,2⟩]) (ex_run0 Ha).2 rfl)
 clear hB hla HB0
 go_wp2_with fail
 refine HRa.out.mono ?_;rintro e' w2 ⟨A1,c1,rfl,hP1,-,hB⟩
 have HB1:=Lib.hid (bel_trans HBa.out hB)
 obtain ⟨b1,o1,rfl,hb1,hc1⟩:=hP1.cells (by decide)
 have HX1:=Lib.hid (below_alloc1 w2 (.cells #[.slice (some ⟨b1,o1,none⟩) 2 c1,.int .i64 0,.int .i64 0,.bool false] 42))
 have k4:(w2.alloc (.cells #[.slice (some ⟨b1,o1,none⟩) 2 c1,.int .i64 0,.int .i64 0,.bool false] 42)).cell? ⟨b1,o1+13+4,none⟩=some (.int .i64 200):=(HX1.out.cell (p:=⟨b1,o1+13+4,none⟩) hb1).trans (hc1 1 ⟨0,300,300,300,200,500000,300,300,200,200,500000,500000,2⟩ rfl 4 _ rfl)
 have k5:(w2.alloc (.cells #[.slice (some ⟨b1,o1,none⟩) 2 c1,.int .i64 0,.int .i64 0,.bool false] 42)).cell? ⟨b1,o1+13+5,none⟩=some (.int .i64 500000):=(HX1.out.cell (p:=⟨b1,o1+13+5,none⟩) hb1).trans (hc1 1 ⟨0,300,300,300,200,500000,300,300,200,200,500000,500000,2⟩ rfl 5 _ rfl)
 have Q1:Hid (Has (w2.alloc (.cells #[.slice (some ⟨b1,o1,none⟩) 2 c1,.int .i64 0,.int .i64 0,.bool false] 42)) w2.heap.size [.slice (some ⟨b1,o1,none⟩) 2 c1,.int .i64 0,.int .i64 0,.bool false]):=Lib.hid (Has.new _ _ _)
 have k0:=Q1.out.cell 0 _ rfl
 have HB2:=Lib.hid (bel_alloc1 HB1.out (.cells #[.slice (some ⟨b1,o1,none⟩) 2 c1,.int .i64 0,.int .i64 0,.bool false] 42))
 clear hB HBa HRa hP1 hc1 hb1 HX1 HB1 Q1
 go_wp2_with fail
 go_ret
 exact ⟨rfl,HB2.out⟩
end Go.Proofs.YtgneijdjlahgbaaGreat
