
/- Layer 38: the setup of the examples, as it lies in memory. -/
import Derived.Test.YtgneijdjlahgbaaGreatM14
import Derived.Test.YtgneijdjlahgbaaGreatM1
import Derived.RegionTactic
namespace Go.Proofs.YtgneijdjlahgbaaGreat
abbrev zq38_0:List Value:=[.slice none 0 0,.string ⟨#[]⟩,.int .i64 0,.int .i64 0,.slice none 0 0,.slice none 0 0,.slice none 0 0,.slice none 0 0,.slice none 0 0,.slice none 0 0,.slice none 0 0,.slice none 0 0,.slice none 0 0,.int .i64 0,.int .i64 0,.int .i64 0,.int .i64 0,.int .i64 0,.int .i64 0,.int .i64 0,.int .i64 0,.slice none 0 0,.slice none 0 0,.slice none 0 0,.int .i64 0,.int .i64 0,.int .i64 0,.int .i64 0,.int .i64 0,.int .i64 0,.int .i64 0,.int .i64 0,.int .i64 0,.int .i64 0,.int .i64 0,.int .i64 0]
set_option maxRecDepth 100000
set_option maxHeartbeats 16000000
set_option linter.unusedSimpArgs false
set_option linter.unusedVariables false
open Go.RowKit
def erP (H:Nat):Prf:=⟨⟨#[74,69,84]⟩,1000,1000000,exL H 9 2,exL H 10 2,exL H 3 2,exL H 6 2,exL H 6 2,exL H 11 2,exL H 12 2,exL H 13 2,exL H 14 2,400,0,3000000,[0,3000000],[1000,1000000],[exR H 1 [3000,3000],exR H 2 [2000,2000]],[exR H 4 [2000,2000],exR H 5 [2000,2000]],[exR H 4 [2000,2000],exR H 5 [2000,2000]],[1000,1000],[500,500],[340,300],[100,100]⟩
def erG (H:Nat):Grd:=⟨0,0,1,1,1,exL H 15 1,exL H 16 1,exL H 17 1,0,[0],[(0,0)],[0]⟩
def erS (H:Nat):Stp:=⟨exL H 8 2,[⟨0,0,0,0,0,200,300⟩,⟨0,60000,60000,0,0,200,300⟩],erP H,erG H,⟨1000,900000,0,0⟩,0,300,900,0,0,0,250⟩
theorem xExample38 (w:World):Calls Tryz.prog 75 #[] w fun e' w'=>∃ H,e'=.returned (.agg (erS H).cells.toArray)∧(erS H).lies w'∧Below w.heap.size w w':=by
 have HPO:=Lib.hid (fun (W:World) (h:∀ i cs,1≤i→([zq38_0,(lz2 3000 3000),(lz2 2000 2000),[.slice (some ⟨w.heap.size+1,0,none⟩) 2 2,.slice (some ⟨w.heap.size+1+1,0,none⟩) 2 2],(lz2 2000 2000),(lz2 2000 2000),[.slice (some ⟨w.heap.size+1+1+1+1,0,none⟩) 2 2,.slice (some ⟨w.heap.size+1+1+1+1+1,0,none⟩) 2 2],(lz2 200 300),[.int .i64 0,.int .i64 0,.int .i64 0,.int .i64 0,.int .i64 0,.int .i64 200,.int .i64 300,.int .i64 0,.int .i64 60000,.int .i64 60000,.int .i64 0,.int .i64 0,.int .i64 200,.int .i64 300],(lz2 0 3000000),(lz2 1000 1000000),(lz2 1000 1000),(lz2 500 500),(lz2 340 300),(lz2 100 100),[.int .i64 0],(lz2 0 0),[.int .i64 0]]:List (List Value))[i]? = some cs→Has W (pl w.heap.size i) cs)=>show (erS w.heap.size).lies W from
  have R:∀ i (l:List Int),1≤i→([zq38_0,(lz2 3000 3000),(lz2 2000 2000),[.slice (some ⟨w.heap.size+1,0,none⟩) 2 2,.slice (some ⟨w.heap.size+1+1,0,none⟩) 2 2],(lz2 2000 2000),(lz2 2000 2000),[.slice (some ⟨w.heap.size+1+1+1+1,0,none⟩) 2 2,.slice (some ⟨w.heap.size+1+1+1+1+1,0,none⟩) 2 2],(lz2 200 300),[.int .i64 0,.int .i64 0,.int .i64 0,.int .i64 0,.int .i64 0,.int .i64 200,.int .i64 300,.int .i64 0,.int .i64 60000,.int .i64 60000,.int .i64 0,.int .i64 0,.int .i64 200,.int .i64 300],(lz2 0 3000000),(lz2 1000 1000000),(lz2 1000 1000),(lz2 500 500),(lz2 340 300),(lz2 100 100),[.int .i64 0],(lz2 0 0),[.int .i64 0]]:List (List Value))[i]? = some (l.map fun v=>.int .i64 v)→∀ n,l.length=n→Ints W (some ⟨pl w.heap.size i,0,none⟩) n l:=fun i l h1 h2 n hn=>ints_has (h i _ h1 h2) rfl hn
  have T:∀ i j k (a b:List Int),1≤k→([zq38_0,(lz2 3000 3000),(lz2 2000 2000),[.slice (some ⟨w.heap.size+1,0,none⟩) 2 2,.slice (some ⟨w.heap.size+1+1,0,none⟩) 2 2],(lz2 2000 2000),(lz2 2000 2000),[.slice (some ⟨w.heap.size+1+1+1+1,0,none⟩) 2 2,.slice (some ⟨w.heap.size+1+1+1+1+1,0,none⟩) 2 2],(lz2 200 300),[.int .i64 0,.int .i64 0,.int .i64 0,.int .i64 0,.int .i64 0,.int .i64 200,.int .i64 300,.int .i64 0,.int .i64 60000,.int .i64 60000,.int .i64 0,.int .i64 0,.int .i64 200,.int .i64 300],(lz2 0 3000000),(lz2 1000 1000000),(lz2 1000 1000),(lz2 500 500),(lz2 340 300),(lz2 100 100),[.int .i64 0],(lz2 0 0),[.int .i64 0]]:List (List Value))[k]? = some ([exR w.heap.size i a,exR w.heap.size j b].flatMap Row.cells)→Ints W (some ⟨pl w.heap.size i,0,none⟩) 2 a→Ints W (some ⟨pl w.heap.size j,0,none⟩) 2 b→Tab W (some ⟨pl w.heap.size k,0,none⟩) 2 [exR w.heap.size i a,exR w.heap.size j b]:=fun i j k a b h1 h2 ha hb=>⟨recs_has (f:=Row.cells) (sz:=1) (fun _=>rfl) (h k _ h1 h2) rfl rfl,fun r hr=>by
   rcases List.mem_cons.1 hr with rfl | hr
   ·exact ha
   ·obtain rfl:=List.mem_singleton.1 hr
    exact hb⟩
  have r1:=R 1 [3000,3000] (by decide) rfl 2 rfl
  have r2:=R 2 [2000,2000] (by decide) rfl 2 rfl
  have r4:=R 4 [2000,2000] (by decide) rfl 2 rfl
  have r5:=R 5 [2000,2000] (by decide) rfl 2 rfl
  have t6:=T 4 5 6 [2000,2000] [2000,2000] (by decide) rfl r4 r5
  ⟨recs_has (f:=Nod.cells) (sz:=7) (fun _=>rfl) (h 8 _ (by decide) rfl) rfl rfl,
   ⟨R 9 _ (by decide) rfl 2 rfl,R 10 _ (by decide) rfl 2 rfl,T 1 2 3 [3000,3000] [2000,2000] (by decide) rfl r1 r2,t6,t6,R 11 _ (by decide) rfl 2 rfl,R 12 _ (by decide) rfl 2 rfl,R 13 _ (by decide) rfl 2 rfl,R 14 _ (by decide) rfl 2 rfl⟩,
   ⟨R 15 [0] (by decide) rfl 1 rfl,recs_has (f:=win) (sz:=2) (fun _=>rfl) (h 16 _ (by decide) rfl) rfl rfl,R 17 [0] (by decide) rfl 1 rfl⟩⟩)
 have HB:=Lib.hid (And.intro (boxS1 w #[.slice none 0 0,.string ⟨#[]⟩,.int .i64 0,.int .i64 0,.slice none 0 0,.slice none 0 0,.slice none 0 0,.slice none 0 0,.slice none 0 0,.slice none 0 0,.slice none 0 0,.slice none 0 0,.slice none 0 0,.int .i64 0,.int .i64 0,.int .i64 0,.int .i64 0,.int .i64 0,.int .i64 0,.int .i64 0,.int .i64 0,.slice none 0 0,.slice none 0 0,.slice none 0 0,.int .i64 0,.int .i64 0,.int .i64 0,.int .i64 0,.int .i64 0,.int .i64 0,.int .i64 0,.int .i64 0,.int .i64 0,.int .i64 0,.int .i64 0,.int .i64 0] 35) (show (w.alloc (.cells #[.slice none 0 0,.string ⟨#[]⟩,.int .i64 0,.int .i64 0,.slice none 0 0,.slice none 0 0,.slice none 0 0,.slice none 0 0,.slice none 0 0,.slice none 0 0,.slice none 0 0,.slice none 0 0,.slice none 0 0,.int .i64 0,.int .i64 0,.int .i64 0,.int .i64 0,.int .i64 0,.int .i64 0,.int .i64 0,.int .i64 0,.slice none 0 0,.slice none 0 0,.slice none 0 0,.int .i64 0,.int .i64 0,.int .i64 0,.int .i64 0,.int .i64 0,.int .i64 0,.int .i64 0,.int .i64 0,.int .i64 0,.int .i64 0,.int .i64 0,.int .i64 0] 35)).heap.size=w.heap.size+1 by simp))
 go_enter Tryz.func75,Tryz.ntmps75
 go_wp2_with (refine build_named _ _ _ rfl rfl (w.heap.size+1) HB.out.2 #[.int .i64 3000,.int .i64 3000] 2 (fun W=>by go_simp) ?_)
 refine Named.mk fun W1 hW=>?_
 replace HB:=Lib.hid (show BoxS w 2 [zq38_0,(lz2 3000 3000)] W1∧W1.heap.size=w.heap.size+1+1 from by rw [hW];exact HB.out.1.more rfl HB.out.2 #[.int .i64 3000,.int .i64 3000] 2)
 clear hW
 go_wp2_with (refine build_named _ _ _ rfl rfl (w.heap.size+1+1) HB.out.2 #[.int .i64 2000,.int .i64 2000] 2 (fun W=>by go_simp) ?_)
 refine Named.mk fun W2 hW=>?_
 replace HB:=Lib.hid (show BoxS w 3 [zq38_0,(lz2 3000 3000),(lz2 2000 2000)] W2∧W2.heap.size=w.heap.size+1+1+1 from by rw [hW];exact HB.out.1.more rfl HB.out.2 #[.int .i64 2000,.int .i64 2000] 2)
 clear hW
 go_wp2_with (refine build_named _ _ _ rfl rfl (w.heap.size+1+1+1) HB.out.2 #[.slice (some ⟨w.heap.size+1,0,none⟩) 2 2,.slice (some ⟨w.heap.size+1+1,0,none⟩) 2 2] 23 (fun W=>by go_simp) ?_)
 refine Named.mk fun W3 hW=>?_
 replace HB:=Lib.hid (show BoxS w 4 [zq38_0,(lz2 3000 3000),(lz2 2000 2000),[.slice (some ⟨w.heap.size+1,0,none⟩) 2 2,.slice (some ⟨w.heap.size+1+1,0,none⟩) 2 2]] W3∧W3.heap.size=w.heap.size+1+1+1+1 from by rw [hW];exact HB.out.1.more rfl HB.out.2 #[.slice (some ⟨w.heap.size+1,0,none⟩) 2 2,.slice (some ⟨w.heap.size+1+1,0,none⟩) 2 2] 23)
 clear hW
 go_wp2_with (refine build_named _ _ _ rfl rfl (w.heap.size+1+1+1+1) HB.out.2 #[.int .i64 2000,.int .i64 2000] 2 (fun W=>by go_simp) ?_)
 refine Named.mk fun W4 hW=>?_
 replace HB:=Lib.hid (show BoxS w 5 [zq38_0,(lz2 3000 3000),(lz2 2000 2000),[.slice (some ⟨w.heap.size+1,0,none⟩) 2 2,.slice (some ⟨w.heap.size+1+1,0,none⟩) 2 2],(lz2 2000 2000)] W4∧W4.heap.size=w.heap.size+1+1+1+1+1 from by rw [hW];exact HB.out.1.more rfl HB.out.2 #[.int .i64 2000,.int .i64 2000] 2)
 clear hW
 go_wp2_with (refine build_named _ _ _ rfl rfl (w.heap.size+1+1+1+1+1) HB.out.2 #[.int .i64 2000,.int .i64 2000] 2 (fun W=>by go_simp) ?_)
 refine Named.mk fun W5 hW=>?_
 replace HB:=Lib.hid (show BoxS w 6 [zq38_0,(lz2 3000 3000),(lz2 2000 2000),[.slice (some ⟨w.heap.size+1,0,none⟩) 2 2,.slice (some ⟨w.heap.size+1+1,0,none⟩) 2 2],(lz2 2000 2000),(lz2 2000 2000)] W5∧W5.heap.size=w.heap.size+1+1+1+1+1+1 from by rw [hW];exact HB.out.1.more rfl HB.out.2 #[.int .i64 2000,.int .i64 2000] 2)
 clear hW
 go_wp2_with (refine build_named _ _ _ rfl rfl (w.heap.size+1+1+1+1+1+1) HB.out.2 #[.slice (some ⟨w.heap.size+1+1+1+1,0,none⟩) 2 2,.slice (some ⟨w.heap.size+1+1+1+1+1,0,none⟩) 2 2] 23 (fun W=>by go_simp) ?_)
 refine Named.mk fun W6 hW=>?_
 replace HB:=Lib.hid (show BoxS w 7 [zq38_0,(lz2 3000 3000),(lz2 2000 2000),[.slice (some ⟨w.heap.size+1,0,none⟩) 2 2,.slice (some ⟨w.heap.size+1+1,0,none⟩) 2 2],(lz2 2000 2000),(lz2 2000 2000),[.slice (some ⟨w.heap.size+1+1+1+1,0,none⟩) 2 2,.slice (some ⟨w.heap.size+1+1+1+1+1,0,none⟩) 2 2]] W6∧W6.heap.size=w.heap.size+1+1+1+1+1+1+1 from by rw [hW];exact HB.out.1.more rfl HB.out.2 #[.slice (some ⟨w.heap.size+1+1+1+1,0,none⟩) 2 2,.slice (some ⟨w.heap.size+1+1+1+1+1,0,none⟩) 2 2] 23)
 clear hW
 replace HB:=Lib.hid (show BoxS w 8 [zq38_0,(lz2 3000 3000),(lz2 2000 2000),[.slice (some ⟨w.heap.size+1,0,none⟩) 2 2,.slice (some ⟨w.heap.size+1+1,0,none⟩) 2 2],(lz2 2000 2000),(lz2 2000 2000),[.slice (some ⟨w.heap.size+1+1+1+1,0,none⟩) 2 2,.slice (some ⟨w.heap.size+1+1+1+1+1,0,none⟩) 2 2],(lz2 200 300)] (W6.alloc (.cells #[.int .i64 200,.int .i64 300] 58))∧(W6.alloc (.cells #[.int .i64 200,.int .i64 300] 58)).heap.size=w.heap.size+1+1+1+1+1+1+1+1 from HB.out.1.more rfl HB.out.2 #[.int .i64 200,.int .i64 300] 58)
 have HV:=Lib.hid (show Has (W6.alloc (.cells #[.int .i64 200,.int .i64 300] 58)) W6.heap.size (lz2 200 300) from Has.new _ _ _)
 have v0:=HV.out.cell 0 (.int .i64 200) rfl
 have v1:=HV.out.cell 1 (.int .i64 300) rfl
 go_wp2_with (refine build_named _ _ _ rfl rfl (w.heap.size+1+1+1+1+1+1+1+1) HB.out.2 #[.int .i64 0,.int .i64 0,.int .i64 0,.int .i64 0,.int .i64 0,.int .i64 200,.int .i64 300,.int .i64 0,.int .i64 60000,.int .i64 60000,.int .i64 0,.int .i64 0,.int .i64 200,.int .i64 300] 60 (fun W=>by go_simp) ?_)
 refine Named.mk fun W8 hW=>?_
 replace HB:=Lib.hid (show BoxS w 9 [zq38_0,(lz2 3000 3000),(lz2 2000 2000),[.slice (some ⟨w.heap.size+1,0,none⟩) 2 2,.slice (some ⟨w.heap.size+1+1,0,none⟩) 2 2],(lz2 2000 2000),(lz2 2000 2000),[.slice (some ⟨w.heap.size+1+1+1+1,0,none⟩) 2 2,.slice (some ⟨w.heap.size+1+1+1+1+1,0,none⟩) 2 2],(lz2 200 300),[.int .i64 0,.int .i64 0,.int .i64 0,.int .i64 0,.int .i64 0,.int .i64 200,.int .i64 300,.int .i64 0,.int .i64 60000,.int .i64 60000,.int .i64 0,.int .i64 0,.int .i64 200,.int .i64 300]] W8∧W8.heap.size=w.heap.size+1+1+1+1+1+1+1+1+1 from by rw [hW];exact HB.out.1.more rfl HB.out.2 #[.int .i64 0,.int .i64 0,.int .i64 0,.int .i64 0,.int .i64 0,.int .i64 200,.int .i64 300,.int .i64 0,.int .i64 60000,.int .i64 60000,.int .i64 0,.int .i64 0,.int .i64 200,.int .i64 300] 60)
 clear hW v0 v1 HV
 go_wp2_with (refine build_named _ _ _ rfl rfl (w.heap.size+1+1+1+1+1+1+1+1+1) HB.out.2 #[.int .i64 0,.int .i64 3000000] 2 (fun W=>by go_simp) ?_)
 refine Named.mk fun W9 hW=>?_
 replace HB:=Lib.hid (show BoxS w 10 [zq38_0,(lz2 3000 3000),(lz2 2000 2000),[.slice (some ⟨w.heap.size+1,0,none⟩) 2 2,.slice (some ⟨w.heap.size+1+1,0,none⟩) 2 2],(lz2 2000 2000),(lz2 2000 2000),[.slice (some ⟨w.heap.size+1+1+1+1,0,none⟩) 2 2,.slice (some ⟨w.heap.size+1+1+1+1+1,0,none⟩) 2 2],(lz2 200 300),[.int .i64 0,.int .i64 0,.int .i64 0,.int .i64 0,.int .i64 0,.int .i64 200,.int .i64 300,.int .i64 0,.int .i64 60000,.int .i64 60000,.int .i64 0,.int .i64 0,.int .i64 200,.int .i64 300],(lz2 0 3000000)] W9∧W9.heap.size=w.heap.size+1+1+1+1+1+1+1+1+1+1 from by rw [hW];exact HB.out.1.more rfl HB.out.2 #[.int .i64 0,.int .i64 3000000] 2)
 clear hW
 go_wp2_with (refine build_named _ _ _ rfl rfl (w.heap.size+1+1+1+1+1+1+1+1+1+1) HB.out.2 #[.int .i64 1000,.int .i64 1000000] 2 (fun W=>by go_simp) ?_)
 refine Named.mk fun W10 hW=>?_
 replace HB:=Lib.hid (show BoxS w 11 [zq38_0,(lz2 3000 3000),(lz2 2000 2000),[.slice (some ⟨w.heap.size+1,0,none⟩) 2 2,.slice (some ⟨w.heap.size+1+1,0,none⟩) 2 2],(lz2 2000 2000),(lz2 2000 2000),[.slice (some ⟨w.heap.size+1+1+1+1,0,none⟩) 2 2,.slice (some ⟨w.heap.size+1+1+1+1+1,0,none⟩) 2 2],(lz2 200 300),[.int .i64 0,.int .i64 0,.int .i64 0,.int .i64 0,.int .i64 0,.int .i64 200,.int .i64 300,.int .i64 0,.int .i64 60000,.int .i64 60000,.int .i64 0,.int .i64 0,.int .i64 200,.int .i64 300],(lz2 0 3000000),(lz2 1000 1000000)] W10∧W10.heap.size=w.heap.size+1+1+1+1+1+1+1+1+1+1+1 from by rw [hW];exact HB.out.1.more rfl HB.out.2 #[.int .i64 1000,.int .i64 1000000] 2)
 clear hW
 go_wp2_with (refine build_named _ _ _ rfl rfl (w.heap.size+1+1+1+1+1+1+1+1+1+1+1) HB.out.2 #[.int .i64 1000,.int .i64 1000] 2 (fun W=>by go_simp) ?_)
 refine Named.mk fun W11 hW=>?_
 replace HB:=Lib.hid (show BoxS w 12 [zq38_0,(lz2 3000 3000),(lz2 2000 2000),[.slice (some ⟨w.heap.size+1,0,none⟩) 2 2,.slice (some ⟨w.heap.size+1+1,0,none⟩) 2 2],(lz2 2000 2000),(lz2 2000 2000),[.slice (some ⟨w.heap.size+1+1+1+1,0,none⟩) 2 2,.slice (some ⟨w.heap.size+1+1+1+1+1,0,none⟩) 2 2],(lz2 200 300),[.int .i64 0,.int .i64 0,.int .i64 0,.int .i64 0,.int .i64 0,.int .i64 200,.int .i64 300,.int .i64 0,.int .i64 60000,.int .i64 60000,.int .i64 0,.int .i64 0,.int .i64 200,.int .i64 300],(lz2 0 3000000),(lz2 1000 1000000),(lz2 1000 1000)] W11∧W11.heap.size=w.heap.size+1+1+1+1+1+1+1+1+1+1+1+1 from by rw [hW];exact HB.out.1.more rfl HB.out.2 #[.int .i64 1000,.int .i64 1000] 2)
 clear hW
 go_wp2_with (refine build_named _ _ _ rfl rfl (w.heap.size+1+1+1+1+1+1+1+1+1+1+1+1) HB.out.2 #[.int .i64 500,.int .i64 500] 2 (fun W=>by go_simp) ?_)
 refine Named.mk fun W12 hW=>?_
 replace HB:=Lib.hid (show BoxS w 13 [zq38_0,(lz2 3000 3000),(lz2 2000 2000),[.slice (some ⟨w.heap.size+1,0,none⟩) 2 2,.slice (some ⟨w.heap.size+1+1,0,none⟩) 2 2],(lz2 2000 2000),(lz2 2000 2000),[.slice (some ⟨w.heap.size+1+1+1+1,0,none⟩) 2 2,.slice (some ⟨w.heap.size+1+1+1+1+1,0,none⟩) 2 2],(lz2 200 300),[.int .i64 0,.int .i64 0,.int .i64 0,.int .i64 0,.int .i64 0,.int .i64 200,.int .i64 300,.int .i64 0,.int .i64 60000,.int .i64 60000,.int .i64 0,.int .i64 0,.int .i64 200,.int .i64 300],(lz2 0 3000000),(lz2 1000 1000000),(lz2 1000 1000),(lz2 500 500)] W12∧W12.heap.size=w.heap.size+1+1+1+1+1+1+1+1+1+1+1+1+1 from by rw [hW];exact HB.out.1.more rfl HB.out.2 #[.int .i64 500,.int .i64 500] 2)
 clear hW
 go_wp2_with (refine build_named _ _ _ rfl rfl (w.heap.size+1+1+1+1+1+1+1+1+1+1+1+1+1) HB.out.2 #[.int .i64 340,.int .i64 300] 2 (fun W=>by go_simp) ?_)
 refine Named.mk fun W13 hW=>?_
 replace HB:=Lib.hid (show BoxS w 14 [zq38_0,(lz2 3000 3000),(lz2 2000 2000),[.slice (some ⟨w.heap.size+1,0,none⟩) 2 2,.slice (some ⟨w.heap.size+1+1,0,none⟩) 2 2],(lz2 2000 2000),(lz2 2000 2000),[.slice (some ⟨w.heap.size+1+1+1+1,0,none⟩) 2 2,.slice (some ⟨w.heap.size+1+1+1+1+1,0,none⟩) 2 2],(lz2 200 300),[.int .i64 0,.int .i64 0,.int .i64 0,.int .i64 0,.int .i64 0,.int .i64 200,.int .i64 300,.int .i64 0,.int .i64 60000,.int .i64 60000,.int .i64 0,.int .i64 0,.int .i64 200,.int .i64 300],(lz2 0 3000000),(lz2 1000 1000000),(lz2 1000 1000),(lz2 500 500),(lz2 340 300)] W13∧W13.heap.size=w.heap.size+1+1+1+1+1+1+1+1+1+1+1+1+1+1 from by rw [hW];exact HB.out.1.more rfl HB.out.2 #[.int .i64 340,.int .i64 300] 2)
 clear hW
 go_wp2_with (refine build_named _ _ _ rfl rfl (w.heap.size+1+1+1+1+1+1+1+1+1+1+1+1+1+1) HB.out.2 #[.int .i64 100,.int .i64 100] 2 (fun W=>by go_simp) ?_)
 refine Named.mk fun W14 hW=>?_
 replace HB:=Lib.hid (show BoxS w 15 [zq38_0,(lz2 3000 3000),(lz2 2000 2000),[.slice (some ⟨w.heap.size+1,0,none⟩) 2 2,.slice (some ⟨w.heap.size+1+1,0,none⟩) 2 2],(lz2 2000 2000),(lz2 2000 2000),[.slice (some ⟨w.heap.size+1+1+1+1,0,none⟩) 2 2,.slice (some ⟨w.heap.size+1+1+1+1+1,0,none⟩) 2 2],(lz2 200 300),[.int .i64 0,.int .i64 0,.int .i64 0,.int .i64 0,.int .i64 0,.int .i64 200,.int .i64 300,.int .i64 0,.int .i64 60000,.int .i64 60000,.int .i64 0,.int .i64 0,.int .i64 200,.int .i64 300],(lz2 0 3000000),(lz2 1000 1000000),(lz2 1000 1000),(lz2 500 500),(lz2 340 300),(lz2 100 100)] W14∧W14.heap.size=w.heap.size+1+1+1+1+1+1+1+1+1+1+1+1+1+1+1 from by rw [hW];exact HB.out.1.more rfl HB.out.2 #[.int .i64 100,.int .i64 100] 2)
 clear hW
 go_wp2_with (refine build_named _ _ _ rfl rfl (w.heap.size+1+1+1+1+1+1+1+1+1+1+1+1+1+1+1) HB.out.2 #[.int .i64 0] 2 (fun W=>by go_simp) ?_)
 refine Named.mk fun W15 hW=>?_
 replace HB:=Lib.hid (show BoxS w 16 [zq38_0,(lz2 3000 3000),(lz2 2000 2000),[.slice (some ⟨w.heap.size+1,0,none⟩) 2 2,.slice (some ⟨w.heap.size+1+1,0,none⟩) 2 2],(lz2 2000 2000),(lz2 2000 2000),[.slice (some ⟨w.heap.size+1+1+1+1,0,none⟩) 2 2,.slice (some ⟨w.heap.size+1+1+1+1+1,0,none⟩) 2 2],(lz2 200 300),[.int .i64 0,.int .i64 0,.int .i64 0,.int .i64 0,.int .i64 0,.int .i64 200,.int .i64 300,.int .i64 0,.int .i64 60000,.int .i64 60000,.int .i64 0,.int .i64 0,.int .i64 200,.int .i64 300],(lz2 0 3000000),(lz2 1000 1000000),(lz2 1000 1000),(lz2 500 500),(lz2 340 300),(lz2 100 100),[.int .i64 0]] W15∧W15.heap.size=w.heap.size+1+1+1+1+1+1+1+1+1+1+1+1+1+1+1+1 from by rw [hW];exact HB.out.1.more rfl HB.out.2 #[.int .i64 0] 2)
 clear hW
 go_wp2_with (refine build_named _ _ _ rfl rfl (w.heap.size+1+1+1+1+1+1+1+1+1+1+1+1+1+1+1+1) HB.out.2 #[.int .i64 0,.int .i64 0] 87 (fun W=>by go_simp) ?_)
 refine Named.mk fun W16 hW=>?_
 replace HB:=Lib.hid (show BoxS w 17 [zq38_0,(lz2 3000 3000),(lz2 2000 2000),[.slice (some ⟨w.heap.size+1,0,none⟩) 2 2,.slice (some ⟨w.heap.size+1+1,0,none⟩) 2 2],(lz2 2000 2000),(lz2 2000 2000),[.slice (some ⟨w.heap.size+1+1+1+1,0,none⟩) 2 2,.slice (some ⟨w.heap.size+1+1+1+1+1,0,none⟩) 2 2],(lz2 200 300),[.int .i64 0,.int .i64 0,.int .i64 0,.int .i64 0,.int .i64 0,.int .i64 200,.int .i64 300,.int .i64 0,.int .i64 60000,.int .i64 60000,.int .i64 0,.int .i64 0,.int .i64 200,.int .i64 300],(lz2 0 3000000),(lz2 1000 1000000),(lz2 1000 1000),(lz2 500 500),(lz2 340 300),(lz2 100 100),[.int .i64 0],(lz2 0 0)] W16∧W16.heap.size=w.heap.size+1+1+1+1+1+1+1+1+1+1+1+1+1+1+1+1+1 from by rw [hW];exact HB.out.1.more rfl HB.out.2 #[.int .i64 0,.int .i64 0] 87)
 clear hW
 go_wp2_with (refine build_named _ _ _ rfl rfl (w.heap.size+1+1+1+1+1+1+1+1+1+1+1+1+1+1+1+1+1) HB.out.2 #[.int .i64 0] 2 (fun W=>by go_simp) ?_)
 refine Named.mk fun W17 hW=>?_
 replace HB:=Lib.hid (show BoxS w 18 [zq38_0,(lz2 3000 3000),(lz2 2000 2000),[.slice (some ⟨w.heap.size+1,0,none⟩) 2 2,.slice (some ⟨w.heap.size+1+1,0,none⟩) 2 2],(lz2 2000 2000),(lz2 2000 2000),[.slice (some ⟨w.heap.size+1+1+1+1,0,none⟩) 2 2,.slice (some ⟨w.heap.size+1+1+1+1+1,0,none⟩) 2 2],(lz2 200 300),[.int .i64 0,.int .i64 0,.int .i64 0,.int .i64 0,.int .i64 0,.int .i64 200,.int .i64 300,.int .i64 0,.int .i64 60000,.int .i64 60000,.int .i64 0,.int .i64 0,.int .i64 200,.int .i64 300],(lz2 0 3000000),(lz2 1000 1000000),(lz2 1000 1000),(lz2 500 500),(lz2 340 300),(lz2 100 100),[.int .i64 0],(lz2 0 0),[.int .i64 0]] W17∧W17.heap.size=w.heap.size+1+1+1+1+1+1+1+1+1+1+1+1+1+1+1+1+1+1 from by rw [hW];exact HB.out.1.more rfl HB.out.2 #[.int .i64 0] 2)
 clear hW
 go_wp2_with (refine store_named 35 (.tmp 0) (.tmp 33) rfl rfl w.heap.size _ rfl rfl (by kernel_rfl) (by kernel_rfl) ?_)
 refine Named.mk fun W hW=>?_
 subst hW
 have HX:=Lib.hid HB.out.1
 clear HB
 refine ⟨(HX.out.has 0 _ rfl).there rfl,Named.mk fun W2 hW2=>?_⟩
 have HY:=Lib.hid (show Has W2 w.heap.size [.slice (some ⟨w.heap.size+1+1+1+1+1+1+1+1,0,none⟩) 2 2,.string ⟨#[74,69,84]⟩,.int .i64 1000,.int .i64 1000000,.slice (some ⟨w.heap.size+1+1+1+1+1+1+1+1+1,0,none⟩) 2 2,.slice (some ⟨w.heap.size+1+1+1+1+1+1+1+1+1+1,0,none⟩) 2 2,.slice (some ⟨w.heap.size+1+1+1,0,none⟩) 2 2,.slice (some ⟨w.heap.size+1+1+1+1+1+1,0,none⟩) 2 2,.slice (some ⟨w.heap.size+1+1+1+1+1+1,0,none⟩) 2 2,.slice (some ⟨w.heap.size+1+1+1+1+1+1+1+1+1+1+1,0,none⟩) 2 2,.slice (some ⟨w.heap.size+1+1+1+1+1+1+1+1+1+1+1+1,0,none⟩) 2 2,.slice (some ⟨w.heap.size+1+1+1+1+1+1+1+1+1+1+1+1+1,0,none⟩) 2 2,.slice (some ⟨w.heap.size+1+1+1+1+1+1+1+1+1+1+1+1+1+1,0,none⟩) 2 2,.int .i64 400,.int .i64 0,.int .i64 3000000,.int .i64 0,.int .i64 0,.int .i64 1,.int .i64 1,.int .i64 1,.slice (some ⟨w.heap.size+1+1+1+1+1+1+1+1+1+1+1+1+1+1+1,0,none⟩) 1 1,.slice (some ⟨w.heap.size+1+1+1+1+1+1+1+1+1+1+1+1+1+1+1+1,0,none⟩) 1 1,.slice (some ⟨w.heap.size+1+1+1+1+1+1+1+1+1+1+1+1+1+1+1+1+1,0,none⟩) 1 1,.int .i64 0,.int .i64 1000,.int .i64 900000,.int .i64 0,.int .i64 0,.int .i64 0,.int .i64 300,.int .i64 900,.int .i64 0,.int .i64 0,.int .i64 0,.int .i64 250] from by rw [hW2];exact (HX.out.has 0 _ rfl).setCells_same rfl)
 have HZ:=Lib.hid (show (erS w.heap.size).lies W2 from HPO.out W2 fun i cs h1 h2=>by rw [hW2,pl_eq];exact (HX.out.has i cs h2).setCells_other _ _ _ (by omega))
 have HBW:=Lib.hid (show Below w.heap.size w W2 from by rw [hW2];exact below_setCells _ HX.out.B _ _ (Nat.le_refl _))
 clear hW2 HX HPO
 go_wp2_with fail
 exact bodyPost_ret (res_cell1 Tryz.results75 _ W2 w.heap.size [.slice (some ⟨w.heap.size+1+1+1+1+1+1+1+1,0,none⟩) 2 2,.string ⟨#[74,69,84]⟩,.int .i64 1000,.int .i64 1000000,.slice (some ⟨w.heap.size+1+1+1+1+1+1+1+1+1,0,none⟩) 2 2,.slice (some ⟨w.heap.size+1+1+1+1+1+1+1+1+1+1,0,none⟩) 2 2,.slice (some ⟨w.heap.size+1+1+1,0,none⟩) 2 2,.slice (some ⟨w.heap.size+1+1+1+1+1+1,0,none⟩) 2 2,.slice (some ⟨w.heap.size+1+1+1+1+1+1,0,none⟩) 2 2,.slice (some ⟨w.heap.size+1+1+1+1+1+1+1+1+1+1+1,0,none⟩) 2 2,.slice (some ⟨w.heap.size+1+1+1+1+1+1+1+1+1+1+1+1,0,none⟩) 2 2,.slice (some ⟨w.heap.size+1+1+1+1+1+1+1+1+1+1+1+1+1,0,none⟩) 2 2,.slice (some ⟨w.heap.size+1+1+1+1+1+1+1+1+1+1+1+1+1+1,0,none⟩) 2 2,.int .i64 400,.int .i64 0,.int .i64 3000000,.int .i64 0,.int .i64 0,.int .i64 1,.int .i64 1,.int .i64 1,.slice (some ⟨w.heap.size+1+1+1+1+1+1+1+1+1+1+1+1+1+1+1,0,none⟩) 1 1,.slice (some ⟨w.heap.size+1+1+1+1+1+1+1+1+1+1+1+1+1+1+1+1,0,none⟩) 1 1,.slice (some ⟨w.heap.size+1+1+1+1+1+1+1+1+1+1+1+1+1+1+1+1+1,0,none⟩) 1 1,.int .i64 0,.int .i64 1000,.int .i64 900000,.int .i64 0,.int .i64 0,.int .i64 0,.int .i64 300,.int .i64 900,.int .i64 0,.int .i64 0,.int .i64 0,.int .i64 250] _ rfl (HY.out.range 0 fun j v hv=>by rw [Nat.zero_add];exact hv) Tryz.underlying35 rfl (by kernel_rfl)) rfl ⟨w.heap.size,rfl,HZ.out,HBW.out⟩
end Go.Proofs.YtgneijdjlahgbaaGreat
