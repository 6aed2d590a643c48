/- M5: Ex38, ExR, Aw38 in one text. -/
import Derived.Test.YtlbmdnfnahingaaGreatM14
import Derived.Test.YtlbmdnfnahingaaGreatM60
set_option linter.unusedSimpArgs false
set_option linter.unusedVariables false
set_option maxRecDepth 100000
set_option maxHeartbeats 16000000
namespace Go.Proofs.YtlbmdnfnahingaaGreat
abbrev ER:List Value:=[.slice none 0 0,.string ⟨#[]⟩,vI 0,vI 0,.slice none 0 0,.slice none 0 0,.slice none 0 0,.slice none 0 0,.slice none 0 0,.slice none 0 0,.slice none 0 0,.slice none 0 0,.slice none 0 0,vI 0,vI 0,vI 0,vI 0,vI 0,vI 0,vI 0,vI 0,.slice none 0 0,.slice none 0 0,.slice none 0 0,vI 0,vI 0,vI 0,vI 0,vI 0,vI 0,vI 0,vI 0,vI 0,vI 0,vI 0,vI 0]
open Go.RowKit
open Go.Lib (hid)
def erP (H:Nat):Prf:=⟨⟨#[74,69,84]⟩,1000,1000000,exL H 9 2,exL H 10 2,exL H 3 2,exL H 6 2,exL H 6 2,exL H 11 2,exL H 12 2,exL H 13 2,exL H 14 2,400,0,3000000,[0,3000000],[1000,1000000],[exR H 1 [3000,3000],exR H 2 [2000,2000]],[exR H 4 [2000,2000],exR H 5 [2000,2000]],[exR H 4 [2000,2000],exR H 5 [2000,2000]],[1000,1000],[500,500],[340,300],[100,100]⟩
def erG (H:Nat):Grd:=⟨0,0,1,1,1,exL H 15 1,exL H 16 1,exL H 17 1,0,[0],[(0,0)],[0]⟩
def erS (H:Nat):Stp:=⟨exL H 8 2,[⟨0,0,0,0,0,200,300⟩,⟨0,60000,60000,0,0,200,300⟩],erP H,erG H,⟨1000,900000,0,0⟩,0,300,900,0,0,0,250⟩
theorem AgY (w:World):Calls Tryz.prog 47 #[] w fun e' w'=>∃ H,e'=.returned (.agg (erS H).cells.toArray)∧(erS H).lies w'∧Below w.heap.size w w':=by
 have HPO:=hid (fun (W:World) (h:∀ i cs,1<=i→([ER,(lz2 3000 3000),(lz2 2000 2000),[.slice (some ⟨w.heap.size+1,0,none⟩) 2 2,.slice (some ⟨w.heap.size+1+1,0,none⟩) 2 2],(lz2 2000 2000),(lz2 2000 2000),[.slice (some ⟨w.heap.size+1+1+1+1,0,none⟩) 2 2,.slice (some ⟨w.heap.size+1+1+1+1+1,0,none⟩) 2 2],(lz2 200 300),[vI 0,vI 0,vI 0,vI 0,vI 0,vI 200,vI 300,vI 0,vI 60000,vI 60000,vI 0,vI 0,vI 200,vI 300],(lz2 0 3000000),(lz2 1000 1000000),(lz2 1000 1000),(lz2 500 500),(lz2 340 300),(lz2 100 100),[vI 0],(lz2 0 0),[vI 0]]:List (List Value))[i]? = some cs→Has W (pl w.heap.size i) cs)=>show (erS w.heap.size).lies W from
  have R:∀ i (l:List Int),1<=i→([ER,(lz2 3000 3000),(lz2 2000 2000),[.slice (some ⟨w.heap.size+1,0,none⟩) 2 2,.slice (some ⟨w.heap.size+1+1,0,none⟩) 2 2],(lz2 2000 2000),(lz2 2000 2000),[.slice (some ⟨w.heap.size+1+1+1+1,0,none⟩) 2 2,.slice (some ⟨w.heap.size+1+1+1+1+1,0,none⟩) 2 2],(lz2 200 300),[vI 0,vI 0,vI 0,vI 0,vI 0,vI 200,vI 300,vI 0,vI 60000,vI 60000,vI 0,vI 0,vI 200,vI 300],(lz2 0 3000000),(lz2 1000 1000000),(lz2 1000 1000),(lz2 500 500),(lz2 340 300),(lz2 100 100),[vI 0],(lz2 0 0),[vI 0]]:List (List Value))[i]? = some (l.map fun v=>vI v)→∀ n,l.length=n→Ints W (some ⟨pl w.heap.size i,0,none⟩) n l:=fun i l h1 h2 n hn=>Wq (h i _ h1 h2) rfl hn
  have T:∀ i j k (a b:List Int),1<=k→([ER,(lz2 3000 3000),(lz2 2000 2000),[.slice (some ⟨w.heap.size+1,0,none⟩) 2 2,.slice (some ⟨w.heap.size+1+1,0,none⟩) 2 2],(lz2 2000 2000),(lz2 2000 2000),[.slice (some ⟨w.heap.size+1+1+1+1,0,none⟩) 2 2,.slice (some ⟨w.heap.size+1+1+1+1+1,0,none⟩) 2 2],(lz2 200 300),[vI 0,vI 0,vI 0,vI 0,vI 0,vI 200,vI 300,vI 0,vI 60000,vI 60000,vI 0,vI 0,vI 200,vI 300],(lz2 0 3000000),(lz2 1000 1000000),(lz2 1000 1000),(lz2 500 500),(lz2 340 300),(lz2 100 100),[vI 0],(lz2 0 0),[vI 0]]:List (List Value))[k]? = some ([exR w.heap.size i a,exR w.heap.size j b].flatMap Row.cells)→Ints W (some ⟨pl w.heap.size i,0,none⟩) 2 a→Ints W (some ⟨pl w.heap.size j,0,none⟩) 2 b→Tab W (some ⟨pl w.heap.size k,0,none⟩) 2 [exR w.heap.size i a,exR w.heap.size j b]:=fun i j k a b h1 h2 ha hb=>⟨K9 (f:=Row.cells) (sz:=1) (fun _=>rfl) (h k _ h1 h2) rfl rfl,fun r hr=>by
   rcases List.mem_cons.1 hr with rfl | hr
   ·exact ha
   ·obtain rfl:=List.mem_singleton.1 hr
    exact hb⟩
  have r1:=R 1 [3000,3000] (by decide) rfl 2 rfl;have r2:=R 2 [2000,2000] (by decide) rfl 2 rfl;have r4:=R 4 [2000,2000] (by decide) rfl 2 rfl;have r5:=R 5 [2000,2000] (by decide) rfl 2 rfl;have t6:=T 4 5 6 [2000,2000] [2000,2000] (by decide) rfl r4 r5
  ⟨K9 (f:=Nod.cells) (sz:=7) (fun _=>rfl) (h 8 _ (by decide) rfl) rfl rfl,
   ⟨R 9 _ (by decide) rfl 2 rfl,R 10 _ (by decide) rfl 2 rfl,T 1 2 3 [3000,3000] [2000,2000] (by decide) rfl r1 r2,t6,t6,R 11 _ (by decide) rfl 2 rfl,R 12 _ (by decide) rfl 2 rfl,R 13 _ (by decide) rfl 2 rfl,R 14 _ (by decide) rfl 2 rfl⟩,
   ⟨R 15 [0] (by decide) rfl 1 rfl,K9 (f:=win) (sz:=2) (fun _=>rfl) (h 16 _ (by decide) rfl) rfl rfl,R 17 [0] (by decide) rfl 1 rfl⟩⟩)
 have HB:=hid (And.intro (DR w #[.slice none 0 0,.string ⟨#[]⟩,vI 0,vI 0,.slice none 0 0,.slice none 0 0,.slice none 0 0,.slice none 0 0,.slice none 0 0,.slice none 0 0,.slice none 0 0,.slice none 0 0,.slice none 0 0,vI 0,vI 0,vI 0,vI 0,vI 0,vI 0,vI 0,vI 0,.slice none 0 0,.slice none 0 0,.slice none 0 0,vI 0,vI 0,vI 0,vI 0,vI 0,vI 0,vI 0,vI 0,vI 0,vI 0,vI 0,vI 0] 35) (show (w.alloc (.cells #[.slice none 0 0,.string ⟨#[]⟩,vI 0,vI 0,.slice none 0 0,.slice none 0 0,.slice none 0 0,.slice none 0 0,.slice none 0 0,.slice none 0 0,.slice none 0 0,.slice none 0 0,.slice none 0 0,vI 0,vI 0,vI 0,vI 0,vI 0,vI 0,vI 0,vI 0,.slice none 0 0,.slice none 0 0,.slice none 0 0,vI 0,vI 0,vI 0,vI 0,vI 0,vI 0,vI 0,vI 0,vI 0,vI 0,vI 0,vI 0] 35)).heap.size=w.heap.size+1 by simp))
 go_enter Tryz.func47,Tryz.ntmps47
 go_wp2_with (refine AZ _ _ _ rfl rfl (w.heap.size+1) HB.out.2 #[vI 3000,vI 3000] 2 (fun W=>by go_simp) ?_)
 refine Named.mk fun W1 hW=>?_
 replace HB:=hid (show BoxS w 2 [ER,(lz2 3000 3000)] W1∧W1.heap.size=w.heap.size+1+1 from by rw [hW];exact HB.out.1.more rfl HB.out.2 #[vI 3000,vI 3000] 2);clear hW
 go_wp2_with (refine AZ _ _ _ rfl rfl (w.heap.size+1+1) HB.out.2 #[vI 2000,vI 2000] 2 (fun W=>by go_simp) ?_)
 refine Named.mk fun W2 hW=>?_
 replace HB:=hid (show BoxS w 3 [ER,(lz2 3000 3000),(lz2 2000 2000)] W2∧W2.heap.size=w.heap.size+1+1+1 from by rw [hW];exact HB.out.1.more rfl HB.out.2 #[vI 2000,vI 2000] 2);clear hW
 go_wp2_with (refine AZ _ _ _ rfl rfl (w.heap.size+1+1+1) HB.out.2 #[.slice (some ⟨w.heap.size+1,0,none⟩) 2 2,.slice (some ⟨w.heap.size+1+1,0,none⟩) 2 2] 23 (fun W=>by go_simp) ?_)
 refine Named.mk fun W3 hW=>?_
 replace HB:=hid (show BoxS w 4 [ER,(lz2 3000 3000),(lz2 2000 2000),[.slice (some ⟨w.heap.size+1,0,none⟩) 2 2,.slice (some ⟨w.heap.size+1+1,0,none⟩) 2 2]] W3∧W3.heap.size=w.heap.size+1+1+1+1 from by rw [hW];exact HB.out.1.more rfl HB.out.2 #[.slice (some ⟨w.heap.size+1,0,none⟩) 2 2,.slice (some ⟨w.heap.size+1+1,0,none⟩) 2 2] 23);clear hW
 go_wp2_with (refine AZ _ _ _ rfl rfl (w.heap.size+1+1+1+1) HB.out.2 #[vI 2000,vI 2000] 2 (fun W=>by go_simp) ?_)
 refine Named.mk fun W4 hW=>?_
 replace HB:=hid (show BoxS w 5 [ER,(lz2 3000 3000),(lz2 2000 2000),[.slice (some ⟨w.heap.size+1,0,none⟩) 2 2,.slice (some ⟨w.heap.size+1+1,0,none⟩) 2 2],(lz2 2000 2000)] W4∧W4.heap.size=w.heap.size+1+1+1+1+1 from by rw [hW];exact HB.out.1.more rfl HB.out.2 #[vI 2000,vI 2000] 2);clear hW
 go_wp2_with (refine AZ _ _ _ rfl rfl (w.heap.size+1+1+1+1+1) HB.out.2 #[vI 2000,vI 2000] 2 (fun W=>by go_simp) ?_)
 refine Named.mk fun W5 hW=>?_
 replace HB:=hid (show BoxS w 6 [ER,(lz2 3000 3000),(lz2 2000 2000),[.slice (some ⟨w.heap.size+1,0,none⟩) 2 2,.slice (some ⟨w.heap.size+1+1,0,none⟩) 2 2],(lz2 2000 2000),(lz2 2000 2000)] W5∧W5.heap.size=w.heap.size+1+1+1+1+1+1 from by rw [hW];exact HB.out.1.more rfl HB.out.2 #[vI 2000,vI 2000] 2);clear hW
 go_wp2_with (refine AZ _ _ _ rfl rfl (w.heap.size+1+1+1+1+1+1) HB.out.2 #[.slice (some ⟨w.heap.size+1+1+1+1,0,none⟩) 2 2,.slice (some ⟨w.heap.size+1+1+1+1+1,0,none⟩) 2 2] 23 (fun W=>by go_simp) ?_)
 refine Named.mk fun W6 hW=>?_
 replace HB:=hid (show BoxS w 7 [ER,(lz2 3000 3000),(lz2 2000 2000),[.slice (some ⟨w.heap.size+1,0,none⟩) 2 2,.slice (some ⟨w.heap.size+1+1,0,none⟩) 2 2],(lz2 2000 2000),(lz2 2000 2000),[.slice (some ⟨w.heap.size+1+1+1+1,0,none⟩) 2 2,.slice (some ⟨w.heap.size+1+1+1+1+1,0,none⟩) 2 2]] W6∧W6.heap.size=w.heap.size+1+1+1+1+1+1+1 from by rw [hW];exact HB.out.1.more rfl HB.out.2 #[.slice (some ⟨w.heap.size+1+1+1+1,0,none⟩) 2 2,.slice (some ⟨w.heap.size+1+1+1+1+1,0,none⟩) 2 2] 23);clear hW;replace HB:=hid (show BoxS w 8 [ER,(lz2 3000 3000),(lz2 2000 2000),[.slice (some ⟨w.heap.size+1,0,none⟩) 2 2,.slice (some ⟨w.heap.size+1+1,0,none⟩) 2 2],(lz2 2000 2000),(lz2 2000 2000),[.slice (some ⟨w.heap.size+1+1+1+1,0,none⟩) 2 2,.slice (some ⟨w.heap.size+1+1+1+1+1,0,none⟩) 2 2],(lz2 200 300)] (W6.alloc (.cells #[vI 200,vI 300] 53))∧(W6.alloc (.cells #[vI 200,vI 300] 53)).heap.size=w.heap.size+1+1+1+1+1+1+1+1 from HB.out.1.more rfl HB.out.2 #[vI 200,vI 300] 53);have HV:=hid (show Has (W6.alloc (.cells #[vI 200,vI 300] 53)) W6.heap.size (lz2 200 300) from Has.new _ _ _);have v0:=HV.out.cell 0 (vI 200) rfl;have v1:=HV.out.cell 1 (vI 300) rfl
 go_wp2_with (refine AZ _ _ _ rfl rfl (w.heap.size+1+1+1+1+1+1+1+1) HB.out.2 #[vI 0,vI 0,vI 0,vI 0,vI 0,vI 200,vI 300,vI 0,vI 60000,vI 60000,vI 0,vI 0,vI 200,vI 300] 96 (fun W=>by go_simp) ?_)
 refine Named.mk fun W8 hW=>?_
 replace HB:=hid (show BoxS w 9 [ER,(lz2 3000 3000),(lz2 2000 2000),[.slice (some ⟨w.heap.size+1,0,none⟩) 2 2,.slice (some ⟨w.heap.size+1+1,0,none⟩) 2 2],(lz2 2000 2000),(lz2 2000 2000),[.slice (some ⟨w.heap.size+1+1+1+1,0,none⟩) 2 2,.slice (some ⟨w.heap.size+1+1+1+1+1,0,none⟩) 2 2],(lz2 200 300),[vI 0,vI 0,vI 0,vI 0,vI 0,vI 200,vI 300,vI 0,vI 60000,vI 60000,vI 0,vI 0,vI 200,vI 300]] W8∧W8.heap.size=w.heap.size+1+1+1+1+1+1+1+1+1 from by rw [hW];exact HB.out.1.more rfl HB.out.2 #[vI 0,vI 0,vI 0,vI 0,vI 0,vI 200,vI 300,vI 0,vI 60000,vI 60000,vI 0,vI 0,vI 200,vI 300] 96);clear hW v0 v1 HV
 go_wp2_with (refine AZ _ _ _ rfl rfl (w.heap.size+1+1+1+1+1+1+1+1+1) HB.out.2 #[vI 0,vI 3000000] 2 (fun W=>by go_simp) ?_)
 refine Named.mk fun W9 hW=>?_
 replace HB:=hid (show BoxS w 10 [ER,(lz2 3000 3000),(lz2 2000 2000),[.slice (some ⟨w.heap.size+1,0,none⟩) 2 2,.slice (some ⟨w.heap.size+1+1,0,none⟩) 2 2],(lz2 2000 2000),(lz2 2000 2000),[.slice (some ⟨w.heap.size+1+1+1+1,0,none⟩) 2 2,.slice (some ⟨w.heap.size+1+1+1+1+1,0,none⟩) 2 2],(lz2 200 300),[vI 0,vI 0,vI 0,vI 0,vI 0,vI 200,vI 300,vI 0,vI 60000,vI 60000,vI 0,vI 0,vI 200,vI 300],(lz2 0 3000000)] W9∧W9.heap.size=w.heap.size+1+1+1+1+1+1+1+1+1+1 from by rw [hW];exact HB.out.1.more rfl HB.out.2 #[vI 0,vI 3000000] 2);clear hW
 go_wp2_with (refine AZ _ _ _ rfl rfl (w.heap.size+1+1+1+1+1+1+1+1+1+1) HB.out.2 #[vI 1000,vI 1000000] 2 (fun W=>by go_simp) ?_)
 refine Named.mk fun W10 hW=>?_
 replace HB:=hid (show BoxS w 11 [ER,(lz2 3000 3000),(lz2 2000 2000),[.slice (some ⟨w.heap.size+1,0,none⟩) 2 2,.slice (some ⟨w.heap.size+1+1,0,none⟩) 2 2],(lz2 2000 2000),(lz2 2000 2000),[.slice (some ⟨w.heap.size+1+1+1+1,0,none⟩) 2 2,.slice (some ⟨w.heap.size+1+1+1+1+1,0,none⟩) 2 2],(lz2 200 300),[vI 0,vI 0,vI 0,vI 0,vI 0,vI 200,vI 300,vI 0,vI 60000,vI 60000,vI 0,vI 0,vI 200,vI 300],(lz2 0 3000000),(lz2 1000 1000000)] W10∧W10.heap.size=w.heap.size+1+1+1+1+1+1+1+1+1+1+1 from by rw [hW];exact HB.out.1.more rfl HB.out.2 #[vI 1000,vI 1000000] 2);clear hW
 go_wp2_with (refine AZ _ _ _ rfl rfl (w.heap.size+1+1+1+1+1+1+1+1+1+1+1) HB.out.2 #[vI 1000,vI 1000] 2 (fun W=>by go_simp) ?_)
 refine Named.mk fun W11 hW=>?_
 replace HB:=hid (show BoxS w 12 [ER,(lz2 3000 3000),(lz2 2000 2000),[.slice (some ⟨w.heap.size+1,0,none⟩) 2 2,.slice (some ⟨w.heap.size+1+1,0,none⟩) 2 2],(lz2 2000 2000),(lz2 2000 2000),[.slice (some ⟨w.heap.size+1+1+1+1,0,none⟩) 2 2,.slice (some ⟨w.heap.size+1+1+1+1+1,0,none⟩) 2 2],(lz2 200 300),[vI 0,vI 0,vI 0,vI 0,vI 0,vI 200,vI 300,vI 0,vI 60000,vI 60000,vI 0,vI 0,vI 200,vI 300],(lz2 0 3000000),(lz2 1000 1000000),(lz2 1000 1000)] W11∧W11.heap.size=w.heap.size+1+1+1+1+1+1+1+1+1+1+1+1 from by rw [hW];exact HB.out.1.more rfl HB.out.2 #[vI 1000,vI 1000] 2);clear hW
 go_wp2_with (refine AZ _ _ _ rfl rfl (w.heap.size+1+1+1+1+1+1+1+1+1+1+1+1) HB.out.2 #[vI 500,vI 500] 2 (fun W=>by go_simp) ?_)
 refine Named.mk fun W12 hW=>?_
 replace HB:=hid (show BoxS w 13 [ER,(lz2 3000 3000),(lz2 2000 2000),[.slice (some ⟨w.heap.size+1,0,none⟩) 2 2,.slice (some ⟨w.heap.size+1+1,0,none⟩) 2 2],(lz2 2000 2000),(lz2 2000 2000),[.slice (some ⟨w.heap.size+1+1+1+1,0,none⟩) 2 2,.slice (some ⟨w.heap.size+1+1+1+1+1,0,none⟩) 2 2],(lz2 200 300),[vI 0,vI 0,vI 0,vI 0,vI 0,vI 200,vI 300,vI 0,vI 60000,vI 60000,vI 0,vI 0,vI 200,vI 300],(lz2 0 3000000),(lz2 1000 1000000),(lz2 1000 1000),(lz2 500 500)] W12∧W12.heap.size=w.heap.size+1+1+1+1+1+1+1+1+1+1+1+1+1 from by rw [hW];exact HB.out.1.more rfl HB.out.2 #[vI 500,vI 500] 2);clear hW
 go_wp2_with (refine AZ _ _ _ rfl rfl (w.heap.size+1+1+1+1+1+1+1+1+1+1+1+1+1) HB.out.2 #[vI 340,vI 300] 2 (fun W=>by go_simp) ?_)
 refine Named.mk fun W13 hW=>?_
 replace HB:=hid (show BoxS w 14 [ER,(lz2 3000 3000),(lz2 2000 2000),[.slice (some ⟨w.heap.size+1,0,none⟩) 2 2,.slice (some ⟨w.heap.size+1+1,0,none⟩) 2 2],(lz2 2000 2000),(lz2 2000 2000),[.slice (some ⟨w.heap.size+1+1+1+1,0,none⟩) 2 2,.slice (some ⟨w.heap.size+1+1+1+1+1,0,none⟩) 2 2],(lz2 200 300),[vI 0,vI 0,vI 0,vI 0,vI 0,vI 200,vI 300,vI 0,vI 60000,vI 60000,vI 0,vI 0,vI 200,vI 300],(lz2 0 3000000),(lz2 1000 1000000),(lz2 1000 1000),(lz2 500 500),(lz2 340 300)] W13∧W13.heap.size=w.heap.size+1+1+1+1+1+1+1+1+1+1+1+1+1+1 from by rw [hW];exact HB.out.1.more rfl HB.out.2 #[vI 340,vI 300] 2);clear hW
 go_wp2_with (refine AZ _ _ _ rfl rfl (w.heap.size+1+1+1+1+1+1+1+1+1+1+1+1+1+1) HB.out.2 #[vI 100,vI 100] 2 (fun W=>by go_simp) ?_)
 refine Named.mk fun W14 hW=>?_
 replace HB:=hid (show BoxS w 15 [ER,(lz2 3000 3000),(lz2 2000 2000),[.slice (some ⟨w.heap.size+1,0,none⟩) 2 2,.slice (some ⟨w.heap.size+1+1,0,none⟩) 2 2],(lz2 2000 2000),(lz2 2000 2000),[.slice (some ⟨w.heap.size+1+1+1+1,0,none⟩) 2 2,.slice (some ⟨w.heap.size+1+1+1+1+1,0,none⟩) 2 2],(lz2 200 300),[vI 0,vI 0,vI 0,vI 0,vI 0,vI 200,vI 300,vI 0,vI 60000,vI 60000,vI 0,vI 0,vI 200,vI 300],(lz2 0 3000000),(lz2 1000 1000000),(lz2 1000 1000),(lz2 500 500),(lz2 340 300),(lz2 100 100)] W14∧W14.heap.size=w.heap.size+1+1+1+1+1+1+1+1+1+1+1+1+1+1+1 from by rw [hW];exact HB.out.1.more rfl HB.out.2 #[vI 100,vI 100] 2);clear hW
 go_wp2_with (refine AZ _ _ _ rfl rfl (w.heap.size+1+1+1+1+1+1+1+1+1+1+1+1+1+1+1) HB.out.2 #[vI 0] 2 (fun W=>by go_simp) ?_)
 refine Named.mk fun W15 hW=>?_
 replace HB:=hid (show BoxS w 16 [ER,(lz2 3000 3000),(lz2 2000 2000),[.slice (some ⟨w.heap.size+1,0,none⟩) 2 2,.slice (some ⟨w.heap.size+1+1,0,none⟩) 2 2],(lz2 2000 2000),(lz2 2000 2000),[.slice (some ⟨w.heap.size+1+1+1+1,0,none⟩) 2 2,.slice (some ⟨w.heap.size+1+1+1+1+1,0,none⟩) 2 2],(lz2 200 300),[vI 0,vI 0,vI 0,vI 0,vI 0,vI 200,vI 300,vI 0,vI 60000,vI 60000,vI 0,vI 0,vI 200,vI 300],(lz2 0 3000000),(lz2 1000 1000000),(lz2 1000 1000),(lz2 500 500),(lz2 340 300),(lz2 100 100),[vI 0]] W15∧W15.heap.size=w.heap.size+1+1+1+1+1+1+1+1+1+1+1+1+1+1+1+1 from by rw [hW];exact HB.out.1.more rfl HB.out.2 #[vI 0] 2);clear hW
 go_wp2_with (refine AZ _ _ _ rfl rfl (w.heap.size+1+1+1+1+1+1+1+1+1+1+1+1+1+1+1+1) HB.out.2 #[vI 0,vI 0] 82 (fun W=>by go_simp) ?_)
 refine Named.mk fun W16 hW=>?_
 replace HB:=hid (show BoxS w 17 [ER,(lz2 3000 3000),(lz2 2000 2000),[.slice (some ⟨w.heap.size+1,0,none⟩) 2 2,.slice (some ⟨w.heap.size+1+1,0,none⟩) 2 2],(lz2 2000 2000),(lz2 2000 2000),[.slice (some ⟨w.heap.size+1+1+1+1,0,none⟩) 2 2,.slice (some ⟨w.heap.size+1+1+1+1+1,0,none⟩) 2 2],(lz2 200 300),[vI 0,vI 0,vI 0,vI 0,vI 0,vI 200,vI 300,vI 0,vI 60000,vI 60000,vI 0,vI 0,vI 200,vI 300],(lz2 0 3000000),(lz2 1000 1000000),(lz2 1000 1000),(lz2 500 500),(lz2 340 300),(lz2 100 100),[vI 0],(lz2 0 0)] W16∧W16.heap.size=w.heap.size+1+1+1+1+1+1+1+1+1+1+1+1+1+1+1+1+1 from by rw [hW];exact HB.out.1.more rfl HB.out.2 #[vI 0,vI 0] 82);clear hW
 go_wp2_with (refine AZ _ _ _ rfl rfl (w.heap.size+1+1+1+1+1+1+1+1+1+1+1+1+1+1+1+1+1) HB.out.2 #[vI 0] 2 (fun W=>by go_simp) ?_)
 refine Named.mk fun W17 hW=>?_
 replace HB:=hid (show BoxS w 18 [ER,(lz2 3000 3000),(lz2 2000 2000),[.slice (some ⟨w.heap.size+1,0,none⟩) 2 2,.slice (some ⟨w.heap.size+1+1,0,none⟩) 2 2],(lz2 2000 2000),(lz2 2000 2000),[.slice (some ⟨w.heap.size+1+1+1+1,0,none⟩) 2 2,.slice (some ⟨w.heap.size+1+1+1+1+1,0,none⟩) 2 2],(lz2 200 300),[vI 0,vI 0,vI 0,vI 0,vI 0,vI 200,vI 300,vI 0,vI 60000,vI 60000,vI 0,vI 0,vI 200,vI 300],(lz2 0 3000000),(lz2 1000 1000000),(lz2 1000 1000),(lz2 500 500),(lz2 340 300),(lz2 100 100),[vI 0],(lz2 0 0),[vI 0]] W17∧W17.heap.size=w.heap.size+1+1+1+1+1+1+1+1+1+1+1+1+1+1+1+1+1+1 from by rw [hW];exact HB.out.1.more rfl HB.out.2 #[vI 0] 2);clear hW
 go_wp2_with (refine PO 35 (.tmp 0) (.tmp 33) rfl rfl w.heap.size _ rfl rfl (by kernel_rfl) (by kernel_rfl) ?_)
 refine Named.mk fun W hW=>?_
 subst hW;have HX:=hid HB.out.1;clear HB
 refine ⟨(HX.out.has 0 _ rfl).there rfl,Named.mk fun W2 hW2=>?_⟩
 have HY:=hid (show Has W2 w.heap.size [.slice (some ⟨w.heap.size+1+1+1+1+1+1+1+1,0,none⟩) 2 2,.string ⟨#[74,69,84]⟩,vI 1000,vI 1000000,.slice (some ⟨w.heap.size+1+1+1+1+1+1+1+1+1,0,none⟩) 2 2,.slice (some ⟨w.heap.size+1+1+1+1+1+1+1+1+1+1,0,none⟩) 2 2,.slice (some ⟨w.heap.size+1+1+1,0,none⟩) 2 2,.slice (some ⟨w.heap.size+1+1+1+1+1+1,0,none⟩) 2 2,.slice (some ⟨w.heap.size+1+1+1+1+1+1,0,none⟩) 2 2,.slice (some ⟨w.heap.size+1+1+1+1+1+1+1+1+1+1+1,0,none⟩) 2 2,.slice (some ⟨w.heap.size+1+1+1+1+1+1+1+1+1+1+1+1,0,none⟩) 2 2,.slice (some ⟨w.heap.size+1+1+1+1+1+1+1+1+1+1+1+1+1,0,none⟩) 2 2,.slice (some ⟨w.heap.size+1+1+1+1+1+1+1+1+1+1+1+1+1+1,0,none⟩) 2 2,vI 400,vI 0,vI 3000000,vI 0,vI 0,vI 1,vI 1,vI 1,.slice (some ⟨w.heap.size+1+1+1+1+1+1+1+1+1+1+1+1+1+1+1,0,none⟩) 1 1,.slice (some ⟨w.heap.size+1+1+1+1+1+1+1+1+1+1+1+1+1+1+1+1,0,none⟩) 1 1,.slice (some ⟨w.heap.size+1+1+1+1+1+1+1+1+1+1+1+1+1+1+1+1+1,0,none⟩) 1 1,vI 0,vI 1000,vI 900000,vI 0,vI 0,vI 0,vI 300,vI 900,vI 0,vI 0,vI 0,vI 250] from by rw [hW2];exact (HX.out.has 0 _ rfl).setCells_same rfl);have HZ:=hid (show (erS w.heap.size).lies W2 from HPO.out W2 fun i cs h1 h2=>by rw [hW2,AaV];exact (HX.out.has i cs h2).setCells_other _ _ _ (by omega));have HBW:=hid (show Below w.heap.size w W2 from by rw [hW2];exact F7 _ HX.out.B _ _ (Bn _));clear hW2 HX HPO
 go_wp2_with fail
 exact bodyPost_ret (UJ Tryz.results47 _ W2 w.heap.size [.slice (some ⟨w.heap.size+1+1+1+1+1+1+1+1,0,none⟩) 2 2,.string ⟨#[74,69,84]⟩,vI 1000,vI 1000000,.slice (some ⟨w.heap.size+1+1+1+1+1+1+1+1+1,0,none⟩) 2 2,.slice (some ⟨w.heap.size+1+1+1+1+1+1+1+1+1+1,0,none⟩) 2 2,.slice (some ⟨w.heap.size+1+1+1,0,none⟩) 2 2,.slice (some ⟨w.heap.size+1+1+1+1+1+1,0,none⟩) 2 2,.slice (some ⟨w.heap.size+1+1+1+1+1+1,0,none⟩) 2 2,.slice (some ⟨w.heap.size+1+1+1+1+1+1+1+1+1+1+1,0,none⟩) 2 2,.slice (some ⟨w.heap.size+1+1+1+1+1+1+1+1+1+1+1+1,0,none⟩) 2 2,.slice (some ⟨w.heap.size+1+1+1+1+1+1+1+1+1+1+1+1+1,0,none⟩) 2 2,.slice (some ⟨w.heap.size+1+1+1+1+1+1+1+1+1+1+1+1+1+1,0,none⟩) 2 2,vI 400,vI 0,vI 3000000,vI 0,vI 0,vI 1,vI 1,vI 1,.slice (some ⟨w.heap.size+1+1+1+1+1+1+1+1+1+1+1+1+1+1+1,0,none⟩) 1 1,.slice (some ⟨w.heap.size+1+1+1+1+1+1+1+1+1+1+1+1+1+1+1+1,0,none⟩) 1 1,.slice (some ⟨w.heap.size+1+1+1+1+1+1+1+1+1+1+1+1+1+1+1+1+1,0,none⟩) 1 1,vI 0,vI 1000,vI 900000,vI 0,vI 0,vI 0,vI 300,vI 900,vI 0,vI 0,vI 0,vI 250] _ rfl (HY.out.range 0 fun j v hv=>by rw [Nat.zero_add];exact hv) Tryz.underlying35 rfl (by kernel_rfl)) rfl ⟨w.heap.size,rfl,HZ.out,HBW.out⟩
theorem er1 (H:Nat):suE (erS H)=0:=by kernel_rfl
theorem er2 (H:Nat):Dr (erS H)=0:=by kernel_rfl
theorem er3 (H:Nat):C8 (erS H)=[0,0]:=by kernel_rfl
theorem er4 (H:Nat):spn (erS H)=100:=by unfold spn sdA;rw [er3];kernel_rfl
theorem er5 (H:Nat):opE (erS H) 1 false=0:=by
 unfold opE
 rw [if_neg (by rw [er1];decide),if_neg (show ¬ ((1:Int)<1∨(((erS H).no.length:Nat):Int)<=1∨false=true) from by show ¬ ((1:Int)<1∨((2:Nat):Int)<=1∨false=true);decide),if_neg (by rw [er2];decide)]
 unfold sdA
 rw [er3]
 kernel_rfl
theorem er6 (H:Nat) (k:Int):fam (erS H) k=(([(200,300),(200,300)]:Cs.Wins)).map (fun p=>min p.2 (p.1+k)):=by
 have h:Cs.tight (sdA (erS H)) (spS (erS H))=[(200,300),(200,300)]:=by unfold sdA;rw [er3];kernel_rfl
 unfold fam Sp.faL
 rw [h];rfl
theorem er7 (H:Nat):suH (erS H) 0=⟨0,0,0,0,0,0⟩:=by kernel_rfl
theorem er8 (H:Nat):bdV (erS H) 1=1:=by
 unfold bdV
 rw [if_neg (by rw [er5];decide)]
 have h:tgt (erS H) ((1:Int) - (0:Nat))=true:=by
  unfold tgt sdA
  rw [er3]
  kernel_rfl
 show (if tgt (erS H) ((1:Int) - (0:Nat))=true then _ else _)=_
 rw [if_pos h];rfl
def G7 (v:Int):Pass:=⟨0,v,v,0,0,900000,0,0,0,0,900000,900000,0⟩
def erX (v:Int):Nx:=⟨⟨0,0,2,v,v,0,0⟩,⟨0,0,0,0,0,0⟩,v,v,60000⟩
def V4 (v t k f:Int):Prop:=(v=200∧t=300∧k=0∧f=300000)∨(v=249∧t=241∧k=49∧f=418000)∨(v=250∧t=240∧k=50∧f=420000)∨(v=300∧t=200∧k=100∧f=500000)
theorem vD {G:Prop} (h:G:=by rcases V with ⟨rfl,rfl,rfl,rfl⟩ | ⟨rfl,rfl,rfl,rfl⟩ | ⟨rfl,rfl,rfl,rfl⟩ | ⟨rfl,rfl,rfl,rfl⟩ <;> first | decide | kernel_rfl):G:=h
theorem AhW {v t k f:Int} (V:V4 v t k f):Ck v 900 0 0=v:=by
 have h:sdV 0 0=10583:=AfJ
 have h2:omV 900 0 0=596:=by unfold omV;rw [h];decide
 have h3:tsV v 0 0=v:=vD
 unfold Ck
 rw [h2,h3]
 exact vD
theorem Aii {v t k f:Int} (V:V4 v t k f):gsV 0 v 0 0=v * 1024∧gsE 0 v 0 0=0:=by
 obtain ⟨h1,h2⟩:=Afi 0 0 (.inr (.inl rfl)) (.inr (.inl rfl))
 have h3:gsR 0 v 0 0=v * 1024:=by unfold gsR;rw [h2];exact JD vD vD vD
 have h4:gsE 0 v 0 0=0:=by unfold gsE;rw [h1,h2,h3];exact vD
 refine ⟨?_,h4⟩
 unfold gsV
 rw [if_pos h4,h1,h3];exact vD
theorem AhV {v t k f:Int} (V:V4 v t k f):giE 0 v v 0 0 0 0=0∧giL 0 v v 0 0 0 0=v∧giH 0 v v 0 0 0 0=v:=by
 have m1:mn4 (alV 0) 0 0 0 0=0:=by decide
 have m2:mx4 (alV 0) 0 0 0 0=0:=by decide
 have f1:giF 0 0 0 0 0=0:=by decide
 have f2:giN 0 0 0 0 0=0:=by decide
 have l1:Ey 0 v 0 0 0 0=v * 1024:=by unfold Ey;rw [m1,f1,JD (r:=v * 1024) (by exact vD) (by exact vD) (by exact vD)];exact vD
 have l2:FU 0 v 0 0 0 0=v * 1024:=by unfold FU;rw [m2,f2,JD (r:=v * 1024) (by exact vD) (by exact vD) (by exact vD)];exact vD
 have h:giE 0 v v 0 0 0 0=0:=by unfold giE;rw [f1,l1];exact vD
 refine ⟨h,?_,?_⟩
 ·unfold giL;rw [if_pos h,l1];exact vD
 ·unfold giH;rw [if_pos h,l2];exact vD
theorem Aix (H:Nat) {v t k f:Int} (V:V4 v t k f):lgV (erS H) [0,0] [v,v] 0=⟨0,0,2,v,v,0,0⟩:=by
 have e1:lgA [0,0] 0=0:=by decide
 have e2:lgA [v,v] 0=v:=vD
 have e3:lgP [0,0] 0=2:=by decide
 have e4:coV (Ac (erS H) 0).px (Ac (erS H) 0).py (Ac (erS H) (0+1)).px (Ac (erS H) (0+1)).py=0:=Afp
 have e5:gAt (erS H).gr (elE (erS H).gr) (lgX (erS H) 0) (lgY (erS H) 0) 0=0:=by kernel_rfl
 have e6:gAt (erS H).gr (elN (erS H).gr) (lgX (erS H) 0) (lgY (erS H) 0) 0=0:=by kernel_rfl
 have e7:gAt (erS H).gr (elD (erS H).gr) (lgX (erS H) 0) (lgY (erS H) 0) 0=0:=by kernel_rfl
 unfold lgV
 rw [e1,e2,e3,e4,e5,e6,e7,show Ck v (erS H).mch 0 0=v from AhW V]
theorem Aiy (H:Nat) {v t k f:Int} (V:V4 v t k f):psP (erS H) [0,0] [v,v] 0=G7 v:=by
 have e5:gAt (erS H).gr (elD (erS H).gr) (Ac (erS H) 0).px (Ac (erS H) 0).py 0=0:=by kernel_rfl
 have e6:(erS H).ac.left=900000:=by kernel_rfl
 show YV (erS H) [0,0] [v,v]=G7 v
 unfold YV
 rw [show ([0,0]:List Int).getD 0 0=0 by decide,show ([v,v]:List Int).getD 0 0=v from rfl,e5,e6,show Ck v (erS H).mch 0 0=v from AhW V]
 rfl
theorem Aij (H:Nat) {v t k f:Int} (V:V4 v t k f):nxV (erS H) [0,0] [v,v] 0=erX v:=by
 unfold nxV
 rw [Aix H V,er7,show lgA [0,0] 0=0 by decide,show lgA [v,v] 0=v from vD,show Ck v (erS H).mch 0 0=v from AhW V]
 rfl
def AhS (v t f:Int):Pass:=⟨0,v,v,v,t,f,v,v,t,t,f,f,2⟩
theorem Aiw (H:Nat) {v t k f:Int} (V:V4 v t k f):(erX v).E (erS H) (G7 v)=0∧(erX v).P (erS H) (G7 v) 0 v=AhS v t f:=by
 have h1:(erX v).g=v:=by
  show gsV 0 v 0 0 / 1024=v
  rw [(Aii V).1];exact vD
 have h2:(erX v).t=t:=by unfold Nx.t;rw [h1];exact vD
 have h3:(erX v).fu (erS H) (G7 v)=f:=by
  unfold Nx.fu
  rw [h2]
  exact vD
 have g1:giE (erX v).l.co (erX v).slow (erX v).fast (erX v).h.e0 (erX v).h.e1 (erX v).h.n0 (erX v).h.n1=0:=(AhV V).1;have l1:(erX v).gl=v:=(AhV V).2.1;have l2:(erX v).gh=v:=(AhV V).2.2
 have t0:(erX v).t0=t:=by unfold Nx.t0;rw [l2];exact vD
 have t1:(erX v).t1=t:=by unfold Nx.t1;rw [l1];exact vD
 have f0:(erX v).f0 (erS H) (G7 v)=2000:=vD;have f1:(erX v).f1 (erS H) (G7 v)=2000:=vD
 constructor
 ·unfold Nx.E
  rw [if_neg (show ¬ ((erX v).l.ta=0∨(erX v).slow=0) from vD),if_neg (by rw [show gsE (erX v).l.co (erX v).l.ta (erX v).l.we (erX v).l.wn=0 from (Aii V).2];decide),if_neg (by rw [g1];decide),if_neg (by rw [h3];exact vD),f0,f1,t0,t1]
  exact vD
 ·unfold Nx.P
  rw [h1,h2,h3,l1,l2,f0,f1,t0,t1]
  exact vD
theorem Ahq (H:Nat) {v t k f:Int} (V:V4 v t k f):fkE (erS H) k=0∧fkL (erS H) k=[G7 v,AhS v t f]∧fkT (erS H) k 1=t:=by
 obtain ⟨a1,a2⟩:=Aiw H V
 have hf:fam (erS H) k=[v,v]:=by rw [er6];exact vD
 have p0:=Aiy H V
 have p1:psP (erS H) [0,0] [v,v] 1=AhS v t f:=by
  show nxP (erS H) (psP (erS H) [0,0] [v,v] 0) [0,0] [v,v] 0=_
  unfold nxP
  rw [p0,Aij H V,← a2]
  rfl
 have e1:psE (erS H) [0,0] [v,v] 1=0:=by
  have h:psE (erS H) [0,0] [v,v] 1=nxE (erS H) (psP (erS H) [0,0] [v,v] 0) [0,0] [v,v] 0:=if_neg (fun h=>h rfl)
  rw [h]
  unfold nxE
  rw [p0,Aij H V,a1]
 have w:wtE (erS H) [0,0] [v,v]=0:=by
  unfold wtE
  rw [if_neg (by rw [er1 H];decide),if_neg (by rw [show fcE (erS H) [0,0] [v,v]=0 from vD];decide)]
  exact e1
 refine ⟨by unfold fkE;rw [er3,hf];exact w,?_,by unfold fkT;rw [er3,hf,p1];rfl⟩
 unfold fkL
 rw [er3,hf]
 show [psP (erS H) [0,0] [v,v] 0,psP (erS H) [0,0] [v,v] 1]=_
 rw [p0,p1]
theorem TK (H:Nat):fkE (erS H) 0=0∧fkL (erS H) 0=[G7 200,⟨0,200,200,200,300,300000,200,200,300,300,300000,300000,2⟩]∧fkT (erS H) 0 1=300:=Ahq H (.inl ⟨rfl,rfl,rfl,rfl⟩)
theorem Ahr (H:Nat):fkE (erS H) 49=0∧fkL (erS H) 49=[G7 249,⟨0,249,249,249,241,418000,249,249,241,241,418000,418000,2⟩]∧fkT (erS H) 49 1=241:=Ahq H (.inr (.inl ⟨rfl,rfl,rfl,rfl⟩))
theorem Ag1 (H:Nat):fkE (erS H) 50=0∧fkL (erS H) 50=[G7 250,⟨0,250,250,250,240,420000,250,250,240,240,420000,420000,2⟩]∧fkT (erS H) 50 1=240:=Ahq H (.inr (.inr (.inl ⟨rfl,rfl,rfl,rfl⟩)))
theorem K5 (H:Nat):fkE (erS H) 100=0∧fkL (erS H) 100=[G7 300,⟨0,300,300,300,200,500000,300,300,200,200,500000,500000,2⟩]∧fkT (erS H) 100 1=200:=Ahq H (.inr (.inr (.inr ⟨rfl,rfl,rfl,rfl⟩)))
/-! ### what the functions answer -/
theorem Aig (H:Nat):StN (erS H):=⟨rfl,rfl,rfl,rfl,rfl,rfl,rfl,rfl,rfl,rfl⟩
theorem AhX (H:Nat):wdE (erS H) 1=0∧fkT (erS H) (spn (erS H)) (1:Int).toNat=200∧fkT (erS H) 0 (1:Int).toNat=300:=by
 have a:=K5 H;have b:=TK H
 refine ⟨?_,by rw [er4];exact a.2.2,b.2.2⟩
 unfold wdE
 rw [if_neg (by rw [er5];decide),if_neg (by rw [er4,a.1];decide)]
 exact b.1
theorem Ahe (H:Nat) {lo hi:Int} (h:lo<=hi):opE (erS H) 1 (decide (hi<lo))=0:=by rw [BJ (by omega)];exact er5 H
theorem AhT (H:Nat):soE (erS H) 1 210 240=0∧soL (erS H) 1 210 240=fkL (erS H) 50∧soV (erS H) 1 210 240=0:=by
 have o:=Ahe H (lo:=210) (hi:=240) (by decide);obtain ⟨O,-⟩:=Af2 (Aig H) (er5 H);have a:=K5 H;have b:=Ag1 H;have c:=Ahr H
 have h:=Ahl (k:=50) o (by rw [er4];rintro ⟨-,h2⟩;rw [show fkT (erS H) 100 (1:Int).toNat=200 from a.2.2] at h2;omega) (by
  unfold fnd
  rw [er4]
  refine X6 (Nat.zero_le _) (by decide) (fun i _ hi=>?_) ⟨b.1,by rw [show fkT (erS H) ((50:Nat):Int) (1:Int).toNat=240 from b.2.2];decide⟩
  rintro ⟨h1,h2⟩
  have h3:=Agz O (Aig H) (j:=(i:Int)) (k:=49) (by omega) (by omega) h1 c.1 (i:=1) (by show 1<2;decide)
  rw [c.2.2] at h3
  have h4:fkT (erS H) (i:Int) 1<=240:=h2
  omega)
 exact ⟨h.1,h.2.1,by rw [h.2.2,show fkT (erS H) ((50:Nat):Int) (1:Int).toNat=240 from b.2.2];decide⟩
theorem Aih (H:Nat):soE (erS H) 1 0 199=16:=by
 have a:=K5 H
 exact AhC (Ahe H (by decide)) (by rw [er4];exact ⟨a.1,by rw [show fkT (erS H) 100 (1:Int).toNat=200 from a.2.2];decide⟩)
theorem AhU (H:Nat):soE (erS H) 1 400 500=0∧soL (erS H) 1 400 500=fkL (erS H) 0∧soV (erS H) 1 400 500=100:=by
 have a:=K5 H;have b:=TK H
 have h:=Ahl (k:=0) (Ahe H (lo:=400) (hi:=500) (by decide)) (by rw [er4];rintro ⟨-,h2⟩;rw [show fkT (erS H) 100 (1:Int).toNat=200 from a.2.2] at h2;omega) (by
  unfold fnd
  exact X6 (Nat.zero_le _) (by omega) (fun i _ hi=>by omega) ⟨b.1,by rw [show fkT (erS H) ((0:Nat):Int) (1:Int).toNat=300 from b.2.2];decide⟩)
 exact ⟨h.1,h.2.1,by rw [h.2.2,show fkT (erS H) ((0:Nat):Int) (1:Int).toNat=300 from b.2.2];decide⟩
theorem AgS (H:Nat):(erS H).ok :=
 ⟨by show 2<=maxLen;decide,⟨by show 3<=maxLen;decide,by show 2<=maxLen;decide,by show 2<=maxLen;decide,by show 2<=maxLen;decide,by show 2<=maxLen;decide,by show 2<=maxLen;decide,by show 2<=maxLen;decide,by show 2<=maxLen;decide,by show 2<=maxLen;decide,by show 2<=maxLen;decide,
  Qq H _ _ _ _,Qq H _ _ _ _,Qq H _ _ _ _⟩,
  ⟨by show I64 0;unfold I64;decide,by show I64 0;unfold I64;decide,by show I64 1;unfold I64;decide,by show I64 1;unfold I64;decide,by show I64 1;unfold I64;decide,by show 1<=maxLen;decide,by show 1<=maxLen;decide,by show 1<=maxLen;decide⟩,by show I64 900000;unfold I64;decide,by show I64 1000;unfold I64;decide⟩
theorem OW (H:Nat):BS (erS H).sno.A (erS H).sno.n (erS H).sno.c:=⟨Bn _,by show 2<=maxLen;decide,fun h=>by cases h⟩
theorem AgT:I64 1:=by unfold I64;decide
theorem Aif (H:Nat):soL (erS H) 1 210 240=[G7 250,⟨0,250,250,250,240,420000,250,250,240,240,420000,420000,2⟩]∧soL (erS H) 1 400 500=[G7 200,⟨0,200,200,200,300,300000,200,200,300,300,300000,300000,2⟩]:=by
 rw [(AhT H).2.1,(AhU H).2.1]
 exact ⟨(Ag1 H).2.1,(TK H).2.1⟩
theorem Ag0 (w:World):Calls Tryz.prog 11 #[] w fun e w'=>e=.returned (.bool true)∧Below w.heap.size w w':=by
 have HB0:=hid (AJ w.heap.size w)
 go_enter Tryz.func11,Tryz.ntmps11
 go_wp2_with fail
 refine (AgY _).mono ?_;rintro e' w1 ⟨H,rfl,hl,hB⟩
 have HS:=hid (show BoxS w 0 [] w1 from ⟨fun i cs hi=>by simp at hi,by simp,hB,hB.size⟩);have HL:=hid hl;clear hB hl HB0;have HNW:=hid (show Has (w1.alloc (.cells #[.slice none 0 0,.string ⟨#[]⟩,vI 0,vI 0,.slice none 0 0,.slice none 0 0,.slice none 0 0,.slice none 0 0,.slice none 0 0,.slice none 0 0,.slice none 0 0,.slice none 0 0,.slice none 0 0,vI 0,vI 0,vI 0,vI 0,vI 0,vI 0,vI 0,vI 0,.slice none 0 0,.slice none 0 0,.slice none 0 0,vI 0,vI 0,vI 0,vI 0,vI 0,vI 0,vI 0,vI 0,vI 0,vI 0,vI 0,vI 0] 35)) w1.heap.size [.slice none 0 0,.string ⟨#[]⟩,vI 0,vI 0,.slice none 0 0,.slice none 0 0,.slice none 0 0,.slice none 0 0,.slice none 0 0,.slice none 0 0,.slice none 0 0,.slice none 0 0,.slice none 0 0,vI 0,vI 0,vI 0,vI 0,vI 0,vI 0,vI 0,vI 0,.slice none 0 0,.slice none 0 0,.slice none 0 0,vI 0,vI 0,vI 0,vI 0,vI 0,vI 0,vI 0,vI 0,vI 0,vI 0,vI 0,vI 0] from Has.new w1 _ _);have HSW:=hid (HS.out.alloc (.cells #[.slice none 0 0,.string ⟨#[]⟩,vI 0,vI 0,.slice none 0 0,.slice none 0 0,.slice none 0 0,.slice none 0 0,.slice none 0 0,.slice none 0 0,.slice none 0 0,.slice none 0 0,.slice none 0 0,vI 0,vI 0,vI 0,vI 0,vI 0,vI 0,vI 0,vI 0,.slice none 0 0,.slice none 0 0,.slice none 0 0,vI 0,vI 0,vI 0,vI 0,vI 0,vI 0,vI 0,vI 0,vI 0,vI 0,vI 0,vI 0] 35));have HLW:=hid (HL.out.below (Aa w1 (.cells #[.slice none 0 0,.string ⟨#[]⟩,vI 0,vI 0,.slice none 0 0,.slice none 0 0,.slice none 0 0,.slice none 0 0,.slice none 0 0,.slice none 0 0,.slice none 0 0,.slice none 0 0,.slice none 0 0,vI 0,vI 0,vI 0,vI 0,vI 0,vI 0,vI 0,vI 0,.slice none 0 0,.slice none 0 0,.slice none 0 0,vI 0,vI 0,vI 0,vI 0,vI 0,vI 0,vI 0,vI 0,vI 0,vI 0,vI 0,vI 0] 35)))
 go_wp2_with (refine PO 35 (.tmp 1) (.tmp 15) rfl rfl w1.heap.size (erS H).cells.toArray rfl rfl (by kernel_rfl) (by kernel_rfl) ?_)
 refine Named.mk fun W hW=>?_
 subst hW
 refine ⟨HNW.out.there rfl,Named.mk fun w2 hW2=>?_⟩
 have Q1:Hid (Has w2 w1.heap.size (erS H).cells):=hid (by rw [hW2];exact HNW.out.setCells_same rfl)
 have HS2:=hid (show BoxS w 0 [] w2 from by
  rw [hW2]
  refine ⟨fun i cs hi=>by simp at hi,by simp,F7 _ HSW.out.B _ _ (Nat.le_trans HS.out.sz (Bn _)),?_⟩
  rw [Hr];exact HSW.out.sz)
 have HL2:=hid (show (erS H).lies w2 from (HL.out.below (by
  rw [hW2]
  exact F7 _ (Aa w1 _) _ _ (Bn _))))
 clear hW2 HNW HSW HLW HS HL;have HS:=HS2;have HL:=HL2;clear HS2 HL2;generalize w1.heap.size=H1 at *
 go_wp2_with (refine AC (.tmp 1) rfl rfl rfl Q1.out ?_)
 have h1:=SA (erS H) 1 w2 HL.out (AgS H) (OW H) AgT
 unfold WdP at h1
 rw [(AhX H).1,(AhX H).2.1,(AhX H).2.2] at h1
 simp only [show ∀ i,okI 0 i=i from fun i=>if_pos rfl] at h1
 refine h1.mono ?_;rintro e' w3 ⟨rfl,hB⟩
 clear h1;replace HS:=hid (HS.out.below hB);replace Q1:=hid (Q1.out.below hB);replace HL:=hid (HL.out.below hB);clear hB;have HBA:=hid (Aa w3 (.cells #[vI 200,vI 300] 53));replace Q1:=hid (Q1.out.below HBA.out);replace HL:=hid (HL.out.below HBA.out);clear HBA;have Q2:Hid (Has ((w3.alloc (.cells #[vI 200,vI 300] 53))) w3.heap.size (lz2 200 300)):=hid (Has.new _ _ _);have r2:w.heap.size+0<=w3.heap.size:=HS.out.sz;replace HS:=hid ((HS.out.alloc (.cells #[vI 200,vI 300] 53)))
 go_wp2_with (refine AC (.tmp 1) rfl rfl rfl Q1.out ?_)
 generalize (w3.alloc (.cells #[vI 200,vI 300] 53))=w4 at *;generalize w3.heap.size=H2 at *;have h1:=Ha (erS H) 1 210 240 w4 HL.out (AgS H) (OW H) AgT (by unfold I64;decide) (by unfold I64;decide)
 unfold SoP at h1
 rw [(AhT H).1,(AhT H).2.2] at h1
 rw [(Aif H).1] at h1
 simp only [Gf] at h1
 refine h1.mono ?_;rintro e' w5 ⟨A4,c4,rfl,hp,-,hB⟩
 rw [show (erS H).no.length=2 from rfl] at hp ⊢
 have PA4:=hid hp;clear h1 hp;replace HS:=hid (HS.out.below hB);replace Q2:=hid (Q2.out.below hB);replace Q1:=hid (Q1.out.below hB);replace HL:=hid (HL.out.below hB);clear hB
 have HBA:=hid (Aa w5 (.cells #[.slice A4 2 c4,vI 0,vI 0,.bool false] 41));replace Q1:=hid (Q1.out.below HBA.out);replace HL:=hid (HL.out.below HBA.out);replace PA4:=hid (PA4.out.below HBA.out);clear HBA;have Q4:Hid (Has ((w5.alloc (.cells #[.slice A4 2 c4,vI 0,vI 0,.bool false] 41))) w5.heap.size [.slice A4 2 c4,vI 0,vI 0,.bool false]):=hid (Has.new _ _ _);have r4:w.heap.size+0<=w5.heap.size:=HS.out.sz
 have n2_4:H2≠w5.heap.size:=by have:=Q2.out.lt;omega
 replace HS:=hid ((HS.out.alloc (.cells #[.slice A4 2 c4,vI 0,vI 0,.bool false] 41)));replace Q2:=hid ((Q2.out.alloc (.cells #[.slice A4 2 c4,vI 0,vI 0,.bool false] 41)))
 go_wp2_with (refine AC (.tmp 1) rfl rfl rfl Q1.out ?_)
 generalize (w5.alloc (.cells #[.slice A4 2 c4,vI 0,vI 0,.bool false] 41))=w6 at *;generalize w5.heap.size=H4 at *;have h1:=Ha (erS H) 1 0 199 w6 HL.out (AgS H) (OW H) AgT (by unfold I64;decide) (by unfold I64;decide)
 unfold SoP at h1
 have hv:soV (erS H) 1 0 199=0:=if_neg (by rw [Aih H];decide)
 rw [Aih H,hv] at h1
 rw [show okN 16 (erS H).no.length=0 from if_neg (by decide)] at h1
 refine h1.mono ?_;rintro e' w7 ⟨A7,c7,rfl,-,-,hB⟩
 clear h1 hv;replace HS:=hid (HS.out.below hB);replace Q2:=hid (Q2.out.below hB);replace Q4:=hid (Q4.out.below hB);replace Q1:=hid (Q1.out.below hB);replace HL:=hid (HL.out.below hB);replace PA4:=hid (PA4.out.below hB);clear hB;have HBA:=hid (Aa w7 (.cells #[.slice A7 0 c7,vI 0,vI 0,.bool false] 41));replace Q1:=hid (Q1.out.below HBA.out);replace HL:=hid (HL.out.below HBA.out);replace PA4:=hid (PA4.out.below HBA.out);clear HBA;have Q7:Hid (Has ((w7.alloc (.cells #[.slice A7 0 c7,vI 0,vI 0,.bool false] 41))) w7.heap.size [.slice A7 0 c7,vI 0,vI 0,.bool false]):=hid (Has.new _ _ _);have r7:w.heap.size+0<=w7.heap.size:=HS.out.sz
 have n2_7:H2≠w7.heap.size:=by have:=Q2.out.lt;omega
 have n4_7:H4≠w7.heap.size:=by have:=Q4.out.lt;omega
 replace HS:=hid ((HS.out.alloc (.cells #[.slice A7 0 c7,vI 0,vI 0,.bool false] 41)));replace Q2:=hid ((Q2.out.alloc (.cells #[.slice A7 0 c7,vI 0,vI 0,.bool false] 41)));replace Q4:=hid ((Q4.out.alloc (.cells #[.slice A7 0 c7,vI 0,vI 0,.bool false] 41)))
 go_wp2_with (refine AC (.tmp 1) rfl rfl rfl Q1.out ?_)
 generalize (w7.alloc (.cells #[.slice A7 0 c7,vI 0,vI 0,.bool false] 41))=w8 at *;generalize w7.heap.size=H7 at *;have h1:=Ha (erS H) 1 400 500 w8 HL.out (AgS H) (OW H) AgT (by unfold I64;decide) (by unfold I64;decide)
 unfold SoP at h1
 rw [(AhU H).1,(AhU H).2.2] at h1
 rw [(Aif H).2] at h1
 simp only [Gf] at h1
 refine h1.mono ?_;rintro e' w9 ⟨A10,c10,rfl,hp,-,hB⟩
 rw [show (erS H).no.length=2 from rfl] at hp ⊢
 have PA10:=hid hp;clear h1 hp;replace HS:=hid (HS.out.below hB);replace Q2:=hid (Q2.out.below hB);replace Q4:=hid (Q4.out.below hB);replace Q7:=hid (Q7.out.below hB);replace Q1:=hid (Q1.out.below hB);replace HL:=hid (HL.out.below hB);replace PA4:=hid (PA4.out.below hB);clear hB;have HBA:=hid (Aa w9 (.cells #[.slice A10 2 c10,vI 0,vI 0,.bool false] 41));replace Q1:=hid (Q1.out.below HBA.out);replace HL:=hid (HL.out.below HBA.out);replace PA4:=hid (PA4.out.below HBA.out);replace PA10:=hid (PA10.out.below HBA.out);clear HBA;have Q10:Hid (Has ((w9.alloc (.cells #[.slice A10 2 c10,vI 0,vI 0,.bool false] 41))) w9.heap.size [.slice A10 2 c10,vI 0,vI 0,.bool false]):=hid (Has.new _ _ _);have r10:w.heap.size+0<=w9.heap.size:=HS.out.sz
 have n2_10:H2≠w9.heap.size:=by have:=Q2.out.lt;omega
 have n4_10:H4≠w9.heap.size:=by have:=Q4.out.lt;omega
 have n7_10:H7≠w9.heap.size:=by have:=Q7.out.lt;omega
 replace HS:=hid ((HS.out.alloc (.cells #[.slice A10 2 c10,vI 0,vI 0,.bool false] 41)));replace Q2:=hid ((Q2.out.alloc (.cells #[.slice A10 2 c10,vI 0,vI 0,.bool false] 41)));replace Q4:=hid ((Q4.out.alloc (.cells #[.slice A10 2 c10,vI 0,vI 0,.bool false] 41)));replace Q7:=hid ((Q7.out.alloc (.cells #[.slice A10 2 c10,vI 0,vI 0,.bool false] 41)))
 go_wp2_with (refine AC (.tmp 1) rfl rfl rfl Q1.out ?_)
 generalize (w9.alloc (.cells #[.slice A10 2 c10,vI 0,vI 0,.bool false] 41))=w10 at *;generalize w9.heap.size=H10 at *;have h1:=Q3 (erS H) 1 w10 HL.out (AgS H) (OW H) AgT
 unfold BdP at h1
 rw [er8,er5] at h1
 refine h1.mono ?_;rintro e' w11 ⟨rfl,hB⟩
 clear h1;replace HS:=hid (HS.out.below hB);replace Q2:=hid (Q2.out.below hB);replace Q4:=hid (Q4.out.below hB);replace Q7:=hid (Q7.out.below hB);replace Q10:=hid (Q10.out.below hB);replace Q1:=hid (Q1.out.below hB);replace HL:=hid (HL.out.below hB);replace PA4:=hid (PA4.out.below hB);replace PA10:=hid (PA10.out.below hB);clear hB;obtain ⟨b4,o4,rfl⟩:=KV PA4.out (by decide);obtain ⟨b5,o5,rfl⟩:=KV PA10.out (by decide);have p4:=(E5 PA4.out (k:=1) rfl).2;have p5:=(E5 PA10.out (k:=1) rfl).2;have a1:w11.cell? ⟨b4,o4+13+1,none⟩=some (vI 250):=p4 1 _ rfl;have a4:w11.cell? ⟨b4,o4+13+4,none⟩=some (vI 240):=p4 4 _ rfl;have d1:w11.cell? ⟨b5,o5+13+1,none⟩=some (vI 200):=p5 1 _ rfl;have d4:w11.cell? ⟨b5,o5+13+4,none⟩=some (vI 300):=p5 4 _ rfl;clear p4 p5;have c2_0:=Q2.out.cell 0 (vI 200) rfl;have c2_1:=Q2.out.cell 1 (vI 300) rfl;have c4_0:=Q4.out.cell 0 (.slice (some ⟨b4,o4,none⟩) 2 c4) rfl;have c10_0:=Q10.out.cell 0 (.slice (some ⟨b5,o5,none⟩) 2 c10) rfl
 go_wp2_with fail
 go_ret
 exact ⟨by simp,HS.out.B⟩
