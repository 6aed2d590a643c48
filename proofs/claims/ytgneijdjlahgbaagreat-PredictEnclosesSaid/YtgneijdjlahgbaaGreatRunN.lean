
/- Layer 37: a prediction without an error, as it lies in memory. -/
import Derived.Test.YtgneijdjlahgbaaGreatM20
import Derived.Test.YtgneijdjlahgbaaGreatM14
import Derived.RegionTactic
namespace Go.Proofs.YtgneijdjlahgbaaGreat
set_option linter.unusedSimpArgs false
set_option linter.unusedVariables false
open Go.RowKit
theorem boxS0 (w:World):BoxS w 0 [] w:=⟨fun i cs hi=>by simp at hi,by simp,Below.refl _ _,by simp⟩
theorem run_n {s:Stp} {w:World} (hl:s.lies w) (hok:s.ok) (h:runE s=0):Calls Tryz.prog 16 #[.agg s.cells.toArray] w fun e w'=>∃ b off c,e=.returned (.tuple #[.agg #[.slice (some ⟨b,off,none⟩) s.sno.n c,.int .i64 0,.int .i64 0,.bool false],.int .i64 0])∧(∀ W,Below w'.heap.size w' W→∀ k,k<s.no.length→∀ j u,(psP s (altL s) (pnL s) k).cells[j]? = some u→W.cell? ⟨b,off+k * 13+j,none⟩=some u)∧Below w.heap.size w w':=by
 have N:=StN.of hl
 obtain ⟨R,hL⟩:=run_good N h
 refine (run_ok hl hok h hL (wtL_len _ _ _).symm).mono ?_
 rintro e w' ⟨A,c,rfl,hP,-,hB⟩
 rw [wtL_len,N.no] at *
 have hn:=no_len R.G N
 obtain ⟨b,off,rfl,hb,hc⟩:=hP.cells (by have:=N.no;omega)
 exact ⟨b,off,c,rfl,fun W hW k hk j u hj=>(hW.cell (p:=⟨b,off+k * 13+j,none⟩) hb).trans (hc k _ (wtL_get (by have:=N.no;omega)) j u hj),hB⟩
end Go.Proofs.YtgneijdjlahgbaaGreat
