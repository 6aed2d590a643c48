
/- Layer 59, plain laws: a flight that keeps to a prediction is at its nodes at their ticks. -/
import Derived.Test.YtgneijdjlahgbaaGreatSimRa
import Derived.Test.YtgneijdjlahgbaaGreatM29
import Derived.Test.YtgneijdjlahgbaaGreatM14
import Derived.Test.YtgneijdjlahgbaaGreatM16
namespace Go.Proofs.YtgneijdjlahgbaaGreat
set_option linter.unusedSimpArgs false
set_option linter.unusedVariables false
open Go.RowKit
section
variable {s:Stp}
def sumD (s:Stp):Nat→Int
  | 0=>0
  | k+1=>sumD s k+(nodA s (k+1)).di
noncomputable def pK (s:Stp) (k:Nat):Pass:=psP s (altL s) (pnL s) k
structure SnS (s:Stp) (k:Nat):Prop where
  t:(pK s (k+1)).tick=(pK s k).tick+tck (nodA s (k+1)).di (pK s (k+1)).ground
  g:1≤(pK s (k+1)).ground∧(pK s (k+1)).ground≤4800
  d:0≤(nodA s (k+1)).di∧(nodA s (k+1)).di≤8000000
theorem sn_step (N:StN s) (R:RnG s) {k:Nat} (hk:k+1<s.no.length):SnS s k:=by
  have x:=nx_good (psE_nx (R.at hk))
  have gs:gsE (lgV s (altL s) (pnL s) k).co (lgV s (altL s) (pnL s) k).ta (lgV s (altL s) (pnL s) k).we (lgV s (altL s) (pnL s) k).wn=0:=x.gs
  have h:=gs_good gs
  have hlo:=h.hlo
  have hv:=h.hv
  have hb:=gsV_bd (lgV s (altL s) (pnL s) k).co (lgV s (altL s) (pnL s) k).ta (lgV s (altL s) (pnL s) k).we (lgV s (altL s) (pnL s) k).wn
  have e:(pK s (k+1)).ground=gsV (lgV s (altL s) (pnL s) k).co (lgV s (altL s) (pnL s) k).ta (lgV s (altL s) (pnL s) k).we (lgV s (altL s) (pnL s) k).wn / 1024:=rfl
  exact ⟨rfl,by rw [e];omega,(nod_good R.G N hk).di⟩
theorem SnS.le {k:Nat} (h:SnS s k):(pK s k).tick≤(pK s (k+1)).tick∧(pK s (k+1)).tick≤(pK s k).tick+8000000∧(nodA s (k+1)).di≤(pK s (k+1)).ground * ((pK s (k+1)).tick - (pK s k).tick):=by
  have h1:0≤tck (nodA s (k+1)).di (pK s (k+1)).ground∧tck (nodA s (k+1)).di (pK s (k+1)).ground≤(nodA s (k+1)).di:=ceil_nn (d:=(nodA s (k+1)).di) (g:=(pK s (k+1)).ground) h.d.1 h.g.1
  have h2:=h.t
  have h3:=h.d
  have h4:(nodA s (k+1)).di≤(pK s (k+1)).ground * tck (nodA s (k+1)).di (pK s (k+1)).ground:=by
    unfold tck
    have hg:=h.g.1
    generalize (pK s (k+1)).ground=g at *
    generalize (nodA s (k+1)).di=d at *
    have a:=Int.emod_add_mul_ediv (d+g - 1) g
    have b:=Int.emod_lt_of_pos (d+g - 1) (show 0<g by omega)
    omega
  refine ⟨by omega,by omega,?_⟩
  rw [show (pK s (k+1)).tick - (pK s k).tick=tck (nodA s (k+1)).di (pK s (k+1)).ground by omega]
  exact h4
theorem tick_bd (N:StN s) (R:RnG s):∀ k,k<s.no.length→0≤(pK s k).tick∧(pK s k).tick≤8000000 * (k:Int)∧0≤sumD s k∧sumD s k≤8000000 * (k:Int)
  | 0,hk=>⟨Int.le_refl 0,Int.le_refl 0,Int.le_refl 0,Int.le_refl 0⟩
  | k+1,hk=>by
    have h:=sn_step N R hk
    have h1:=tick_bd N R k (by omega)
    have h2:=h.le
    have h3:=h.d
    have e:sumD s (k+1)=sumD s k+(nodA s (k+1)).di:=rfl
    omega
theorem tick_mono (N:StN s) (R:RnG s) {i:Nat}:∀ {j:Nat},i≤j→j<s.no.length→(pK s i).tick≤(pK s j).tick∧sumD s i≤sumD s j
  | 0, h, hj => by obtain rfl:i=0:=by omega
                   exact ⟨Int.le_refl _,Int.le_refl _⟩
  | j + 1,h,hj=>by
    by_cases e:i=j+1
    · subst e;exact ⟨Int.le_refl _,Int.le_refl _⟩
    · have h1:=tick_mono N R (i:=i) (j:=j) (by omega) (by omega)
      have h2:=sn_step N R hj
      have h3:=h2.le
      have h4:=h2.d
      have e:sumD s (j+1)=sumD s j+(nodA s (j+1)).di:=rfl
      omega
theorem wt_pK {k:Nat} (hk:k<s.no.length):(wtL s (altL s) (pnL s))[k]? = some (pK s k):=wtL_get hk
theorem ra_skip (N:StN s) (R:RnG s) {t:Int}:∀ j,j+1≤s.no.length→(∀ i,1≤i→i≤j→(pK s i).tick<t)→raL (wtL s (altL s) (pnL s)) (dstL s) t (s.no.length - 1) 0 0=raL (wtL s (altL s) (pnL s)) (dstL s) t (s.no.length - 1 - j) j (sumD s j)
  | 0,_,_=>rfl
  | j+1,hj,hlt=>by
    rw [ra_skip N R j (by omega) (fun i h1 h2=>hlt i h1 (by omega))]
    have hb:=tick_bd N R (j+1) (by omega)
    have h64:=no_len R.G N
    rw [show s.no.length - 1 - j=s.no.length - 1 - (j+1)+1 by omega,raL_on (wt_pK (by omega)) (wt_pK (by omega)) (dstL_get R.G N (by omega)) (by have:=hlt (j+1) (by omega) (by omega);omega)]
    rw [satV_mid (show I64 (sumD s j+(nodA s (j+1)).di) from by have e:sumD s (j+1)=sumD s j+(nodA s (j+1)).di:=rfl;unfold I64;omega)]
    rfl
theorem ra_at (N:StN s) (R:RnG s) {t:Int} {j:Nat} (hj:j+1<s.no.length) (hlt:∀ i,1≤i→i≤j→(pK s i).tick<t) (hge:t≤(pK s (j+1)).tick) (h0:(pK s j).tick≤t):raL (wtL s (altL s) (pnL s)) (dstL s) t (s.no.length - 1) 0 0=sumD s j+min (nodA s (j+1)).di ((pK s (j+1)).ground * (t - (pK s j).tick)):=by
  rw [ra_skip N R j (by omega) hlt]
  have h:=sn_step N R hj
  have hb:=tick_bd N R j (by omega)
  have h64:=no_len R.G N
  have hd:=h.d
  have hg:=h.g
  have hle:=h.le
  have p1:=Int.mul_nonneg (show 0≤(pK s (j+1)).ground by omega) (show 0≤t - (pK s j).tick by omega)
  have p2:(pK s (j+1)).ground * (t - (pK s j).tick)≤4800 * 8000000:=Int.mul_le_mul hg.2 (by omega) (by omega) (by omega)
  rw [show s.no.length - 1 - j=s.no.length - 1 - (j+1)+1 by omega,raL_hit (wt_pK (by omega)) (wt_pK (by omega)) (dstL_get R.G N (by omega)) hge]
  rw [satV_mid (show I64 (t - (pK s j).tick) from by unfold I64;omega),satV_mid (show I64 ((pK s (j+1)).ground * (t - (pK s j).tick)) from by unfold I64;omega),satV_mid (by unfold I64;omega)]
theorem fst_at (N:StN s) (R:RnG s):∀ i,i<s.no.length→0<(pK s i).tick→∃ j,j+1≤i∧(pK s (j+1)).tick=(pK s i).tick∧(pK s j).tick<(pK s i).tick∧∀ k,k≤j→(pK s k).tick<(pK s i).tick
  | 0,_,h=>absurd h (by show ¬ (0:Int)<0;decide)
  | i + 1,hi,h=>by
    have hm:=(tick_mono N R (i:=i) (j:=i+1) (by omega) hi).1
    by_cases e:(pK s i).tick=(pK s (i+1)).tick
    · obtain ⟨j,h1,h2,h3,h4⟩:=fst_at N R i (by omega) (by omega)
      exact ⟨j,by omega,by omega,by omega,fun k hk=>by have:=h4 k hk;omega⟩
    · exact ⟨i,Nat.le_refl _,rfl,by omega,fun k hk=>by have:=(tick_mono N R (i:=k) (j:=i) hk (by omega)).1;omega⟩
structure SnG (s:Stp) (i:Nat):Prop where
  e:raE (wtL s (altL s) (pnL s)) (dstL s) (pK s i).tick=0
  le:raV (wtL s (altL s) (pnL s)) (dstL s) (pK s i).tick≤sumD s i
  eq:(i=0∨(pK s (i - 1)).tick≠(pK s i).tick)→raV (wtL s (altL s) (pnL s)) (dstL s) (pK s i).tick=sumD s i
theorem sn_good (N:StN s) (R:RnG s) {i:Nat} (hi:i<s.no.length):SnG s i:=by
  have h64:=no_len R.G N
  have hd:=(dst_bd R.G N).2
  have hE:raE (wtL s (altL s) (pnL s)) (dstL s) (pK s i).tick=0:=by
    rw [raE_2 (by rw [wtL_len,hd];omega) (x:=pK s (s.no.length - 1)) (by rw [wtL_len];exact wt_pK (by omega))]
    rw [if_neg]
    have h1:=tick_bd N R i hi
    have h2:=(tick_mono N R (i:=i) (j:=s.no.length - 1) (by omega) (by omega)).1
    omega
  have hV:raV (wtL s (altL s) (pnL s)) (dstL s) (pK s i).tick=if (pK s i).tick=0 then 0 else raL (wtL s (altL s) (pnL s)) (dstL s) (pK s i).tick (s.no.length - 1) 0 0:=by
    unfold raV
    rw [if_pos hE,wtL_len]
  have hb:=tick_bd N R i hi
  by_cases h0:(pK s i).tick=0
  · rw [if_pos h0] at hV
    refine ⟨hE,by rw [hV];omega,fun h1=>?_⟩
    have h3:=(tick_mono N R (i:=i - 1) (j:=i) (by omega) hi).1
    have h4:=(tick_bd N R (i - 1) (by omega)).1
    rcases h1 with rfl | h2
    · rw [hV];rfl
    · omega
  · rw [if_neg h0] at hV
    obtain ⟨j,h1,h2,h3,h4⟩:=fst_at N R i hi (by omega)
    rw [ra_at N R (j:=j) (by omega) (fun k _ hk=>h4 k hk) (by omega) (by omega)] at hV
    have hs:=(tick_mono N R (i:=j+1) (j:=i) h1 hi).2
    have e:sumD s (j+1)=sumD s j+(nodA s (j+1)).di:=rfl
    refine ⟨hE,by rw [hV];omega,fun h6=>?_⟩
    replace h6:=h6.resolve_left (by omega)
    obtain rfl:i=j+1:=by
      rcases Nat.lt_or_ge (j+1) i with h7 | h7
      · have h8:=(tick_mono N R (i:=j+1) (j:=i - 1) (by omega) (by omega)).1
        have h9:=(tick_mono N R (i:=i - 1) (j:=i) (by omega) hi).1
        exact absurd (show (pK s (i - 1)).tick=(pK s i).tick by omega) h6
      · omega
    have h7:=(sn_step N R hi).le.2.2
    rw [hV];omega
end
end Go.Proofs.YtgneijdjlahgbaaGreat
