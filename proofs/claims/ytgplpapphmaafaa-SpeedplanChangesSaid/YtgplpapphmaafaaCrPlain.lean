/- Layer 34: what the greatest values below wishes, and the profile at a cruise level, answer (plain; no walk). -/
import Derived.Test.YtgplpapphmaafaaCr
import Derived.Test.YtgplpapphmaafaaMt
namespace Go.Proofs.Ytgplpapphmaafaa
set_option linter.unusedSimpArgs false
set_option linter.unusedVariables false

theorem low_lo {ws : Cs.Wins} {wish : List Int} {i : Nat} (h : i < ws.length) : Cs.lo (Cs.lowL ws wish) i = Cs.lo ws i ∧ Cs.hi (Cs.lowL ws wish) i = min (Cs.hi ws i) (wish.getD i 0) := by
  have e : (Cs.lowL ws wish)[i]? = some (Cs.lowF ws wish ws.length i) := by
    unfold Cs.lowL
    rw [List.getElem?_map, List.getElem?_range h]; rfl
  have := Cs.lo_of e
  unfold Cs.lowF at this
  rw [if_pos h] at this
  exact this
theorem low_ok {ws st : Cs.Wins} {wish : List Int} (hok : Cs.CsOk ws st) (hl : wish.length = ws.length) (hin : ∀ x ∈ wish, Pf.inB x) : Cs.CsOk (Cs.lowL ws wish) st := by
  refine ⟨by rw [Cs.lowL_len]; exact hok.len, by rw [Cs.lowL_len]; exact hok.slen, fun p hp => ?_, hok.tok⟩
  unfold Cs.lowL at hp
  simp only [List.mem_map, List.mem_range] at hp
  obtain ⟨i, hi, rfl⟩ := hp
  have h1 := hok.win hi
  obtain ⟨x, hx⟩ : ∃ x, wish[i]? = some x := ⟨_, List.getElem?_eq_getElem (by omega)⟩
  have h2 := hin x (List.mem_of_getElem? hx)
  unfold Cs.lowF
  rw [if_pos hi, List.getD_eq_getElem?_getD, hx]
  unfold Pf.inB at h1 h2
  unfold Cs.okW Pf.inB
  simp only [Option.getD_some]
  omega
theorem low_sol {ws st : Cs.Wins} {wish : List Int} {v : Nat → Int} : Cs.Sol (Cs.lowL ws wish) st v ↔ Cs.Sol ws st v ∧ ∀ i, i < ws.length → v i ≤ wish.getD i 0 := by
  constructor
  · intro h
    refine ⟨⟨fun i hi => ?_, fun i hi => h.stp i (by rw [Cs.lowL_len]; exact hi)⟩, fun i hi => ?_⟩
    · have := h.win i (by rw [Cs.lowL_len]; exact hi)
      rw [(low_lo hi).1, (low_lo hi).2] at this
      omega
    · have := h.win i (by rw [Cs.lowL_len]; exact hi)
      rw [(low_lo hi).1, (low_lo hi).2] at this
      omega
  · rintro ⟨h, h2⟩
    refine ⟨fun i hi => ?_, fun i hi => h.stp i (by rw [Cs.lowL_len] at hi; exact hi)⟩
    rw [Cs.lowL_len] at hi
    rw [(low_lo hi).1, (low_lo hi).2]
    have := h.win i hi
    have := h2 i hi
    omega
/-- what an absent error of Below says -/
theorem bel_0 {ws st : Cs.Wins} {wish : List Int} (h : Cs.belE ws st wish = 0) : Cs.CsOk ws st ∧ wish.length = ws.length ∧ (∀ x ∈ wish, Pf.inB x) ∧ Cs.NoConf (Cs.lowL ws wish) st := by
  by_cases hc : Cs.chkE ws st = 0
  · by_cases hl : wish.length = ws.length
    · by_cases hi : ∀ x ∈ wish, Pf.inB x
      · rw [Cs.belE_ok hc hl hi] at h
        exact ⟨Cs.csOk_of hc, hl, hi, Cs.confL_nil.1 (Cs.tgE_0 h).2⟩
      · unfold Cs.belE at h
        rw [if_neg (by omega), if_neg (by omega), if_neg hi] at h
        omega
    · rw [Cs.belE_len hc hl] at h; omega
  · rw [Cs.belE_chk hc] at h; omega
/-- values that meet and stay below the wishes: then there is no error -/
theorem bel_ok {ws st : Cs.Wins} {wish : List Int} {v : Nat → Int} (hok : Cs.CsOk ws st) (hl : wish.length = ws.length) (hin : ∀ x ∈ wish, Pf.inB x) (hv : Cs.Sol ws st v) (h : ∀ i, i < ws.length → v i ≤ wish.getD i 0) : Cs.belE ws st wish = 0 := by
  rw [Cs.belE_ok hok.err hl hin, Cs.tgE_ok (low_ok hok hl hin).err]
  exact Cs.confL_nil.2 (low_sol.2 ⟨hv, h⟩).noConf
theorem getD_map_tight {ws st : Cs.Wins} {i : Nat} (f : Int × Int → Int) (h : i < ws.length) : ((Cs.tight ws st).map f).getD i 0 = f (Cs.tL ws st i, Cs.tH ws st i) := by
  rw [List.getD_eq_getElem?_getD, List.getElem?_map, Cs.tight_get h]; rfl
theorem getD_rep {n i : Nat} {x : Int} (h : i < n) : (List.replicate n x).getD i 0 = x := by
  rw [List.getD_eq_getElem?_getD, List.getElem?_replicate, if_pos h]; rfl
/-- the greatest values below wishes: they meet, they are below, and none that does is greater -/
theorem bel_best {ws st : Cs.Wins} {wish : List Int} (h : Cs.belE ws st wish = 0) :
    Cs.Sol ws st (fun i => ((Cs.tight (Cs.lowL ws wish) st).map fun p => p.2).getD i 0) ∧ (∀ i, i < ws.length → ((Cs.tight (Cs.lowL ws wish) st).map fun p => p.2).getD i 0 ≤ wish.getD i 0) ∧
    ∀ v : Nat → Int, Cs.Sol ws st v → (∀ i, i < ws.length → v i ≤ wish.getD i 0) → ∀ i, i < ws.length → v i ≤ ((Cs.tight (Cs.lowL ws wish) st).map fun p => p.2).getD i 0 := by
  obtain ⟨hok, hl, hin, hnc⟩ := bel_0 h
  have hs := low_sol.1 (Cs.sol_tH (low_ok hok hl hin) hnc)
  have e : ∀ i, i < ws.length → ((Cs.tight (Cs.lowL ws wish) st).map fun p => p.2).getD i 0 = Cs.tH (Cs.lowL ws wish) st i := fun i hi => getD_map_tight _ (by rw [Cs.lowL_len]; exact hi)
  refine ⟨⟨fun i hi => by rw [e i hi]; exact hs.1.win i hi, fun i hi => by rw [e i (by omega), e (i + 1) hi]; exact hs.1.stp i hi⟩, fun i hi => by rw [e i hi]; exact hs.2 i hi, fun v hv hb i hi => ?_⟩
  rw [e i hi]
  exact ((low_sol.2 ⟨hv, hb⟩).between (by rw [Cs.lowL_len]; exact hi)).2
theorem crV_best {ws st : Cs.Wins} {lv : Int} (h : crE ws st lv = 0) :
    Meet ws st (crV ws st lv) ∧ (∀ i, i < ws.length → (crV ws st lv).getD i 0 ≤ lv) ∧ ∀ v : List Int, Meet ws st v → (∀ x ∈ v, x ≤ lv) → ∀ i, i < ws.length → v.getD i 0 ≤ (crV ws st lv).getD i 0 := by
  obtain ⟨h1, h2, h3⟩ := bel_best h
  obtain ⟨hok, hl, hin, hnc⟩ := bel_0 h
  refine ⟨⟨hok.err, by unfold crV; rw [List.length_map, Cs.tight_len, Cs.lowL_len], h1⟩, fun i hi => ?_, fun v hv hb i hi => ?_⟩
  · have := h2 i hi
    rw [getD_rep hi] at this
    exact this
  · refine h3 (fun i => v.getD i 0) hv.2.2 (fun j hj => ?_) i hi
    rw [getD_rep hj]
    obtain ⟨x, hx⟩ := get_ex (k := j) hv.2.1 hj
    rw [getD_of hx]
    exact hb x (List.mem_of_getElem? hx)
/-- an error of Cruise: no values meet the chain below the level, or the chain is empty, or the level is out of range -/
theorem cr_err {ws st : Cs.Wins} {lv : Int} {v : List Int} (hv : Meet ws st v) (hb : ∀ x ∈ v, x ≤ lv) (hl : Pf.inB lv) : crE ws st lv = 0 := by
  refine bel_ok (v := fun i => v.getD i 0) (Cs.csOk_of hv.1) (by simp) (fun x hx => by rw [(List.mem_replicate.1 hx).2]; exact hl) hv.2.2 (fun i hi => ?_)
  rw [getD_rep hi]
  obtain ⟨x, hx⟩ := get_ex (k := i) hv.2.1 hi
  rw [getD_of hx]
  exact hb x (List.mem_of_getElem? hx)
/-- first and last place of a value -/
theorem scn_spec {l : List Int} {v : Int} : ∀ k : Nat, (-1 ≤ (scn l v k).1 ∧ (scn l v k).1 < k ∧ -1 ≤ (scn l v k).2 ∧ (scn l v k).2 < k) ∧ ((scn l v k).1 = -1 → ∀ i, i < k → l.getD i 0 ≠ v) ∧ ∀ i : Nat, i < k → l.getD i 0 = v → 0 ≤ (scn l v k).1 ∧ (scn l v k).1 ≤ i ∧ (i : Int) ≤ (scn l v k).2
  | 0 => ⟨by simp [scn], fun _ i hi => by omega, fun i hi => by omega⟩
  | k + 1 => by
    obtain ⟨h1, h2, h3⟩ := @scn_spec l v k
    by_cases h : l.getD k 0 = v
    · have e : scn l v (k + 1) = (if (scn l v k).1 < 0 then (k : Int) else (scn l v k).1, (k : Int)) := by
        show (if l.getD k 0 = v then _ else _) = _
        rw [if_pos h]
      rw [e]
      by_cases hf : (scn l v k).1 < 0
      · rw [if_pos hf]
        refine ⟨⟨by simp only; omega, by simp only; omega, by simp only; omega, by simp only; omega⟩, fun hh => by simp only at hh; omega, fun i hi hv => ?_⟩
        rcases Nat.lt_or_ge i k with hl | hl
        · exact absurd hv (h2 (by omega) i hl)
        · simp only; omega
      · rw [if_neg hf]
        refine ⟨⟨by simp only; omega, by simp only; omega, by simp only; omega, by simp only; omega⟩, fun hh => by simp only at hh; omega, fun i hi hv => ?_⟩
        rcases Nat.lt_or_ge i k with hl | hl
        · have := h3 i hl hv
          simp only; omega
        · simp only; omega
    · have e : scn l v (k + 1) = scn l v k := by
        show (if l.getD k 0 = v then _ else _) = _
        rw [if_neg h]
      rw [e]
      refine ⟨by omega, fun hh i hi => ?_, fun i hi hv => ?_⟩
      · rcases Nat.lt_or_ge i k with hl | hl
        · exact h2 hh i hl
        · obtain rfl : i = k := by omega
          exact h
      · rcases Nat.lt_or_ge i k with hl | hl
        · exact h3 i hl hv
        · obtain rfl : i = k := by omega
          exact absurd hv h
/-- of values that meet below the level: one at the level is at the profile's level, between its first and its last place -/
theorem cr_at {ws st : Cs.Wins} {lv : Int} {v : List Int} (h : crE ws st lv = 0) (hv : Meet ws st v) (hb : ∀ x ∈ v, x ≤ lv) {i : Nat} (hi : i < ws.length) (hx : v.getD i 0 = lv) :
    0 ≤ (scn (crV ws st lv) lv ws.length).1 ∧ (scn (crV ws st lv) lv ws.length).1 ≤ i ∧ (i : Int) ≤ (scn (crV ws st lv) lv ws.length).2 := by
  obtain ⟨_, h2, h3⟩ := crV_best h
  have a := h2 i hi
  have b := h3 v hv hb i hi
  exact (scn_spec ws.length).2.2 i hi (by omega)
end Go.Proofs.Ytgplpapphmaafaa
