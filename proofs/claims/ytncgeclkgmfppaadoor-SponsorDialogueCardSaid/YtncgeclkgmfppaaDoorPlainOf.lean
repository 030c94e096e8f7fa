/-
  The reference's look for a stranger and its comparison of lists, in plain words; what a word leaves of the list's elements.
-/
import Derived.Test.YtncgeclkgmfppaaDoorPlain
import Derived.Test.YtncgeclkgmfppaaDoorPlainRef
import Derived.Test.YtncgeclkgmfppaaDoorH8
import Derived.Test.YtncgeclkgmfppaaDoorH12
namespace Go.Proofs.YtncgeclkgmfppaaDoor.H
open Go.RowKit
set_option linter.unusedVariables false
set_option linter.unusedSimpArgs false
def ofT : Option S68 → Int × Int × Int × Int × Bool × Int × Bool
  | some h => (h.f0, h.f1, h.f2, h.f3, h.f4, h.f5, true)
  | none => (0, 0, 0, 0, false, 0, false)
theorem of_l0 (l : List S68) (s : Int) (hlen : l.length < 4611686018427387904) : ∀ (m i k : Nat), l.length - i ≤ m → m + 1 ≤ k → i ≤ l.length → slotmeshref31_Of.l0 k l s (i : Int) = some (ofT (findH (l.drop i) s)) := by
  intro m
  induction m with
  | zero =>
    intro i k hm hk hi
    obtain ⟨k, rfl⟩ : ∃ n, k = n + 1 := ⟨k - 1, by omega⟩
    have : i = l.length := by omega
    subst this
    rw [slotmeshref31_Of.l0, if_neg (by omega)]
    simp [findH, ofT]
  | succ m ih =>
    intro i k hm hk hi
    obtain ⟨k, rfl⟩ : ∃ n, k = n + 1 := ⟨k - 1, by omega⟩
    by_cases hlt : i < l.length
    · have hd : l.drop i = rd_T68 l i :: l.drop (i + 1) := by
        rw [List.drop_eq_getElem_cons hlt]
        simp [rd_T68, List.getD, hlt]
      have hw : wrap64 ((i : Int) + 1) = ((i + 1 : Nat) : Int) := by rw [IntWalk.wrap64_in _ (by omega)]; push_cast; rfl
      rw [slotmeshref31_Of.l0, if_pos (by omega), if_pos (by omega), hd]
      by_cases hs : (rd_T68 l (i : Int)).f0 = s
      · rw [if_pos hs]
        simp [findH, hs, ofT]
      · rw [if_neg hs, hw, ih (i + 1) k (by omega) (by omega) (by omega)]
        simp [findH, List.find?_cons, hs]
    · have : i = l.length := by omega
      subst this
      rw [slotmeshref31_Of.l0, if_neg (by omega)]
      simp [findH, ofT]
theorem of_f (k : Nat) (l : List S68) (s : Int) (hlen : l.length < 4611686018427387904) (hk : l.length + 1 ≤ k) : slotmeshref31_Of.f k l s = some (ofT (findH l s)) := by
  have h := of_l0 l s hlen l.length 0 k (by omega) hk (by omega)
  exact h
theorem same_l0 (l : List S68) (hlen : l.length < 4611686018427387904) : ∀ (m i k : Nat), l.length - i ≤ m → m + 1 ≤ k → i ≤ l.length → slotmeshref31_Same.l0 k l l (i : Int) = some true := by
  intro m
  induction m with
  | zero =>
    intro i k hm hk hi
    obtain ⟨k, rfl⟩ : ∃ n, k = n + 1 := ⟨k - 1, by omega⟩
    rw [slotmeshref31_Same.l0, if_neg (by omega)]
  | succ m ih =>
    intro i k hm hk hi
    obtain ⟨k, rfl⟩ : ∃ n, k = n + 1 := ⟨k - 1, by omega⟩
    by_cases hlt : i < l.length
    · have hw : wrap64 ((i : Int) + 1) = ((i + 1 : Nat) : Int) := by rw [IntWalk.wrap64_in _ (by omega)]; push_cast; rfl
      rw [slotmeshref31_Same.l0, if_pos (by omega), if_pos (by omega), if_pos (by omega), if_neg (by simp), hw, ih (i + 1) k (by omega) (by omega) (by omega)]
    · rw [slotmeshref31_Same.l0, if_neg (by omega)]
theorem same_self (k : Nat) (l : List S68) (hlen : l.length < 4611686018427387904) (hk : l.length + 1 ≤ k) : slotmeshref31_Same.f k l l = some true := by
  unfold slotmeshref31_Same.f
  rw [if_pos rfl]
  exact same_l0 l hlen l.length 0 k (by omega) hk (by omega)
theorem findH_iff {l : List S68} (hn : (l.map (·.f0)).Nodup) {s : Int} {x : S68} : findH l s = some x ↔ x ∈ l ∧ x.f0 = s := by
  constructor
  · exact findH_some
  · rintro ⟨h1, rfl⟩
    exact findH_self hn h1
theorem findH_none_iff {l : List S68} {s : Int} : findH l s = none ↔ ∀ h ∈ l, h.f0 ≠ s := by
  constructor
  · exact findH_none
  · intro h
    cases hf : findH l s with
    | none => rfl
    | some x => exact absurd (findH_some hf).2 (h x (findH_some hf).1)
/-- What a word that is taken does: the list as it was, for a question that was there; or one element more or another one, for its stranger. -/
theorem hear_does {l : List S68} {a1 x0 x1 x2 x3 x4 x5 x6 x7 fr : Int} {r : List S68} (h : sponsor_Hear.f l a1 x0 x1 x2 x3 x4 x5 x6 x7 fr = some (r, 0)) :
    valid68 l = true ∧ valid68 r = true ∧ ((x0 = 1 ∧ r = l ∧ ∃ g ∈ l, g.f0 = x1 ∧ g.f1 = x3) ∨
      (x0 = 1 ∧ (∀ g ∈ l, g.f0 = x1 → g.f1 < x3) ∧ ∀ x, x ∈ r ↔ (x = fresh68 x1 x2 x3 fr ∨ (x ∈ l ∧ x.f0 ≠ x1))) ∨
      (x0 = 3 ∧ ∃ g ∈ l, g.f0 = x1 ∧ g.f1 = x3 ∧ g.f2 = x4 ∧ ∀ x, x ∈ r ↔ (x = { g with f4 := true, f5 := x5 } ∨ (x ∈ l ∧ x.f0 ≠ x1)))) := by
  obtain ⟨hf, ht⟩ := hear_taken h
  obtain ⟨hv, hw, hm, h5, h3⟩ := fit_parts hf
  have hfr := range_parts h3
  have hk := range_parts h5
  obtain ⟨hw1, hw2, hw3⟩ := word_parts hw
  refine ⟨hv, (hear_kept h).2.1, ?_⟩
  rcases ht with ⟨h0, hc, rfl⟩ | ⟨h0, hc, rfl⟩
  · rcases asked_spec hv hw1 hw3 hfr hc with ⟨he, hg⟩ | ⟨he, hl, hg⟩
    · exact .inl ⟨h0, he, hg⟩
    · obtain ⟨a, b⟩ := upd_valid hv (half_fresh (x2 := x2) hw1 hw3 hfr) hl
      rw [he]
      exact .inr (.inl ⟨h0, hg, b⟩)
  · obtain ⟨g, hg, e0, e1, e2, he⟩ := proved_spec hc
    have hl : (upd l { g with f4 := true, f5 := x5 }).length ≤ 4 := Nat.le_trans (upd_len_found hg rfl) (valid_short hv)
    obtain ⟨a, b⟩ := upd_valid hv (half_shut (((valid_iff l).1 hv).1 g hg) hk) hl
    rw [he]
    subst e0
    exact .inr (.inr ⟨h0, g, hg, rfl, e1, e2, b⟩)
theorem hear_len {l : List S68} {a1 x0 x1 x2 x3 x4 x5 x6 x7 fr : Int} {r : List S68} (h : sponsor_Hear.f l a1 x0 x1 x2 x3 x4 x5 x6 x7 fr = some (r, 0)) : r.length ≤ l.length + 1 := by
  obtain ⟨hf, ht⟩ := hear_taken h
  obtain ⟨hv, hw, _⟩ := fit_parts hf
  obtain ⟨hw1, hw2, hw3⟩ := word_parts hw
  rcases ht with ⟨h0, hc, rfl⟩ | ⟨h0, hc, rfl⟩
  · rw [sortH_length]; exact (asked_wf x2 x3 fr (valid_all hv) hw1).1
  · rw [sortH_length]; exact (proved_wf x3 x4 x5 (valid_all hv)).1
/-- SponsorOthers, in plain words. -/
theorem hear_others {l : List S68} {a1 x0 x1 x2 x3 x4 x5 x6 x7 fr : Int} {r : List S68} (h : sponsor_Hear.f l a1 x0 x1 x2 x3 x4 x5 x6 x7 fr = some (r, 0)) {s : Int} (hs : s ≠ x1) : findH r s = findH l s := by
  obtain ⟨hv, hvr, hd⟩ := hear_does h
  have hn := valid_nodup hv
  have hnr := valid_nodup hvr
  have key : (∀ x : S68, x.f0 ≠ x1 → (x ∈ r ↔ x ∈ l)) := by
    intro x hx
    rcases hd with ⟨_, rfl, _⟩ | ⟨_, _, hm⟩ | ⟨_, g, hg, e0, _, _, hm⟩
    · exact Iff.rfl
    · rw [hm]
      constructor
      · rintro (rfl | h)
        · exact absurd rfl hx
        · exact h.1
      · intro h; exact .inr ⟨h, hx⟩
    · rw [hm]
      constructor
      · rintro (rfl | h)
        · exact absurd e0 hx
        · exact h.1
      · intro h; exact .inr ⟨h, hx⟩
  cases hf : findH l s with
  | some x =>
    obtain ⟨h1, h2⟩ := findH_some hf
    exact (findH_iff hnr).2 ⟨(key x (by omega)).2 h1, h2⟩
  | none =>
    refine findH_none_iff.2 fun x hx he => ?_
    exact findH_none hf x ((key x (by omega)).1 hx) he
/-- A word that is heard again: nothing changes. -/
theorem hear_again {l : List S68} {a1 x0 x1 x2 x3 x4 x5 x6 x7 fr fr' : Int} {r : List S68} (h : sponsor_Hear.f l a1 x0 x1 x2 x3 x4 x5 x6 x7 fr = some (r, 0)) (h1 : fr ≤ fr') (h2 : fr' ≤ 999999988) : sponsor_Hear.f r a1 x0 x1 x2 x3 x4 x5 x6 x7 fr' = some (r, 0) := by
  obtain ⟨hv, hvr, hd⟩ := hear_does h
  obtain ⟨hf, _⟩ := hear_taken h
  obtain ⟨_, hw, hm, h5, h3⟩ := fit_parts hf
  have hfr := range_parts h3
  have hnr := valid_nodup hvr
  have hp := ((valid_iff r).1 hvr).2.1
  have hfit : fit68 r a1 x0 x1 x2 x3 x4 x5 fr' = true := by
    unfold fit68
    rw [hvr, hw, h5, decide_eq_true hm, decide_eq_true (show 0 ≤ fr' by omega), decide_eq_true h2]; rfl
  have hlen := valid_short hvr
  unfold sponsor_Hear.f
  rw [if_pos hfit]
  have ask : ∀ g : S68, g ∈ r → g.f0 = x1 → g.f1 = x3 → askedF r x1 x2 x3 fr' = (r, 0) := by
    intro g hg e0 e1
    unfold askedF
    rw [(findH_iff hnr).2 ⟨hg, e0⟩]
    dsimp only
    rw [if_neg (by omega), if_pos e1]
  rcases hd with ⟨h0, rfl, g, hg, e0, e1⟩ | ⟨h0, _, hmem⟩ | ⟨h0, g, hg, e0, e1, e2, hmem⟩
  · rw [if_pos h0, ask g hg e0 e1, ans68, if_pos rfl, sortH_id hp hnr]
  · rw [if_pos h0, ask _ ((hmem _).2 (.inl rfl)) rfl rfl, ans68, if_pos rfl, sortH_id hp hnr]
  · have hin := (hmem _).2 (.inl rfl)
    rw [if_neg (by omega), if_pos h0]
    have e : provedF r x1 x3 x4 x5 = (upd r { g with f4 := true, f5 := x5 }, 0) := by
      unfold provedF
      rw [(findH_iff hnr).2 ⟨hin, e0⟩]
      dsimp only
      rw [if_pos e1, if_pos e2]
    rw [e, ans68, if_pos rfl]
    congr 2
    exact rises_unique (sortH_rises (upd_nodup hnr _)) hp (fun x => by
      rw [mem_sortH (upd_nodup hnr _), mem_upd]
      constructor
      · rintro (rfl | h)
        · exact hin
        · exact h.1
      · intro hx
        by_cases e : x.f0 = g.f0
        · exact .inl (nodup_inj hnr hx hin e)
        · exact .inr ⟨hx, e⟩)
/-- A question with a lesser nonce: not a word, or refused. -/
theorem hear_lesser {l : List S68} {a1 x0 x1 x2 x3 x4 x5 x6 x7 fr fr' : Int} {r : List S68} (h : sponsor_Hear.f l a1 x0 x1 x2 x3 x4 x5 x6 x7 fr = some (r, 0)) (h1 : fr ≤ fr') (h2 : fr' ≤ 999999988) :
    (x3 - 1 < 0 ∧ sponsor_Hear.f r a1 1 x1 x2 (x3 - 1) x4 x5 x6 x7 fr' = some ([], 1)) ∨ sponsor_Hear.f r a1 1 x1 x2 (x3 - 1) x4 x5 x6 x7 fr' = some ([], 14) := by
  obtain ⟨hv, hvr, hd⟩ := hear_does h
  obtain ⟨hf, _⟩ := hear_taken h
  obtain ⟨_, hw, hm, h5, h3⟩ := fit_parts hf
  have hfr := range_parts h3
  have hnr := valid_nodup hvr
  have hlen := valid_short hvr
  have hw' := hw
  unfold word68 at hw'
  rw [decide_eq_true_eq] at hw'
  by_cases hneg : x3 - 1 < 0
  · left
    refine ⟨hneg, ?_⟩
    have hno : fit68 r a1 1 x1 x2 (x3 - 1) x4 x5 fr' = false := by
      unfold fit68 word68
      rw [decide_eq_false (show ¬ (0 ≤ x1 ∧ x1 < 60 ∧ 0 ≤ x2 ∧ x2 < 60 ∧ x1 ≠ x2 ∧ 0 ≤ x3 - 1 ∧ 0 ≤ x4 ∧ x3 - 1 ≤ 1000000000 ∧ x4 ≤ 1000000000 ∧ (1 : Int) ≤ 1 ∧ (1 : Int) ≤ 4) by omega)]
      simp
    unfold sponsor_Hear.f
    rw [if_neg (by rw [hno]; simp), if_pos (by omega)]
  · right
    have hfit : fit68 r a1 1 x1 x2 (x3 - 1) x4 x5 fr' = true := by
      unfold fit68 word68
      rw [hvr, h5, decide_eq_true hm, decide_eq_true (show 0 ≤ fr' by omega), decide_eq_true h2, decide_eq_true (show (0 ≤ x1 ∧ x1 < 60 ∧ 0 ≤ x2 ∧ x2 < 60 ∧ x1 ≠ x2 ∧ 0 ≤ x3 - 1 ∧ 0 ≤ x4 ∧ x3 - 1 ≤ 1000000000 ∧ x4 ≤ 1000000000 ∧ (1 : Int) ≤ 1 ∧ (1 : Int) ≤ 4) by omega)]
      rfl
    unfold sponsor_Hear.f
    rw [if_pos hfit, if_pos rfl]
    have ask : ∀ g : S68, g ∈ r → g.f0 = x1 → g.f1 = x3 → askedF r x1 x2 (x3 - 1) fr' = (r, 14) := by
      intro g hg e0 e1
      unfold askedF
      rw [(findH_iff hnr).2 ⟨hg, e0⟩]
      dsimp only
      rw [if_pos (by omega)]
    have hx : ∃ g ∈ r, g.f0 = x1 ∧ g.f1 = x3 := by
      rcases hd with ⟨h0, rfl, g, hg, e0, e1⟩ | ⟨h0, _, hmem⟩ | ⟨h0, g, hg, e0, e1, e2, hmem⟩
      · exact ⟨g, hg, e0, e1⟩
      · exact ⟨_, (hmem _).2 (.inl rfl), rfl, rfl⟩
      · exact ⟨_, (hmem _).2 (.inl rfl), e0, e1⟩
    obtain ⟨g, hg, e0, e1⟩ := hx
    rw [ask g hg e0 e1, ans68, if_neg (by simp)]
end Go.Proofs.YtncgeclkgmfppaaDoor.H
