/-
  What a sponsor's list is after a word, in plain words: valid again; each element was there, or is the question's, or has been proved.
-/
import Derived.Test.YtncgeclkgmfppaaDoorH7
namespace Go.Proofs.YtncgeclkgmfppaaDoor.H
open Go.RowKit
set_option linter.unusedVariables false
set_option linter.unusedSimpArgs false
theorem rising_of : ∀ (l : List S68), (∀ h ∈ l, half68 h = true) → l.Pairwise (fun x y => x.f0 < y.f0) → rising l = true
  | [], _, _ => rfl
  | [h], hh, _ => by simpa [rising] using hh h (by simp)
  | h :: g :: r, hh, hp => by
    rw [rising, Bool.and_eq_true, Bool.and_eq_true, decide_eq_true_eq]
    exact ⟨⟨hh h (by simp), (List.pairwise_cons.1 hp).1 g (by simp)⟩, rising_of (g :: r) (fun x hx => hh x (List.mem_cons_of_mem _ hx)) (List.pairwise_cons.1 hp).2⟩
theorem valid_iff (l : List S68) : valid68 l = true ↔ (∀ h ∈ l, half68 h = true) ∧ l.Pairwise (fun x y => x.f0 < y.f0) ∧ l.length ≤ 4 := by
  constructor
  · intro h
    exact ⟨(rising_pair l (valid_rising h)).1, (rising_pair l (valid_rising h)).2, valid_short h⟩
  · rintro ⟨h1, h2, h3⟩
    unfold valid68
    rw [rising_of l h1 h2]
    simpa using h3
theorem findH_self {l : List S68} (hn : (l.map (·.f0)).Nodup) {x : S68} (hx : x ∈ l) : findH l x.f0 = some x := by
  cases hf : findH l x.f0 with
  | none => exact absurd rfl (findH_none hf x hx)
  | some y => rw [nodup_inj hn (findH_some hf).1 hx (findH_some hf).2]
theorem sortH_map {l : List S68} (hn : (l.map (·.f0)).Nodup) : (sortH l).map (·.f0) = (l.map (·.f0)).mergeSort (fun x y => decide (x ≤ y)) := by
  unfold sortH
  rw [List.map_map]
  conv => rhs; rw [← List.map_id ((l.map (·.f0)).mergeSort (fun x y => decide (x ≤ y)))]
  apply List.map_congr_left
  intro s hs
  obtain ⟨x, hx, rfl⟩ := List.mem_map.1 ((List.mergeSort_perm _ _).mem_iff.1 hs)
  simp [findH_self hn hx]
theorem mem_sortH {l : List S68} (hn : (l.map (·.f0)).Nodup) (x : S68) : x ∈ sortH l ↔ x ∈ l := by
  unfold sortH
  rw [List.mem_map]
  constructor
  · rintro ⟨s, hs, rfl⟩
    obtain ⟨y, hy, rfl⟩ := List.mem_map.1 ((List.mergeSort_perm _ _).mem_iff.1 hs)
    simpa [findH_self hn hy] using hy
  · intro hx
    exact ⟨x.f0, (List.mergeSort_perm _ _).mem_iff.2 (List.mem_map.2 ⟨x, hx, rfl⟩), by simp [findH_self hn hx]⟩
theorem sortH_rises {l : List S68} (hn : (l.map (·.f0)).Nodup) : (sortH l).Pairwise (fun x y => x.f0 < y.f0) := by
  have h1 : ((sortH l).map (·.f0)).Pairwise (fun x y => decide (x ≤ y) = true) := by
    rw [sortH_map hn]
    exact List.pairwise_mergeSort (fun a b c h1 h2 => by simp at *; omega) (fun a b => by simp; omega) _
  have h2 : ((sortH l).map (·.f0)).Nodup := by
    rw [sortH_map hn]
    exact (List.mergeSort_perm _ _).nodup_iff.2 hn
  rw [List.nodup_iff_pairwise_ne] at h2
  have h3 := h1.and h2
  rw [List.pairwise_map] at h3
  exact h3.imp (fun h => by simp at h; omega)
theorem rises_unique : ∀ {l l' : List S68}, l.Pairwise (fun x y => x.f0 < y.f0) → l'.Pairwise (fun x y => x.f0 < y.f0) → (∀ x, x ∈ l ↔ x ∈ l') → l = l'
  | [], [], _, _, _ => rfl
  | [], b :: r, _, _, h => absurd ((h b).2 (by simp)) (by simp)
  | a :: r, [], _, _, h => absurd ((h a).1 (by simp)) (by simp)
  | a :: r, b :: s, h1, h2, h => by
    rw [List.pairwise_cons] at h1 h2
    have hab : a = b := by
      rcases List.mem_cons.1 ((h a).1 (by simp)) with e | ha
      · exact e
      · rcases List.mem_cons.1 ((h b).2 (by simp)) with e | hb
        · exact e.symm
        · have := h1.1 b hb; have := h2.1 a ha; omega
    subst hab
    congr 1
    refine rises_unique h1.2 h2.2 (fun x => ⟨fun hx => ?_, fun hx => ?_⟩)
    · rcases List.mem_cons.1 ((h x).1 (List.mem_cons_of_mem _ hx)) with rfl | hx'
      · exact absurd (h1.1 x hx) (by omega)
      · exact hx'
    · rcases List.mem_cons.1 ((h x).2 (List.mem_cons_of_mem _ hx)) with rfl | hx'
      · exact absurd (h2.1 x hx) (by omega)
      · exact hx'
/-- A list in order stays as it is. -/
theorem sortH_id {l : List S68} (hp : l.Pairwise (fun x y => x.f0 < y.f0)) (hn : (l.map (·.f0)).Nodup) : sortH l = l := rises_unique (sortH_rises hn) hp (mem_sortH hn)
theorem upd_nodup {l : List S68} (hn : (l.map (·.f0)).Nodup) (h : S68) : ((upd l h).map (·.f0)).Nodup := by
  unfold upd
  rw [List.map_cons, List.nodup_cons]
  refine ⟨?_, hn.sublist (List.filter_sublist.map _)⟩
  intro hm
  obtain ⟨y, hy, he⟩ := List.mem_map.1 hm
  have := (List.mem_filter.1 hy).2
  simp [he] at this
theorem mem_upd {l : List S68} {h x : S68} : x ∈ upd l h ↔ x = h ∨ (x ∈ l ∧ x.f0 ≠ h.f0) := by
  unfold upd
  rw [List.mem_cons, List.mem_filter]
  simp
theorem upd_len_found {l : List S68} {h x : S68} (hx : x ∈ l) (he : x.f0 = h.f0) : (upd l h).length ≤ l.length := by
  unfold upd
  rw [List.length_cons]
  have : (l.filter fun y => y.f0 != h.f0).length < l.length := by
    rw [List.length_filter_lt_length_iff_exists]
    exact ⟨x, hx, by simp [he]⟩
  omega
/-- An element that may stand in a list after a word. -/
theorem upd_valid {l : List S68} (hv : valid68 l = true) {h : S68} (hh : half68 h = true) (hl : (upd l h).length ≤ 4) : valid68 (sortH (upd l h)) = true ∧ ∀ x, x ∈ sortH (upd l h) ↔ (x = h ∨ (x ∈ l ∧ x.f0 ≠ h.f0)) := by
  have hn := upd_nodup (valid_nodup hv) h
  have hm : ∀ x, x ∈ sortH (upd l h) ↔ (x = h ∨ (x ∈ l ∧ x.f0 ≠ h.f0)) := fun x => (mem_sortH hn x).trans mem_upd
  refine ⟨(valid_iff _).2 ⟨fun x hx => ?_, sortH_rises hn, by rw [sortH_length]; exact hl⟩, hm⟩
  rcases (hm x).1 hx with rfl | ⟨hx', _⟩
  · exact hh
  · exact ((valid_iff l).1 hv).1 x hx'
theorem half_fresh {x1 x2 x3 fr : Int} (h1 : 0 ≤ x1 ∧ x1 < 60) (h3 : 0 ≤ x3 ∧ x3 ≤ 1000000000) (hfr : 0 ≤ fr ∧ fr ≤ 999999988) : half68 (fresh68 x1 x2 x3 fr) = true := by
  have hr : 0 ≤ halfV (seedV x1 x2 x3 fr) % 1000000000 ∧ halfV (seedV x1 x2 x3 fr) % 1000000000 < 1000000000 := by omega
  unfold half68 fresh68
  generalize halfV (seedV x1 x2 x3 fr) % 1000000000 = c at hr
  simp
  omega
theorem half_shut {h : S68} (hh : half68 h = true) {k : Int} (hk : 0 ≤ k ∧ k ≤ 2000000) : half68 { h with f4 := true, f5 := k } = true := by
  unfold half68 at hh ⊢
  simp only [Bool.and_eq_true, decide_eq_true_eq] at hh
  simp
  omega
/-- A question that is taken: the list in its order, or with the new element in it. -/
theorem asked_spec {l : List S68} {x1 x2 x3 fr : Int} (hv : valid68 l = true) (h1 : 0 ≤ x1 ∧ x1 < 60) (h3 : 0 ≤ x3 ∧ x3 ≤ 1000000000) (hfr : 0 ≤ fr ∧ fr ≤ 999999988) (hc : (askedF l x1 x2 x3 fr).2 = 0) :
    (sortH (askedF l x1 x2 x3 fr).1 = l ∧ ∃ h ∈ l, h.f0 = x1 ∧ h.f1 = x3) ∨ (sortH (askedF l x1 x2 x3 fr).1 = sortH (upd l (fresh68 x1 x2 x3 fr)) ∧ (upd l (fresh68 x1 x2 x3 fr)).length ≤ 4 ∧ ∀ h ∈ l, h.f0 = x1 → h.f1 < x3) := by
  obtain ⟨hh, hp, hl⟩ := (valid_iff l).1 hv
  have hn := valid_nodup hv
  unfold askedF at hc ⊢
  cases hf : findH l x1 with
  | none =>
    rw [hf] at hc
    dsimp only at hc ⊢
    by_cases h4 : l.length = 4
    · rw [if_pos h4] at hc; simp at hc
    · rw [if_neg h4]
      exact .inr ⟨rfl, Nat.le_trans (upd_len _ _) (by omega), fun h hm he => absurd he (findH_none hf h hm)⟩
  | some h =>
    rw [hf] at hc
    dsimp only at hc ⊢
    obtain ⟨hm, he⟩ := findH_some hf
    by_cases hlt : x3 < h.f1
    · rw [if_pos hlt] at hc; simp at hc
    · rw [if_neg hlt]
      by_cases heq : h.f1 = x3
      · rw [if_pos heq]
        exact .inl ⟨sortH_id hp hn, h, hm, he, heq⟩
      · rw [if_neg heq]
        refine .inr ⟨rfl, Nat.le_trans (upd_len_found hm he) hl, fun g hg hge => ?_⟩
        rw [nodup_inj hn hg hm (hge.trans he.symm)]
        omega
theorem proved_spec {l : List S68} {x1 x3 x4 x5 : Int} (hc : (provedF l x1 x3 x4 x5).2 = 0) :
    ∃ h ∈ l, h.f0 = x1 ∧ h.f1 = x3 ∧ h.f2 = x4 ∧ (provedF l x1 x3 x4 x5).1 = upd l { h with f4 := true, f5 := x5 } := by
  unfold provedF at hc ⊢
  cases hf : findH l x1 with
  | none => rw [hf] at hc; simp at hc
  | some h =>
    rw [hf] at hc
    dsimp only at hc ⊢
    obtain ⟨hm, he⟩ := findH_some hf
    by_cases h1 : h.f1 = x3
    · rw [if_pos h1] at hc ⊢
      by_cases h2 : h.f2 = x4
      · rw [if_pos h2]
        exact ⟨h, hm, he, h1, h2, rfl⟩
      · rw [if_neg h2] at hc; simp at hc
    · rw [if_neg h1] at hc; simp at hc
/-- A word that is taken, in full: what fits, and what the list is then. -/
theorem hear_taken {l : List S68} {a1 x0 x1 x2 x3 x4 x5 x6 x7 fr : Int} {r : List S68} (h : sponsor_Hear.f l a1 x0 x1 x2 x3 x4 x5 x6 x7 fr = some (r, 0)) :
    fit68 l a1 x0 x1 x2 x3 x4 x5 fr = true ∧ ((x0 = 1 ∧ (askedF l x1 x2 x3 fr).2 = 0 ∧ r = sortH (askedF l x1 x2 x3 fr).1) ∨ (x0 = 3 ∧ (provedF l x1 x3 x4 x5).2 = 0 ∧ r = sortH (provedF l x1 x3 x4 x5).1)) := by
  unfold sponsor_Hear.f at h
  by_cases hf : fit68 l a1 x0 x1 x2 x3 x4 x5 fr = true
  · rw [if_pos hf] at h
    refine ⟨hf, ?_⟩
    by_cases h1 : x0 = 1
    · rw [if_pos h1] at h
      by_cases hc : (askedF l x1 x2 x3 fr).2 = 0
      · rw [ans68, if_pos hc] at h
        exact .inl ⟨h1, hc, (Prod.mk.inj (Option.some.inj h)).1.symm⟩
      · rw [ans68, if_neg hc] at h
        exact absurd (Prod.mk.inj (Option.some.inj h)).2 hc
    · rw [if_neg h1] at h
      by_cases h3 : x0 = 3
      · rw [if_pos h3] at h
        by_cases hc : (provedF l x1 x3 x4 x5).2 = 0
        · rw [ans68, if_pos hc] at h
          exact .inr ⟨h3, hc, (Prod.mk.inj (Option.some.inj h)).1.symm⟩
        · rw [ans68, if_neg hc] at h
          exact absurd (Prod.mk.inj (Option.some.inj h)).2 hc
      · rw [if_neg h3] at h
        simp at h
  · rw [if_neg hf] at h
    split at h <;> simp at h
theorem hear_kept {l : List S68} {a1 x0 x1 x2 x3 x4 x5 x6 x7 fr : Int} {r : List S68} (h : sponsor_Hear.f l a1 x0 x1 x2 x3 x4 x5 x6 x7 fr = some (r, 0)) :
    valid68 l = true ∧ valid68 r = true ∧ (0 ≤ fr ∧ fr ≤ 999999988) ∧ ∀ x ∈ r, x ∈ l ∨ (x0 = 1 ∧ x = fresh68 x1 x2 x3 fr) ∨ (x0 = 3 ∧ ∃ g ∈ l, x = { g with f4 := true, f5 := x5 }) := by
  obtain ⟨hf, ht⟩ := hear_taken h
  obtain ⟨hv, hw, hm, h5, h3⟩ := fit_parts hf
  have hfr := range_parts h3
  have hk := range_parts h5
  obtain ⟨hw1, hw2, hw3⟩ := word_parts hw
  refine ⟨hv, ?_⟩
  rcases ht with ⟨h0, hc, rfl⟩ | ⟨h0, hc, rfl⟩
  · rcases asked_spec hv hw1 hw3 hfr hc with ⟨he, _⟩ | ⟨he, hl, _⟩
    · rw [he]; exact ⟨hv, hfr, fun x hx => .inl hx⟩
    · obtain ⟨a, b⟩ := upd_valid hv (half_fresh (x2 := x2) hw1 hw3 hfr) hl
      rw [he]
      exact ⟨a, hfr, fun x hx => by rcases (b x).1 hx with rfl | ⟨hx', _⟩; exact .inr (.inl ⟨h0, rfl⟩); exact .inl hx'⟩
  · obtain ⟨g, hg, e0, e1, e2, he⟩ := proved_spec hc
    have hl : (upd l { g with f4 := true, f5 := x5 }).length ≤ 4 := Nat.le_trans (upd_len_found hg rfl) (valid_short hv)
    obtain ⟨a, b⟩ := upd_valid hv (half_shut (((valid_iff l).1 hv).1 g hg) hk) hl
    rw [he]
    exact ⟨a, hfr, fun x hx => by rcases (b x).1 hx with rfl | ⟨hx', _⟩; exact .inr (.inr ⟨h0, g, hg, rfl⟩); exact .inl hx'⟩
/-- A call that fits nothing, or all: always an answer, where the list is no longer than memory holds. -/
theorem hear_total (l : List S68) (a1 x0 x1 x2 x3 x4 x5 x6 x7 fr : Int) (hl : l.length < 4611686018427387904) : ∃ p, sponsor_Hear.f l a1 x0 x1 x2 x3 x4 x5 x6 x7 fr = some p := by
  unfold sponsor_Hear.f
  rw [if_pos hl]
  repeat' split
  all_goals exact ⟨_, rfl⟩
end Go.Proofs.YtncgeclkgmfppaaDoor.H
