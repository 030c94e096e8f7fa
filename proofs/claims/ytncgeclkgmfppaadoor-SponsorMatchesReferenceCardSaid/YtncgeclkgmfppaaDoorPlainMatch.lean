/-
  The reference's functions on lists of half-open joins, in plain words: they are what the sponsor's functions are.
-/
import Derived.Test.YtncgeclkgmfppaaDoorPlainOf
import Derived.Test.YtncgeclkgmfppaaDoorPlainTold
import Derived.Test.YtncgeclkgmfppaaDoorRTold
import Derived.Test.YtncgeclkgmfppaaDoorH9
import Derived.Test.YtncgeclkgmfppaaDoorH14
import Derived.Test.YtncgeclkgmfppaaDoorH15
import Derived.Laws.Closers25b
namespace Go.Proofs.YtncgeclkgmfppaaDoor.H
open Go.RowKit
set_option linter.unusedVariables false
set_option linter.unusedSimpArgs false
set_option maxRecDepth 100000
/-- The reference's list with an element in its place, up to place n. -/
def outW (l : List S68) (h : S68) (n : Nat) : List S68 := (List.range n).flatMap fun p : Nat => if (p : Int) = h.f0 then [h] else (findH l (p : Int)).toList
theorem outW_succ (l : List S68) (h : S68) (n : Nat) : outW l h (n + 1) = outW l h n ++ (if (n : Int) = h.f0 then [h] else (findH l (n : Int)).toList) := by
  unfold outW
  rw [List.range_succ, List.flatMap_append]
  simp
theorem outW_len (l : List S68) (h : S68) (n : Nat) : (outW l h n).length ≤ n := by
  induction n with
  | zero => simp [outW]
  | succ n ih =>
    rw [outW_succ, List.length_append]
    have : (if (n : Int) = h.f0 then [h] else (findH l (n : Int)).toList).length ≤ 1 := by
      split
      · simp
      · cases findH l (n : Int) <;> simp
    omega
theorem with_l0 (l : List S68) (h : S68) (hlen : l.length ≤ 100) : ∀ (m n k : Nat), n + m = 60 → m + 102 ≤ k → slotmeshref31_With.l0 k l (outW l h n) (n : Int) h.f0 h.f1 h.f2 h.f3 h.f4 h.f5 = some (outW l h 60) := by
  intro m
  induction m with
  | zero =>
    intro n k hn hk
    obtain ⟨k, rfl⟩ : ∃ q, k = q + 1 := ⟨k - 1, by omega⟩
    rw [slotmeshref31_With.l0, if_neg (by omega)]
    have : n = 60 := by omega
    rw [this]
  | succ m ih =>
    intro n k hn hk
    obtain ⟨k, rfl⟩ : ∃ q, k = q + 1 := ⟨k - 1, by omega⟩
    have hw : wrap64 ((n : Int) + 1) = ((n + 1 : Nat) : Int) := by rw [IntWalk.wrap64_in _ (by omega)]; push_cast; rfl
    have hl := outW_len l h n
    have hs := outW_succ l h n
    have hi := ih (n + 1) k (by omega) (by omega)
    rw [slotmeshref31_With.l0, if_pos (by omega), of_f k l _ (by omega) (by omega), Option.bind_some, hw]
    by_cases e : (n : Int) = h.f0
    · rw [if_pos e, if_pos (by omega)]
      rw [if_pos e] at hs
      rw [show (⟨h.f0, h.f1, h.f2, h.f3, h.f4, h.f5⟩ : S68) = h from rfl, ← hs]
      exact hi
    · rw [if_neg e]
      rw [if_neg e] at hs
      cases hf : findH l (n : Int) with
      | none =>
        rw [hf] at hs
        simp only [ofT, Bool.false_eq_true, if_false]
        simp only [Option.toList_none, List.append_nil] at hs
        rw [← hs]
        exact hi
      | some x =>
        rw [hf] at hs
        simp only [ofT, if_true]
        rw [if_pos (by omega)]
        rw [show (⟨x.f0, x.f1, x.f2, x.f3, x.f4, x.f5⟩ : S68) = x from rfl]
        simp only [Option.toList_some] at hs
        rw [← hs]
        exact hi
theorem with_f (k : Nat) (l : List S68) (h : S68) (hlen : l.length ≤ 100) (hk : 162 ≤ k) : slotmeshref31_With.f k l h.f0 h.f1 h.f2 h.f3 h.f4 h.f5 = some (outW l h 60) := by
  have := with_l0 l h hlen 60 0 k rfl (by omega)
  exact this
theorem mem_outW (l : List S68) (h x : S68) (n : Nat) : x ∈ outW l h n ↔ ∃ p, p < n ∧ (((p : Int) = h.f0 ∧ x = h) ∨ ((p : Int) ≠ h.f0 ∧ findH l (p : Int) = some x)) := by
  unfold outW
  rw [List.mem_flatMap]
  constructor
  · rintro ⟨p, hp, hx⟩
    refine ⟨p, List.mem_range.1 hp, ?_⟩
    split at hx
    · rename_i e; exact .inl ⟨e, by simpa using hx⟩
    · rename_i e; exact .inr ⟨e, by simpa using hx⟩
  · rintro ⟨p, hp, h1⟩
    refine ⟨p, List.mem_range.2 hp, ?_⟩
    rcases h1 with ⟨e, rfl⟩ | ⟨e, hf⟩
    · rw [if_pos e]; simp
    · rw [if_neg e, hf]; simp
theorem outW_rises (l : List S68) (h : S68) (n : Nat) : (outW l h n).Pairwise (fun x y => x.f0 < y.f0) := by
  have one : ∀ p : Nat, ∀ x ∈ (if (p : Int) = h.f0 then [h] else (findH l (p : Int)).toList), x.f0 = p := by
    intro p x hx
    split at hx
    · rename_i e; simp at hx; rw [hx]; exact e.symm
    · simp at hx; exact (findH_some hx).2
  induction n with
  | zero => simp [outW]
  | succ n ih =>
    rw [outW_succ, List.pairwise_append]
    refine ⟨ih, ?_, ?_⟩
    · split
      · simp
      · cases findH l (n : Int) <;> simp
    · intro a ha b hb
      have h1 := one n b hb
      obtain ⟨p, hp, h2⟩ := (mem_outW l h a n).1 ha
      have h3 : a.f0 = p := by
        rcases h2 with ⟨e, rfl⟩ | ⟨_, hf⟩
        · exact e.symm
        · exact (findH_some hf).2
      omega
theorem outW_eq {l : List S68} (hv : valid68 l = true) {h : S68} (h0 : 0 ≤ h.f0 ∧ h.f0 < 60) : outW l h 60 = sortH (upd l h) := by
  have hn := valid_nodup hv
  have hu := upd_nodup hn h
  refine rises_unique (outW_rises l h 60) (sortH_rises hu) (fun x => ?_)
  rw [mem_outW, mem_sortH hu, mem_upd]
  constructor
  · rintro ⟨p, hp, ⟨e, rfl⟩ | ⟨e, hf⟩⟩
    · exact .inl rfl
    · obtain ⟨a, b⟩ := findH_some hf
      exact .inr ⟨a, by rw [b]; exact e⟩
  · rintro (rfl | ⟨hx, hne⟩)
    · exact ⟨x.f0.toNat, by omega, .inl ⟨by omega, rfl⟩⟩
    · have hr := valid_all hv x hx
      refine ⟨x.f0.toNat, by omega, .inr ⟨by omega, ?_⟩⟩
      rw [show ((x.f0.toNat : Nat) : Int) = x.f0 by omega]
      exact findH_self hn hx
theorem rformed_f (x0 x1 x2 x3 x4 x5 x6 x7 : Int) : slotmeshref30_Formed.f x0 x1 x2 x3 x4 x5 x6 x7 = some (word68 x0 x1 x2 x3 x4) := by
  have idf : ∀ a : Int, slotmeshref30_id.f a = some (decide (0 ≤ a ∧ a < 60)) := by
    intro a
    unfold slotmeshref30_id.f
    by_cases h : 0 ≤ a
    · rw [if_pos (by omega)]; simp [h]
    · rw [if_neg (by omega)]; simp [h]
  have no : ∀ {p : Prop}, (word68 x0 x1 x2 x3 x4 = true → p) → ¬ p → some false = some (word68 x0 x1 x2 x3 x4) := fun h hp => by
    cases e : word68 x0 x1 x2 x3 x4 with
    | false => rfl
    | true => exact absurd (h e) hp
  have ht : word68 x0 x1 x2 x3 x4 = true ↔ (0 ≤ x1 ∧ x1 < 60 ∧ 0 ≤ x2 ∧ x2 < 60 ∧ x1 ≠ x2 ∧ 0 ≤ x3 ∧ 0 ≤ x4 ∧ x3 ≤ 1000000000 ∧ x4 ≤ 1000000000 ∧ 1 ≤ x0 ∧ x0 ≤ 4) := by unfold word68; rw [decide_eq_true_eq]
  unfold slotmeshref30_Formed.f
  rw [idf, Option.bind_some]
  by_cases c1 : 0 ≤ x1 ∧ x1 < 60
  · rw [decide_eq_true c1, if_pos rfl, idf, Option.bind_some]
    by_cases c2 : 0 ≤ x2 ∧ x2 < 60
    · rw [decide_eq_true c2, if_pos rfl]
      by_cases c3 : x1 = x2
      · rw [if_pos c3]; exact no (p := x1 ≠ x2) (fun h => by have := ht.1 h; omega) (by simpa using c3)
      · rw [if_neg c3]
        by_cases c4 : x3 ≥ 0
        · rw [if_pos c4]
          by_cases c5 : x3 ≤ 1000000000
          · rw [if_pos c5]
            by_cases c6 : x4 ≥ 0
            · rw [if_pos c6]
              by_cases c7 : x4 ≤ 1000000000
              · rw [if_pos c7]
                by_cases c8 : x0 ≥ 1
                · rw [if_pos c8]
                  by_cases c9 : x0 ≤ 4
                  · rw [decide_eq_true c9, ht.2 ⟨by omega, by omega, by omega, by omega, c3, by omega, by omega, by omega, by omega, by omega, by omega⟩]
                  · rw [decide_eq_false c9]; exact no (fun h => by have := ht.1 h; omega) c9
                · rw [if_neg c8]; exact no (fun h => by have := ht.1 h; omega) c8
              · rw [if_neg c7]; exact no (fun h => by have := ht.1 h; omega) c7
            · rw [if_neg c6]; exact no (fun h => by have := ht.1 h; omega) c6
          · rw [if_neg c5]; exact no (fun h => by have := ht.1 h; omega) c5
        · rw [if_neg c4]; exact no (fun h => by have := ht.1 h; omega) c4
    · rw [decide_eq_false c2, if_neg (by simp)]; exact no (fun h => by have := ht.1 h; omega) c2
  · rw [decide_eq_false c1, if_neg (by simp)]; exact no (fun h => by have := ht.1 h; omega) c1
theorem challenge_f (x1 x2 x3 fr : Int) (q : Nat) (h1 : 0 ≤ x1 ∧ x1 < 60) (h2 : 0 ≤ x2 ∧ x2 < 60) (h3 : 0 ≤ x3 ∧ x3 ≤ 1000000000) (hfr : 0 ≤ fr ∧ fr ≤ 999999988) :
    slotmeshref31_Challenge.f (q + 1) x2 x1 x3 fr = some (fresh68 x1 x2 x3 fr).f2 := by
  have u : ∀ a : Int, 0 ≤ a → a ≤ 18446744073709551615 → IntKind.u64.wrap a = a := fun a ha hb => IntWalk.u64_in a ⟨ha, hb⟩
  have e : IntKind.u64.wrap ((IntKind.u64.wrap ((IntKind.u64.wrap ((IntKind.u64.wrap ((IntKind.u64.wrap (wrap64 ((wrap64 (64 * x2)) + x1))) * 1000003)) + (IntKind.u64.wrap (x3)))) * 1000003)) + (IntKind.u64.wrap (fr))) = seedV x1 x2 x3 fr := by
    rw [IntWalk.wrap64_in (64 * x2) (by omega), IntWalk.wrap64_in (64 * x2 + x1) (by omega), u (64 * x2 + x1) (by omega) (by omega), u ((64 * x2 + x1) * 1000003) (by omega) (by omega), u x3 (by omega) (by omega), u ((64 * x2 + x1) * 1000003 + x3) (by omega) (by omega), u (((64 * x2 + x1) * 1000003 + x3) * 1000003) (by omega) (by omega), u fr (by omega) (by omega), u _ (by omega) (by omega)]
    unfold seedV
    omega
  unfold slotmeshref31_Challenge.f
  rw [e]
  unfold slotmeshref06_Below.f
  rw [if_neg (by omega), decide_eq_false (by omega), slotmeshref06_Below.j0, if_neg (by simp)]
  have hr := halfV_range (seedV x1 x2 x3 fr)
  have hnx : slotmeshref06_Next.f (seedV x1 x2 x3 fr) = some (nextV (seedV x1 x2 x3 fr)) := by
    generalize seedV x1 x2 x3 fr = s
    unfold slotmeshref06_Next.f nextV
    rw [u (Go.bits .xor .u64 _ _) (bits_lo_u64 _ _ _) (bits_hi_u64 _ _ _)]
  have hhf : slotmeshref06_Half.f (nextV (seedV x1 x2 x3 fr)) = some (halfV (seedV x1 x2 x3 fr)) := rfl
  rw [hnx, Option.bind_some, hhf, Option.bind_some, if_neg (by omega), Option.bind_some, Int.tmod_eq_emod_of_nonneg hr.1]
  rfl
/-- The reference's Hear is the sponsor's. -/
theorem rhear_f (l : List S68) (a1 x0 x1 x2 x3 x4 x5 x6 x7 fr : Int) (hlen : l.length ≤ 20) : slotmeshref31_Hear.f 300 l a1 x0 x1 x2 x3 x4 x5 x6 x7 fr = sponsor_Hear.f l a1 x0 x1 x2 x3 x4 x5 x6 x7 fr := by
  have bad : fit68 l a1 x0 x1 x2 x3 x4 x5 fr = false → slotmeshref31_Hear.j0 300 l a1 fr true x0 x1 x2 x3 x4 x5 x6 x7 = sponsor_Hear.f l a1 x0 x1 x2 x3 x4 x5 x6 x7 fr := fun hb => by
    rw [slotmeshref31_Hear.j0, if_pos rfl, sponsor_Hear.f, if_neg (by rw [hb]; simp), if_pos (by omega)]
  have unfit : ∀ {p : Prop}, (fit68 l a1 x0 x1 x2 x3 x4 x5 fr = true → p) → ¬ p → fit68 l a1 x0 x1 x2 x3 x4 x5 fr = false := fun h hp => by
    cases e : fit68 l a1 x0 x1 x2 x3 x4 x5 fr with
    | false => rfl
    | true => exact absurd (h e) hp
  unfold slotmeshref31_Hear.f
  rw [refValid_f l 300 (by omega) (by omega), Option.bind_some, rformed_f, Option.bind_some]
  by_cases hv : valid68 l = true
  · rw [if_pos hv]
    by_cases hw : word68 x0 x1 x2 x3 x4 = true
    · rw [if_pos hw]
      by_cases hm : x2 = a1
      · rw [if_pos hm]
        by_cases c1 : x5 < 0
        · rw [if_pos c1]; exact bad (unfit (p := 0 ≤ x5) (fun h => (range_parts (fit_parts h).2.2.2.1).1) (by omega))
        · rw [if_neg c1]
          by_cases c2 : x5 > 2000000
          · rw [if_pos c2]; exact bad (unfit (p := x5 ≤ 2000000) (fun h => (range_parts (fit_parts h).2.2.2.1).2) (by omega))
          · rw [if_neg c2]
            by_cases c3 : fr < 0
            · rw [if_pos c3]; exact bad (unfit (p := 0 ≤ fr) (fun h => (range_parts (fit_parts h).2.2.2.2).1) (by omega))
            · rw [if_neg c3]
              by_cases c4 : fr > 999999988
              · rw [decide_eq_true c4]; exact bad (unfit (p := fr ≤ 999999988) (fun h => (range_parts (fit_parts h).2.2.2.2).2) (by omega))
              · rw [decide_eq_false c4]
                have hfit : fit68 l a1 x0 x1 x2 x3 x4 x5 fr = true := by
                  unfold fit68
                  rw [hv, hw, decide_eq_true hm, decide_eq_true (show 0 ≤ x5 by omega), decide_eq_true (show x5 ≤ 2000000 by omega), decide_eq_true (show 0 ≤ fr by omega), decide_eq_true (show fr ≤ 999999988 by omega)]; rfl
                obtain ⟨h1, h2, h3⟩ := word_parts hw
                have h4 := valid_short hv
                have hn := valid_nodup hv
                have hp := ((valid_iff l).1 hv).2.1
                rw [slotmeshref31_Hear.j0, if_neg (by simp), of_f 299 l x1 (by omega) (by omega), Option.bind_some, sponsor_Hear.f, if_pos hfit]
                by_cases e1 : x0 = 1
                · rw [if_pos e1, if_pos e1]
                  cases hf : findH l x1 with
                  | none =>
                    have hin : 0 ≤ (fresh68 x1 x2 x3 fr).f0 ∧ (fresh68 x1 x2 x3 fr).f0 < 60 := h1
                    simp only [ofT, Bool.false_eq_true, if_false]
                    rw [slotmeshref31_Hear.j1, if_neg (by simp), if_neg (by simp), slotmeshref31_Hear.j2, if_neg (by simp), if_neg (by simp)]
                    unfold askedF
                    rw [hf]
                    dsimp only
                    by_cases c5 : l.length = 4
                    · rw [if_pos c5, decide_eq_true (by omega), slotmeshref31_Hear.j3, if_pos rfl, ans68, if_neg (by simp)]
                    · rw [if_neg c5, decide_eq_false (by omega), slotmeshref31_Hear.j3, if_neg (by simp), ← hm, challenge_f x1 x2 x3 fr 295 h1 h2 h3 (by omega), Option.bind_some, IntWalk.wrap64_in (fr + 12) (by omega)]
                      have hwf := with_f 296 l (fresh68 x1 x2 x3 fr) (by omega) (by omega)
                      rw [outW_eq hv hin] at hwf
                      rw [show slotmeshref31_With.f 296 l x1 x3 (fresh68 x1 x2 x3 fr).f2 (fr + 12) false 0 = _ from hwf, Option.bind_some, ans68, if_pos rfl]
                  | some g =>
                    obtain ⟨g1, g2⟩ := findH_some hf
                    have red : ∀ b : Bool, decide ((ofT (some g)).2.1 > x3) = b → (if (ofT (some g)).2.2.2.2.2.2 = true then slotmeshref31_Hear.j1 299 l a1 fr (ofT (some g)).2.2.2.2.2.2 (decide ((ofT (some g)).2.1 > x3)) x0 x1 x2 x3 x4 x5 x6 x7 (ofT (some g)).1 (ofT (some g)).2.1 (ofT (some g)).2.2.1 (ofT (some g)).2.2.2.1 (ofT (some g)).2.2.2.2.1 (ofT (some g)).2.2.2.2.2.1 else slotmeshref31_Hear.j1 299 l a1 fr (ofT (some g)).2.2.2.2.2.2 false x0 x1 x2 x3 x4 x5 x6 x7 (ofT (some g)).1 (ofT (some g)).2.1 (ofT (some g)).2.2.1 (ofT (some g)).2.2.2.1 (ofT (some g)).2.2.2.2.1 (ofT (some g)).2.2.2.2.2.1) = slotmeshref31_Hear.j1 299 l a1 fr true b x0 x1 x2 x3 x4 x5 x6 x7 g.f0 g.f1 g.f2 g.f3 g.f4 g.f5 := fun b hb => by rw [hb]; rfl
                    unfold askedF
                    rw [hf]
                    dsimp only
                    by_cases c5 : x3 < g.f1
                    · rw [if_pos c5, red true (decide_eq_true c5), slotmeshref31_Hear.j1, if_pos rfl, ans68, if_neg (by simp)]
                    · rw [if_neg c5, red false (decide_eq_false c5), slotmeshref31_Hear.j1, if_neg (by simp), if_pos rfl]
                      by_cases c6 : g.f1 = x3
                      · rw [if_pos c6, show (g.f1 == x3) = true by simpa using c6, slotmeshref31_Hear.j2, if_pos rfl]
                        have hin : 0 ≤ g.f0 ∧ g.f0 < 60 := by omega
                        have hwf := with_f 297 l g (by omega) (by omega)
                        rw [outW_eq hv hin] at hwf
                        rw [hwf, Option.bind_some, ans68, if_pos rfl]
                        congr 2
                        exact rises_unique (sortH_rises (upd_nodup hn g)) (sortH_rises hn) (fun x => by
                          rw [mem_sortH (upd_nodup hn g), mem_upd, mem_sortH hn]
                          constructor
                          · rintro (rfl | h)
                            · exact g1
                            · exact h.1
                          · intro hx
                            by_cases e : x.f0 = g.f0
                            · exact .inl (nodup_inj hn hx g1 e)
                            · exact .inr ⟨hx, e⟩)
                      · have hin : 0 ≤ (fresh68 x1 x2 x3 fr).f0 ∧ (fresh68 x1 x2 x3 fr).f0 < 60 := h1
                        rw [if_neg c6, show (g.f1 == x3) = false by simpa using c6, slotmeshref31_Hear.j2, if_neg (by simp), if_pos rfl, slotmeshref31_Hear.j3, if_neg (by simp), ← hm, challenge_f x1 x2 x3 fr 295 h1 h2 h3 (by omega), Option.bind_some, IntWalk.wrap64_in (fr + 12) (by omega)]
                        have hwf := with_f 296 l (fresh68 x1 x2 x3 fr) (by omega) (by omega)
                        rw [outW_eq hv hin] at hwf
                        rw [show slotmeshref31_With.f 296 l x1 x3 (fresh68 x1 x2 x3 fr).f2 (fr + 12) false 0 = _ from hwf, Option.bind_some, ans68, if_pos rfl]
                · rw [if_neg e1, if_neg e1]
                  by_cases e3 : x0 = 3
                  · rw [if_pos e3, if_pos e3]
                    cases hf : findH l x1 with
                    | none =>
                      simp only [ofT, Bool.false_eq_true, if_false]
                      unfold provedF
                      rw [hf]
                      dsimp only
                      rw [slotmeshref31_Hear.j4, if_pos rfl, ans68, if_neg (by simp)]
                    | some g =>
                      obtain ⟨g1, g2⟩ := findH_some hf
                      show (if g.f1 = x3 then slotmeshref31_Hear.j4 299 l (g.f2 != x4) x0 x1 x2 x3 x4 x5 x6 x7 g.f0 g.f1 g.f2 g.f3 g.f4 g.f5 else slotmeshref31_Hear.j4 299 l true x0 x1 x2 x3 x4 x5 x6 x7 g.f0 g.f1 g.f2 g.f3 g.f4 g.f5) = _
                      unfold provedF
                      rw [hf]
                      dsimp only
                      by_cases c5 : g.f1 = x3
                      · rw [if_pos c5, if_pos c5]
                        by_cases c6 : g.f2 = x4
                        · have hin : 0 ≤ g.f0 ∧ g.f0 < 60 := by omega
                          rw [if_pos c6, show (g.f2 != x4) = false by simpa using c6, slotmeshref31_Hear.j4, if_neg (by simp)]
                          have hwf := with_f 298 l ({ g with f4 := true, f5 := x5 } : S68) (by omega) (by omega)
                          rw [outW_eq (h := ({ g with f4 := true, f5 := x5 } : S68)) hv hin] at hwf
                          rw [show slotmeshref31_With.f 298 l g.f0 g.f1 g.f2 g.f3 true x5 = _ from hwf, Option.bind_some, ans68, if_pos rfl]
                        · rw [if_neg c6, show (g.f2 != x4) = true by simpa using c6, slotmeshref31_Hear.j4, if_pos rfl, ans68, if_neg (by simp)]
                      · rw [if_neg c5, if_neg c5, slotmeshref31_Hear.j4, if_pos rfl, ans68, if_neg (by simp)]
                  · rw [if_neg e3, if_neg e3]
      · rw [if_neg hm]; exact bad (unfit (p := x2 = a1) (fun h => (fit_parts h).2.2.1) hm)
    · rw [if_neg hw]; exact bad (unfit (p := word68 x0 x1 x2 x3 x4 = true) (fun h => (fit_parts h).2.1) hw)
  · rw [if_neg hv]; exact bad (unfit (p := valid68 l = true) (fun h => (fit_parts h).1) hv)
theorem rexpire_l0 (fr : Int) (l : List S68) (hlen : l.length ≤ 100) : ∀ (m i k : Nat) (acc : List S68), l.length - i ≤ m → m + 1 ≤ k → i ≤ l.length → acc.length ≤ i → slotmeshref31_Expire.l0 k l fr acc (i : Int) = some (acc ++ (l.drop i).filter fun h => !(decide (h.f3 < fr))) := by
  intro m
  induction m with
  | zero =>
    intro i k acc hm hk hi ha
    obtain ⟨k, rfl⟩ : ∃ n, k = n + 1 := ⟨k - 1, by omega⟩
    have : i = l.length := by omega
    subst this
    rw [slotmeshref31_Expire.l0, if_neg (by omega)]
    simp
  | succ m ih =>
    intro i k acc hm hk hi ha
    obtain ⟨k, rfl⟩ : ∃ n, k = n + 1 := ⟨k - 1, by omega⟩
    by_cases hlt : i < l.length
    · have hd : l.drop i = rd_T68 l i :: l.drop (i + 1) := by
        rw [List.drop_eq_getElem_cons hlt]
        simp [rd_T68, List.getD, hlt]
      have hw : wrap64 ((i : Int) + 1) = ((i + 1 : Nat) : Int) := by rw [IntWalk.wrap64_in _ (by omega)]; push_cast; rfl
      rw [slotmeshref31_Expire.l0, if_pos (by omega), if_pos (by omega), hd]
      by_cases hs : (rd_T68 l (i : Int)).f3 ≥ fr
      · rw [if_pos hs, if_pos (by omega), hw, ih (i + 1) k _ (by omega) (by omega) (by omega) (by simp; omega)]
        simp [List.filter_cons, show ¬ (rd_T68 l (i : Int)).f3 < fr by omega]
      · rw [if_neg hs, hw, ih (i + 1) k _ (by omega) (by omega) (by omega) (by omega)]
        simp [List.filter_cons, show (rd_T68 l (i : Int)).f3 < fr by omega]
    · have : i = l.length := by omega
      subst this
      rw [slotmeshref31_Expire.l0, if_neg (by omega)]
      simp
theorem kind_l0 (kd : Int) (l : List S54) (hlen : l.length ≤ 100) : ∀ (m i k : Nat) (acc : List S54), l.length - i ≤ m → m + 1 ≤ k → i ≤ l.length → acc.length ≤ i → slotmeshref31_kind.l0 k l kd acc (i : Int) = some (acc ++ (l.drop i).filter fun h => decide (h.f0 = kd)) := by
  intro m
  induction m with
  | zero =>
    intro i k acc hm hk hi ha
    obtain ⟨k, rfl⟩ : ∃ n, k = n + 1 := ⟨k - 1, by omega⟩
    have : i = l.length := by omega
    subst this
    rw [slotmeshref31_kind.l0, if_neg (by omega)]
    simp
  | succ m ih =>
    intro i k acc hm hk hi ha
    obtain ⟨k, rfl⟩ : ∃ n, k = n + 1 := ⟨k - 1, by omega⟩
    by_cases hlt : i < l.length
    · have hd : l.drop i = rd_T54 l i :: l.drop (i + 1) := by
        rw [List.drop_eq_getElem_cons hlt]
        simp [rd_T54, List.getD, hlt]
      have hw : wrap64 ((i : Int) + 1) = ((i + 1 : Nat) : Int) := by rw [IntWalk.wrap64_in _ (by omega)]; push_cast; rfl
      rw [slotmeshref31_kind.l0, if_pos (by omega), if_pos (by omega), hd]
      by_cases hs : (rd_T54 l (i : Int)).f0 = kd
      · have eta : (⟨(rd_T54 l (i : Int)).f0, (rd_T54 l (i : Int)).f1, (rd_T54 l (i : Int)).f2, (rd_T54 l (i : Int)).f3, (rd_T54 l (i : Int)).f4, (rd_T54 l (i : Int)).f5, (⟨(rd_T54 l (i : Int)).f6.f0, (rd_T54 l (i : Int)).f6.f1⟩ : S25)⟩ : S54) = rd_T54 l (i : Int) := rfl
        rw [if_pos hs, if_pos (by omega), hw, eta, ih (i + 1) k _ (by omega) (by omega) (by omega) (by simp; omega), List.filter_cons, if_pos (by simpa using hs)]
        simp
      · rw [if_neg hs, hw, ih (i + 1) k _ (by omega) (by omega) (by omega) (by omega)]
        simp [List.filter_cons, hs]
    · have : i = l.length := by omega
      subst this
      rw [slotmeshref31_kind.l0, if_neg (by omega)]
      simp
theorem samew_l0 (l : List S54) (hlen : l.length < 4611686018427387904) : ∀ (m i k : Nat), l.length - i ≤ m → m + 1 ≤ k → i ≤ l.length → slotmeshref31_SameWords.l0 k l l (i : Int) = some true := by
  intro m
  induction m with
  | zero =>
    intro i k hm hk hi
    obtain ⟨k, rfl⟩ : ∃ n, k = n + 1 := ⟨k - 1, by omega⟩
    rw [slotmeshref31_SameWords.l0, if_neg (by omega)]
  | succ m ih =>
    intro i k hm hk hi
    obtain ⟨k, rfl⟩ : ∃ n, k = n + 1 := ⟨k - 1, by omega⟩
    by_cases hlt : i < l.length
    · have hw : wrap64 ((i : Int) + 1) = ((i + 1 : Nat) : Int) := by rw [IntWalk.wrap64_in _ (by omega)]; push_cast; rfl
      rw [slotmeshref31_SameWords.l0, if_pos (by omega), if_pos (by omega), if_pos (by omega), if_neg (by simp), hw, ih (i + 1) k (by omega) (by omega) (by omega)]
    · rw [slotmeshref31_SameWords.l0, if_neg (by omega)]
theorem samew_self (k : Nat) (l : List S54) (hlen : l.length < 4611686018427387904) (hk : l.length + 1 ≤ k) : slotmeshref31_SameWords.f k l l = some true := by
  unfold slotmeshref31_SameWords.f
  rw [if_pos rfl]
  exact samew_l0 l hlen l.length 0 k (by omega) hk (by omega)
/-- What a sponsor tells, of any list. -/
def wordsV (kd me : Int) (pv : Bool) (l : List S68) : List S54 := if valid68 l = true ∧ 0 ≤ me ∧ me ≤ 59 then tellL kd me pv l else []
theorem told_any (l : List S68) (me kd : Int) (pv : Bool) (hlen : l.length ≤ 20) : sponsor_told.f 50 l me kd pv = some (wordsV kd me pv l) := by
  unfold wordsV
  by_cases h : valid68 l = true ∧ 0 ≤ me ∧ me ≤ 59
  · rw [if_pos h]; exact told_yes 20 l me kd pv h.1 (by omega)
  · rw [if_neg h]
    have e : sponsor_Valid.f 50 l = some (valid68 l) := by
      obtain ⟨j, hj⟩ : ∃ j, 50 = 2 * l.length + 1 + j := ⟨49 - 2 * l.length, by omega⟩
      rw [hj]
      exact YtncgeclkgmfppaaDoorW.PrintWords.more_rounds (g := fun k => sponsor_Valid.f k l) (fun k => sponsor_Valid.mono l k) _ j _ (valid_f l (by omega))
    unfold sponsor_told.f
    rw [e, Option.bind_some]
    have j0 : sponsor_told.j0 50 l me kd pv true = some [] := by rw [sponsor_told.j0, if_pos rfl]
    by_cases hv : valid68 l = true
    · rw [if_pos hv]
      unfold sponsor_isNode.f
      rw [in_f, Option.bind_some]
      by_cases h1 : 0 ≤ me
      · rw [decide_eq_true h1, decide_eq_false (show ¬ me ≤ 59 from fun h2 => h ⟨hv, h1, h2⟩)]; exact j0
      · rw [decide_eq_false h1]; exact j0
    · rw [if_neg hv]; exact j0
theorem rwords_f (l : List S68) (me kd : Int) (pv : Bool) (hk : (kd = 2 ∧ pv = false) ∨ (kd = 3 ∧ pv = true)) : (if valid68 l = true ∧ 0 ≤ me ∧ me ≤ 59 then l.map (wordOf me) else []).filter (fun h => decide (h.f0 = kd)) = wordsV kd me pv l := by
  unfold wordsV
  by_cases h : valid68 l = true ∧ 0 ≤ me ∧ me ≤ 59
  · rw [if_pos h, if_pos h]
    unfold tellL
    have hh := ((valid_iff l).1 h.1).1
    clear h
    induction l with
    | nil => simp
    | cons x r ih =>
      have hx := hh x (by simp)
      have h5 : x.f4 = false → x.f5 = 0 := by
        intro hf
        unfold half68 at hx
        simp [hf] at hx
        exact hx.2
      rw [List.map_cons, List.filter_cons, List.filter_cons, ih (fun y hy => hh y (List.mem_cons_of_mem _ hy))]
      cases hf : x.f4 with
      | true =>
        rcases hk with ⟨rfl, rfl⟩ | ⟨rfl, rfl⟩
        · simp [wordOf, hf]
        · simp [wordOf, hf, tellW]
      | false =>
        rcases hk with ⟨rfl, rfl⟩ | ⟨rfl, rfl⟩
        · simp [wordOf, hf, tellW, h5 hf]
        · simp [wordOf, hf]
  · rw [if_neg h, if_neg h]; rfl
end Go.Proofs.YtncgeclkgmfppaaDoor.H
