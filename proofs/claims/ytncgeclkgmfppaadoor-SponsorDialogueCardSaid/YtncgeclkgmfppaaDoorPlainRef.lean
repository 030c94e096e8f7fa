/-
  The reference's tests of a list, in plain words.
-/
import Derived.Test.YtncgeclkgmfppaaDoorPlain
import Derived.Test.YtncgeclkgmfppaaDoorH12
namespace Go.Proofs.YtncgeclkgmfppaaDoor.H
open Go.RowKit
set_option linter.unusedVariables false
set_option linter.unusedSimpArgs false
theorem refFormed_f (k : Nat) (h : S68) : slotmeshref31_Formed.f (k + 1) h.f0 h.f1 h.f2 h.f3 h.f4 h.f5 = some (half68 h) := by
  have hb : ∀ b : Bool, half68 h = b ↔ (half68 h = true ↔ b = true) := by intro b; cases b <;> cases half68 h <;> simp
  have ht : half68 h = true ↔ (0 ≤ h.f0 ∧ h.f0 ≤ 59 ∧ 0 ≤ h.f1 ∧ h.f1 ≤ 1000000000 ∧ 0 ≤ h.f2 ∧ h.f2 ≤ 1000000000 ∧ 0 ≤ h.f3 ∧ h.f3 ≤ 1000000000 ∧ 0 ≤ h.f5 ∧ h.f5 ≤ 2000000 ∧ (h.f4 = true ∨ h.f5 = 0)) := by
    unfold half68
    simp only [Bool.and_eq_true, Bool.or_eq_true, decide_eq_true_eq, and_assoc]
  have no : ∀ {p : Prop}, p → (half68 h = true → ¬ p) → some false = some (half68 h) := fun hp hn => by
    cases e : half68 h with
    | false => rfl
    | true => exact absurd hp (hn e)
  unfold slotmeshref31_Formed.f slotmeshref31_Formed.j0
  simp only [if_true]
  by_cases c1 : h.f0 < 0
  · rw [if_pos c1]; exact no c1 (fun e => by have := ht.1 e; omega)
  rw [if_neg c1]
  by_cases c2 : h.f0 > 59
  · rw [if_pos c2]; exact no c2 (fun e => by have := ht.1 e; omega)
  rw [if_neg c2]
  by_cases c3 : h.f1 < 0
  · rw [if_pos c3]; exact no c3 (fun e => by have := ht.1 e; omega)
  rw [if_neg c3]
  by_cases c4 : h.f1 > 1000000000
  · rw [if_pos c4]; exact no c4 (fun e => by have := ht.1 e; omega)
  rw [if_neg c4]
  by_cases c5 : h.f2 < 0
  · rw [if_pos c5]; exact no c5 (fun e => by have := ht.1 e; omega)
  rw [if_neg c5]
  by_cases c6 : h.f2 > 1000000000
  · rw [if_pos (by simpa using c6)]; exact no c6 (fun e => by have := ht.1 e; omega)
  rw [if_neg (by simpa using c6)]
  by_cases c7 : h.f3 ≥ 0
  · rw [if_pos c7]
    by_cases c8 : h.f3 ≤ 1000000000
    · rw [if_pos c8]
      by_cases c9 : h.f5 ≥ 0
      · rw [if_pos c9]
        by_cases c10 : h.f5 ≤ 2000000
        · rw [if_pos c10]
          by_cases c11 : h.f5 = 0
          · rw [if_pos c11, ht.2 ⟨by omega, by omega, by omega, by omega, by omega, by omega, by omega, by omega, by omega, by omega, .inr c11⟩]
          · rw [if_neg c11]
            cases e4 : h.f4 with
            | true => rw [ht.2 ⟨by omega, by omega, by omega, by omega, by omega, by omega, by omega, by omega, by omega, by omega, .inl e4⟩]
            | false => exact no c11 (fun e => by have := (ht.1 e).2.2.2.2.2.2.2.2.2.2; rw [e4] at this; simpa using this)
        · rw [if_neg c10]; exact no c10 (fun e => by have := ht.1 e; omega)
      · rw [if_neg c9]; exact no c9 (fun e => by have := ht.1 e; omega)
    · rw [if_neg c8]; exact no c8 (fun e => by have := ht.1 e; omega)
  · rw [if_neg c7]; exact no c7 (fun e => by have := ht.1 e; omega)
theorem refValid_l0 (l : List S68) (hlen : l.length < 4611686018427387904) : ∀ (m i k : Nat), l.length - i ≤ m → 2 * m + 2 ≤ k → i ≤ l.length → slotmeshref31_Valid.l0 k l (i : Int) = some (risesOn (if i = 0 then none else some (rd_T68 l (i - 1 : Nat))) (l.drop i) && decide ((l.length : Int) ≤ 4)) := by
  intro m
  induction m with
  | zero =>
    intro i k hm hk hi
    obtain ⟨k, rfl⟩ : ∃ n, k = n + 1 := ⟨k - 1, by omega⟩
    have : i = l.length := by omega
    subst this
    simp [slotmeshref31_Valid.l0, risesOn]
  | succ m ih =>
    intro i k hm hk hi
    obtain ⟨k, rfl⟩ : ∃ n, k = n + 1 := ⟨k - 1, by omega⟩
    obtain ⟨k, rfl⟩ : ∃ n, k = n + 1 := ⟨k - 1, by omega⟩
    by_cases hlt : i < l.length
    · have hd : l.drop i = rd_T68 l i :: l.drop (i + 1) := by
        rw [List.drop_eq_getElem_cons hlt]
        simp [rd_T68, List.getD, hlt]
      have hstep := ih (i + 1) k (by omega) (by omega) (by omega)
      rw [if_neg (by omega), Nat.add_sub_cancel] at hstep
      have hw : wrap64 ((i : Int) + 1) = ((i + 1 : Nat) : Int) := by rw [IntWalk.wrap64_in _ (by omega)]; push_cast; rfl
      rw [slotmeshref31_Valid.l0, if_pos (by omega), if_pos (by omega), refFormed_f, Option.bind_some, hd, risesOn]
      cases hh : half68 (rd_T68 l i) with
      | false =>
        simp only [Bool.false_eq_true, if_false, slotmeshref31_Valid.j1, if_true]
        simp
      | true =>
        simp only [if_true]
        by_cases h0 : i = 0
        · subst h0
          rw [if_neg (by omega), if_pos rfl]
          simp only [slotmeshref31_Valid.j1, Bool.false_eq_true, if_false]
          rw [hw, hstep]; simp [risesAfter]
        · have hw' : wrap64 ((i : Int) - 1) = ((i - 1 : Nat) : Int) := by rw [IntWalk.wrap64_in _ (by omega)]; omega
          rw [if_pos (by omega), hw', if_pos (by omega), if_pos (by omega), if_neg h0]
          simp only [slotmeshref31_Valid.j1]
          by_cases hle : (rd_T68 l ((i - 1 : Nat) : Int)).f0 ≥ (rd_T68 l (i : Int)).f0
          · simp [risesAfter, hle, show ¬ (rd_T68 l ((i - 1 : Nat) : Int)).f0 < (rd_T68 l (i : Int)).f0 from by omega]
          · simp only [hle, decide_false, Bool.false_eq_true, if_false]
            rw [hw, hstep]
            simp [risesAfter, show (rd_T68 l ((i - 1 : Nat) : Int)).f0 < (rd_T68 l (i : Int)).f0 from by omega]
    · have : i = l.length := by omega
      subst this
      simp [slotmeshref31_Valid.l0, risesOn]
theorem refValid_f (l : List S68) (k : Nat) (hlen : l.length < 4611686018427387904) (hk : 2 * l.length + 2 ≤ k) : slotmeshref31_Valid.f k l = some (valid68 l) := by
  have h := refValid_l0 l hlen l.length 0 k (by omega) hk (by omega)
  unfold slotmeshref31_Valid.f valid68
  rw [rising_on]
  refine Eq.trans h ?_
  simp only [if_true, List.drop_zero, Option.some.injEq]
  congr 1
  rw [decide_eq_decide]
  omega
end Go.Proofs.YtncgeclkgmfppaaDoor.H
