/-
  What functions of the program compute, as plain functions, each with its contract: the call returns just that, from every memory that holds its arguments.
-/
import Derived.Test.YtncgeclkgmfppaaDoorH0
import Derived.Test.YtncgeclkgmfppaaDoorH3
import Derived.Test.YtncgeclkgmfppaaDoorH4
import Derived.Test.YtncgeclkgmfppaaDoorH5
import Derived.Test.YtncgeclkgmfppaaDoorH6
import Derived.Test.YtncgeclkgmfppaaDoorHandle
import Derived.IntWalk
import Derived.Carry
namespace Go.Proofs.YtncgeclkgmfppaaDoor.H
open Go.RowKit Go.Proofs.YtncgeclkgmfppaaDoorW.PrintWords Go.Proofs.YtncgeclkgmfppaaDoorW.PrintLast Go.Proofs.YtncgeclkgmfppaaDoorW.PrintMore
attribute [local go_sem] max2_int min2_int max_two min_two max_three min_three max_four min_four   -- for this text's walks alone
set_option linter.unusedVariables false
set_option linter.unusedSimpArgs false

-- HAND slotmesh/sponsor.Hear
/-! ### sponsor_Hear: function 26 -/
set_option maxRecDepth 100000
open Go.Maps Go.Sort Go.Shelf
/-- A half-open join that a list may hold. -/
def half68 (h : S68) : Bool := decide (0 ≤ h.f0) && decide (h.f0 ≤ 59) && decide (0 ≤ h.f1) && decide (h.f1 ≤ 1000000000) && decide (0 ≤ h.f2) && decide (h.f2 ≤ 1000000000) && decide (0 ≤ h.f3) && decide (h.f3 ≤ 1000000000) && decide (0 ≤ h.f5) && decide (h.f5 ≤ 2000000) && (h.f4 || decide (h.f5 = 0))
/-- Elements that each list may hold, in order of their strangers. -/
def rising : List S68 → Bool
  | [] => true
  | [h] => half68 h
  | h :: g :: r => half68 h && decide (h.f0 < g.f0) && rising (g :: r)
def valid68 (l : List S68) : Bool := rising l && decide (l.length ≤ 4)
theorem and_some (b c : Bool) : (if b = true then some c else some false) = some (b && c) := by cases b <;> rfl
theorem in_f (a b : Int) : sponsor_in.f a b = some (decide (0 ≤ a) && decide (a ≤ b)) := by
  unfold sponsor_in.f
  by_cases h : 0 ≤ a <;> simp [h]
theorem isHalf_f (h : S68) : sponsor_isHalf.f h.f0 h.f1 h.f2 h.f3 h.f4 h.f5 = some (half68 h) := by
  unfold sponsor_isHalf.f sponsor_isNode.f half68
  have e4 : (if h.f4 = true then some true else some (h.f5 == 0)) = some (h.f4 || decide (h.f5 = 0)) := by cases h.f4 <;> rfl
  simp only [in_f, Option.bind_some, and_some, e4, Bool.and_assoc]
/-- From place i on: what is left to be looked at. -/
theorem rising_drop (l : List S68) (hr : rising l = true) (i : Nat) (hi : i < l.length) : half68 (rd_T68 l i) = true ∧ (0 < i → (rd_T68 l (i - 1 : Nat)).f0 < (rd_T68 l i).f0) := by
  induction l generalizing i with
  | nil => simp at hi
  | cons h r ih =>
    cases r with
    | nil =>
      have : i = 0 := by simp at hi; omega
      subst this
      exact ⟨by simpa [rd_T68, rising] using hr, fun h => absurd h (by omega)⟩
    | cons g s =>
      simp only [rising, Bool.and_eq_true, decide_eq_true_eq] at hr
      cases i with
      | zero => exact ⟨by simpa [rd_T68] using hr.1.1, fun h => absurd h (by omega)⟩
      | succ j =>
        obtain ⟨h1, h2⟩ := ih hr.2 j (by simpa using hi)
        have e : ∀ m : Nat, rd_T68 (h :: g :: s) ((m + 1 : Nat) : Int) = rd_T68 (g :: s) (m : Int) := fun m => by simp [rd_T68, List.getD]
        refine ⟨by rw [e]; exact h1, fun _ => ?_⟩
        rw [e]
        cases j with
        | zero => simpa [rd_T68] using hr.1.2
        | succ m =>
          have := h2 (by omega)
          rw [show m + 1 + 1 - 1 = m + 1 from rfl, e m]
          exact this
theorem rd_last (l : List S68) (i : Nat) (h : S68) (r : List S68) (hd : l.drop i = h :: r) : rd_T68 l i = h := by
  have : l[i]? = some h := by
    have := congrArg (fun x => x[0]?) hd
    simpa using this
  simp [rd_T68, List.getD, this]
def risesAfter : Option S68 → S68 → Bool
  | none, _ => true
  | some g, h => decide (g.f0 < h.f0)
/-- The elements from place i on, the one before them being given. -/
def risesOn : Option S68 → List S68 → Bool
  | _, [] => true
  | p, h :: r => half68 h && risesAfter p h && risesOn (some h) r
theorem rising_on (l : List S68) : rising l = risesOn none l := by
  have h2 : ∀ (r : List S68) (h : S68), rising (h :: r) = (half68 h && risesOn (some h) r) := by
    intro r
    induction r with
    | nil => intro h; simp [rising, risesOn]
    | cons g s ih => intro h; rw [rising, ih g, risesOn]; cases half68 h <;> cases half68 g <;> simp [risesAfter]
  cases l with
  | nil => rfl
  | cons h r => rw [h2, risesOn]; simp [risesAfter]
theorem valid_l0 (l : List S68) (hlen : l.length < 4611686018427387904) : ∀ (m i k : Nat), l.length - i ≤ m → 2 * m + 1 ≤ k → i ≤ l.length → sponsor_Valid.l0 k l l (l.length : Int) (i : Int) = some (risesOn (if i = 0 then none else some (rd_T68 l (i - 1 : Nat))) (l.drop i) && decide ((l.length : Int) ≤ 4)) := by
  intro m
  induction m with
  | zero =>
    intro i k hm hk hi
    obtain ⟨k, rfl⟩ : ∃ n, k = n + 1 := ⟨k - 1, by omega⟩
    have : i = l.length := by omega
    subst this
    simp [sponsor_Valid.l0, risesOn]
  | succ m ih =>
    intro i k hm hk hi
    obtain ⟨k, rfl⟩ : ∃ n, k = n + 1 := ⟨k - 1, by omega⟩
    obtain ⟨k, rfl⟩ : ∃ n, k = n + 1 := ⟨k - 1, by omega⟩
    by_cases hlt : i < l.length
    · have hd : l.drop i = rd_T68 l i :: l.drop (i + 1) := by
        rw [List.drop_eq_getElem_cons hlt]
        simp [rd_T68, List.getD, hlt]
      have hstep := ih (i + 1) k (by omega) (by omega) (by omega)
      rw [if_neg (by omega), Nat.add_sub_cancel] at hstep
      have hw : wrap64 ((i : Int) + 1) = ((i + 1 : Nat) : Int) := by rw [IntWalk.wrap64_in _ (by omega)]; push_cast; rfl
      rw [sponsor_Valid.l0, if_pos (by omega), if_pos (by omega), if_pos (by omega), isHalf_f, Option.bind_some, hd, risesOn]
      cases hh : half68 (rd_T68 l i) with
      | false =>
        simp only [Bool.false_eq_true, if_false, sponsor_Valid.j1, if_true]
        simp
      | true =>
        simp only [if_true]
        by_cases h0 : i = 0
        · subst h0
          rw [if_neg (by omega), if_pos rfl]
          simp only [sponsor_Valid.j1, Bool.false_eq_true, if_false]
          rw [hw, hstep]; simp [risesAfter]
        · have hw' : wrap64 ((i : Int) - 1) = ((i - 1 : Nat) : Int) := by rw [IntWalk.wrap64_in _ (by omega)]; omega
          rw [if_pos (by omega), hw', if_pos (by omega), if_pos (by omega), if_neg h0]
          simp only [sponsor_Valid.j1]
          by_cases hle : (rd_T68 l (i : Int)).f0 ≤ (rd_T68 l ((i - 1 : Nat) : Int)).f0
          · simp [risesAfter, hle, show ¬ (rd_T68 l ((i - 1 : Nat) : Int)).f0 < (rd_T68 l (i : Int)).f0 from by omega]
          · simp only [hle, decide_false, Bool.false_eq_true, if_false]
            rw [hw, hstep]
            simp [risesAfter, show (rd_T68 l ((i - 1 : Nat) : Int)).f0 < (rd_T68 l (i : Int)).f0 from by omega]
    · have : i = l.length := by omega
      subst this
      simp [sponsor_Valid.l0, risesOn]
theorem valid_f (l : List S68) (hlen : l.length < 4611686018427387904) : sponsor_Valid.f (2 * l.length + 1) l = some (valid68 l) := by
  have h := valid_l0 l hlen l.length 0 (2 * l.length + 1) (by omega) (by omega) (by omega)
  unfold sponsor_Valid.f valid68
  rw [rising_on]
  refine Eq.trans h ?_
  simp only [if_true, List.drop_zero, Option.some.injEq]
  congr 1
  rw [decide_eq_decide]
  omega
/-- A word that a sponsor looks at at all. -/
def word68 (x0 x1 x2 x3 x4 : Int) : Bool := decide (0 ≤ x1 ∧ x1 < 60 ∧ 0 ≤ x2 ∧ x2 < 60 ∧ x1 ≠ x2 ∧ 0 ≤ x3 ∧ 0 ≤ x4 ∧ x3 ≤ 1000000000 ∧ x4 ≤ 1000000000 ∧ 1 ≤ x0 ∧ x0 ≤ 4)
theorem node_f (a : Int) : join_node.f a = some (decide (0 ≤ a ∧ a < 60)) := by
  unfold join_node.f
  by_cases h : 0 ≤ a <;> simp [h]
theorem formed_f (x0 x1 x2 x3 x4 x5 x6 x7 : Int) : join_formed.f x0 x1 x2 x3 x4 x5 x6 x7 = some (word68 x0 x1 x2 x3 x4) := by
  unfold join_formed.f word68
  simp only [node_f, Option.bind_some, decide_eq_true_eq]
  by_cases h1 : 0 ≤ x1 ∧ x1 < 60
  · rw [if_pos h1]
    by_cases h2 : 0 ≤ x2 ∧ x2 < 60
    · rw [if_pos h2]
      by_cases h3 : x1 = x2
      · rw [if_pos h3]; simp [h3]
      · rw [if_neg h3]
        have hmn : mn x3 x4 ≥ 0 ↔ (0 ≤ x3 ∧ 0 ≤ x4) := by unfold mn; split <;> omega
        have hmx : mx x3 x4 ≤ 1000000000 ↔ (x3 ≤ 1000000000 ∧ x4 ≤ 1000000000) := by unfold mx; split <;> omega
        by_cases h4 : mn x3 x4 ≥ 0
        · rw [if_pos h4]
          by_cases h5 : mx x3 x4 ≤ 1000000000
          · rw [if_pos h5]
            have := hmn.1 h4; have := hmx.1 h5
            by_cases h6 : x0 ≥ 1
            · rw [if_pos h6]; congr 1; rw [decide_eq_decide]; omega
            · rw [if_neg h6]; congr 1; symm; rw [decide_eq_false_iff_not]; omega
          · rw [if_neg h5]; congr 1; symm; rw [decide_eq_false_iff_not]; rw [hmx] at h5; omega
        · rw [if_neg h4]; congr 1; symm; rw [decide_eq_false_iff_not]; rw [hmn] at h4; omega
    · rw [if_neg h2]; congr 1; symm; rw [decide_eq_false_iff_not]; omega
  · rw [if_neg h1]; congr 1; symm; rw [decide_eq_false_iff_not]; omega
theorem word_f (x0 x1 x2 x3 x4 x5 x6 x7 : Int) : sponsor_isWord.f 1 x0 x1 x2 x3 x4 x5 x6 x7 = some (word68 x0 x1 x2 x3 x4) := by
  unfold sponsor_isWord.f join_Judge.f
  rw [formed_f, Option.bind_some]
  cases hw : word68 x0 x1 x2 x3 x4 with
  | false => simp [join_Judge.j0]
  | true =>
    have h1 : 0 ≤ x1 ∧ x1 < 60 := by
      have := of_decide_eq_true hw
      omega
    simp only [if_true]
    rw [if_neg (by omega), if_neg (by omega)]
    simp only [join_Judge.j0, show ¬ ((1 : Int) > 1000000000) from by omega, decide_false, Bool.false_eq_true, if_false, seal_Own.f]
    rw [if_pos h1.1, if_pos h1.2, Option.bind_some]
    repeat' split
    all_goals simp
theorem in_calls (a b : Int) (r : Bool) (w : World) (h : (decide (0 ≤ a) && decide (a ≤ b)) = r) : Calls Tryd.prog 64 #[.int .i64 a, .int .i64 b] w fun e w' => e = .returned (.bool r) ∧ Drawn0 w w' := sponsor_in.calls a b r w (by rw [in_f, h])
/-- What a sponsor asks of what it is given, before it looks at its list. -/
def fit68 (l : List S68) (a1 x0 x1 x2 x3 x4 x5 a3 : Int) : Bool := valid68 l && word68 x0 x1 x2 x3 x4 && decide (x2 = a1) && (decide (0 ≤ x5) && decide (x5 ≤ 2000000)) && (decide (0 ≤ a3) && decide (a3 ≤ 999999988))
set_option maxHeartbeats 2000000 in
theorem hear_unfit (A0 : Option Addr) (c0 : Nat) (l : List S68) (a1 x0 x1 x2 x3 x4 x5 x6 x7 a3 : Int) (w : World) (hr0 : Kd.C k68 w A0 l.length l) (hc0 : l.length ≤ c0) (hlen : l.length < 4611686018427387904) (h : fit68 l a1 x0 x1 x2 x3 x4 x5 a3 = false) :
    Calls Tryd.prog 26 #[.slice A0 l.length c0, .int .i64 a1, .agg #[.int .i64 x0, .int .i64 x1, .int .i64 x2, .int .i64 x3, .int .i64 x4, .int .i64 x5, .int .i64 x6, .int .i64 x7], .int .i64 a3] w fun e w' => e = .returned (.tuple #[.slice none 0 0, .int .i64 1]) ∧ Below w.heap.size w w' := by
  have HR := Aside0.mk hr0
  have HV := Aside0.mk (valid_f l hlen)
  have HW := Aside0.mk (word_f x0 x1 x2 x3 x4 x5 x6 x7)
  unfold fit68 at h
  generalize valid68 l = bv at h HV
  generalize word68 x0 x1 x2 x3 x4 = bw at h HW
  obtain ⟨b5, h5⟩ : ∃ b, (decide (0 ≤ x5) && decide (x5 ≤ 2000000)) = b := ⟨_, rfl⟩
  obtain ⟨b3, h3⟩ : ∃ b, (decide (0 ≤ a3) && decide (a3 ≤ 999999988)) = b := ⟨_, rfl⟩
  rw [h5, h3] at h
  have hne : (x2 != a1) = !(decide (x2 = a1)) := by by_cases e : x2 = a1 <;> simp [e]
  generalize decide (x2 = a1) = bm at h hne
  have H5 := Aside0.mk h5
  have H3 := Aside0.mk h3
  clear hr0 h5 h3
  cases bv
  · clear h hne
    go_enter Tryd.func26, Tryd.ntmps26
    go_wp2_with (first
      | (go_at_call 28; refine (sponsor_Valid.calls _ A0 c0 l _ _ (Kd.C_alloc HR.out _) hc0 HV.out).mono ?_; rintro e w1 ⟨rfl, hb1⟩; have hbx1 := fun o => hb1.cell (p := ⟨w.heap.size, o, none⟩) (by simp); have hs1 : w.heap.size + 1 ≤ w1.heap.size := (by simpa using hb1.size)))
    go_ret2
    refine ⟨rfl, ?_⟩
    exact ra_step (ra_alloc (Below.refl _ _) _) hb1
  cases bw
  · clear h hne
    go_enter Tryd.func26, Tryd.ntmps26
    go_wp2_with (first
      | (go_at_call 28; refine (sponsor_Valid.calls _ A0 c0 l _ _ (Kd.C_alloc HR.out _) hc0 HV.out).mono ?_; rintro e w1 ⟨rfl, hb1⟩; have hbx1 := fun o => hb1.cell (p := ⟨w.heap.size, o, none⟩) (by simp); have hs1 : w.heap.size + 1 ≤ w1.heap.size := (by simpa using hb1.size))
      | (go_at_call 63; refine (sponsor_isWord.calls 1 _ _ _ _ _ _ _ _ _ _ HW.out).mono ?_; rintro e w2 ⟨rfl, hb2⟩; have hbx2 := fun o => hb2.cell (p := ⟨w.heap.size, o, none⟩) (show w.heap.size < w1.heap.size from by omega)))
    go_ret2
    refine ⟨rfl, ?_⟩
    exact ra_step (ra_step (ra_alloc (Below.refl _ _) _) hb1) hb2
  cases bm
  · clear h
    simp only [Bool.not_false] at hne
    go_enter Tryd.func26, Tryd.ntmps26
    go_wp2_with (first
      | (go_at_call 28; refine (sponsor_Valid.calls _ A0 c0 l _ _ (Kd.C_alloc HR.out _) hc0 HV.out).mono ?_; rintro e w1 ⟨rfl, hb1⟩; have hbx1 := fun o => hb1.cell (p := ⟨w.heap.size, o, none⟩) (by simp); have hs1 : w.heap.size + 1 ≤ w1.heap.size := (by simpa using hb1.size))
      | (go_at_call 63; refine (sponsor_isWord.calls 1 _ _ _ _ _ _ _ _ _ _ HW.out).mono ?_; rintro e w2 ⟨rfl, hb2⟩; have hbx2 := fun o => hb2.cell (p := ⟨w.heap.size, o, none⟩) (show w.heap.size < w1.heap.size from by omega)))
    go_ret2
    refine ⟨rfl, ?_⟩
    exact ra_step (ra_step (ra_alloc (Below.refl _ _) _) hb1) hb2
  simp only [Bool.not_true] at hne
  cases b5
  · clear h
    go_enter Tryd.func26, Tryd.ntmps26
    go_wp2_with (first
      | (go_at_call 28; refine (sponsor_Valid.calls _ A0 c0 l _ _ (Kd.C_alloc HR.out _) hc0 HV.out).mono ?_; rintro e w1 ⟨rfl, hb1⟩; have hbx1 := fun o => hb1.cell (p := ⟨w.heap.size, o, none⟩) (by simp); have hs1 : w.heap.size + 1 ≤ w1.heap.size := (by simpa using hb1.size))
      | (go_at_call 63; refine (sponsor_isWord.calls 1 _ _ _ _ _ _ _ _ _ _ HW.out).mono ?_; rintro e w2 ⟨rfl, hb2⟩; have hbx2 := fun o => hb2.cell (p := ⟨w.heap.size, o, none⟩) (show w.heap.size < w1.heap.size from by omega))
      | (go_at_call 64; refine (in_calls x5 2000000 _ _ H5.out).mono ?_; rintro e w3 ⟨rfl, hd3⟩; clear H5; have hbd3 := hd3.below)
      | (go_at_call 64; refine (in_calls a3 999999988 _ _ H3.out).mono ?_; rintro e w4 ⟨rfl, hd4⟩; have hbd4 := hd4.below))
    go_ret2
    refine ⟨rfl, ?_⟩
    exact ra_step (ra_step (ra_step (ra_alloc (Below.refl _ _) _) hb1) hb2) hbd3
  cases b3
  · clear h
    go_enter Tryd.func26, Tryd.ntmps26
    go_wp2_with (first
      | (go_at_call 28; refine (sponsor_Valid.calls _ A0 c0 l _ _ (Kd.C_alloc HR.out _) hc0 HV.out).mono ?_; rintro e w1 ⟨rfl, hb1⟩; have hbx1 := fun o => hb1.cell (p := ⟨w.heap.size, o, none⟩) (by simp); have hs1 : w.heap.size + 1 ≤ w1.heap.size := (by simpa using hb1.size))
      | (go_at_call 63; refine (sponsor_isWord.calls 1 _ _ _ _ _ _ _ _ _ _ HW.out).mono ?_; rintro e w2 ⟨rfl, hb2⟩; have hbx2 := fun o => hb2.cell (p := ⟨w.heap.size, o, none⟩) (show w.heap.size < w1.heap.size from by omega))
      | (go_at_call 64; refine (in_calls x5 2000000 _ _ H5.out).mono ?_; rintro e w3 ⟨rfl, hd3⟩; clear H5; have hbd3 := hd3.below)
      | (go_at_call 64; refine (in_calls a3 999999988 _ _ H3.out).mono ?_; rintro e w4 ⟨rfl, hd4⟩; have hbd4 := hd4.below))
    go_ret2
    refine ⟨rfl, ?_⟩
    exact ra_step (ra_step (ra_step (ra_step (ra_alloc (Below.refl _ _) _) hb1) hb2) hbd3) hbd4
  simp at h

theorem fit_parts {l : List S68} {a1 x0 x1 x2 x3 x4 x5 a3 : Int} (h : fit68 l a1 x0 x1 x2 x3 x4 x5 a3 = true) : valid68 l = true ∧ word68 x0 x1 x2 x3 x4 = true ∧ x2 = a1 ∧ (decide (0 ≤ x5) && decide (x5 ≤ 2000000)) = true ∧ (decide (0 ≤ a3) && decide (a3 ≤ 999999988)) = true := by
  unfold fit68 at h
  rw [Bool.and_eq_true, Bool.and_eq_true, Bool.and_eq_true, Bool.and_eq_true, decide_eq_true_eq] at h
  exact ⟨h.1.1.1.1, h.1.1.1.2, h.1.1.2, h.1.2, h.2⟩
theorem valid_short {l : List S68} (h : valid68 l = true) : l.length ≤ 4 := by
  unfold valid68 at h
  rw [Bool.and_eq_true, decide_eq_true_eq] at h
  exact h.2
theorem rising_pair : ∀ (l : List S68), rising l = true → (∀ h ∈ l, half68 h = true) ∧ l.Pairwise (fun x y => x.f0 < y.f0)
  | [], _ => ⟨by simp, List.Pairwise.nil⟩
  | [h], hr => ⟨by simpa [rising] using hr, by simp⟩
  | h :: g :: r, hr => by
    simp only [rising, Bool.and_eq_true, decide_eq_true_eq] at hr
    obtain ⟨h1, h2⟩ := rising_pair (g :: r) hr.2
    refine ⟨?_, ?_⟩
    · intro x hx
      rcases List.mem_cons.1 hx with rfl | hx
      · exact hr.1.1
      · exact h1 x hx
    · refine List.Pairwise.cons ?_ h2
      intro x hx
      rcases List.mem_cons.1 hx with rfl | hx
      · exact hr.1.2
      · have := (List.pairwise_cons.1 h2).1 x hx
        omega
theorem valid_rising {l : List S68} (h : valid68 l = true) : rising l = true := by
  unfold valid68 at h
  rw [Bool.and_eq_true] at h
  exact h.1
theorem valid_nodup {l : List S68} (h : valid68 l = true) : (l.map (·.f0)).Nodup := by
  rw [List.nodup_iff_pairwise_ne, List.pairwise_map]
  exact (rising_pair l (valid_rising h)).2.imp (fun h => by omega)
theorem half_node {h : S68} (hh : half68 h = true) : 0 ≤ h.f0 ∧ h.f0 < 60 := by
  unfold half68 at hh
  simp only [Bool.and_eq_true, decide_eq_true_eq] at hh
  omega
theorem valid_all {l : List S68} (h : valid68 l = true) : ∀ x ∈ l, 0 ≤ x.f0 ∧ x.f0 < 60 := fun x hx => half_node ((rising_pair l (valid_rising h)).1 x hx)
theorem word_parts {x0 x1 x2 x3 x4 : Int} (h : word68 x0 x1 x2 x3 x4 = true) : (0 ≤ x1 ∧ x1 < 60) ∧ (0 ≤ x2 ∧ x2 < 60) ∧ (0 ≤ x3 ∧ x3 ≤ 1000000000) := by
  have := of_decide_eq_true h
  omega
theorem range_parts {a b : Int} (h : (decide (0 ≤ a) && decide (a ≤ b)) = true) : 0 ≤ a ∧ a ≤ b := by
  simpa using h
theorem upd_mem {l : List S68} {h x : S68} (hx : x ∈ upd l h) : x = h ∨ x ∈ l := by
  unfold upd at hx
  rcases List.mem_cons.1 hx with rfl | hx
  · exact .inl rfl
  · exact .inr (List.mem_filter.1 hx).1
theorem upd_len (l : List S68) (h : S68) : (upd l h).length ≤ l.length + 1 := by
  unfold upd
  have := List.length_filter_le (fun x => x.f0 != h.f0) l
  simp; omega
theorem asked_wf {l : List S68} {x1 : Int} (x2 x3 fr : Int) (hl : ∀ h ∈ l, 0 ≤ h.f0 ∧ h.f0 < 60) (h1 : 0 ≤ x1 ∧ x1 < 60) : (askedF l x1 x2 x3 fr).1.length ≤ l.length + 1 ∧ ∀ h ∈ (askedF l x1 x2 x3 fr).1, 0 ≤ h.f0 ∧ h.f0 < 60 := by
  have hu : (upd l (fresh68 x1 x2 x3 fr)).length ≤ l.length + 1 ∧ ∀ h ∈ upd l (fresh68 x1 x2 x3 fr), 0 ≤ h.f0 ∧ h.f0 < 60 :=
    ⟨upd_len _ _, fun h hh => by rcases upd_mem hh with rfl | hm; exact h1; exact hl h hm⟩
  unfold askedF
  split
  · split
    · exact ⟨Nat.le_succ _, hl⟩
    · split
      · exact ⟨Nat.le_succ _, hl⟩
      · exact hu
  · split
    · exact ⟨Nat.le_succ _, hl⟩
    · exact hu
theorem proved_wf {l : List S68} {x1 : Int} (x3 x4 x5 : Int) (hl : ∀ h ∈ l, 0 ≤ h.f0 ∧ h.f0 < 60) : (provedF l x1 x3 x4 x5).1.length ≤ l.length + 1 ∧ ∀ h ∈ (provedF l x1 x3 x4 x5).1, 0 ≤ h.f0 ∧ h.f0 < 60 := by
  unfold provedF
  cases hf : findH l x1 with
  | none => exact ⟨Nat.le_succ _, hl⟩
  | some h =>
    have hm := hl h (findH_some hf).1
    dsimp only
    split
    · split
      · exact ⟨upd_len _ _, fun g hg => by rcases upd_mem hg with rfl | hg; exact hm; exact hl g hg⟩
      · exact ⟨Nat.le_succ _, hl⟩
    · exact ⟨Nat.le_succ _, hl⟩
set_option maxHeartbeats 4000000 in
theorem hear_asked_bad (A0 : Option Addr) (c0 : Nat) (l : List S68) (a1 x1 x2 x3 x4 x5 x6 x7 a3 : Int) (w : World) (hr0 : Kd.C k68 w A0 l.length l) (hc0 : l.length ≤ c0) (hG : Laid w) (h : fit68 l a1 1 x1 x2 x3 x4 x5 a3 = true) (hcode : (askedF l x1 x2 x3 a3).2 ≠ 0) :
    Calls Tryd.prog 26 #[.slice A0 l.length c0, .int .i64 a1, .agg #[.int .i64 1, .int .i64 x1, .int .i64 x2, .int .i64 x3, .int .i64 x4, .int .i64 x5, .int .i64 x6, .int .i64 x7], .int .i64 a3] w fun e w' => e = .returned (.tuple #[.slice none 0 0, .int .i64 (askedF l x1 x2 x3 a3).2]) ∧ Below w.heap.size w w' := by
  obtain ⟨hV, hW, hm, h5, h3⟩ := fit_parts h
  have hl4 := valid_short hV
  have HR := Aside0.mk hr0
  have HG := Aside0.mk hG
  have HV := Aside0.mk ((valid_f l (by omega)).trans (congrArg some hV))
  have HW := Aside0.mk ((word_f 1 x1 x2 x3 x4 x5 x6 x7).trans (congrArg some hW))
  have hne : (x2 != a1) = false := by simp [hm]
  have HN := Aside0.mk (valid_nodup hV)
  have HA := Aside0.mk (valid_all hV)
  have HP := Aside0.mk (word_parts hW)
  have HF := Aside0.mk (range_parts h3)
  have H5 := Aside0.mk h5
  have H3 := Aside0.mk h3
  have i0 : ∀ w, (Instr.index 115 (.agg #[.int .i64 1, .func (.func 65) #[] #[], .int .i64 3, .func (.func 66) #[] #[]]) (.int .i64 0)).run Tryd.prog w = .ok (.agg #[.int .i64 1, .func (.func 65) #[] #[]]) w := fun _ => by kernel_rfl
  have i1 : ∀ w, (Instr.index 115 (.agg #[.int .i64 1, .func (.func 65) #[] #[], .int .i64 3, .func (.func 66) #[] #[]]) (.int .i64 1)).run Tryd.prog w = .ok (.agg #[.int .i64 3, .func (.func 66) #[] #[]]) w := fun _ => by kernel_rfl
  have hcb : ((askedF l x1 x2 x3 a3).2 != 0) = true := bne_iff_ne.2 hcode
  have hmk := fun w => run_makeMap (P := Tryd.prog) 108 w
  clear hr0 h5 h3 hG h hV hW hm
  go_enter Tryd.func26, Tryd.ntmps26
  go_wp2_with (first
    | (go_at_call 28; refine (sponsor_Valid.calls _ A0 c0 l _ _ (Kd.C_alloc HR.out _) hc0 HV.out).mono ?_; rintro e w1 ⟨rfl, hb1⟩; have hbx1 := fun o => hb1.cell (p := ⟨w.heap.size, o, none⟩) (by simp); have hs1 : w.heap.size + 1 ≤ w1.heap.size := (by simpa using hb1.size))
    | (go_at_call 63; refine (sponsor_isWord.calls 1 _ _ _ _ _ _ _ _ _ _ HW.out).mono ?_; rintro e w2 ⟨rfl, hb2⟩; have hbx2 := fun o => hb2.cell (p := ⟨w.heap.size, o, none⟩) (show w.heap.size < w1.heap.size from by omega))
    | (go_at_call 64; refine (in_calls x5 2000000 _ _ H5.out).mono ?_; rintro e w3 ⟨rfl, hd3⟩; clear H5; have hbd3 := hd3.below; have hs3 : w.heap.size + 1 ≤ w3.heap.size := (by have := hb2.size; have := hbd3.size; omega); have hbx3 := fun o => hbd3.cell (p := ⟨w.heap.size, o, none⟩) (show w.heap.size < w2.heap.size from by have := hb2.size; omega))
    | (go_at_call 64; refine (in_calls a3 999999988 _ _ H3.out).mono ?_; rintro e w4 ⟨rfl, hd4⟩; have hbd4 := hd4.below; have HX : Aside0 (∀ o, w4.cell? ⟨w.heap.size, o, none⟩ = (w.alloc (.cells #[.int .i64 1, .int .i64 x1, .int .i64 x2, .int .i64 x3, .int .i64 x4, .int .i64 x5, .int .i64 x6, .int .i64 x7] 54)).cell? ⟨w.heap.size, o, none⟩) := ⟨fun o => ((((hbd4.cell (p := ⟨w.heap.size, o, none⟩) (show w.heap.size < w3.heap.size from by omega)).trans (hbx3 o)).trans (hbx2 o)).trans (hbx1 o))⟩; have HB4 : Aside0 (Below w.heap.size w w4) := ⟨ra_step (ra_step (ra_step (ra_step (ra_alloc (Below.refl _ _) _) hb1) hb2) hbd3) hbd4⟩; have hs4 : w.heap.size + 1 ≤ w4.heap.size := (by have := hbd4.size; omega); clear hbx1 hbx2 hbx3 hb1 hb2 hd3 hbd3 hd4 hbd4 hs1 hs3))
  go_loopw [46] (fun sk wr => ∃ (k nn : Nat) (D : DataW Unit), k ≤ l.length ∧ sk = .int .i64 k ∧ nn ≤ k ∧ Aside0 (wr.ownsMap Tryd.prog 3 halfElem w4.heap.size nn D) ∧ Aside0 (Tab D (l.take k)) ∧ Aside0 (Below w4.heap.size w4 wr) ∧ Aside0 (wr.cell? ⟨w4.heap.size + 1, 0, none⟩ = some (.map (some w4.heap.size)) ∧ wr.cell? ⟨w4.heap.size + 1, 1, none⟩ = some (.int .i64 a3)) ∧ w4.heap.size + 2 ≤ wr.heap.size) (fun sk _ => l.length - (intOf sk).toNat)
  case atStart =>
    refine ⟨0, 0, .map [], Nat.zero_le _, rfl, Nat.le_refl _, ⟨(World.ownsMap_made w4 Tryd.prog 3 halfElem).alloc _⟩, ⟨Tab.empty⟩, ⟨((Below.refl _ _).alloc (Nat.le_refl _) _).alloc (by simp) _⟩, ⟨by simp [go_sem], by simp [go_sem]⟩, by simp⟩
  case round =>
    obtain ⟨k, nn, D, hk, rfl, hnn, HO, HT, HB, HC, hsr⟩ := hrel
    by_cases hlt : k < l.length
    · obtain ⟨ad, rfl, c0_, c1, c2, c3, c4, c5⟩ := at_T68 (Kd.C_below HR.out (ra_step HB4.out HB.out)) (k : Int) (by omega) (by omega)
      obtain ⟨d0, d1⟩ := HC.out
      have d0a := fun o => Lib.cell?_alloc_some (W := wr) o d0
      have d1a := fun o => Lib.cell?_alloc_some (W := wr) o d1
      simp only [Int.toNat_natCast] at c0_ c1 c2 c3 c4 c5
      have HT2 := Aside0.mk (HT.out.next hlt HN.out)
      have hkey := Maps.keyOf_int_mk Tryd.underlying3 (wf60 (HA.out (rd_T68 l k) (by simp [rd_T68, List.getD, hlt])))
      have hmax : nn < maxLen := (by unfold maxLen; omega)
      generalize rd_T68 l k = h at c0_ c1 c2 c3 c4 c5 HT2 hkey
      go_wp2_with (at_mapUpdate; refine wpList_mapUpdate_own _ rfl _ _ _ 108 rfl 3 68 (Maps.int_keyed Tryd.underlying3) Tryd.underlying108 halfElem w4.heap.size nn D rfl (HO.out.alloc _) hmax _ _ _ rfl rfl hkey (halfD h) [] (halfElem_mk h) ?_; intro w6 ho6 hg6)
      go_roundw
      case rel =>
        have hs6 := hg6.size
        simp at hs6
        refine ⟨k + 1, nn + 1, _, by omega, by go_num, by omega, ⟨ho6⟩, ⟨HT2.out⟩, ⟨(HB.out.alloc (by omega) _).grown hg6 (by simp; omega) (fun j hj => by injection hj with hj; omega)⟩, ⟨?_, ?_⟩, by omega⟩
        · rw [hg6.cell_far _ (by simp; omega) (by simp)]; exact Lib.cell?_alloc_some _ d0
        · rw [hg6.cell_far _ (by simp; omega) (by simp)]; exact Lib.cell?_alloc_some _ d1
      case measure => simp [intOf]; omega
    · have hkl : k = l.length := by omega
      obtain ⟨d0, d1⟩ := HC.out
      have HT2 : Aside0 (Tab D l) := ⟨by have := HT.out; rwa [hkl, List.take_length] at this⟩
      have hw_ := fun o => (HB.out.cell (p := ⟨w.heap.size, o, none⟩) (show w.heap.size < w4.heap.size from by omega)).trans (HX.out o)
      have d0a := fun o => Lib.cell?_alloc_some (W := wr) o d0
      have d1a := fun o => Lib.cell?_alloc_some (W := wr) o d1
      have d0b := fun o p => Lib.cell?_alloc_some (W := wr.alloc o) p (d0a o)
      have d1b := fun o p => Lib.cell?_alloc_some (W := wr.alloc o) p (d1a o)
      have e0 : wr.cell? ⟨w.heap.size, 0, none⟩ = some (.int .i64 1) := (hw_ 0).trans (by simp [go_sem])
      have e0a := fun o => Lib.cell?_alloc_some (W := wr) o e0
      have e0b := fun o p => Lib.cell?_alloc_some (W := wr.alloc o) p (e0a o)
      have e1 : wr.cell? ⟨w.heap.size, 1, none⟩ = some (.int .i64 x1) := (hw_ 1).trans (by simp [go_sem])
      have e1a := fun o => Lib.cell?_alloc_some (W := wr) o e1
      have e1b := fun o p => Lib.cell?_alloc_some (W := wr.alloc o) p (e1a o)
      have e2 : wr.cell? ⟨w.heap.size, 2, none⟩ = some (.int .i64 x2) := (hw_ 2).trans (by simp [go_sem])
      have e2a := fun o => Lib.cell?_alloc_some (W := wr) o e2
      have e2b := fun o p => Lib.cell?_alloc_some (W := wr.alloc o) p (e2a o)
      have e3 : wr.cell? ⟨w.heap.size, 3, none⟩ = some (.int .i64 x3) := (hw_ 3).trans (by simp [go_sem])
      have e3a := fun o => Lib.cell?_alloc_some (W := wr) o e3
      have e3b := fun o p => Lib.cell?_alloc_some (W := wr.alloc o) p (e3a o)
      have e4 : wr.cell? ⟨w.heap.size, 4, none⟩ = some (.int .i64 x4) := (hw_ 4).trans (by simp [go_sem])
      have e4a := fun o => Lib.cell?_alloc_some (W := wr) o e4
      have e4b := fun o p => Lib.cell?_alloc_some (W := wr.alloc o) p (e4a o)
      have e5 : wr.cell? ⟨w.heap.size, 5, none⟩ = some (.int .i64 x5) := (hw_ 5).trans (by simp [go_sem])
      have e5a := fun o => Lib.cell?_alloc_some (W := wr) o e5
      have e5b := fun o p => Lib.cell?_alloc_some (W := wr.alloc o) p (e5a o)
      have e6 : wr.cell? ⟨w.heap.size, 6, none⟩ = some (.int .i64 x6) := (hw_ 6).trans (by simp [go_sem])
      have e6a := fun o => Lib.cell?_alloc_some (W := wr) o e6
      have e6b := fun o p => Lib.cell?_alloc_some (W := wr.alloc o) p (e6a o)
      have e7 : wr.cell? ⟨w.heap.size, 7, none⟩ = some (.int .i64 x7) := (hw_ 7).trans (by simp [go_sem])
      have e7a := fun o => Lib.cell?_alloc_some (W := wr) o e7
      have e7b := fun o p => Lib.cell?_alloc_some (W := wr.alloc o) p (e7a o)
      clear hw_
      go_wp2
      refine wp_loop_rounds 4 ?_
      rw [rounds_succ]
      go_wp2_with ((go_at_call 65; refine (asked_any w4.heap.size nn D l 1 x1 x2 x3 x4 x5 x6 x7 a3 _ (HO.out.alloc _) HT2.out (by omega) (HG.out.later (ra_alloc (ra_step HB4.out HB.out) _)) HP.out.1 HP.out.2.1 HP.out.2.2 HF.out hl4).mono ?_; rintro e w7 ⟨⟨rfl, n7, D7, hn7, ho7, ht7⟩, hg7⟩; have hb7 : Below w.heap.size w w7 := (ra_alloc (ra_step HB4.out HB.out) _).grown hg7 (by simp; omega) (fun j hj => by injection hj with hj; omega); have HO7 := Aside0.mk ho7; have HT7 := Aside0.mk ht7; have HB7 := Aside0.mk hb7; clear ho7 ht7 hb7))
      go_ret2
      exact ⟨rfl, HB7.out⟩
set_option maxHeartbeats 4000000 in
theorem hear_asked_ok (A0 : Option Addr) (c0 : Nat) (l : List S68) (a1 x1 x2 x3 x4 x5 x6 x7 a3 : Int) (w : World) (hr0 : Kd.C k68 w A0 l.length l) (hc0 : l.length ≤ c0) (hG : Laid w) (h : fit68 l a1 1 x1 x2 x3 x4 x5 a3 = true) (hcode : (askedF l x1 x2 x3 a3).2 = 0) :
    Calls Tryd.prog 26 #[.slice A0 l.length c0, .int .i64 a1, .agg #[.int .i64 1, .int .i64 x1, .int .i64 x2, .int .i64 x3, .int .i64 x4, .int .i64 x5, .int .i64 x6, .int .i64 x7], .int .i64 a3] w fun e w' => ∃ v : Value, e = .returned (.tuple #[v, .int .i64 0]) ∧ Kd.R k68 68 w' w.heap.size (fun _ => True) v (sortH (askedF l x1 x2 x3 a3).1) ∧ Below w.heap.size w w' := by
  obtain ⟨hV, hW, hm, h5, h3⟩ := fit_parts h
  have hl4 := valid_short hV
  have HR := Aside0.mk hr0
  have HG := Aside0.mk hG
  have HV := Aside0.mk ((valid_f l (by omega)).trans (congrArg some hV))
  have HW := Aside0.mk ((word_f 1 x1 x2 x3 x4 x5 x6 x7).trans (congrArg some hW))
  have hne : (x2 != a1) = false := by simp [hm]
  have HN := Aside0.mk (valid_nodup hV)
  have HA := Aside0.mk (valid_all hV)
  have HP := Aside0.mk (word_parts hW)
  have HF := Aside0.mk (range_parts h3)
  have H5 := Aside0.mk h5
  have H3 := Aside0.mk h3
  have i0 : ∀ w, (Instr.index 115 (.agg #[.int .i64 1, .func (.func 65) #[] #[], .int .i64 3, .func (.func 66) #[] #[]]) (.int .i64 0)).run Tryd.prog w = .ok (.agg #[.int .i64 1, .func (.func 65) #[] #[]]) w := fun _ => by kernel_rfl
  have i1 : ∀ w, (Instr.index 115 (.agg #[.int .i64 1, .func (.func 65) #[] #[], .int .i64 3, .func (.func 66) #[] #[]]) (.int .i64 1)).run Tryd.prog w = .ok (.agg #[.int .i64 3, .func (.func 66) #[] #[]]) w := fun _ => by kernel_rfl
  have hcb : ((askedF l x1 x2 x3 a3).2 != 0) = false := by simp [hcode]
  have HWF := Aside0.mk (asked_wf x2 x3 a3 HA.out HP.out.1)
  have hmk := fun w => run_makeMap (P := Tryd.prog) 108 w
  clear hr0 h5 h3 hG h hV hW hm
  go_enter Tryd.func26, Tryd.ntmps26
  go_wp2_with (first
    | (go_at_call 28; refine (sponsor_Valid.calls _ A0 c0 l _ _ (Kd.C_alloc HR.out _) hc0 HV.out).mono ?_; rintro e w1 ⟨rfl, hb1⟩; have hbx1 := fun o => hb1.cell (p := ⟨w.heap.size, o, none⟩) (by simp); have hs1 : w.heap.size + 1 ≤ w1.heap.size := (by simpa using hb1.size))
    | (go_at_call 63; refine (sponsor_isWord.calls 1 _ _ _ _ _ _ _ _ _ _ HW.out).mono ?_; rintro e w2 ⟨rfl, hb2⟩; have hbx2 := fun o => hb2.cell (p := ⟨w.heap.size, o, none⟩) (show w.heap.size < w1.heap.size from by omega))
    | (go_at_call 64; refine (in_calls x5 2000000 _ _ H5.out).mono ?_; rintro e w3 ⟨rfl, hd3⟩; clear H5; have hbd3 := hd3.below; have hs3 : w.heap.size + 1 ≤ w3.heap.size := (by have := hb2.size; have := hbd3.size; omega); have hbx3 := fun o => hbd3.cell (p := ⟨w.heap.size, o, none⟩) (show w.heap.size < w2.heap.size from by have := hb2.size; omega))
    | (go_at_call 64; refine (in_calls a3 999999988 _ _ H3.out).mono ?_; rintro e w4 ⟨rfl, hd4⟩; have hbd4 := hd4.below; have HX : Aside0 (∀ o, w4.cell? ⟨w.heap.size, o, none⟩ = (w.alloc (.cells #[.int .i64 1, .int .i64 x1, .int .i64 x2, .int .i64 x3, .int .i64 x4, .int .i64 x5, .int .i64 x6, .int .i64 x7] 54)).cell? ⟨w.heap.size, o, none⟩) := ⟨fun o => ((((hbd4.cell (p := ⟨w.heap.size, o, none⟩) (show w.heap.size < w3.heap.size from by omega)).trans (hbx3 o)).trans (hbx2 o)).trans (hbx1 o))⟩; have HB4 : Aside0 (Below w.heap.size w w4) := ⟨ra_step (ra_step (ra_step (ra_step (ra_alloc (Below.refl _ _) _) hb1) hb2) hbd3) hbd4⟩; have hs4 : w.heap.size + 1 ≤ w4.heap.size := (by have := hbd4.size; omega); clear hbx1 hbx2 hbx3 hb1 hb2 hd3 hbd3 hd4 hbd4 hs1 hs3))
  go_loopw [46] (fun sk wr => ∃ (k nn : Nat) (D : DataW Unit), k ≤ l.length ∧ sk = .int .i64 k ∧ nn ≤ k ∧ Aside0 (wr.ownsMap Tryd.prog 3 halfElem w4.heap.size nn D) ∧ Aside0 (Tab D (l.take k)) ∧ Aside0 (Below w4.heap.size w4 wr) ∧ Aside0 (wr.cell? ⟨w4.heap.size + 1, 0, none⟩ = some (.map (some w4.heap.size)) ∧ wr.cell? ⟨w4.heap.size + 1, 1, none⟩ = some (.int .i64 a3)) ∧ w4.heap.size + 2 ≤ wr.heap.size) (fun sk _ => l.length - (intOf sk).toNat)
  case atStart =>
    refine ⟨0, 0, .map [], Nat.zero_le _, rfl, Nat.le_refl _, ⟨(World.ownsMap_made w4 Tryd.prog 3 halfElem).alloc _⟩, ⟨Tab.empty⟩, ⟨((Below.refl _ _).alloc (Nat.le_refl _) _).alloc (by simp) _⟩, ⟨by simp [go_sem], by simp [go_sem]⟩, by simp⟩
  case round =>
    obtain ⟨k, nn, D, hk, rfl, hnn, HO, HT, HB, HC, hsr⟩ := hrel
    by_cases hlt : k < l.length
    · obtain ⟨ad, rfl, c0_, c1, c2, c3, c4, c5⟩ := at_T68 (Kd.C_below HR.out (ra_step HB4.out HB.out)) (k : Int) (by omega) (by omega)
      obtain ⟨d0, d1⟩ := HC.out
      have d0a := fun o => Lib.cell?_alloc_some (W := wr) o d0
      have d1a := fun o => Lib.cell?_alloc_some (W := wr) o d1
      simp only [Int.toNat_natCast] at c0_ c1 c2 c3 c4 c5
      have HT2 := Aside0.mk (HT.out.next hlt HN.out)
      have hkey := Maps.keyOf_int_mk Tryd.underlying3 (wf60 (HA.out (rd_T68 l k) (by simp [rd_T68, List.getD, hlt])))
      have hmax : nn < maxLen := (by unfold maxLen; omega)
      generalize rd_T68 l k = h at c0_ c1 c2 c3 c4 c5 HT2 hkey
      go_wp2_with (at_mapUpdate; refine wpList_mapUpdate_own _ rfl _ _ _ 108 rfl 3 68 (Maps.int_keyed Tryd.underlying3) Tryd.underlying108 halfElem w4.heap.size nn D rfl (HO.out.alloc _) hmax _ _ _ rfl rfl hkey (halfD h) [] (halfElem_mk h) ?_; intro w6 ho6 hg6)
      go_roundw
      case rel =>
        have hs6 := hg6.size
        simp at hs6
        refine ⟨k + 1, nn + 1, _, by omega, by go_num, by omega, ⟨ho6⟩, ⟨HT2.out⟩, ⟨(HB.out.alloc (by omega) _).grown hg6 (by simp; omega) (fun j hj => by injection hj with hj; omega)⟩, ⟨?_, ?_⟩, by omega⟩
        · rw [hg6.cell_far _ (by simp; omega) (by simp)]; exact Lib.cell?_alloc_some _ d0
        · rw [hg6.cell_far _ (by simp; omega) (by simp)]; exact Lib.cell?_alloc_some _ d1
      case measure => simp [intOf]; omega
    · have hkl : k = l.length := by omega
      obtain ⟨d0, d1⟩ := HC.out
      have HT2 : Aside0 (Tab D l) := ⟨by have := HT.out; rwa [hkl, List.take_length] at this⟩
      have hw_ := fun o => (HB.out.cell (p := ⟨w.heap.size, o, none⟩) (show w.heap.size < w4.heap.size from by omega)).trans (HX.out o)
      have d0a := fun o => Lib.cell?_alloc_some (W := wr) o d0
      have d1a := fun o => Lib.cell?_alloc_some (W := wr) o d1
      have d0b := fun o p => Lib.cell?_alloc_some (W := wr.alloc o) p (d0a o)
      have d1b := fun o p => Lib.cell?_alloc_some (W := wr.alloc o) p (d1a o)
      have e0 : wr.cell? ⟨w.heap.size, 0, none⟩ = some (.int .i64 1) := (hw_ 0).trans (by simp [go_sem])
      have e0a := fun o => Lib.cell?_alloc_some (W := wr) o e0
      have e0b := fun o p => Lib.cell?_alloc_some (W := wr.alloc o) p (e0a o)
      have e1 : wr.cell? ⟨w.heap.size, 1, none⟩ = some (.int .i64 x1) := (hw_ 1).trans (by simp [go_sem])
      have e1a := fun o => Lib.cell?_alloc_some (W := wr) o e1
      have e1b := fun o p => Lib.cell?_alloc_some (W := wr.alloc o) p (e1a o)
      have e2 : wr.cell? ⟨w.heap.size, 2, none⟩ = some (.int .i64 x2) := (hw_ 2).trans (by simp [go_sem])
      have e2a := fun o => Lib.cell?_alloc_some (W := wr) o e2
      have e2b := fun o p => Lib.cell?_alloc_some (W := wr.alloc o) p (e2a o)
      have e3 : wr.cell? ⟨w.heap.size, 3, none⟩ = some (.int .i64 x3) := (hw_ 3).trans (by simp [go_sem])
      have e3a := fun o => Lib.cell?_alloc_some (W := wr) o e3
      have e3b := fun o p => Lib.cell?_alloc_some (W := wr.alloc o) p (e3a o)
      have e4 : wr.cell? ⟨w.heap.size, 4, none⟩ = some (.int .i64 x4) := (hw_ 4).trans (by simp [go_sem])
      have e4a := fun o => Lib.cell?_alloc_some (W := wr) o e4
      have e4b := fun o p => Lib.cell?_alloc_some (W := wr.alloc o) p (e4a o)
      have e5 : wr.cell? ⟨w.heap.size, 5, none⟩ = some (.int .i64 x5) := (hw_ 5).trans (by simp [go_sem])
      have e5a := fun o => Lib.cell?_alloc_some (W := wr) o e5
      have e5b := fun o p => Lib.cell?_alloc_some (W := wr.alloc o) p (e5a o)
      have e6 : wr.cell? ⟨w.heap.size, 6, none⟩ = some (.int .i64 x6) := (hw_ 6).trans (by simp [go_sem])
      have e6a := fun o => Lib.cell?_alloc_some (W := wr) o e6
      have e6b := fun o p => Lib.cell?_alloc_some (W := wr.alloc o) p (e6a o)
      have e7 : wr.cell? ⟨w.heap.size, 7, none⟩ = some (.int .i64 x7) := (hw_ 7).trans (by simp [go_sem])
      have e7a := fun o => Lib.cell?_alloc_some (W := wr) o e7
      have e7b := fun o p => Lib.cell?_alloc_some (W := wr.alloc o) p (e7a o)
      clear hw_
      go_wp2
      refine wp_loop_rounds 4 ?_
      rw [rounds_succ]
      go_wp2_with (first
        | (go_at_call 65; refine (asked_any w4.heap.size nn D l 1 x1 x2 x3 x4 x5 x6 x7 a3 _ (HO.out.alloc _) HT2.out (by omega) (HG.out.later (ra_alloc (ra_step HB4.out HB.out) _)) HP.out.1 HP.out.2.1 HP.out.2.2 HF.out hl4).mono ?_; rintro e w7 ⟨⟨rfl, n7, D7, hn7, ho7, ht7⟩, hg7⟩; have d0c := (hg7.cell_far (a := ⟨w4.heap.size + 1, 0, none⟩) (by simp; omega) (by simp)).trans (d0a _); have hb7 : Below w.heap.size w w7 := (ra_alloc (ra_step HB4.out HB.out) _).grown hg7 (by simp; omega) (fun j hj => by injection hj with hj; omega); have HO7 := Aside0.mk ho7; have HT7 := Aside0.mk ht7; have HB7 := Aside0.mk hb7; clear ho7 ht7 hb7)
        | (go_at_call 67; refine (list_any w4.heap.size n7 D7 _ w7 HO7.out HT7.out (Nat.le_trans HWF.out.1 (by omega)) HWF.out.2).mono ?_; rintro e w8 ⟨v8, rfl, hR8, hb8⟩))
      go_ret2
      exact ⟨v8, rfl, Kd.R_lower hR8 HB7.out.size, ra_step HB7.out hb8⟩
set_option maxHeartbeats 4000000 in
theorem hear_proved_bad (A0 : Option Addr) (c0 : Nat) (l : List S68) (a1 x1 x2 x3 x4 x5 x6 x7 a3 : Int) (w : World) (hr0 : Kd.C k68 w A0 l.length l) (hc0 : l.length ≤ c0) (hG : Laid w) (h : fit68 l a1 3 x1 x2 x3 x4 x5 a3 = true) (hcode : (provedF l x1 x3 x4 x5).2 ≠ 0) :
    Calls Tryd.prog 26 #[.slice A0 l.length c0, .int .i64 a1, .agg #[.int .i64 3, .int .i64 x1, .int .i64 x2, .int .i64 x3, .int .i64 x4, .int .i64 x5, .int .i64 x6, .int .i64 x7], .int .i64 a3] w fun e w' => e = .returned (.tuple #[.slice none 0 0, .int .i64 (provedF l x1 x3 x4 x5).2]) ∧ Below w.heap.size w w' := by
  obtain ⟨hV, hW, hm, h5, h3⟩ := fit_parts h
  have hl4 := valid_short hV
  have HR := Aside0.mk hr0
  have HG := Aside0.mk hG
  have HV := Aside0.mk ((valid_f l (by omega)).trans (congrArg some hV))
  have HW := Aside0.mk ((word_f 3 x1 x2 x3 x4 x5 x6 x7).trans (congrArg some hW))
  have hne : (x2 != a1) = false := by simp [hm]
  have HN := Aside0.mk (valid_nodup hV)
  have HA := Aside0.mk (valid_all hV)
  have HP := Aside0.mk (word_parts hW)
  have HF := Aside0.mk (range_parts h3)
  have H5 := Aside0.mk h5
  have H3 := Aside0.mk h3
  have i0 : ∀ w, (Instr.index 115 (.agg #[.int .i64 1, .func (.func 65) #[] #[], .int .i64 3, .func (.func 66) #[] #[]]) (.int .i64 0)).run Tryd.prog w = .ok (.agg #[.int .i64 1, .func (.func 65) #[] #[]]) w := fun _ => by kernel_rfl
  have i1 : ∀ w, (Instr.index 115 (.agg #[.int .i64 1, .func (.func 65) #[] #[], .int .i64 3, .func (.func 66) #[] #[]]) (.int .i64 1)).run Tryd.prog w = .ok (.agg #[.int .i64 3, .func (.func 66) #[] #[]]) w := fun _ => by kernel_rfl
  have hcb : ((provedF l x1 x3 x4 x5).2 != 0) = true := bne_iff_ne.2 hcode
  have hmk := fun w => run_makeMap (P := Tryd.prog) 108 w
  clear hr0 h5 h3 hG h hV hW hm
  go_enter Tryd.func26, Tryd.ntmps26
  go_wp2_with (first
    | (go_at_call 28; refine (sponsor_Valid.calls _ A0 c0 l _ _ (Kd.C_alloc HR.out _) hc0 HV.out).mono ?_; rintro e w1 ⟨rfl, hb1⟩; have hbx1 := fun o => hb1.cell (p := ⟨w.heap.size, o, none⟩) (by simp); have hs1 : w.heap.size + 1 ≤ w1.heap.size := (by simpa using hb1.size))
    | (go_at_call 63; refine (sponsor_isWord.calls 1 _ _ _ _ _ _ _ _ _ _ HW.out).mono ?_; rintro e w2 ⟨rfl, hb2⟩; have hbx2 := fun o => hb2.cell (p := ⟨w.heap.size, o, none⟩) (show w.heap.size < w1.heap.size from by omega))
    | (go_at_call 64; refine (in_calls x5 2000000 _ _ H5.out).mono ?_; rintro e w3 ⟨rfl, hd3⟩; clear H5; have hbd3 := hd3.below; have hs3 : w.heap.size + 1 ≤ w3.heap.size := (by have := hb2.size; have := hbd3.size; omega); have hbx3 := fun o => hbd3.cell (p := ⟨w.heap.size, o, none⟩) (show w.heap.size < w2.heap.size from by have := hb2.size; omega))
    | (go_at_call 64; refine (in_calls a3 999999988 _ _ H3.out).mono ?_; rintro e w4 ⟨rfl, hd4⟩; have hbd4 := hd4.below; have HX : Aside0 (∀ o, w4.cell? ⟨w.heap.size, o, none⟩ = (w.alloc (.cells #[.int .i64 3, .int .i64 x1, .int .i64 x2, .int .i64 x3, .int .i64 x4, .int .i64 x5, .int .i64 x6, .int .i64 x7] 54)).cell? ⟨w.heap.size, o, none⟩) := ⟨fun o => ((((hbd4.cell (p := ⟨w.heap.size, o, none⟩) (show w.heap.size < w3.heap.size from by omega)).trans (hbx3 o)).trans (hbx2 o)).trans (hbx1 o))⟩; have HB4 : Aside0 (Below w.heap.size w w4) := ⟨ra_step (ra_step (ra_step (ra_step (ra_alloc (Below.refl _ _) _) hb1) hb2) hbd3) hbd4⟩; have hs4 : w.heap.size + 1 ≤ w4.heap.size := (by have := hbd4.size; omega); clear hbx1 hbx2 hbx3 hb1 hb2 hd3 hbd3 hd4 hbd4 hs1 hs3))
  go_loopw [46] (fun sk wr => ∃ (k nn : Nat) (D : DataW Unit), k ≤ l.length ∧ sk = .int .i64 k ∧ nn ≤ k ∧ Aside0 (wr.ownsMap Tryd.prog 3 halfElem w4.heap.size nn D) ∧ Aside0 (Tab D (l.take k)) ∧ Aside0 (Below w4.heap.size w4 wr) ∧ Aside0 (wr.cell? ⟨w4.heap.size + 1, 0, none⟩ = some (.map (some w4.heap.size)) ∧ wr.cell? ⟨w4.heap.size + 1, 1, none⟩ = some (.int .i64 a3)) ∧ w4.heap.size + 2 ≤ wr.heap.size) (fun sk _ => l.length - (intOf sk).toNat)
  case atStart =>
    refine ⟨0, 0, .map [], Nat.zero_le _, rfl, Nat.le_refl _, ⟨(World.ownsMap_made w4 Tryd.prog 3 halfElem).alloc _⟩, ⟨Tab.empty⟩, ⟨((Below.refl _ _).alloc (Nat.le_refl _) _).alloc (by simp) _⟩, ⟨by simp [go_sem], by simp [go_sem]⟩, by simp⟩
  case round =>
    obtain ⟨k, nn, D, hk, rfl, hnn, HO, HT, HB, HC, hsr⟩ := hrel
    by_cases hlt : k < l.length
    · obtain ⟨ad, rfl, c0_, c1, c2, c3, c4, c5⟩ := at_T68 (Kd.C_below HR.out (ra_step HB4.out HB.out)) (k : Int) (by omega) (by omega)
      obtain ⟨d0, d1⟩ := HC.out
      have d0a := fun o => Lib.cell?_alloc_some (W := wr) o d0
      have d1a := fun o => Lib.cell?_alloc_some (W := wr) o d1
      simp only [Int.toNat_natCast] at c0_ c1 c2 c3 c4 c5
      have HT2 := Aside0.mk (HT.out.next hlt HN.out)
      have hkey := Maps.keyOf_int_mk Tryd.underlying3 (wf60 (HA.out (rd_T68 l k) (by simp [rd_T68, List.getD, hlt])))
      have hmax : nn < maxLen := (by unfold maxLen; omega)
      generalize rd_T68 l k = h at c0_ c1 c2 c3 c4 c5 HT2 hkey
      go_wp2_with (at_mapUpdate; refine wpList_mapUpdate_own _ rfl _ _ _ 108 rfl 3 68 (Maps.int_keyed Tryd.underlying3) Tryd.underlying108 halfElem w4.heap.size nn D rfl (HO.out.alloc _) hmax _ _ _ rfl rfl hkey (halfD h) [] (halfElem_mk h) ?_; intro w6 ho6 hg6)
      go_roundw
      case rel =>
        have hs6 := hg6.size
        simp at hs6
        refine ⟨k + 1, nn + 1, _, by omega, by go_num, by omega, ⟨ho6⟩, ⟨HT2.out⟩, ⟨(HB.out.alloc (by omega) _).grown hg6 (by simp; omega) (fun j hj => by injection hj with hj; omega)⟩, ⟨?_, ?_⟩, by omega⟩
        · rw [hg6.cell_far _ (by simp; omega) (by simp)]; exact Lib.cell?_alloc_some _ d0
        · rw [hg6.cell_far _ (by simp; omega) (by simp)]; exact Lib.cell?_alloc_some _ d1
      case measure => simp [intOf]; omega
    · have hkl : k = l.length := by omega
      obtain ⟨d0, d1⟩ := HC.out
      have HT2 : Aside0 (Tab D l) := ⟨by have := HT.out; rwa [hkl, List.take_length] at this⟩
      have hw_ := fun o => (HB.out.cell (p := ⟨w.heap.size, o, none⟩) (show w.heap.size < w4.heap.size from by omega)).trans (HX.out o)
      have d0a := fun o => Lib.cell?_alloc_some (W := wr) o d0
      have d1a := fun o => Lib.cell?_alloc_some (W := wr) o d1
      have d0b := fun o p => Lib.cell?_alloc_some (W := wr.alloc o) p (d0a o)
      have d1b := fun o p => Lib.cell?_alloc_some (W := wr.alloc o) p (d1a o)
      have e0 : wr.cell? ⟨w.heap.size, 0, none⟩ = some (.int .i64 3) := (hw_ 0).trans (by simp [go_sem])
      have e0a := fun o => Lib.cell?_alloc_some (W := wr) o e0
      have e0b := fun o p => Lib.cell?_alloc_some (W := wr.alloc o) p (e0a o)
      have e1 : wr.cell? ⟨w.heap.size, 1, none⟩ = some (.int .i64 x1) := (hw_ 1).trans (by simp [go_sem])
      have e1a := fun o => Lib.cell?_alloc_some (W := wr) o e1
      have e1b := fun o p => Lib.cell?_alloc_some (W := wr.alloc o) p (e1a o)
      have e2 : wr.cell? ⟨w.heap.size, 2, none⟩ = some (.int .i64 x2) := (hw_ 2).trans (by simp [go_sem])
      have e2a := fun o => Lib.cell?_alloc_some (W := wr) o e2
      have e2b := fun o p => Lib.cell?_alloc_some (W := wr.alloc o) p (e2a o)
      have e3 : wr.cell? ⟨w.heap.size, 3, none⟩ = some (.int .i64 x3) := (hw_ 3).trans (by simp [go_sem])
      have e3a := fun o => Lib.cell?_alloc_some (W := wr) o e3
      have e3b := fun o p => Lib.cell?_alloc_some (W := wr.alloc o) p (e3a o)
      have e4 : wr.cell? ⟨w.heap.size, 4, none⟩ = some (.int .i64 x4) := (hw_ 4).trans (by simp [go_sem])
      have e4a := fun o => Lib.cell?_alloc_some (W := wr) o e4
      have e4b := fun o p => Lib.cell?_alloc_some (W := wr.alloc o) p (e4a o)
      have e5 : wr.cell? ⟨w.heap.size, 5, none⟩ = some (.int .i64 x5) := (hw_ 5).trans (by simp [go_sem])
      have e5a := fun o => Lib.cell?_alloc_some (W := wr) o e5
      have e5b := fun o p => Lib.cell?_alloc_some (W := wr.alloc o) p (e5a o)
      have e6 : wr.cell? ⟨w.heap.size, 6, none⟩ = some (.int .i64 x6) := (hw_ 6).trans (by simp [go_sem])
      have e6a := fun o => Lib.cell?_alloc_some (W := wr) o e6
      have e6b := fun o p => Lib.cell?_alloc_some (W := wr.alloc o) p (e6a o)
      have e7 : wr.cell? ⟨w.heap.size, 7, none⟩ = some (.int .i64 x7) := (hw_ 7).trans (by simp [go_sem])
      have e7a := fun o => Lib.cell?_alloc_some (W := wr) o e7
      have e7b := fun o p => Lib.cell?_alloc_some (W := wr.alloc o) p (e7a o)
      clear hw_
      go_wp2
      refine wp_loop_rounds 4 ?_
      rw [rounds_succ]
      go_wp2
      rw [rounds_succ]
      go_wp2_with ((go_at_call 66; refine (proved_any w4.heap.size nn D l 3 x1 x2 x3 x4 x5 x6 x7 a3 _ ((HO.out.alloc _).alloc _) HT2.out (by omega) HP.out.1).mono ?_; rintro e w7 ⟨⟨rfl, n7, D7, hn7, ho7, ht7⟩, hg7⟩; have hb7 : Below w.heap.size w w7 := (ra_alloc (ra_alloc (ra_step HB4.out HB.out) _) _).grown hg7 (by simp; omega) (fun j hj => by injection hj with hj; omega); have HO7 := Aside0.mk ho7; have HT7 := Aside0.mk ht7; have HB7 := Aside0.mk hb7; clear ho7 ht7 hb7))
      go_ret2
      exact ⟨rfl, HB7.out⟩
set_option maxHeartbeats 4000000 in
theorem hear_proved_ok (A0 : Option Addr) (c0 : Nat) (l : List S68) (a1 x1 x2 x3 x4 x5 x6 x7 a3 : Int) (w : World) (hr0 : Kd.C k68 w A0 l.length l) (hc0 : l.length ≤ c0) (hG : Laid w) (h : fit68 l a1 3 x1 x2 x3 x4 x5 a3 = true) (hcode : (provedF l x1 x3 x4 x5).2 = 0) :
    Calls Tryd.prog 26 #[.slice A0 l.length c0, .int .i64 a1, .agg #[.int .i64 3, .int .i64 x1, .int .i64 x2, .int .i64 x3, .int .i64 x4, .int .i64 x5, .int .i64 x6, .int .i64 x7], .int .i64 a3] w fun e w' => ∃ v : Value, e = .returned (.tuple #[v, .int .i64 0]) ∧ Kd.R k68 68 w' w.heap.size (fun _ => True) v (sortH (provedF l x1 x3 x4 x5).1) ∧ Below w.heap.size w w' := by
  obtain ⟨hV, hW, hm, h5, h3⟩ := fit_parts h
  have hl4 := valid_short hV
  have HR := Aside0.mk hr0
  have HG := Aside0.mk hG
  have HV := Aside0.mk ((valid_f l (by omega)).trans (congrArg some hV))
  have HW := Aside0.mk ((word_f 3 x1 x2 x3 x4 x5 x6 x7).trans (congrArg some hW))
  have hne : (x2 != a1) = false := by simp [hm]
  have HN := Aside0.mk (valid_nodup hV)
  have HA := Aside0.mk (valid_all hV)
  have HP := Aside0.mk (word_parts hW)
  have HF := Aside0.mk (range_parts h3)
  have H5 := Aside0.mk h5
  have H3 := Aside0.mk h3
  have i0 : ∀ w, (Instr.index 115 (.agg #[.int .i64 1, .func (.func 65) #[] #[], .int .i64 3, .func (.func 66) #[] #[]]) (.int .i64 0)).run Tryd.prog w = .ok (.agg #[.int .i64 1, .func (.func 65) #[] #[]]) w := fun _ => by kernel_rfl
  have i1 : ∀ w, (Instr.index 115 (.agg #[.int .i64 1, .func (.func 65) #[] #[], .int .i64 3, .func (.func 66) #[] #[]]) (.int .i64 1)).run Tryd.prog w = .ok (.agg #[.int .i64 3, .func (.func 66) #[] #[]]) w := fun _ => by kernel_rfl
  have hcb : ((provedF l x1 x3 x4 x5).2 != 0) = false := by simp [hcode]
  have HWF := Aside0.mk (proved_wf (x1 := x1) x3 x4 x5 HA.out)
  have hmk := fun w => run_makeMap (P := Tryd.prog) 108 w
  clear hr0 h5 h3 hG h hV hW hm
  go_enter Tryd.func26, Tryd.ntmps26
  go_wp2_with (first
    | (go_at_call 28; refine (sponsor_Valid.calls _ A0 c0 l _ _ (Kd.C_alloc HR.out _) hc0 HV.out).mono ?_; rintro e w1 ⟨rfl, hb1⟩; have hbx1 := fun o => hb1.cell (p := ⟨w.heap.size, o, none⟩) (by simp); have hs1 : w.heap.size + 1 ≤ w1.heap.size := (by simpa using hb1.size))
    | (go_at_call 63; refine (sponsor_isWord.calls 1 _ _ _ _ _ _ _ _ _ _ HW.out).mono ?_; rintro e w2 ⟨rfl, hb2⟩; have hbx2 := fun o => hb2.cell (p := ⟨w.heap.size, o, none⟩) (show w.heap.size < w1.heap.size from by omega))
    | (go_at_call 64; refine (in_calls x5 2000000 _ _ H5.out).mono ?_; rintro e w3 ⟨rfl, hd3⟩; clear H5; have hbd3 := hd3.below; have hs3 : w.heap.size + 1 ≤ w3.heap.size := (by have := hb2.size; have := hbd3.size; omega); have hbx3 := fun o => hbd3.cell (p := ⟨w.heap.size, o, none⟩) (show w.heap.size < w2.heap.size from by have := hb2.size; omega))
    | (go_at_call 64; refine (in_calls a3 999999988 _ _ H3.out).mono ?_; rintro e w4 ⟨rfl, hd4⟩; have hbd4 := hd4.below; have HX : Aside0 (∀ o, w4.cell? ⟨w.heap.size, o, none⟩ = (w.alloc (.cells #[.int .i64 3, .int .i64 x1, .int .i64 x2, .int .i64 x3, .int .i64 x4, .int .i64 x5, .int .i64 x6, .int .i64 x7] 54)).cell? ⟨w.heap.size, o, none⟩) := ⟨fun o => ((((hbd4.cell (p := ⟨w.heap.size, o, none⟩) (show w.heap.size < w3.heap.size from by omega)).trans (hbx3 o)).trans (hbx2 o)).trans (hbx1 o))⟩; have HB4 : Aside0 (Below w.heap.size w w4) := ⟨ra_step (ra_step (ra_step (ra_step (ra_alloc (Below.refl _ _) _) hb1) hb2) hbd3) hbd4⟩; have hs4 : w.heap.size + 1 ≤ w4.heap.size := (by have := hbd4.size; omega); clear hbx1 hbx2 hbx3 hb1 hb2 hd3 hbd3 hd4 hbd4 hs1 hs3))
  go_loopw [46] (fun sk wr => ∃ (k nn : Nat) (D : DataW Unit), k ≤ l.length ∧ sk = .int .i64 k ∧ nn ≤ k ∧ Aside0 (wr.ownsMap Tryd.prog 3 halfElem w4.heap.size nn D) ∧ Aside0 (Tab D (l.take k)) ∧ Aside0 (Below w4.heap.size w4 wr) ∧ Aside0 (wr.cell? ⟨w4.heap.size + 1, 0, none⟩ = some (.map (some w4.heap.size)) ∧ wr.cell? ⟨w4.heap.size + 1, 1, none⟩ = some (.int .i64 a3)) ∧ w4.heap.size + 2 ≤ wr.heap.size) (fun sk _ => l.length - (intOf sk).toNat)
  case atStart =>
    refine ⟨0, 0, .map [], Nat.zero_le _, rfl, Nat.le_refl _, ⟨(World.ownsMap_made w4 Tryd.prog 3 halfElem).alloc _⟩, ⟨Tab.empty⟩, ⟨((Below.refl _ _).alloc (Nat.le_refl _) _).alloc (by simp) _⟩, ⟨by simp [go_sem], by simp [go_sem]⟩, by simp⟩
  case round =>
    obtain ⟨k, nn, D, hk, rfl, hnn, HO, HT, HB, HC, hsr⟩ := hrel
    by_cases hlt : k < l.length
    · obtain ⟨ad, rfl, c0_, c1, c2, c3, c4, c5⟩ := at_T68 (Kd.C_below HR.out (ra_step HB4.out HB.out)) (k : Int) (by omega) (by omega)
      obtain ⟨d0, d1⟩ := HC.out
      have d0a := fun o => Lib.cell?_alloc_some (W := wr) o d0
      have d1a := fun o => Lib.cell?_alloc_some (W := wr) o d1
      simp only [Int.toNat_natCast] at c0_ c1 c2 c3 c4 c5
      have HT2 := Aside0.mk (HT.out.next hlt HN.out)
      have hkey := Maps.keyOf_int_mk Tryd.underlying3 (wf60 (HA.out (rd_T68 l k) (by simp [rd_T68, List.getD, hlt])))
      have hmax : nn < maxLen := (by unfold maxLen; omega)
      generalize rd_T68 l k = h at c0_ c1 c2 c3 c4 c5 HT2 hkey
      go_wp2_with (at_mapUpdate; refine wpList_mapUpdate_own _ rfl _ _ _ 108 rfl 3 68 (Maps.int_keyed Tryd.underlying3) Tryd.underlying108 halfElem w4.heap.size nn D rfl (HO.out.alloc _) hmax _ _ _ rfl rfl hkey (halfD h) [] (halfElem_mk h) ?_; intro w6 ho6 hg6)
      go_roundw
      case rel =>
        have hs6 := hg6.size
        simp at hs6
        refine ⟨k + 1, nn + 1, _, by omega, by go_num, by omega, ⟨ho6⟩, ⟨HT2.out⟩, ⟨(HB.out.alloc (by omega) _).grown hg6 (by simp; omega) (fun j hj => by injection hj with hj; omega)⟩, ⟨?_, ?_⟩, by omega⟩
        · rw [hg6.cell_far _ (by simp; omega) (by simp)]; exact Lib.cell?_alloc_some _ d0
        · rw [hg6.cell_far _ (by simp; omega) (by simp)]; exact Lib.cell?_alloc_some _ d1
      case measure => simp [intOf]; omega
    · have hkl : k = l.length := by omega
      obtain ⟨d0, d1⟩ := HC.out
      have HT2 : Aside0 (Tab D l) := ⟨by have := HT.out; rwa [hkl, List.take_length] at this⟩
      have hw_ := fun o => (HB.out.cell (p := ⟨w.heap.size, o, none⟩) (show w.heap.size < w4.heap.size from by omega)).trans (HX.out o)
      have d0a := fun o => Lib.cell?_alloc_some (W := wr) o d0
      have d1a := fun o => Lib.cell?_alloc_some (W := wr) o d1
      have d0b := fun o p => Lib.cell?_alloc_some (W := wr.alloc o) p (d0a o)
      have d1b := fun o p => Lib.cell?_alloc_some (W := wr.alloc o) p (d1a o)
      have e0 : wr.cell? ⟨w.heap.size, 0, none⟩ = some (.int .i64 3) := (hw_ 0).trans (by simp [go_sem])
      have e0a := fun o => Lib.cell?_alloc_some (W := wr) o e0
      have e0b := fun o p => Lib.cell?_alloc_some (W := wr.alloc o) p (e0a o)
      have e1 : wr.cell? ⟨w.heap.size, 1, none⟩ = some (.int .i64 x1) := (hw_ 1).trans (by simp [go_sem])
      have e1a := fun o => Lib.cell?_alloc_some (W := wr) o e1
      have e1b := fun o p => Lib.cell?_alloc_some (W := wr.alloc o) p (e1a o)
      have e2 : wr.cell? ⟨w.heap.size, 2, none⟩ = some (.int .i64 x2) := (hw_ 2).trans (by simp [go_sem])
      have e2a := fun o => Lib.cell?_alloc_some (W := wr) o e2
      have e2b := fun o p => Lib.cell?_alloc_some (W := wr.alloc o) p (e2a o)
      have e3 : wr.cell? ⟨w.heap.size, 3, none⟩ = some (.int .i64 x3) := (hw_ 3).trans (by simp [go_sem])
      have e3a := fun o => Lib.cell?_alloc_some (W := wr) o e3
      have e3b := fun o p => Lib.cell?_alloc_some (W := wr.alloc o) p (e3a o)
      have e4 : wr.cell? ⟨w.heap.size, 4, none⟩ = some (.int .i64 x4) := (hw_ 4).trans (by simp [go_sem])
      have e4a := fun o => Lib.cell?_alloc_some (W := wr) o e4
      have e4b := fun o p => Lib.cell?_alloc_some (W := wr.alloc o) p (e4a o)
      have e5 : wr.cell? ⟨w.heap.size, 5, none⟩ = some (.int .i64 x5) := (hw_ 5).trans (by simp [go_sem])
      have e5a := fun o => Lib.cell?_alloc_some (W := wr) o e5
      have e5b := fun o p => Lib.cell?_alloc_some (W := wr.alloc o) p (e5a o)
      have e6 : wr.cell? ⟨w.heap.size, 6, none⟩ = some (.int .i64 x6) := (hw_ 6).trans (by simp [go_sem])
      have e6a := fun o => Lib.cell?_alloc_some (W := wr) o e6
      have e6b := fun o p => Lib.cell?_alloc_some (W := wr.alloc o) p (e6a o)
      have e7 : wr.cell? ⟨w.heap.size, 7, none⟩ = some (.int .i64 x7) := (hw_ 7).trans (by simp [go_sem])
      have e7a := fun o => Lib.cell?_alloc_some (W := wr) o e7
      have e7b := fun o p => Lib.cell?_alloc_some (W := wr.alloc o) p (e7a o)
      clear hw_
      go_wp2
      refine wp_loop_rounds 4 ?_
      rw [rounds_succ]
      go_wp2
      rw [rounds_succ]
      go_wp2_with (first
        | (go_at_call 66; refine (proved_any w4.heap.size nn D l 3 x1 x2 x3 x4 x5 x6 x7 a3 _ ((HO.out.alloc _).alloc _) HT2.out (by omega) HP.out.1).mono ?_; rintro e w7 ⟨⟨rfl, n7, D7, hn7, ho7, ht7⟩, hg7⟩; have d0c := (hg7.cell_far (a := ⟨w4.heap.size + 1, 0, none⟩) (by simp; omega) (by simp)).trans (d0b _ _); have hb7 : Below w.heap.size w w7 := (ra_alloc (ra_alloc (ra_step HB4.out HB.out) _) _).grown hg7 (by simp; omega) (fun j hj => by injection hj with hj; omega); have HO7 := Aside0.mk ho7; have HT7 := Aside0.mk ht7; have HB7 := Aside0.mk hb7; clear ho7 ht7 hb7)
        | (go_at_call 67; refine (list_any w4.heap.size n7 D7 _ w7 HO7.out HT7.out (Nat.le_trans HWF.out.1 (by omega)) HWF.out.2).mono ?_; rintro e w8 ⟨v8, rfl, hR8, hb8⟩))
      go_ret2
      exact ⟨v8, rfl, Kd.R_lower hR8 HB7.out.size, ra_step HB7.out hb8⟩
set_option maxHeartbeats 4000000 in
theorem hear_other (A0 : Option Addr) (c0 : Nat) (l : List S68) (a1 x0 x1 x2 x3 x4 x5 x6 x7 a3 : Int) (w : World) (hr0 : Kd.C k68 w A0 l.length l) (hc0 : l.length ≤ c0) (hG : Laid w) (h : fit68 l a1 x0 x1 x2 x3 x4 x5 a3 = true) (hk1 : x0 ≠ 1) (hk3 : x0 ≠ 3) :
    Calls Tryd.prog 26 #[.slice A0 l.length c0, .int .i64 a1, .agg #[.int .i64 x0, .int .i64 x1, .int .i64 x2, .int .i64 x3, .int .i64 x4, .int .i64 x5, .int .i64 x6, .int .i64 x7], .int .i64 a3] w fun e w' => e = .returned (.tuple #[.slice none 0 0, .int .i64 9]) ∧ Below w.heap.size w w' := by
  obtain ⟨hV, hW, hm, h5, h3⟩ := fit_parts h
  have hl4 := valid_short hV
  have HR := Aside0.mk hr0
  have HG := Aside0.mk hG
  have HV := Aside0.mk ((valid_f l (by omega)).trans (congrArg some hV))
  have HW := Aside0.mk ((word_f x0 x1 x2 x3 x4 x5 x6 x7).trans (congrArg some hW))
  have hne : (x2 != a1) = false := by simp [hm]
  have HN := Aside0.mk (valid_nodup hV)
  have HA := Aside0.mk (valid_all hV)
  have HP := Aside0.mk (word_parts hW)
  have HF := Aside0.mk (range_parts h3)
  have H5 := Aside0.mk h5
  have H3 := Aside0.mk h3
  have i0 : ∀ w, (Instr.index 115 (.agg #[.int .i64 1, .func (.func 65) #[] #[], .int .i64 3, .func (.func 66) #[] #[]]) (.int .i64 0)).run Tryd.prog w = .ok (.agg #[.int .i64 1, .func (.func 65) #[] #[]]) w := fun _ => by kernel_rfl
  have i1 : ∀ w, (Instr.index 115 (.agg #[.int .i64 1, .func (.func 65) #[] #[], .int .i64 3, .func (.func 66) #[] #[]]) (.int .i64 1)).run Tryd.prog w = .ok (.agg #[.int .i64 3, .func (.func 66) #[] #[]]) w := fun _ => by kernel_rfl
  have hk1b : ((1 : Int) != x0) = true := bne_iff_ne.2 (Ne.symm hk1)
  have hk3b : ((3 : Int) != x0) = true := bne_iff_ne.2 (Ne.symm hk3)
  have hmk := fun w => run_makeMap (P := Tryd.prog) 108 w
  clear hr0 h5 h3 hG h hV hW hm
  go_enter Tryd.func26, Tryd.ntmps26
  go_wp2_with (first
    | (go_at_call 28; refine (sponsor_Valid.calls _ A0 c0 l _ _ (Kd.C_alloc HR.out _) hc0 HV.out).mono ?_; rintro e w1 ⟨rfl, hb1⟩; have hbx1 := fun o => hb1.cell (p := ⟨w.heap.size, o, none⟩) (by simp); have hs1 : w.heap.size + 1 ≤ w1.heap.size := (by simpa using hb1.size))
    | (go_at_call 63; refine (sponsor_isWord.calls 1 _ _ _ _ _ _ _ _ _ _ HW.out).mono ?_; rintro e w2 ⟨rfl, hb2⟩; have hbx2 := fun o => hb2.cell (p := ⟨w.heap.size, o, none⟩) (show w.heap.size < w1.heap.size from by omega))
    | (go_at_call 64; refine (in_calls x5 2000000 _ _ H5.out).mono ?_; rintro e w3 ⟨rfl, hd3⟩; clear H5; have hbd3 := hd3.below; have hs3 : w.heap.size + 1 ≤ w3.heap.size := (by have := hb2.size; have := hbd3.size; omega); have hbx3 := fun o => hbd3.cell (p := ⟨w.heap.size, o, none⟩) (show w.heap.size < w2.heap.size from by have := hb2.size; omega))
    | (go_at_call 64; refine (in_calls a3 999999988 _ _ H3.out).mono ?_; rintro e w4 ⟨rfl, hd4⟩; have hbd4 := hd4.below; have HX : Aside0 (∀ o, w4.cell? ⟨w.heap.size, o, none⟩ = (w.alloc (.cells #[.int .i64 x0, .int .i64 x1, .int .i64 x2, .int .i64 x3, .int .i64 x4, .int .i64 x5, .int .i64 x6, .int .i64 x7] 54)).cell? ⟨w.heap.size, o, none⟩) := ⟨fun o => ((((hbd4.cell (p := ⟨w.heap.size, o, none⟩) (show w.heap.size < w3.heap.size from by omega)).trans (hbx3 o)).trans (hbx2 o)).trans (hbx1 o))⟩; have HB4 : Aside0 (Below w.heap.size w w4) := ⟨ra_step (ra_step (ra_step (ra_step (ra_alloc (Below.refl _ _) _) hb1) hb2) hbd3) hbd4⟩; have hs4 : w.heap.size + 1 ≤ w4.heap.size := (by have := hbd4.size; omega); clear hbx1 hbx2 hbx3 hb1 hb2 hd3 hbd3 hd4 hbd4 hs1 hs3))
  go_loopw [46] (fun sk wr => ∃ (k nn : Nat) (D : DataW Unit), k ≤ l.length ∧ sk = .int .i64 k ∧ nn ≤ k ∧ Aside0 (wr.ownsMap Tryd.prog 3 halfElem w4.heap.size nn D) ∧ Aside0 (Tab D (l.take k)) ∧ Aside0 (Below w4.heap.size w4 wr) ∧ Aside0 (wr.cell? ⟨w4.heap.size + 1, 0, none⟩ = some (.map (some w4.heap.size)) ∧ wr.cell? ⟨w4.heap.size + 1, 1, none⟩ = some (.int .i64 a3)) ∧ w4.heap.size + 2 ≤ wr.heap.size) (fun sk _ => l.length - (intOf sk).toNat)
  case atStart =>
    refine ⟨0, 0, .map [], Nat.zero_le _, rfl, Nat.le_refl _, ⟨(World.ownsMap_made w4 Tryd.prog 3 halfElem).alloc _⟩, ⟨Tab.empty⟩, ⟨((Below.refl _ _).alloc (Nat.le_refl _) _).alloc (by simp) _⟩, ⟨by simp [go_sem], by simp [go_sem]⟩, by simp⟩
  case round =>
    obtain ⟨k, nn, D, hk, rfl, hnn, HO, HT, HB, HC, hsr⟩ := hrel
    by_cases hlt : k < l.length
    · obtain ⟨ad, rfl, c0_, c1, c2, c3, c4, c5⟩ := at_T68 (Kd.C_below HR.out (ra_step HB4.out HB.out)) (k : Int) (by omega) (by omega)
      obtain ⟨d0, d1⟩ := HC.out
      have d0a := fun o => Lib.cell?_alloc_some (W := wr) o d0
      have d1a := fun o => Lib.cell?_alloc_some (W := wr) o d1
      simp only [Int.toNat_natCast] at c0_ c1 c2 c3 c4 c5
      have HT2 := Aside0.mk (HT.out.next hlt HN.out)
      have hkey := Maps.keyOf_int_mk Tryd.underlying3 (wf60 (HA.out (rd_T68 l k) (by simp [rd_T68, List.getD, hlt])))
      have hmax : nn < maxLen := (by unfold maxLen; omega)
      generalize rd_T68 l k = h at c0_ c1 c2 c3 c4 c5 HT2 hkey
      go_wp2_with (at_mapUpdate; refine wpList_mapUpdate_own _ rfl _ _ _ 108 rfl 3 68 (Maps.int_keyed Tryd.underlying3) Tryd.underlying108 halfElem w4.heap.size nn D rfl (HO.out.alloc _) hmax _ _ _ rfl rfl hkey (halfD h) [] (halfElem_mk h) ?_; intro w6 ho6 hg6)
      go_roundw
      case rel =>
        have hs6 := hg6.size
        simp at hs6
        refine ⟨k + 1, nn + 1, _, by omega, by go_num, by omega, ⟨ho6⟩, ⟨HT2.out⟩, ⟨(HB.out.alloc (by omega) _).grown hg6 (by simp; omega) (fun j hj => by injection hj with hj; omega)⟩, ⟨?_, ?_⟩, by omega⟩
        · rw [hg6.cell_far _ (by simp; omega) (by simp)]; exact Lib.cell?_alloc_some _ d0
        · rw [hg6.cell_far _ (by simp; omega) (by simp)]; exact Lib.cell?_alloc_some _ d1
      case measure => simp [intOf]; omega
    · have hkl : k = l.length := by omega
      obtain ⟨d0, d1⟩ := HC.out
      have HT2 : Aside0 (Tab D l) := ⟨by have := HT.out; rwa [hkl, List.take_length] at this⟩
      have hw_ := fun o => (HB.out.cell (p := ⟨w.heap.size, o, none⟩) (show w.heap.size < w4.heap.size from by omega)).trans (HX.out o)
      have d0a := fun o => Lib.cell?_alloc_some (W := wr) o d0
      have d1a := fun o => Lib.cell?_alloc_some (W := wr) o d1
      have d0b := fun o p => Lib.cell?_alloc_some (W := wr.alloc o) p (d0a o)
      have d1b := fun o p => Lib.cell?_alloc_some (W := wr.alloc o) p (d1a o)
      have e0 : wr.cell? ⟨w.heap.size, 0, none⟩ = some (.int .i64 x0) := (hw_ 0).trans (by simp [go_sem])
      have e0a := fun o => Lib.cell?_alloc_some (W := wr) o e0
      have e0b := fun o p => Lib.cell?_alloc_some (W := wr.alloc o) p (e0a o)
      have e1 : wr.cell? ⟨w.heap.size, 1, none⟩ = some (.int .i64 x1) := (hw_ 1).trans (by simp [go_sem])
      have e1a := fun o => Lib.cell?_alloc_some (W := wr) o e1
      have e1b := fun o p => Lib.cell?_alloc_some (W := wr.alloc o) p (e1a o)
      have e2 : wr.cell? ⟨w.heap.size, 2, none⟩ = some (.int .i64 x2) := (hw_ 2).trans (by simp [go_sem])
      have e2a := fun o => Lib.cell?_alloc_some (W := wr) o e2
      have e2b := fun o p => Lib.cell?_alloc_some (W := wr.alloc o) p (e2a o)
      have e3 : wr.cell? ⟨w.heap.size, 3, none⟩ = some (.int .i64 x3) := (hw_ 3).trans (by simp [go_sem])
      have e3a := fun o => Lib.cell?_alloc_some (W := wr) o e3
      have e3b := fun o p => Lib.cell?_alloc_some (W := wr.alloc o) p (e3a o)
      have e4 : wr.cell? ⟨w.heap.size, 4, none⟩ = some (.int .i64 x4) := (hw_ 4).trans (by simp [go_sem])
      have e4a := fun o => Lib.cell?_alloc_some (W := wr) o e4
      have e4b := fun o p => Lib.cell?_alloc_some (W := wr.alloc o) p (e4a o)
      have e5 : wr.cell? ⟨w.heap.size, 5, none⟩ = some (.int .i64 x5) := (hw_ 5).trans (by simp [go_sem])
      have e5a := fun o => Lib.cell?_alloc_some (W := wr) o e5
      have e5b := fun o p => Lib.cell?_alloc_some (W := wr.alloc o) p (e5a o)
      have e6 : wr.cell? ⟨w.heap.size, 6, none⟩ = some (.int .i64 x6) := (hw_ 6).trans (by simp [go_sem])
      have e6a := fun o => Lib.cell?_alloc_some (W := wr) o e6
      have e6b := fun o p => Lib.cell?_alloc_some (W := wr.alloc o) p (e6a o)
      have e7 : wr.cell? ⟨w.heap.size, 7, none⟩ = some (.int .i64 x7) := (hw_ 7).trans (by simp [go_sem])
      have e7a := fun o => Lib.cell?_alloc_some (W := wr) o e7
      have e7b := fun o p => Lib.cell?_alloc_some (W := wr.alloc o) p (e7a o)
      clear hw_
      go_wp2
      refine wp_loop_rounds 4 ?_
      rw [rounds_succ]
      go_wp2
      rw [rounds_succ]
      go_wp2
      rw [rounds_succ]
      go_wp2
      go_ret2
      exact ⟨rfl, ra_alloc (ra_alloc (ra_step HB4.out HB.out) _) _⟩
/-- The answer: the list in order, or an error. -/
def ans68 (p : List S68 × Int) : List S68 × Int := if p.2 = 0 then (sortH p.1, 0) else ([], p.2)
def sponsor_Hear.f (l0 : List (S68)) (a1 : Int) (a2_0 : Int) (a2_1 : Int) (a2_2 : Int) (a2_3 : Int) (a2_4 : Int) (a2_5 : Int) (a2_6 : Int) (a2_7 : Int) (a3 : Int) : Option (List (S68) × Int) :=
  if fit68 l0 a1 a2_0 a2_1 a2_2 a2_3 a2_4 a2_5 a3 = true then (if a2_0 = 1 then some (ans68 (askedF l0 a2_1 a2_2 a2_3 a3)) else if a2_0 = 3 then some (ans68 (provedF l0 a2_1 a2_3 a2_4 a2_5)) else some ([], 9)) else (if l0.length < 4611686018427387904 then some ([], 1) else none)
/-- A sponsor's list after a word. -/
theorem sponsor_Hear.calls (A0 : Option Addr) (c0 : Nat) (l0 : List (S68)) (a1 : Int) (a2_0 : Int) (a2_1 : Int) (a2_2 : Int) (a2_3 : Int) (a2_4 : Int) (a2_5 : Int) (a2_6 : Int) (a2_7 : Int) (a3 : Int) (r1 : List (S68)) (r2 : Int) (w : World) (hG : Laid w) (hr0 : Kd.C k68 w A0 l0.length l0) (hc0 : l0.length ≤ c0) (h : sponsor_Hear.f l0 a1 a2_0 a2_1 a2_2 a2_3 a2_4 a2_5 a2_6 a2_7 a3 = some (r1, r2)) :
    Calls Tryd.prog 26 #[.slice A0 l0.length c0, .int .i64 a1, .agg #[.int .i64 a2_0, .int .i64 a2_1, .int .i64 a2_2, .int .i64 a2_3, .int .i64 a2_4, .int .i64 a2_5, .int .i64 a2_6, .int .i64 a2_7], .int .i64 a3] w fun e w' => ∃ v0_ : Value, e = .returned (.tuple #[v0_, .int .i64 r2]) ∧ Kd.R k68 68 w' w.heap.size (fun _ => True) v0_ r1 ∧ Below w.heap.size w w' := by
  unfold sponsor_Hear.f at h
  by_cases hf : fit68 l0 a1 a2_0 a2_1 a2_2 a2_3 a2_4 a2_5 a3 = true
  · rw [if_pos hf] at h
    by_cases h1 : a2_0 = 1
    · rw [if_pos h1] at h
      subst h1
      unfold ans68 at h
      by_cases hc : (askedF l0 a2_1 a2_2 a2_3 a3).2 = 0
      · rw [if_pos hc] at h
        obtain ⟨rfl, rfl⟩ := Prod.mk.inj (Option.some.inj h)
        exact hear_asked_ok A0 c0 l0 a1 a2_1 a2_2 a2_3 a2_4 a2_5 a2_6 a2_7 a3 w hr0 hc0 hG hf hc
      · rw [if_neg hc] at h
        obtain ⟨rfl, rfl⟩ := Prod.mk.inj (Option.some.inj h)
        exact (hear_asked_bad A0 c0 l0 a1 a2_1 a2_2 a2_3 a2_4 a2_5 a2_6 a2_7 a3 w hr0 hc0 hG hf hc).mono fun e w' ⟨he, hb⟩ => ⟨_, he, Kd.R_nil _ _ _ _ _, hb⟩
    · rw [if_neg h1] at h
      by_cases h3 : a2_0 = 3
      · rw [if_pos h3] at h
        subst h3
        unfold ans68 at h
        by_cases hc : (provedF l0 a2_1 a2_3 a2_4 a2_5).2 = 0
        · rw [if_pos hc] at h
          obtain ⟨rfl, rfl⟩ := Prod.mk.inj (Option.some.inj h)
          exact hear_proved_ok A0 c0 l0 a1 a2_1 a2_2 a2_3 a2_4 a2_5 a2_6 a2_7 a3 w hr0 hc0 hG hf hc
        · rw [if_neg hc] at h
          obtain ⟨rfl, rfl⟩ := Prod.mk.inj (Option.some.inj h)
          exact (hear_proved_bad A0 c0 l0 a1 a2_1 a2_2 a2_3 a2_4 a2_5 a2_6 a2_7 a3 w hr0 hc0 hG hf hc).mono fun e w' ⟨he, hb⟩ => ⟨_, he, Kd.R_nil _ _ _ _ _, hb⟩
      · rw [if_neg h3] at h
        obtain ⟨rfl, rfl⟩ := Prod.mk.inj (Option.some.inj h)
        exact (hear_other A0 c0 l0 a1 a2_0 a2_1 a2_2 a2_3 a2_4 a2_5 a2_6 a2_7 a3 w hr0 hc0 hG hf h1 h3).mono fun e w' ⟨he, hb⟩ => ⟨_, he, Kd.R_nil _ _ _ _ _, hb⟩
  · rw [if_neg hf] at h
    split at h
    · rename_i hlen
      obtain ⟨rfl, rfl⟩ := Prod.mk.inj (Option.some.inj h)
      exact (hear_unfit A0 c0 l0 a1 a2_0 a2_1 a2_2 a2_3 a2_4 a2_5 a2_6 a2_7 a3 w hr0 hc0 hlen (Bool.eq_false_iff.2 hf)).mono fun e w' ⟨he, hb⟩ => ⟨_, he, Kd.R_nil _ _ _ _ _, hb⟩
    · cases h

end Go.Proofs.YtncgeclkgmfppaaDoor.H
