/-
  What a sponsor tells of its list, in plain words.
-/
import Derived.Test.YtncgeclkgmfppaaDoorPlain
import Derived.Test.YtncgeclkgmfppaaDoorH10
namespace Go.Proofs.YtncgeclkgmfppaaDoor.H
open Go.RowKit
set_option linter.unusedVariables false
set_option linter.unusedSimpArgs false
/-- The word of a kind about an element. -/
def tellW (kd me : Int) (h : S68) : S54 := ⟨kd, h.f0, me, h.f1, h.f2, h.f5, ⟨0, 0⟩⟩
def tellL (kd me : Int) (pv : Bool) (l : List S68) : List S54 := (l.filter fun h => h.f4 == pv).map (tellW kd me)
theorem told_l0 (me kd : Int) (pv : Bool) (l : List S68) (hlen : l.length ≤ 100) : ∀ (m i k : Nat) (acc : List S54), l.length - i ≤ m → m + 1 ≤ k → i ≤ l.length → acc.length ≤ 100 + i → sponsor_told.l0 k me kd pv acc l (l.length : Int) (i : Int) = some (acc ++ tellL kd me pv (l.drop i)) := by
  intro m
  induction m with
  | zero =>
    intro i k acc hm hk hi ha
    obtain ⟨k, rfl⟩ : ∃ n, k = n + 1 := ⟨k - 1, by omega⟩
    have : i = l.length := by omega
    subst this
    rw [sponsor_told.l0, if_neg (by omega)]
    simp [tellL]
  | succ m ih =>
    intro i k acc hm hk hi ha
    obtain ⟨k, rfl⟩ : ∃ n, k = n + 1 := ⟨k - 1, by omega⟩
    by_cases hlt : i < l.length
    · have hd : l.drop i = rd_T68 l i :: l.drop (i + 1) := by
        rw [List.drop_eq_getElem_cons hlt]
        simp [rd_T68, List.getD, hlt]
      have hw : wrap64 ((i : Int) + 1) = ((i + 1 : Nat) : Int) := by rw [IntWalk.wrap64_in _ (by omega)]; push_cast; rfl
      rw [sponsor_told.l0, if_pos (by omega), if_pos (by omega), if_pos (by omega), hd]
      by_cases hs : ((rd_T68 l (i : Int)).f4 == pv) = true
      · rw [if_pos hs, if_pos (by omega), hw, ih (i + 1) k _ (by omega) (by omega) (by omega) (by simp; omega)]
        simp [tellL, List.filter_cons, hs, tellW]
      · rw [if_neg hs, hw, ih (i + 1) k _ (by omega) (by omega) (by omega) (by omega)]
        simp [tellL, List.filter_cons, hs]
    · have : i = l.length := by omega
      subst this
      rw [sponsor_told.l0, if_neg (by omega)]
      simp [tellL]
theorem told_yes (k : Nat) (l : List S68) (me kd : Int) (pv : Bool) (hv : valid68 l = true) (hm : 0 ≤ me ∧ me < 60) : sponsor_told.f (k + 30) l me kd pv = some (tellL kd me pv l) := by
  have h4 := valid_short hv
  have e : sponsor_Valid.f (k + 30) l = some (valid68 l) := by
    obtain ⟨j, hj⟩ : ∃ j, k + 30 = 2 * l.length + 1 + j := ⟨k + 29 - 2 * l.length, by omega⟩
    rw [hj]
    exact YtncgeclkgmfppaaDoorW.PrintWords.more_rounds (g := fun k => sponsor_Valid.f k l) (fun k => sponsor_Valid.mono l k) _ j _ (valid_f l (by omega))
  unfold sponsor_told.f sponsor_isNode.f
  rw [e, Option.bind_some, if_pos hv, in_f, Option.bind_some, decide_eq_true hm.1, decide_eq_true (show me ≤ 59 by omega)]
  show sponsor_told.j0 ((k + 29) + 1) l me kd pv (!(true && true)) = _
  rw [sponsor_told.j0, if_neg (by simp)]
  exact told_l0 me kd pv l (by omega) l.length 0 (k + 29) [] (by omega) (by omega) (by omega) (by simp)
theorem words_yes (k : Nat) (l : List S68) (me : Int) (hv : valid68 l = true) (hm : 0 ≤ me ∧ me < 60) : sponsor_Words.f (k + 30) l me = some (tellL 2 me false l) := by
  unfold sponsor_Words.f; rw [told_yes k l me 2 false hv hm]; rfl
theorem proofs_yes (k : Nat) (l : List S68) (me : Int) (hv : valid68 l = true) (hm : 0 ≤ me ∧ me < 60) : sponsor_Proofs.f (k + 30) l me = some (tellL 3 me true l) := by
  unfold sponsor_Proofs.f; rw [told_yes k l me 3 true hv hm]; rfl
/-- How many of the first j elements are as told. -/
def cnt (b : Bool) (l : List S68) (j : Nat) : Nat := ((l.take j).filter fun h => h.f4 == b).length
theorem take_rd (l : List S68) (j : Nat) (hj : j < l.length) : l.take (j + 1) = l.take j ++ [rd_T68 l (j : Int)] := by
  rw [List.take_succ_eq_append_getElem hj]
  simp [rd_T68, List.getD, hj]
theorem cnt_yes (b : Bool) (l : List S68) (j : Nat) (hj : j < l.length) (h : (rd_T68 l (j : Int)).f4 = b) : cnt b l (j + 1) = cnt b l j + 1 := by
  unfold cnt
  rw [take_rd l j hj, List.filter_append]
  simp [List.filter_cons, h]
theorem cnt_no (b : Bool) (l : List S68) (j : Nat) (hj : j < l.length) (h : (rd_T68 l (j : Int)).f4 ≠ b) : cnt b l (j + 1) = cnt b l j := by
  unfold cnt
  rw [take_rd l j hj, List.filter_append]
  simp [List.filter_cons, h]
theorem cnt_all (b : Bool) (kd me : Int) (l : List S68) : cnt b l l.length = (tellL kd me b l).length := by
  simp [cnt, tellL]
theorem cnt_le (b : Bool) (l : List S68) (j : Nat) : cnt b l j ≤ l.length := by
  unfold cnt
  exact Nat.le_trans (List.length_filter_le _ _) (by simp; omega)
theorem tell_at (b : Bool) (kd me : Int) (l : List S68) (j : Nat) (hj : j < l.length) (h : (rd_T68 l (j : Int)).f4 = b) : cnt b l j < (tellL kd me b l).length ∧ rd_T54 (tellL kd me b l) (cnt b l j : Int) = tellW kd me (rd_T68 l (j : Int)) := by
  have hs : l = l.take j ++ rd_T68 l (j : Int) :: l.drop (j + 1) := by
    conv => lhs; rw [← List.take_append_drop j l, List.drop_eq_getElem_cons hj]
    simp [rd_T68, List.getD, hj]
  have e : tellL kd me b l = tellL kd me b (l.take j) ++ tellW kd me (rd_T68 l (j : Int)) :: tellL kd me b (l.drop (j + 1)) := by
    conv => lhs; rw [hs]
    unfold tellL
    rw [List.filter_append, List.filter_cons, if_pos (by simpa using h), List.map_append, List.map_cons]
  have hc : cnt b l j = (tellL kd me b (l.take j)).length := by simp [cnt, tellL]
  rw [e, hc]
  refine ⟨by simp, ?_⟩
  simp [rd_T54, List.getD]
end Go.Proofs.YtncgeclkgmfppaaDoor.H
