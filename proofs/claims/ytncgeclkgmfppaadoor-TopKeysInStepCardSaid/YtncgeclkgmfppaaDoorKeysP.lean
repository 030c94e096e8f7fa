/-
  The plain laws of keyring's functions: the epoch, the root ring, an aged ring, where the assignment number is in its bounds.
-/
import Derived.Test.YtncgeclkgmfppaaDoorKeys
import Derived.IntWalk
namespace Go.Proofs.YtncgeclkgmfppaaDoor.H
open Go.RowKit Go.Proofs.YtncgeclkgmfppaaDoorW.PrintWords Go.Proofs.YtncgeclkgmfppaaDoorW.PrintLast Go.Proofs.YtncgeclkgmfppaaDoorW.PrintMore
set_option linter.unusedVariables false
set_option linter.unusedSimpArgs false
theorem within_yes (x y z : Int) (h1 : x ≤ y) (h2 : y ≤ z) : keyring_within.f 300 [x, y, z] = some true := by
  have e1 : ¬ y < x := by omega
  have e2 : ¬ z < y := by omega
  have w1 : wrap64 0 = 0 := IntWalk.wrap64_in _ (by omega)
  have w2 : wrap64 1 = 1 := IntWalk.wrap64_in _ (by omega)
  have w3 : wrap64 2 = 2 := IntWalk.wrap64_in _ (by omega)
  have w4 : wrap64 3 = 3 := IntWalk.wrap64_in _ (by omega)
  simp [keyring_within.f, keyring_within.l0, rd, w1, w2, w3, w4, e1, e2]
theorem epoch_f (a : Int) (h0 : 0 ≤ a) (h1 : a ≤ 1000000000) : keyring_Epoch.f 300 a = some (a / 2000, 0) := by
  have e : Int.tdiv a 2000 = a / 2000 := by rw [Int.tdiv_eq_ediv_of_nonneg h0]
  have w : wrap64 (Int.tdiv a 2000) = a / 2000 := by rw [e]; exact IntWalk.wrap64_in _ (by omega)
  simp [keyring_Epoch.f, within_yes 0 a 1000000000 h0 h1, w]
theorem root_f (a : Int) (h0 : 0 ≤ a) (h1 : a ≤ 1000000000) : keyring_Root.f 300 a = some (a / 2000, a / 2000 + 2) := by
  have w : wrap64 (a / 2000 + 2) = a / 2000 + 2 := IntWalk.wrap64_in _ (by omega)
  simp [keyring_Root.f, epoch_f a h0 h1, w]
theorem ring_valid_f (x y : Int) (h0 : 0 ≤ x) (h1 : x ≤ 500000) (h2 : x + 1 ≤ y) (h3 : y ≤ 500002) : keyring_ring_valid.f 300 x y = some true := by
  have w : wrap64 (x + 1) = x + 1 := IntWalk.wrap64_in _ (by omega)
  have e : keyring_ring_empty.f x y = some false := by
    unfold keyring_ring_empty.f
    by_cases hx : x = 0
    · have hy : (y == 0) = false := by rw [beq_eq_false_iff_ne]; omega
      simp [hx, hy]
    · simp [hx]
  simp [keyring_ring_valid.f, e, w, within_yes 0 x 500000 h0 h1, within_yes (x + 1) y 500002 h2 h3]
theorem age_f (x y a : Int) (h0 : 0 ≤ a) (h1 : a ≤ 1000000000) (h2 : 0 ≤ x) (h3 : x ≤ a / 2000) (h4 : a / 2000 < y) (h5 : y ≤ 500002) (hx : x ≤ 500000) : keyring_Age.f 300 x y a = some (a / 2000, y) := by
  have e := epoch_f a h0 h1
  have v := ring_valid_f x y h2 hx (by omega) h5
  simp only [keyring_Age.f, e, v, Option.bind_some, if_true]
  by_cases c : x = a / 2000
  · have d : decide (x ≥ a / 2000) = true := decide_eq_true (by omega)
    rw [d]
    simp [keyring_Age.j0, c]
  · have d : decide (x ≥ a / 2000) = false := decide_eq_false (by omega)
    have f : ¬ y ≤ a / 2000 := by omega
    rw [d]
    simp [keyring_Age.j0, f]
theorem knows_f (x y n : Int) (h0 : 0 ≤ x) (h1 : x ≤ 500000) (h3 : y ≤ 500002) (h4 : x ≤ n) (h5 : n < y) : keyring_ring_knows.f 300 x y n = some true := by
  have v := ring_valid_f x y h0 h1 (by omega) h3
  have w : wrap64 (y - 1) = y - 1 := IntWalk.wrap64_in _ (by omega)
  simp [keyring_ring_knows.f, v, w, within_yes x n (y - 1) h4 (by omega)]
theorem knowsC_f (x y n : Int) (h0 : 0 ≤ x) (h1 : x ≤ 500000) (h3 : y ≤ 500002) (h4 : x ≤ n) (h5 : n < y) : keyring_Knows.f 300 x y n = some true := by
  simp [keyring_Knows.f, knows_f x y n h0 h1 h3 h4 h5]
end Go.Proofs.YtncgeclkgmfppaaDoor.H
