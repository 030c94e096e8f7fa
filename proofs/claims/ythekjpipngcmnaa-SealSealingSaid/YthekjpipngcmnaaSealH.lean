/-
  The fixed examples of the laws on package seal come out true.
-/
import Derived.Test.YthekjpipngcmnaaSealR
namespace Go.Proofs.Ythekjpipngcmnaa
open Go.RowKit
set_option linter.unusedVariables false
set_option linter.unusedSimpArgs false
theorem lkey (a b : Int) (h0 : 0 ≤ a) (h1 : a ≤ 1000000000) (h : (a / 2000 + 1 == b) = true) (w : World) : Calls Try.prog 21 #[.int .i64 a, .int .i64 b] w fun e w' => e = .returned (.bool true) ∧ w = w' := by
  go_enter Try.func21, Try.ntmps21
  go_wp2_with (go_at_call 10; refine (key_yes _ h0 h1 _).mono ?_; rintro e w' ⟨rfl, rfl⟩)
  go_ret
  exact ⟨rfl, rfl⟩
set_option maxRecDepth 100000 in
theorem head_true (w : World) : Calls Try.prog 9 #[] w fun e w' => e = .returned (.bool true) ∧ Below w.heap.size w w' := by
  go_enter Try.func9, Try.ntmps9
  go_wp2_with (first
    | (go_at_call 21; refine (lkey _ _ (by omega) (by omega) (by decide) _).mono ?_; rintro e w' ⟨rfl, rfl⟩)
    | (go_at_call 12; refine (own_yes _ (by omega) (by omega) _).mono ?_; rintro e w' ⟨rfl, rfl⟩))
  refine (seal_ok _ _ _ _ _ _ _ _ _ _ ⟨by omega, by omega, by omega, by omega⟩ _).mono ?_
  rintro e w1 ⟨rfl, hb1⟩
  obtain ⟨c1, f1, z1, za1, zb1, zc1⟩ := seen hb1 (w.heap.size + 1) (by first | omega | (simp; done) | (simp; omega))
  go_wp2_with fail
  refine (seal_no _ _ _ _ _ _ _ _ _ _ (by unfold sealOk; omega) _).mono ?_
  rintro e w2 ⟨rfl, hb2⟩
  obtain ⟨c2, f2, z2, za2, zb2, zc2⟩ := seen hb2 (w.heap.size + 1) (by first | omega | (simp; done) | (simp; omega))
  obtain ⟨c2', f2', z2', za2', zb2', zc2'⟩ := seen hb2 w1.heap.size (by first | omega | (simp; done) | (simp; omega))
  have e13 : (sealE 2000 == 13) = true := by decide
  go_wp2_with fail
  refine (open_yes _ _ _ _ _ _ _ (by omega) (by omega) (by omega) (by omega) _).mono ?_
  rintro e w3 ⟨rfl, hb3⟩
  obtain ⟨c3, f3, z3, za3, zb3, zc3⟩ := seen hb3 (w.heap.size + 1) (by first | omega | (simp; done) | (simp; omega))
  obtain ⟨c3', f3', z3', za3', zb3', zc3'⟩ := seen hb3 w1.heap.size (by first | omega | (simp; done) | (simp; omega))
  obtain ⟨c3'', f3'', z3'', za3'', zb3'', zc3''⟩ := seen hb3 (w2.heap.size + 1) (by first | omega | (simp; done) | (simp; omega))
  go_wp2_with fail
  refine (open_no2 _ _ _ _ _ _ _ _ _ (by omega) (by omega) (by omega) _).mono ?_
  rintro e w4 ⟨rfl, hb4⟩
  obtain ⟨c4, f4, z4, za4, zb4, zc4⟩ := seen hb4 (w.heap.size + 1) (by first | omega | (simp; done) | (simp; omega))
  obtain ⟨c4', f4', z4', za4', zb4', zc4'⟩ := seen hb4 w1.heap.size (by first | omega | (simp; done) | (simp; omega))
  obtain ⟨c4'', f4'', z4'', za4'', zb4'', zc4''⟩ := seen hb4 (w2.heap.size + 1) (by first | omega | (simp; done) | (simp; omega))
  go_wp2_with fail
  refine (open_no4 _ _ _ _ _ _ _ (by omega) (by omega) (by omega) _).mono ?_
  rintro e w5 ⟨rfl, hb5⟩
  obtain ⟨c5, f5, z5, za5, zb5, zc5⟩ := seen hb5 (w.heap.size + 1) (by first | omega | (simp; done) | (simp; omega))
  obtain ⟨c5', f5', z5', za5', zb5', zc5'⟩ := seen hb5 w1.heap.size (by first | omega | (simp; done) | (simp; omega))
  obtain ⟨c5'', f5'', z5'', za5'', zb5'', zc5''⟩ := seen hb5 (w2.heap.size + 1) (by first | omega | (simp; done) | (simp; omega))
  go_wp2_with fail
  refine (open_no3 _ _ _ 0 _ _ _ _ (by omega) (by omega) (by omega) _).mono ?_
  rintro e w6 ⟨rfl, hb6⟩
  go_wp2_with fail
  go_ret
  refine ⟨rfl, ?_⟩
  repeat (first | exact Below.refl _ _ | refine bs_step ?_ (by assumption) | refine bs_alloc ?_ _)
end Go.Proofs.Ythekjpipngcmnaa
