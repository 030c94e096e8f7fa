/-
  Hear, where the word is meant for the stranger.
-/
import Derived.Test.YteiiglefbbhinaaJoinH
import Derived.Test.YteiiglefbbhinaaJoinF
namespace Go.Proofs.Yteiiglefbbhinaa
open Go.RowKit
set_option linter.unusedVariables false
set_option linter.unusedSimpArgs false
set_option maxHeartbeats 2000000 in
set_option maxRecDepth 100000 in
theorem hear_c1 (sp no si tr ch key f n fr me : Int) (w : World) (hv : validB 1 sp no si tr = true) (hf : formedB 2 me sp no ch = true) (f0 : 0 ≤ fr) (f1 : fr ≤ 1000000000)  : Calls Try.prog 13 #[.agg #[.int .i64 1, .int .i64 sp, .int .i64 no, .int .i64 si, .int .i64 tr], .int .i64 me, .agg #[.int .i64 2, .int .i64 me, .int .i64 sp, .int .i64 no, .int .i64 ch, .int .i64 key, .int .i64 f, .int .i64 n], .int .i64 fr] w fun e w' => e = .returned (.tuple #[.agg #[.int .i64 2, .int .i64 sp, .int .i64 no, .int .i64 si, .int .i64 tr], .agg #[.int .i64 3, .int .i64 me, .int .i64 sp, .int .i64 no, .int .i64 ch, .int .i64 (1000000 + me), .int .i64 0, .int .i64 0], .bool true]) ∧ Below w.heap.size w w' := by
  obtain ⟨⟨n0, n1⟩, _⟩ := formed_of hf
  have t0 : decide (fr < 0) = false := decide_eq_false (by omega)
  have t1 : decide (1000000000 < fr) = false := decide_eq_false (by omega)
  go_enter Try.func13, Try.ntmps13
  go_wp2_with (first | (go_at_call 22; refine (valid_all _ 1 sp no si tr _ ?a0 ?a1 ?a2 ?a3 ?a4).mono ?_; (case a0 => go_simp); (case a1 => go_simp); (case a2 => go_simp); (case a3 => go_simp); (case a4 => go_simp); rintro e w' ⟨rfl, rfl⟩) | (go_at_call 27; refine (formed_all _ _ _ _ _ _ _ _ _).mono ?_; rintro e w' ⟨rfl, rfl⟩) | (go_at_call 26; refine (own_yes _ n0 n1 _).mono ?_; rintro e w' ⟨rfl, rfl⟩) | (go_at_call 25; refine (m_c1 _ _ _ _ _ _ _ _ _ _ ?c0 ?c1).mono ?_; (case c0 => go_simp); (case c1 => go_simp); rintro e w' ⟨rfl, o1, o2, o3, rfl⟩))
  go_region
  go_wp2
  refine bodyPost_ret (v := .tuple #[.agg #[.int .i64 2, .int .i64 sp, .int .i64 no, .int .i64 si, .int .i64 tr], .agg #[.int .i64 3, .int .i64 me, .int .i64 sp, .int .i64 no, .int .i64 ch, .int .i64 (1000000 + me), .int .i64 0, .int .i64 0], .bool true]) (by simp [results, Try.results13, go_sem]) rfl ⟨rfl, ?_⟩
  repeat (first | (with_reducible exact Below.refl _ _) | (with_reducible refine bs_drewN ?_ _) | (with_reducible refine bs_drew ?_) | (with_reducible refine bs_alloc ?_ _) | (with_reducible refine bs_set ?_ _ (by first | (simp; done) | (simp; omega))) | (with_reducible refine bs_step ?_ (by assumption)))
set_option maxHeartbeats 2000000 in
set_option maxRecDepth 100000 in
theorem hear_c2 (sp no si tr ch key f n fr me : Int) (w : World) (hv : validB 2 sp no si tr = true) (hf : formedB 2 me sp no ch = true) (f0 : 0 ≤ fr) (f1 : fr ≤ 1000000000)  : Calls Try.prog 13 #[.agg #[.int .i64 2, .int .i64 sp, .int .i64 no, .int .i64 si, .int .i64 tr], .int .i64 me, .agg #[.int .i64 2, .int .i64 me, .int .i64 sp, .int .i64 no, .int .i64 ch, .int .i64 key, .int .i64 f, .int .i64 n], .int .i64 fr] w fun e w' => e = .returned (.tuple #[.agg #[.int .i64 2, .int .i64 sp, .int .i64 no, .int .i64 si, .int .i64 tr], .agg #[.int .i64 3, .int .i64 me, .int .i64 sp, .int .i64 no, .int .i64 ch, .int .i64 (1000000 + me), .int .i64 0, .int .i64 0], .bool true]) ∧ Below w.heap.size w w' := by
  obtain ⟨⟨n0, n1⟩, _⟩ := formed_of hf
  have t0 : decide (fr < 0) = false := decide_eq_false (by omega)
  have t1 : decide (1000000000 < fr) = false := decide_eq_false (by omega)
  go_enter Try.func13, Try.ntmps13
  go_wp2_with (first | (go_at_call 22; refine (valid_all _ 2 sp no si tr _ ?a0 ?a1 ?a2 ?a3 ?a4).mono ?_; (case a0 => go_simp); (case a1 => go_simp); (case a2 => go_simp); (case a3 => go_simp); (case a4 => go_simp); rintro e w' ⟨rfl, rfl⟩) | (go_at_call 27; refine (formed_all _ _ _ _ _ _ _ _ _).mono ?_; rintro e w' ⟨rfl, rfl⟩) | (go_at_call 26; refine (own_yes _ n0 n1 _).mono ?_; rintro e w' ⟨rfl, rfl⟩) | (go_at_call 25; refine (m_c2 _ _ _ _ _ _ _ _ _ _ ?c0 ?c1).mono ?_; (case c0 => go_simp); (case c1 => go_simp); rintro e w' ⟨rfl, o1, o2, o3, rfl⟩))
  go_region
  go_wp2
  refine bodyPost_ret (v := .tuple #[.agg #[.int .i64 2, .int .i64 sp, .int .i64 no, .int .i64 si, .int .i64 tr], .agg #[.int .i64 3, .int .i64 me, .int .i64 sp, .int .i64 no, .int .i64 ch, .int .i64 (1000000 + me), .int .i64 0, .int .i64 0], .bool true]) (by simp [results, Try.results13, go_sem]) rfl ⟨rfl, ?_⟩
  repeat (first | (with_reducible exact Below.refl _ _) | (with_reducible refine bs_drewN ?_ _) | (with_reducible refine bs_drew ?_) | (with_reducible refine bs_alloc ?_ _) | (with_reducible refine bs_set ?_ _ (by first | (simp; done) | (simp; omega))) | (with_reducible refine bs_step ?_ (by assumption)))
set_option maxHeartbeats 2000000 in
set_option maxRecDepth 100000 in
theorem hear_c0 (ph sp no si tr ch key f n fr me : Int) (w : World) (hv : validB ph sp no si tr = true) (hf : formedB 2 me sp no ch = true) (f0 : 0 ≤ fr) (f1 : fr ≤ 1000000000) (h1 : (ph != 1) = true) (h2 : (ph != 2) = true) : Calls Try.prog 13 #[.agg #[.int .i64 ph, .int .i64 sp, .int .i64 no, .int .i64 si, .int .i64 tr], .int .i64 me, .agg #[.int .i64 2, .int .i64 me, .int .i64 sp, .int .i64 no, .int .i64 ch, .int .i64 key, .int .i64 f, .int .i64 n], .int .i64 fr] w fun e w' => e = .returned (.tuple #[.agg #[.int .i64 ph, .int .i64 sp, .int .i64 no, .int .i64 si, .int .i64 tr], .agg #[.int .i64 0, .int .i64 0, .int .i64 0, .int .i64 0, .int .i64 0, .int .i64 0, .int .i64 0, .int .i64 0], .bool false]) ∧ Below w.heap.size w w' := by
  obtain ⟨⟨n0, n1⟩, _⟩ := formed_of hf
  have t0 : decide (fr < 0) = false := decide_eq_false (by omega)
  have t1 : decide (1000000000 < fr) = false := decide_eq_false (by omega)
  go_enter Try.func13, Try.ntmps13
  go_wp2_with (first | (go_at_call 22; refine (valid_all _ ph sp no si tr _ ?a0 ?a1 ?a2 ?a3 ?a4).mono ?_; (case a0 => go_simp); (case a1 => go_simp); (case a2 => go_simp); (case a3 => go_simp); (case a4 => go_simp); rintro e w' ⟨rfl, rfl⟩) | (go_at_call 27; refine (formed_all _ _ _ _ _ _ _ _ _).mono ?_; rintro e w' ⟨rfl, rfl⟩) | (go_at_call 26; refine (own_yes _ n0 n1 _).mono ?_; rintro e w' ⟨rfl, rfl⟩) | (go_at_call 25; refine (m_c0 _ ph _ _ _ _ _ _ _ _ _ ?c0 ?c1 h1 h2).mono ?_; (case c0 => go_simp); (case c1 => go_simp); rintro e w' ⟨rfl, o1, o2, o3, rfl⟩))
  go_region
  go_wp2
  refine bodyPost_ret (v := .tuple #[.agg #[.int .i64 ph, .int .i64 sp, .int .i64 no, .int .i64 si, .int .i64 tr], .agg #[.int .i64 0, .int .i64 0, .int .i64 0, .int .i64 0, .int .i64 0, .int .i64 0, .int .i64 0, .int .i64 0], .bool false]) (by simp [results, Try.results13, go_sem]) rfl ⟨rfl, ?_⟩
  repeat (first | (with_reducible exact Below.refl _ _) | (with_reducible refine bs_drewN ?_ _) | (with_reducible refine bs_drew ?_) | (with_reducible refine bs_alloc ?_ _) | (with_reducible refine bs_set ?_ _ (by first | (simp; done) | (simp; omega))) | (with_reducible refine bs_step ?_ (by assumption)))
set_option maxHeartbeats 2000000 in
set_option maxRecDepth 100000 in
theorem hear_wy (sp no si tr ch f n fr me : Int) (w : World) (hv : validB 2 sp no si tr = true) (hf : formedB 4 me sp no ch = true) (f0 : 0 ≤ fr) (f1 : fr ≤ 1000000000)  : Calls Try.prog 13 #[.agg #[.int .i64 2, .int .i64 sp, .int .i64 no, .int .i64 si, .int .i64 tr], .int .i64 me, .agg #[.int .i64 4, .int .i64 me, .int .i64 sp, .int .i64 no, .int .i64 ch, .int .i64 (1000000 + me), .int .i64 f, .int .i64 n], .int .i64 fr] w fun e w' => e = .returned (.tuple #[.agg #[.int .i64 3, .int .i64 sp, .int .i64 no, .int .i64 si, .int .i64 tr], .agg #[.int .i64 0, .int .i64 0, .int .i64 0, .int .i64 0, .int .i64 0, .int .i64 0, .int .i64 0, .int .i64 0], .bool true]) ∧ Below w.heap.size w w' := by
  obtain ⟨⟨n0, n1⟩, _⟩ := formed_of hf
  have t0 : decide (fr < 0) = false := decide_eq_false (by omega)
  have t1 : decide (1000000000 < fr) = false := decide_eq_false (by omega)
  go_enter Try.func13, Try.ntmps13
  go_wp2_with (first | (go_at_call 22; refine (valid_all _ 2 sp no si tr _ ?a0 ?a1 ?a2 ?a3 ?a4).mono ?_; (case a0 => go_simp); (case a1 => go_simp); (case a2 => go_simp); (case a3 => go_simp); (case a4 => go_simp); rintro e w' ⟨rfl, rfl⟩) | (go_at_call 27; refine (formed_all _ _ _ _ _ _ _ _ _).mono ?_; rintro e w' ⟨rfl, rfl⟩) | (go_at_call 26; refine (own_yes _ n0 n1 _).mono ?_; rintro e w' ⟨rfl, rfl⟩) | (go_at_call 25; refine (m_wy _ _ _ _ _ _ _ _ _ ?c0 ?c1).mono ?_; (case c0 => go_simp); (case c1 => go_simp); rintro e w' ⟨rfl, o1, o2, o3, rfl⟩))
  go_region
  go_wp2
  refine bodyPost_ret (v := .tuple #[.agg #[.int .i64 3, .int .i64 sp, .int .i64 no, .int .i64 si, .int .i64 tr], .agg #[.int .i64 0, .int .i64 0, .int .i64 0, .int .i64 0, .int .i64 0, .int .i64 0, .int .i64 0, .int .i64 0], .bool true]) (by simp [results, Try.results13, go_sem]) rfl ⟨rfl, ?_⟩
  repeat (first | (with_reducible exact Below.refl _ _) | (with_reducible refine bs_drewN ?_ _) | (with_reducible refine bs_drew ?_) | (with_reducible refine bs_alloc ?_ _) | (with_reducible refine bs_set ?_ _ (by first | (simp; done) | (simp; omega))) | (with_reducible refine bs_step ?_ (by assumption)))
set_option maxHeartbeats 2000000 in
set_option maxRecDepth 100000 in
theorem hear_wn (sp no si tr ch key f n fr me : Int) (w : World) (hv : validB 2 sp no si tr = true) (hf : formedB 4 me sp no ch = true) (f0 : 0 ≤ fr) (f1 : fr ≤ 1000000000) (h1 : (key == 1000000 + me) = false) : Calls Try.prog 13 #[.agg #[.int .i64 2, .int .i64 sp, .int .i64 no, .int .i64 si, .int .i64 tr], .int .i64 me, .agg #[.int .i64 4, .int .i64 me, .int .i64 sp, .int .i64 no, .int .i64 ch, .int .i64 key, .int .i64 f, .int .i64 n], .int .i64 fr] w fun e w' => e = .returned (.tuple #[.agg #[.int .i64 2, .int .i64 sp, .int .i64 no, .int .i64 si, .int .i64 tr], .agg #[.int .i64 0, .int .i64 0, .int .i64 0, .int .i64 0, .int .i64 0, .int .i64 0, .int .i64 0, .int .i64 0], .bool false]) ∧ Below w.heap.size w w' := by
  obtain ⟨⟨n0, n1⟩, _⟩ := formed_of hf
  have t0 : decide (fr < 0) = false := decide_eq_false (by omega)
  have t1 : decide (1000000000 < fr) = false := decide_eq_false (by omega)
  go_enter Try.func13, Try.ntmps13
  go_wp2_with (first | (go_at_call 22; refine (valid_all _ 2 sp no si tr _ ?a0 ?a1 ?a2 ?a3 ?a4).mono ?_; (case a0 => go_simp); (case a1 => go_simp); (case a2 => go_simp); (case a3 => go_simp); (case a4 => go_simp); rintro e w' ⟨rfl, rfl⟩) | (go_at_call 27; refine (formed_all _ _ _ _ _ _ _ _ _).mono ?_; rintro e w' ⟨rfl, rfl⟩) | (go_at_call 26; refine (own_yes _ n0 n1 _).mono ?_; rintro e w' ⟨rfl, rfl⟩) | (go_at_call 25; refine (m_wn _ _ _ _ _ _ _ _ _ _ ?c0 ?c1 h1).mono ?_; (case c0 => go_simp); (case c1 => go_simp); rintro e w' ⟨rfl, o1, o2, o3, rfl⟩))
  go_region
  go_wp2
  refine bodyPost_ret (v := .tuple #[.agg #[.int .i64 2, .int .i64 sp, .int .i64 no, .int .i64 si, .int .i64 tr], .agg #[.int .i64 0, .int .i64 0, .int .i64 0, .int .i64 0, .int .i64 0, .int .i64 0, .int .i64 0, .int .i64 0], .bool false]) (by simp [results, Try.results13, go_sem]) rfl ⟨rfl, ?_⟩
  repeat (first | (with_reducible exact Below.refl _ _) | (with_reducible refine bs_drewN ?_ _) | (with_reducible refine bs_drew ?_) | (with_reducible refine bs_alloc ?_ _) | (with_reducible refine bs_set ?_ _ (by first | (simp; done) | (simp; omega))) | (with_reducible refine bs_step ?_ (by assumption)))
set_option maxHeartbeats 2000000 in
set_option maxRecDepth 100000 in
theorem hear_w0 (ph sp no si tr ch key f n fr me : Int) (w : World) (hv : validB ph sp no si tr = true) (hf : formedB 4 me sp no ch = true) (f0 : 0 ≤ fr) (f1 : fr ≤ 1000000000) (h1 : (ph == 2) = false) : Calls Try.prog 13 #[.agg #[.int .i64 ph, .int .i64 sp, .int .i64 no, .int .i64 si, .int .i64 tr], .int .i64 me, .agg #[.int .i64 4, .int .i64 me, .int .i64 sp, .int .i64 no, .int .i64 ch, .int .i64 key, .int .i64 f, .int .i64 n], .int .i64 fr] w fun e w' => e = .returned (.tuple #[.agg #[.int .i64 ph, .int .i64 sp, .int .i64 no, .int .i64 si, .int .i64 tr], .agg #[.int .i64 0, .int .i64 0, .int .i64 0, .int .i64 0, .int .i64 0, .int .i64 0, .int .i64 0, .int .i64 0], .bool false]) ∧ Below w.heap.size w w' := by
  obtain ⟨⟨n0, n1⟩, _⟩ := formed_of hf
  have t0 : decide (fr < 0) = false := decide_eq_false (by omega)
  have t1 : decide (1000000000 < fr) = false := decide_eq_false (by omega)
  go_enter Try.func13, Try.ntmps13
  go_wp2_with (first | (go_at_call 22; refine (valid_all _ ph sp no si tr _ ?a0 ?a1 ?a2 ?a3 ?a4).mono ?_; (case a0 => go_simp); (case a1 => go_simp); (case a2 => go_simp); (case a3 => go_simp); (case a4 => go_simp); rintro e w' ⟨rfl, rfl⟩) | (go_at_call 27; refine (formed_all _ _ _ _ _ _ _ _ _).mono ?_; rintro e w' ⟨rfl, rfl⟩) | (go_at_call 26; refine (own_yes _ n0 n1 _).mono ?_; rintro e w' ⟨rfl, rfl⟩) | (go_at_call 25; refine (m_w0 _ _ _ _ _ _ _ _ _ _ _ ?c0 ?c1 h1).mono ?_; (case c0 => go_simp); (case c1 => go_simp); rintro e w' ⟨rfl, o1, o2, o3, rfl⟩))
  go_region
  go_wp2
  refine bodyPost_ret (v := .tuple #[.agg #[.int .i64 ph, .int .i64 sp, .int .i64 no, .int .i64 si, .int .i64 tr], .agg #[.int .i64 0, .int .i64 0, .int .i64 0, .int .i64 0, .int .i64 0, .int .i64 0, .int .i64 0, .int .i64 0], .bool false]) (by simp [results, Try.results13, go_sem]) rfl ⟨rfl, ?_⟩
  repeat (first | (with_reducible exact Below.refl _ _) | (with_reducible refine bs_drewN ?_ _) | (with_reducible refine bs_drew ?_) | (with_reducible refine bs_alloc ?_ _) | (with_reducible refine bs_set ?_ _ (by first | (simp; done) | (simp; omega))) | (with_reducible refine bs_step ?_ (by assumption)))
set_option maxHeartbeats 2000000 in
set_option maxRecDepth 100000 in
theorem hear_d (ph sp no si tr k ch key f n fr me : Int) (w : World) (hv : validB ph sp no si tr = true) (hf : formedB k me sp no ch = true) (f0 : 0 ≤ fr) (f1 : fr ≤ 1000000000) (h1 : (k == 2) = false) (h2 : (k == 4) = false) : Calls Try.prog 13 #[.agg #[.int .i64 ph, .int .i64 sp, .int .i64 no, .int .i64 si, .int .i64 tr], .int .i64 me, .agg #[.int .i64 k, .int .i64 me, .int .i64 sp, .int .i64 no, .int .i64 ch, .int .i64 key, .int .i64 f, .int .i64 n], .int .i64 fr] w fun e w' => e = .returned (.tuple #[.agg #[.int .i64 ph, .int .i64 sp, .int .i64 no, .int .i64 si, .int .i64 tr], .agg #[.int .i64 0, .int .i64 0, .int .i64 0, .int .i64 0, .int .i64 0, .int .i64 0, .int .i64 0, .int .i64 0], .bool false]) ∧ Below w.heap.size w w' := by
  obtain ⟨⟨n0, n1⟩, _⟩ := formed_of hf
  have t0 : decide (fr < 0) = false := decide_eq_false (by omega)
  have t1 : decide (1000000000 < fr) = false := decide_eq_false (by omega)
  go_enter Try.func13, Try.ntmps13
  go_wp2_with (first | (go_at_call 22; refine (valid_all _ ph sp no si tr _ ?a0 ?a1 ?a2 ?a3 ?a4).mono ?_; (case a0 => go_simp); (case a1 => go_simp); (case a2 => go_simp); (case a3 => go_simp); (case a4 => go_simp); rintro e w' ⟨rfl, rfl⟩) | (go_at_call 27; refine (formed_all _ _ _ _ _ _ _ _ _).mono ?_; rintro e w' ⟨rfl, rfl⟩) | (go_at_call 26; refine (own_yes _ n0 n1 _).mono ?_; rintro e w' ⟨rfl, rfl⟩) | (go_at_call 25; refine (m_d _ _ ph _ _ _ _ _ _ _ _ _ ?c0 ?c1 h1 h2).mono ?_; (case c0 => go_simp); (case c1 => go_simp); rintro e w' ⟨rfl, o1, o2, o3, rfl⟩))
  go_region
  go_wp2
  refine bodyPost_ret (v := .tuple #[.agg #[.int .i64 ph, .int .i64 sp, .int .i64 no, .int .i64 si, .int .i64 tr], .agg #[.int .i64 0, .int .i64 0, .int .i64 0, .int .i64 0, .int .i64 0, .int .i64 0, .int .i64 0, .int .i64 0], .bool false]) (by simp [results, Try.results13, go_sem]) rfl ⟨rfl, ?_⟩
  repeat (first | (with_reducible exact Below.refl _ _) | (with_reducible refine bs_drewN ?_ _) | (with_reducible refine bs_drew ?_) | (with_reducible refine bs_alloc ?_ _) | (with_reducible refine bs_set ?_ _ (by first | (simp; done) | (simp; omega))) | (with_reducible refine bs_step ?_ (by assumption)))
end Go.Proofs.Yteiiglefbbhinaa
