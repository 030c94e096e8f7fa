/-
  JoinOnlyRoot: the walks of the law on package join, for every input: a stranger in a valid state that is not in is in afterwards only if it heard a welcome with its own key for its sponsor and nonce, after a challenge for them or a proof before (up to 40 words).
-/
import Derived.Test.YteiiglefbbhinaaJoinN
import Derived.Test.YteiiglefbbhinaaOpenJ
import Derived.WalkLawsBesides
import Derived.BigQuiet
import Derived.Deep.RegionHeld3
import Derived.Deep.DeepCutAuto
import Derived.LoopTactic
import Derived.Lib.Hide
import Derived.Deep.LoopGhost
import Derived.WalkLawsBesides
import Derived.Laws.EntriesVeiled
import Derived.RowKit3
import Derived.Outline
namespace Go.Proofs.Yteiiglefbbhinaa
open Go.RowKit
set_option linter.unusedVariables false
set_option linter.unusedSimpArgs false
theorem rown_any (a : Int) (w : World) : Calls Try.prog 20 #[.int .i64 a] w fun e w' => e = .returned (.int .i64 (wrap64 (1000000 + a))) ∧ w = w' := by
  go_enter Try.func20, Try.ntmps20
  go_wp2
  go_ret
  exact ⟨rfl, rfl⟩
/-- What a word does to the phase of a state. -/
def stepQ (q sp no k st ws wn key me q' : Int) : Prop := q' = q ∨ (q' = 2 ∧ (q = 1 ∨ q = 2) ∧ k = 2 ∧ st = me ∧ ws = sp ∧ wn = no) ∨ (q' = 3 ∧ q = 2 ∧ k = 4 ∧ st = me ∧ ws = sp ∧ wn = no ∧ key = 1000000 + me ∧ 0 ≤ me ∧ me < 60)
theorem hear_step (ph sp no si tr k st ws wn ch key f n fr me : Int) : ∃ (q b0 b1 b2 b3 b4 b5 b6 b7 : Int) (b : Bool), (∀ w : World, Calls Try.prog 13 #[.agg #[.int .i64 ph, .int .i64 sp, .int .i64 no, .int .i64 si, .int .i64 tr], .int .i64 me, .agg #[.int .i64 k, .int .i64 st, .int .i64 ws, .int .i64 wn, .int .i64 ch, .int .i64 key, .int .i64 f, .int .i64 n], .int .i64 fr] w fun e w' => e = .returned (.tuple #[.agg #[.int .i64 q, .int .i64 sp, .int .i64 no, .int .i64 si, .int .i64 tr], .agg #[.int .i64 b0, .int .i64 b1, .int .i64 b2, .int .i64 b3, .int .i64 b4, .int .i64 b5, .int .i64 b6, .int .i64 b7], .bool b]) ∧ Below w.heap.size w w') ∧ stepQ ph sp no k st ws wn key me q := by
  by_cases h : hearP ph sp no si tr k st ws wn ch fr me
  rotate_left
  · exact ⟨_, _, _, _, _, _, _, _, _, _, fun w => hear_refused _ _ _ _ _ _ _ _ _ _ _ _ _ _ _ w h, .inl rfl⟩
  obtain ⟨hv, hf, f0, f1, rfl, rfl, rfl⟩ := h
  obtain ⟨hn, _⟩ := formed_of hf
  by_cases k2 : k = 2
  · subst k2
    by_cases p1 : ph = 1
    · subst p1; exact ⟨_, _, _, _, _, _, _, _, _, _, fun w => hear_c1 _ _ _ _ _ _ _ _ _ _ w hv hf f0 f1, .inr (.inl ⟨rfl, .inl rfl, rfl, rfl, rfl, rfl⟩)⟩
    by_cases p2 : ph = 2
    · subst p2; exact ⟨_, _, _, _, _, _, _, _, _, _, fun w => hear_c2 _ _ _ _ _ _ _ _ _ _ w hv hf f0 f1, .inl rfl⟩
    · exact ⟨_, _, _, _, _, _, _, _, _, _, fun w => hear_c0 _ _ _ _ _ _ _ _ _ _ _ w hv hf f0 f1 (by rw [bne_iff_ne]; exact p1) (by rw [bne_iff_ne]; exact p2), .inl rfl⟩
  by_cases k4 : k = 4
  · subst k4
    by_cases p2 : ph = 2
    · subst p2
      by_cases hk : key = 1000000 + st
      · subst hk; exact ⟨_, _, _, _, _, _, _, _, _, _, fun w => hear_wy _ _ _ _ _ _ _ _ _ w hv hf f0 f1, .inr (.inr ⟨rfl, rfl, rfl, rfl, rfl, rfl, rfl, hn.1, hn.2⟩)⟩
      · exact ⟨_, _, _, _, _, _, _, _, _, _, fun w => hear_wn _ _ _ _ _ _ _ _ _ _ w hv hf f0 f1 (beq_eq_false_iff_ne.2 hk), .inl rfl⟩
    · exact ⟨_, _, _, _, _, _, _, _, _, _, fun w => hear_w0 _ _ _ _ _ _ _ _ _ _ _ w hv hf f0 f1 (beq_eq_false_iff_ne.2 p2), .inl rfl⟩
  · exact ⟨_, _, _, _, _, _, _, _, _, _, fun w => hear_d _ _ _ _ _ _ _ _ _ _ _ _ w hv hf f0 f1 (beq_eq_false_iff_ne.2 k2) (beq_eq_false_iff_ne.2 k4), .inl rfl⟩
/-- Is the word meant for the stranger, by its sponsor, with its nonce? -/
def mineB (st ws wn me sp no : Int) : Bool := st == me && ws == sp && wn == no
def provedB (P mine : Bool) (k ph : Int) : Bool := P || (mine && k == 2 && ph == 1)
def welB (Wl mine : Bool) (k key me : Int) (P : Bool) : Bool := Wl || (mine && k == 4 && key == wrap64 (1000000 + me) && P)
/-- What holds of the phase, and of what was heard. -/
def inv5 (ph q : Int) (P Wl : Bool) : Prop := (q = ph ∨ q = 2 ∨ q = 3) ∧ (q = 2 → P = true) ∧ (q = 3 → Wl = true)
theorem inv5_step {ph q q' sp no k st ws wn key me : Int} {P Wl : Bool} (hi : inv5 ph q P Wl) (hp : ph ≠ 3) (hs : stepQ q sp no k st ws wn key me q') :
    inv5 ph q' (provedB P (mineB st ws wn me sp no) k ph) (welB Wl (mineB st ws wn me sp no) k key me (provedB P (mineB st ws wn me sp no) k ph)) := by
  obtain ⟨h1, h2, h3⟩ := hi
  rcases hs with rfl | ⟨rfl, hq, rfl, rfl, rfl, rfl⟩ | ⟨rfl, rfl, rfl, rfl, rfl, rfl, rfl, m0, m1⟩
  · refine ⟨h1, fun h => ?_, fun h => ?_⟩
    · unfold provedB; rw [h2 h]; rfl
    · unfold welB; rw [h3 h]; rfl
  · refine ⟨.inr (.inl rfl), fun _ => ?_, fun h => absurd h (by omega)⟩
    unfold provedB mineB
    rcases hq with rfl | rfl
    · rcases h1 with h | h | h
      · rw [← h]; simp
      · omega
      · omega
    · rw [h2 rfl]; rfl
  · refine ⟨.inr (.inr rfl), fun h => absurd h (by omega), fun _ => ?_⟩
    have hw : wrap64 (1000000 + st) = 1000000 + st := by unfold wrap64; omega
    have hP : provedB P (mineB st ws wn st ws wn) 4 ph = true := by unfold provedB; rw [h2 rfl]; rfl
    unfold welB
    rw [hP, hw]
    unfold mineB
    simp
structure Kept5 (w wr : World) (h B : Nat) (ph q sp no si tr : Int) : Prop where
  below : Below w.heap.size w wr
  h1 : h < wr.heap.size
  h2 : B < wr.heap.size
  j0 : wr.cell? ⟨h, 0, none⟩ = some (.int .i64 ph)
  j1 : wr.cell? ⟨h, 1, none⟩ = some (.int .i64 sp)
  j2 : wr.cell? ⟨h, 2, none⟩ = some (.int .i64 no)
  j3 : wr.cell? ⟨h, 3, none⟩ = some (.int .i64 si)
  j4 : wr.cell? ⟨h, 4, none⟩ = some (.int .i64 tr)
  n0 : wr.cell? ⟨B, 0, none⟩ = some (.int .i64 q)
  n1 : wr.cell? ⟨B, 1, none⟩ = some (.int .i64 sp)
  n2 : wr.cell? ⟨B, 2, none⟩ = some (.int .i64 no)
  n3 : wr.cell? ⟨B, 3, none⟩ = some (.int .i64 si)
  n4 : wr.cell? ⟨B, 4, none⟩ = some (.int .i64 tr)
  fz : ∀ o, wr.frozen? ⟨B, o, none⟩ = false
set_option maxHeartbeats 2000000 in
set_option maxRecDepth 100000 in
theorem law5_v (ph sp no si tr me fr : Int) (A : Option Addr) (n c : Nat) (w : World) (hB : Words w A n) (hv : validB ph sp no si tr = false) : Calls Try.prog 5 #[.agg #[.int .i64 ph, .int .i64 sp, .int .i64 no, .int .i64 si, .int .i64 tr], .int .i64 me, .int .i64 fr, .slice A n c] w fun e w' => e = .returned (.bool true) ∧ Below w.heap.size w w' := by
  clear hB
  go_enter Try.func5, Try.ntmps5
  go_wp2_with (fail)
  refine (head_true _).mono ?_
  rintro e w1 ⟨rfl, hb1⟩
  obtain ⟨c1_0, f1_0, z1_0, za1_0, zb1_0, zc1_0⟩ := seen hb1 (w.heap.size) (by first | omega | (simp; done) | (simp; omega))
  go_wp2_with (first | (go_at_call 19; refine (rvalid_all _ _ _ _ _ _).mono ?_; rintro e w' ⟨rfl, rfl⟩))
  go_ret
  refine ⟨rfl, ?_⟩
  repeat (first | (with_reducible exact Below.refl _ _) | (with_reducible refine bs_drewN ?_ _) | (with_reducible refine bs_drew ?_) | (with_reducible refine bs_alloc ?_ _) | (with_reducible refine bs_set ?_ _ (by first | (simp; done) | (simp; omega))) | (with_reducible refine bs_step ?_ (by assumption)))
set_option maxHeartbeats 2000000 in
set_option maxRecDepth 100000 in
theorem law5_p (ph sp no si tr me fr : Int) (A : Option Addr) (n c : Nat) (w : World) (hB : Words w A n) (hv : validB ph sp no si tr = true) (hp : ph = 3) : Calls Try.prog 5 #[.agg #[.int .i64 ph, .int .i64 sp, .int .i64 no, .int .i64 si, .int .i64 tr], .int .i64 me, .int .i64 fr, .slice A n c] w fun e w' => e = .returned (.bool true) ∧ Below w.heap.size w w' := by
  clear hB
  have t1 : (ph == 3) = true := beq_iff_eq.2 hp
  clear hp
  go_enter Try.func5, Try.ntmps5
  go_wp2_with (fail)
  refine (head_true _).mono ?_
  rintro e w1 ⟨rfl, hb1⟩
  obtain ⟨c1_0, f1_0, z1_0, za1_0, zb1_0, zc1_0⟩ := seen hb1 (w.heap.size) (by first | omega | (simp; done) | (simp; omega))
  go_wp2_with (first | (go_at_call 19; refine (rvalid_all _ _ _ _ _ _).mono ?_; rintro e w' ⟨rfl, rfl⟩))
  go_ret
  refine ⟨rfl, ?_⟩
  repeat (first | (with_reducible exact Below.refl _ _) | (with_reducible refine bs_drewN ?_ _) | (with_reducible refine bs_drew ?_) | (with_reducible refine bs_alloc ?_ _) | (with_reducible refine bs_set ?_ _ (by first | (simp; done) | (simp; omega))) | (with_reducible refine bs_step ?_ (by assumption)))
set_option maxHeartbeats 2000000 in
set_option maxRecDepth 100000 in
theorem law5_n (ph sp no si tr me fr : Int) (A : Option Addr) (n c : Nat) (w : World) (hB : Words w A n) (hv : validB ph sp no si tr = true) (hp : ph ≠ 3) (hn : 40 < n) : Calls Try.prog 5 #[.agg #[.int .i64 ph, .int .i64 sp, .int .i64 no, .int .i64 si, .int .i64 tr], .int .i64 me, .int .i64 fr, .slice A n c] w fun e w' => e = .returned (.bool true) ∧ Below w.heap.size w w' := by
  clear hB
  have t1 : (ph == 3) = false := beq_eq_false_iff_ne.2 hp
  have t0 : decide ((40 : Int) < (n : Int)) = true := decide_eq_true (by omega)
  clear hp
  go_enter Try.func5, Try.ntmps5
  go_wp2_with (fail)
  refine (head_true _).mono ?_
  rintro e w1 ⟨rfl, hb1⟩
  obtain ⟨c1_0, f1_0, z1_0, za1_0, zb1_0, zc1_0⟩ := seen hb1 (w.heap.size) (by first | omega | (simp; done) | (simp; omega))
  go_wp2_with (first | (go_at_call 19; refine (rvalid_all _ _ _ _ _ _).mono ?_; rintro e w' ⟨rfl, rfl⟩))
  go_ret
  refine ⟨rfl, ?_⟩
  repeat (first | (with_reducible exact Below.refl _ _) | (with_reducible refine bs_drewN ?_ _) | (with_reducible refine bs_drew ?_) | (with_reducible refine bs_alloc ?_ _) | (with_reducible refine bs_set ?_ _ (by first | (simp; done) | (simp; omega))) | (with_reducible refine bs_step ?_ (by assumption)))
set_option maxHeartbeats 2000000 in
set_option maxRecDepth 100000 in
theorem law5_m (ph sp no si tr me fr : Int) (A : Option Addr) (n c : Nat) (w : World) (hB : Words w A n) (hv : validB ph sp no si tr = true) (hp : ph ≠ 3) (hn : n ≤ 40) : Calls Try.prog 5 #[.agg #[.int .i64 ph, .int .i64 sp, .int .i64 no, .int .i64 si, .int .i64 tr], .int .i64 me, .int .i64 fr, .slice A n c] w fun e w' => e = .returned (.bool true) ∧ Below w.heap.size w w' := by
  have W0 := Lib.hid hB
  have hnm := hB.1
  unfold maxLen at hnm
  clear hB
  have hp0 := Lib.hid hp
  have t0 : decide ((40 : Int) < (n : Int)) = false := decide_eq_false (by omega)
  have t1 : (ph == 3) = false := beq_eq_false_iff_ne.2 hp
  clear hp
  go_enter Try.func5, Try.ntmps5
  go_wp2_with (fail)
  refine (head_true _).mono ?_
  rintro e w1 ⟨rfl, hb1⟩
  obtain ⟨c1_0, f1_0, z1_0, za1_0, zb1_0, zc1_0⟩ := seen hb1 (w.heap.size) (by first | omega | (simp; done) | (simp; omega))
  go_wp2_with (first | (go_at_call 19; refine (rvalid_all _ _ _ _ _ _).mono ?_; rintro e w' ⟨rfl, rfl⟩))
  have sz1 := hb1.size
  simp at sz1
  go_loopg [10, 11, 37] n (fun g s10 s11 i wr => ∃ (k : Nat) (q : Int) (P Wl : Bool), g + k = n ∧ i = .int .i64 k ∧ s10 = .bool P ∧ s11 = .bool Wl ∧ inv5 ph q P Wl ∧ Kept5 w wr w.heap.size (w1.heap.size + 1) ph q sp no si tr)
  case atStart =>
    refine ⟨0, ph, ph == 2, false, rfl, rfl, rfl, rfl, ⟨.inl rfl, fun h => by simp [h], fun h => absurd h hp0.out⟩, ?_⟩
    constructor
    · repeat (first | (with_reducible exact Below.refl _ _) | (with_reducible refine bs_alloc ?_ _) | (with_reducible refine bs_step ?_ (by assumption)))
    all_goals first | (intro o; simp [go_sem, *]; done) | (simp [go_sem, *]; done) | (simp; omega)
  case round =>
    obtain ⟨k, q, P, Wl, hg, rfl, rfl, rfl, hinv, hK⟩ := hrel
    have Hinv := Lib.hid hinv
    have HK := Lib.hid hK
    have Hg := Lib.hid hg
    obtain ⟨hbel, z0, z1, j0, j1, j2, j3, j4, n0, n1, n2, n3, n4, fz⟩ := hK
    clear hinv hg
    have z0a : w.heap.size < wr.heap.size + 1 := by omega
    have z1a : w1.heap.size + 1 < wr.heap.size + 1 := by omega
    by_cases hlt : k < n
    · obtain ⟨b, off, rfl, hc⟩ := W0.out.2 (by omega)
      obtain ⟨a, ha⟩ := hc k hlt
      have hbw : b < w.heap.size := World.block_lt_of_cell? _ _ (ha 0 (by omega))
      have hbr : b < wr.heap.size := by have := hbel.size; omega
      have e0 : wr.cell? ⟨b, off + k * 8, none⟩ = some (.int .i64 (a 0)) := (hbel.cell (p := ⟨b, off + k * 8, none⟩) hbw).trans (ha 0 (by omega))
      have e1 : wr.cell? ⟨b, off + k * 8 + 1, none⟩ = some (.int .i64 (a 1)) := (hbel.cell (p := ⟨b, off + k * 8 + 1, none⟩) hbw).trans (ha 1 (by omega))
      have e2 : wr.cell? ⟨b, off + k * 8 + 2, none⟩ = some (.int .i64 (a 2)) := (hbel.cell (p := ⟨b, off + k * 8 + 2, none⟩) hbw).trans (ha 2 (by omega))
      have e3 : wr.cell? ⟨b, off + k * 8 + 3, none⟩ = some (.int .i64 (a 3)) := (hbel.cell (p := ⟨b, off + k * 8 + 3, none⟩) hbw).trans (ha 3 (by omega))
      have e4 : wr.cell? ⟨b, off + k * 8 + 4, none⟩ = some (.int .i64 (a 4)) := (hbel.cell (p := ⟨b, off + k * 8 + 4, none⟩) hbw).trans (ha 4 (by omega))
      have e5 : wr.cell? ⟨b, off + k * 8 + 5, none⟩ = some (.int .i64 (a 5)) := (hbel.cell (p := ⟨b, off + k * 8 + 5, none⟩) hbw).trans (ha 5 (by omega))
      have e6 : wr.cell? ⟨b, off + k * 8 + 6, none⟩ = some (.int .i64 (a 6)) := (hbel.cell (p := ⟨b, off + k * 8 + 6, none⟩) hbw).trans (ha 6 (by omega))
      have e7 : wr.cell? ⟨b, off + k * 8 + 7, none⟩ = some (.int .i64 (a 7)) := (hbel.cell (p := ⟨b, off + k * 8 + 7, none⟩) hbw).trans (ha 7 (by omega))
      clear hc ha hbel
      go_upto_region 9 with fail
      go_cut [15] (fun s wx => s = .bool (mineB (a 1) (a 2) (a 3) me sp no) ∧ wx = wr.alloc (.cells #[.int .i64 (a 0), .int .i64 (a 1), .int .i64 (a 2), .int .i64 (a 3), .int .i64 (a 4), .int .i64 (a 5), .int .i64 (a 6), .int .i64 (a 7)] 27))
      case first =>
        by_cases m1 : a 1 = me
        · by_cases m2 : a 2 = sp
          · have u1 : (a 1 == me) = true := beq_iff_eq.2 m1
            have u2 : (a 2 == sp) = true := beq_iff_eq.2 m2
            have hm : mineB (a 1) (a 2) (a 3) me sp no = (a 3 == no) := by unfold mineB; rw [u1, u2]; rfl
            have hm := Lib.hid hm
            clear m1 m2
            go_wp2_with fail
            go_meet
            rw [hm.out]
            exact ⟨by first | rfl | simp, rfl⟩
          · have u1 : (a 1 == me) = true := beq_iff_eq.2 m1
            have u2 : (a 2 == sp) = false := beq_eq_false_iff_ne.2 m2
            have hm : mineB (a 1) (a 2) (a 3) me sp no = false := by unfold mineB; rw [u1, u2]; rfl
            have hm := Lib.hid hm
            clear m1 m2
            go_wp2_with fail
            go_meet
            rw [hm.out]
            exact ⟨by first | rfl | simp, rfl⟩
        · have u1 : (a 1 == me) = false := beq_eq_false_iff_ne.2 m1
          have hm : mineB (a 1) (a 2) (a 3) me sp no = false := by unfold mineB; rw [u1]; rfl
          have hm := Lib.hid hm
          clear m1
          go_wp2_with fail
          go_meet
          rw [hm.out]
          exact ⟨by first | rfl | simp, rfl⟩
      case rest =>
        obtain ⟨rfl, rfl⟩ := hcut
        generalize hmi : mineB (a 1) (a 2) (a 3) me sp no = mi
        go_upto_region 10 with fail
        go_cut [10] (fun s wx => s = .bool (provedB P mi (a 0) ph) ∧ wx = wr.alloc (.cells #[.int .i64 (a 0), .int .i64 (a 1), .int .i64 (a 2), .int .i64 (a 3), .int .i64 (a 4), .int .i64 (a 5), .int .i64 (a 6), .int .i64 (a 7)] 27))
        case first =>
          cases P
          · cases mi
            · go_wp2_with fail
              go_meet
              exact ⟨by simp [provedB], rfl⟩
            · by_cases k2 : a 0 = 2
              · have u1 : (a 0 == 2) = true := beq_iff_eq.2 k2
                clear k2
                go_wp2_with fail
                go_meet
                exact ⟨by simp [provedB, u1], rfl⟩
              · have u1 : (a 0 == 2) = false := beq_eq_false_iff_ne.2 k2
                clear k2
                go_wp2_with fail
                go_meet
                exact ⟨by simp [provedB, u1], rfl⟩
          · go_wp2_with fail
            go_meet
            exact ⟨by simp [provedB], rfl⟩
        case rest =>
          obtain ⟨rfl, rfl⟩ := hcut
          generalize hpv : provedB P mi (a 0) ph = pv
          have HPV := Lib.hid hpv
          have HMI := Lib.hid hmi
          clear hpv hmi
          go_upto_region 11 with fail
          go_cut [11] (fun s wx => s = .bool (welB Wl mi (a 0) (a 5) me pv) ∧ ∃ d, wx = (wr.alloc (.cells #[.int .i64 (a 0), .int .i64 (a 1), .int .i64 (a 2), .int .i64 (a 3), .int .i64 (a 4), .int .i64 (a 5), .int .i64 (a 6), .int .i64 (a 7)] 27)).drewN d)
          case first =>
            cases Wl
            · cases mi
              · go_quiet (first | (go_at_call 20; exact quiet_left (rown_any _ _)))
                go_wp2_with fail
                go_meet
                exact ⟨by simp [welB], ⟨_, rfl⟩⟩
              · by_cases k4 : a 0 = 4
                · have u1 : (a 0 == 4) = true := beq_iff_eq.2 k4
                  clear k4
                  by_cases k5 : a 5 = wrap64 (1000000 + me)
                  · have u2 : (a 5 == wrap64 (1000000 + me)) = true := beq_iff_eq.2 k5
                    clear k5
                    cases pv
                    all_goals
                      go_quiet (first | (go_at_call 20; exact quiet_left (rown_any _ _)))
                      go_wp2_with fail
                      go_meet
                      exact ⟨by simp [welB, u1, u2], ⟨_, rfl⟩⟩
                  · have u2 : (a 5 == wrap64 (1000000 + me)) = false := beq_eq_false_iff_ne.2 k5
                    clear k5
                    go_quiet (first | (go_at_call 20; exact quiet_left (rown_any _ _)))
                    go_wp2_with fail
                    go_meet
                    exact ⟨by simp [welB, u1, u2], ⟨_, rfl⟩⟩
                · have u1 : (a 0 == 4) = false := beq_eq_false_iff_ne.2 k4
                  clear k4
                  go_quiet (first | (go_at_call 20; exact quiet_left (rown_any _ _)))
                  go_wp2_with fail
                  go_meet
                  exact ⟨by simp [welB, u1], ⟨_, rfl⟩⟩
            · go_quiet (first | (go_at_call 20; exact quiet_left (rown_any _ _)))
              go_wp2_with fail
              go_meet
              exact ⟨by simp [welB], ⟨_, rfl⟩⟩
          case rest =>
            obtain ⟨rfl, d, rfl⟩ := hcut
            generalize hwv : welB Wl mi (a 0) (a 5) me pv = wv
            have HWV := Lib.hid hwv
            clear hwv
            obtain ⟨q', b0, b1, b2, b3, b4, b5, b6, b7, bb, hH, hst⟩ := hear_step q sp no si tr (a 0) (a 1) (a 2) (a 3) (a 4) (a 5) (a 6) (a 7) fr me
            have HH := Lib.hid hH
            have HST := Lib.hid hst
            clear hH hst
            go_upto_region 13 with fail
            go_at_call 13
            refine (HH.out _).mono ?_
            rintro e w3 ⟨rfl, hbh⟩
            obtain ⟨cB, fB, zB, zBa, zBb, zBc⟩ := seen hbh (w1.heap.size + 1) (by first | omega | (simp; done) | (simp; omega))
            obtain ⟨cJ, fJ, zJ, zJa, zJb, zJc⟩ := seen hbh (w.heap.size) (by first | omega | (simp; done) | (simp; omega))
            go_upto_region 13 with fail
            have hi' := inv5_step Hinv.out hp0.out HST.out
            rw [HMI.out, HPV.out, HWV.out] at hi'
            have HI := Lib.hid hi'
            by_cases k3 : q' = 3
            · have hw : wv = true := hi'.2.2 k3
              have u1 : (q' == 3) = true := beq_iff_eq.2 k3
              subst hw
              clear hi' k3
              go_wp2_with fail
              have Hg1 := Hg.out
              go_roundg (gk - 1)
              case measure => omega
              case rel =>
                refine ⟨k + 1, q', pv, true, by omega, by simp, rfl, rfl, HI.out, ?_⟩
                obtain ⟨hbel, z0, z1, -, -, -, -, -, -, -, -, -, -, -⟩ := HK.out
                constructor
                · repeat (first | (with_reducible exact hbel) | (with_reducible refine bs_set ?_ _ (by simp; omega)) | (with_reducible refine bs_drewN ?_ _) | (with_reducible refine bs_alloc ?_ _) | (with_reducible refine bs_step ?_ (by assumption)))
                all_goals first | (intro o; simp [go_sem, *]; done) | (simp [go_sem, *]; done) | (simp; omega)
            · have u1 : (q' == 3) = false := beq_eq_false_iff_ne.2 k3
              clear hi' k3
              go_wp2_with fail
              have Hg1 := Hg.out
              go_roundg (gk - 1)
              case measure => omega
              case rel =>
                refine ⟨k + 1, q', pv, wv, by omega, by simp, rfl, rfl, HI.out, ?_⟩
                obtain ⟨hbel, z0, z1, -, -, -, -, -, -, -, -, -, -, -⟩ := HK.out
                constructor
                · repeat (first | (with_reducible exact hbel) | (with_reducible refine bs_set ?_ _ (by simp; omega)) | (with_reducible refine bs_drewN ?_ _) | (with_reducible refine bs_alloc ?_ _) | (with_reducible refine bs_step ?_ (by assumption)))
                all_goals first | (intro o; simp [go_sem, *]; done) | (simp [go_sem, *]; done) | (simp; omega)
    · clear hbel
      go_wp2
      go_ret
      exact ⟨rfl, HK.out.below⟩
theorem law5_all (ph sp no si tr me fr : Int) (A : Option Addr) (n c : Nat) (w : World) (hB : Words w A n) : Calls Try.prog 5 #[.agg #[.int .i64 ph, .int .i64 sp, .int .i64 no, .int .i64 si, .int .i64 tr], .int .i64 me, .int .i64 fr, .slice A n c] w fun e w' => e = .returned (.bool true) ∧ Below w.heap.size w w' := by
  by_cases hv : validB ph sp no si tr = true
  rotate_left
  · exact law5_v _ _ _ _ _ _ _ _ _ _ _ hB (by simpa using hv)
  by_cases hp : ph = 3
  · exact law5_p _ _ _ _ _ _ _ _ _ _ _ hB hv hp
  by_cases hn : n ≤ 40
  · exact law5_m _ _ _ _ _ _ _ _ _ _ _ hB hv hp hn
  · exact law5_n _ _ _ _ _ _ _ _ _ _ _ hB hv hp (by omega)
end Go.Proofs.Yteiiglefbbhinaa
