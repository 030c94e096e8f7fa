/-
  What functions of the program compute, as plain functions, each with its contract: the call returns just that, from every memory that holds its arguments.
-/
import Derived.Test.YtncgeclkgmfppaaDoorH0
import Derived.Test.YtncgeclkgmfppaaDoorH7
import Derived.Test.YtncgeclkgmfppaaDoorH9
import Derived.Test.YtncgeclkgmfppaaDoorH11
import Derived.Test.YtncgeclkgmfppaaDoorH12
namespace Go.Proofs.YtncgeclkgmfppaaDoor.H
open Go.RowKit Go.Proofs.YtncgeclkgmfppaaDoorW.PrintWords Go.Proofs.YtncgeclkgmfppaaDoorW.PrintLast Go.Proofs.YtncgeclkgmfppaaDoorW.PrintMore
attribute [local go_sem] max2_int min2_int max_two min_two max_three min_three max_four min_four   -- for this text's walks alone
set_option linter.unusedVariables false
set_option linter.unusedSimpArgs false

/-! ### slotmeshlaw31_SponsorBounded: function 6 -/
mutual
def slotmeshlaw31_SponsorBounded.l0 : Nat → Int → List (S54) → List Int → Bool → List (S68) → Int → Int → Option (Bool)
  | 0, _, _, _, _, _, _, _ => none
  | k + 1, x0, x1, x2, x7, x8, x9, x10 => if x10 < (x1.length : Int) then (if x10 < (x2.length : Int) then (slotmeshlaw31_SponsorBounded.j1 k x0 x1 x2 x7 x8 x9 x10 (decide (x10 < 60))) else (slotmeshlaw31_SponsorBounded.j1 k x0 x1 x2 x7 x8 x9 x10 false)) else (slotmeshlaw31_SponsorBounded.j1 k x0 x1 x2 x7 x8 x9 x10 false)
def slotmeshlaw31_SponsorBounded.j1 : Nat → Int → List (S54) → List Int → Bool → List (S68) → Int → Int → Bool → Option (Bool)
  | 0, _, _, _, _, _, _, _, _ => none
  | k + 1, x0, x1, x2, x7, x8, x9, x10, x29 => if x29 = true then (if 0 ≤ x10 then (if x10 < (x2.length : Int) then ((sponsor_Expire.f x8 (wrap64 (x9 + (Int.tmod (wrap64 (rd x2 x10)) 8)))).bind fun t248 => (if x10 < (x1.length : Int) then ((sponsor_Hear.f t248 x0 ((rd_T54 x1 x10).f0) ((rd_T54 x1 x10).f1) ((rd_T54 x1 x10).f2) ((rd_T54 x1 x10).f3) ((rd_T54 x1 x10).f4) ((rd_T54 x1 x10).f5) ((rd_T54 x1 x10).f6.f0) ((rd_T54 x1 x10).f6.f1) (wrap64 (x9 + (Int.tmod (wrap64 (rd x2 x10)) 8)))).bind fun bt252 => (if bt252.2 = 0 then (slotmeshlaw31_SponsorBounded.j2 k x0 x1 x2 x7 bt252.1 (wrap64 (x9 + (Int.tmod (wrap64 (rd x2 x10)) 8))) x10) else (slotmeshlaw31_SponsorBounded.j2 k x0 x1 x2 x7 t248 (wrap64 (x9 + (Int.tmod (wrap64 (rd x2 x10)) 8))) x10))) else (none))) else (none)) else (none)) else (some x7)
def slotmeshlaw31_SponsorBounded.j2 : Nat → Int → List (S54) → List Int → Bool → List (S68) → Int → Int → Option (Bool)
  | 0, _, _, _, _, _, _, _ => none
  | k + 1, x0, x1, x2, x7, x8, x9, x10 => (slotmeshref31_Valid.f k x8).bind fun t256 => (if x7 = true then (slotmeshlaw31_SponsorBounded.j3 k x0 x1 x2 t256 x8 x9 x10) else (slotmeshlaw31_SponsorBounded.j3 k x0 x1 x2 false x8 x9 x10))
def slotmeshlaw31_SponsorBounded.j3 : Nat → Int → List (S54) → List Int → Bool → List (S68) → Int → Int → Option (Bool)
  | 0, _, _, _, _, _, _, _ => none
  | k + 1, x0, x1, x2, x7, x8, x9, x10 => slotmeshlaw31_SponsorBounded.l1 k x0 x1 x2 x7 x8 x9 x10 0
def slotmeshlaw31_SponsorBounded.l1 : Nat → Int → List (S54) → List Int → Bool → List (S68) → Int → Int → Int → Option (Bool)
  | 0, _, _, _, _, _, _, _, _ => none
  | k + 1, x0, x1, x2, x7, x8, x9, x10, x14 => if x14 < (x8.length : Int) then (if x7 = true then (if 0 ≤ x14 then (if ((rd_T68 x8 x14).f3) ≥ x9 then (slotmeshlaw31_SponsorBounded.l1 k x0 x1 x2 (decide (((rd_T68 x8 x14).f3) ≤ (wrap64 (x9 + 12)))) x8 x9 x10 (wrap64 (x14 + 1))) else (slotmeshlaw31_SponsorBounded.l1 k x0 x1 x2 false x8 x9 x10 (wrap64 (x14 + 1)))) else (none)) else (slotmeshlaw31_SponsorBounded.l1 k x0 x1 x2 false x8 x9 x10 (wrap64 (x14 + 1)))) else (slotmeshlaw31_SponsorBounded.l0 k x0 x1 x2 x7 x8 x9 (wrap64 (x10 + 1)))
end
def slotmeshlaw31_SponsorBounded.f (k : Nat) (a0 : Int) (l1 : List (S54)) (l2 : List Int) : Option (Bool) := (slotmeshlaw31_head.f).bind fun t246 => (slotmeshlaw31_SponsorBounded.l0 k a0 l1 l2 t246 ([] : List (S68)) 0 0)
theorem slotmeshlaw31_SponsorBounded.mono_l : ∀ k, (∀ y0 y1 y2 y3 y4 y5 y6, LeO (slotmeshlaw31_SponsorBounded.l0 k y0 y1 y2 y3 y4 y5 y6) (slotmeshlaw31_SponsorBounded.l0 (k + 1) y0 y1 y2 y3 y4 y5 y6)) ∧ (∀ y0 y1 y2 y3 y4 y5 y6 y7, LeO (slotmeshlaw31_SponsorBounded.j1 k y0 y1 y2 y3 y4 y5 y6 y7) (slotmeshlaw31_SponsorBounded.j1 (k + 1) y0 y1 y2 y3 y4 y5 y6 y7)) ∧ (∀ y0 y1 y2 y3 y4 y5 y6, LeO (slotmeshlaw31_SponsorBounded.j2 k y0 y1 y2 y3 y4 y5 y6) (slotmeshlaw31_SponsorBounded.j2 (k + 1) y0 y1 y2 y3 y4 y5 y6)) ∧ (∀ y0 y1 y2 y3 y4 y5 y6, LeO (slotmeshlaw31_SponsorBounded.j3 k y0 y1 y2 y3 y4 y5 y6) (slotmeshlaw31_SponsorBounded.j3 (k + 1) y0 y1 y2 y3 y4 y5 y6)) ∧ (∀ y0 y1 y2 y3 y4 y5 y6 y7, LeO (slotmeshlaw31_SponsorBounded.l1 k y0 y1 y2 y3 y4 y5 y6 y7) (slotmeshlaw31_SponsorBounded.l1 (k + 1) y0 y1 y2 y3 y4 y5 y6 y7))
  | 0 => ⟨fun _ _ _ _ _ _ _ r h => by simp [slotmeshlaw31_SponsorBounded.l0] at h, fun _ _ _ _ _ _ _ _ r h => by simp [slotmeshlaw31_SponsorBounded.j1] at h, fun _ _ _ _ _ _ _ r h => by simp [slotmeshlaw31_SponsorBounded.j2] at h, fun _ _ _ _ _ _ _ r h => by simp [slotmeshlaw31_SponsorBounded.j3] at h, fun _ _ _ _ _ _ _ _ r h => by simp [slotmeshlaw31_SponsorBounded.l1] at h⟩
  | k + 1 => by
    obtain ⟨ih0, ih1, ih2, ih3, ih4⟩ := slotmeshlaw31_SponsorBounded.mono_l k
    refine ⟨?_, ?_, ?_, ?_, ?_⟩
    · intro y0 y1 y2 y3 y4 y5 y6
      unfold slotmeshlaw31_SponsorBounded.l0
      repeat' first
      | (with_reducible exact ih0 _ _ _ _ _ _ _)
      | (with_reducible exact ih1 _ _ _ _ _ _ _ _)
      | (with_reducible exact ih2 _ _ _ _ _ _ _)
      | (with_reducible exact ih3 _ _ _ _ _ _ _)
      | (with_reducible exact ih4 _ _ _ _ _ _ _ _)
      | (with_reducible exact slotmeshref31_Valid.mono _ _)
      | (with_reducible exact LeO.refl _)
      | (with_reducible exact LeO.none _)
      | (with_reducible refine LeO.ite ?_ ?_)
      | (with_reducible refine LeO.bind ?_ (fun _ => ?_))
      | exact ih0 _ _ _ _ _ _ _
      | exact ih1 _ _ _ _ _ _ _ _
      | exact ih2 _ _ _ _ _ _ _
      | exact ih3 _ _ _ _ _ _ _
      | exact ih4 _ _ _ _ _ _ _ _
      | exact slotmeshref31_Valid.mono _ _
      | exact LeO.none _
      | refine LeO.ite ?_ ?_
      | refine LeO.bind ?_ (fun _ => ?_)
    · intro y0 y1 y2 y3 y4 y5 y6 y7
      unfold slotmeshlaw31_SponsorBounded.j1
      repeat' first
      | (with_reducible exact ih0 _ _ _ _ _ _ _)
      | (with_reducible exact ih1 _ _ _ _ _ _ _ _)
      | (with_reducible exact ih2 _ _ _ _ _ _ _)
      | (with_reducible exact ih3 _ _ _ _ _ _ _)
      | (with_reducible exact ih4 _ _ _ _ _ _ _ _)
      | (with_reducible exact slotmeshref31_Valid.mono _ _)
      | (with_reducible exact LeO.refl _)
      | (with_reducible exact LeO.none _)
      | (with_reducible refine LeO.ite ?_ ?_)
      | (with_reducible refine LeO.bind ?_ (fun _ => ?_))
      | exact ih0 _ _ _ _ _ _ _
      | exact ih1 _ _ _ _ _ _ _ _
      | exact ih2 _ _ _ _ _ _ _
      | exact ih3 _ _ _ _ _ _ _
      | exact ih4 _ _ _ _ _ _ _ _
      | exact slotmeshref31_Valid.mono _ _
      | exact LeO.none _
      | refine LeO.ite ?_ ?_
      | refine LeO.bind ?_ (fun _ => ?_)
    · intro y0 y1 y2 y3 y4 y5 y6
      unfold slotmeshlaw31_SponsorBounded.j2
      repeat' first
      | (with_reducible exact ih0 _ _ _ _ _ _ _)
      | (with_reducible exact ih1 _ _ _ _ _ _ _ _)
      | (with_reducible exact ih2 _ _ _ _ _ _ _)
      | (with_reducible exact ih3 _ _ _ _ _ _ _)
      | (with_reducible exact ih4 _ _ _ _ _ _ _ _)
      | (with_reducible exact slotmeshref31_Valid.mono _ _)
      | (with_reducible exact LeO.refl _)
      | (with_reducible exact LeO.none _)
      | (with_reducible refine LeO.ite ?_ ?_)
      | (with_reducible refine LeO.bind ?_ (fun _ => ?_))
      | exact ih0 _ _ _ _ _ _ _
      | exact ih1 _ _ _ _ _ _ _ _
      | exact ih2 _ _ _ _ _ _ _
      | exact ih3 _ _ _ _ _ _ _
      | exact ih4 _ _ _ _ _ _ _ _
      | exact slotmeshref31_Valid.mono _ _
      | exact LeO.none _
      | refine LeO.ite ?_ ?_
      | refine LeO.bind ?_ (fun _ => ?_)
    · intro y0 y1 y2 y3 y4 y5 y6
      unfold slotmeshlaw31_SponsorBounded.j3
      repeat' first
      | (with_reducible exact ih0 _ _ _ _ _ _ _)
      | (with_reducible exact ih1 _ _ _ _ _ _ _ _)
      | (with_reducible exact ih2 _ _ _ _ _ _ _)
      | (with_reducible exact ih3 _ _ _ _ _ _ _)
      | (with_reducible exact ih4 _ _ _ _ _ _ _ _)
      | (with_reducible exact slotmeshref31_Valid.mono _ _)
      | (with_reducible exact LeO.refl _)
      | (with_reducible exact LeO.none _)
      | (with_reducible refine LeO.ite ?_ ?_)
      | (with_reducible refine LeO.bind ?_ (fun _ => ?_))
      | exact ih0 _ _ _ _ _ _ _
      | exact ih1 _ _ _ _ _ _ _ _
      | exact ih2 _ _ _ _ _ _ _
      | exact ih3 _ _ _ _ _ _ _
      | exact ih4 _ _ _ _ _ _ _ _
      | exact slotmeshref31_Valid.mono _ _
      | exact LeO.none _
      | refine LeO.ite ?_ ?_
      | refine LeO.bind ?_ (fun _ => ?_)
    · intro y0 y1 y2 y3 y4 y5 y6 y7
      unfold slotmeshlaw31_SponsorBounded.l1
      repeat' first
      | (with_reducible exact ih0 _ _ _ _ _ _ _)
      | (with_reducible exact ih1 _ _ _ _ _ _ _ _)
      | (with_reducible exact ih2 _ _ _ _ _ _ _)
      | (with_reducible exact ih3 _ _ _ _ _ _ _)
      | (with_reducible exact ih4 _ _ _ _ _ _ _ _)
      | (with_reducible exact slotmeshref31_Valid.mono _ _)
      | (with_reducible exact LeO.refl _)
      | (with_reducible exact LeO.none _)
      | (with_reducible refine LeO.ite ?_ ?_)
      | (with_reducible refine LeO.bind ?_ (fun _ => ?_))
      | exact ih0 _ _ _ _ _ _ _
      | exact ih1 _ _ _ _ _ _ _ _
      | exact ih2 _ _ _ _ _ _ _
      | exact ih3 _ _ _ _ _ _ _
      | exact ih4 _ _ _ _ _ _ _ _
      | exact slotmeshref31_Valid.mono _ _
      | exact LeO.none _
      | refine LeO.ite ?_ ?_
      | refine LeO.bind ?_ (fun _ => ?_)
theorem slotmeshlaw31_SponsorBounded.mono : ∀ a0 a1 a2 k, LeO (slotmeshlaw31_SponsorBounded.f k a0 a1 a2) (slotmeshlaw31_SponsorBounded.f (k + 1) a0 a1 a2) := by
  intro a0 a1 a2 k
  obtain ⟨ih0, ih1, ih2, ih3, ih4⟩ := slotmeshlaw31_SponsorBounded.mono_l k
  unfold slotmeshlaw31_SponsorBounded.f
  repeat' first
      | (with_reducible exact ih0 _ _ _ _ _ _ _)
      | (with_reducible exact ih1 _ _ _ _ _ _ _ _)
      | (with_reducible exact ih2 _ _ _ _ _ _ _)
      | (with_reducible exact ih3 _ _ _ _ _ _ _)
      | (with_reducible exact ih4 _ _ _ _ _ _ _ _)
      | (with_reducible exact slotmeshref31_Valid.mono _ _)
      | (with_reducible exact LeO.refl _)
      | (with_reducible exact LeO.none _)
      | (with_reducible refine LeO.ite ?_ ?_)
      | (with_reducible refine LeO.bind ?_ (fun _ => ?_))
      | exact ih0 _ _ _ _ _ _ _
      | exact ih1 _ _ _ _ _ _ _ _
      | exact ih2 _ _ _ _ _ _ _
      | exact ih3 _ _ _ _ _ _ _
      | exact ih4 _ _ _ _ _ _ _ _
      | exact slotmeshref31_Valid.mono _ _
      | exact LeO.none _
      | refine LeO.ite ?_ ?_
      | refine LeO.bind ?_ (fun _ => ?_)
set_option maxHeartbeats 8000000 in
set_option maxRecDepth 100000 in
theorem slotmeshlaw31_SponsorBounded.calls (k : Nat) (a0 : Int) (A1 : Option Addr) (c1 : Nat) (l1 : List (S54)) (A2 : Option Addr) (c2 : Nat) (l2 : List Int) (r : Bool) (w : World) (hG : Laid w) (hr1 : Kd.C k54 w A1 l1.length l1) (hc1 : l1.length ≤ c1) (hr2 : Kd.C (Kd.int .u8) w A2 l2.length l2) (hc2 : l2.length ≤ c2) (h : slotmeshlaw31_SponsorBounded.f k a0 l1 l2 = some r) :
    Calls Tryd.prog 6 #[.int .i64 a0, .slice A1 l1.length c1, .slice A2 l2.length c2] w fun e w' => e = .returned (.bool r) ∧ Below w.heap.size w w' := by
  have HG := Aside0.mk hG
  clear hG
  have hu54 := Tryd.underlying54
  have HR1 := Aside0.mk hr1
  have HC1 := Aside0.mk hc1
  clear hr1 hc1
  have HR2 := Aside0.mk hr2
  have HC2 := Aside0.mk hc2
  clear hr2 hc2
  have HB := Aside0.mk (Below.refl w.heap.size w)
  have H : ((slotmeshlaw31_head.f).bind fun t246 => (slotmeshlaw31_SponsorBounded.l0 k a0 l1 l2 t246 ([] : List (S68)) 0 0)) = some r := h
  clear h
  replace H := Option.bind_eq_some_iff.mp H
  obtain ⟨t246, A40, H⟩ := H
  replace H : (slotmeshlaw31_SponsorBounded.l0 k a0 l1 l2 t246 ([] : List (S68)) 0 0) = some r := H
  have A4 := Aside0.mk A40
  clear A40
  have H' := Aside0.mk H
  clear H
  go_enter Tryd.func6, Tryd.ntmps6
  go_wp2_with (first | ((with_reducible refine gate_callee (f := 25) rfl ?_); refine goesL_ (some 15) rfl rfl Tryd.func25 (by kernel_rfl) rfl #[] rfl (by (try simp only [List.map_toArray, List.map_cons, List.map_nil]); first | done | rfl | (simp only [List.length_drop, List.length_take]; rfl)) ?_; (with_reducible refine (slotmeshlaw31_head.calls  t246 _ (HG.out.later (by repeat (first | (with_reducible first | exact HB.out | apply below_alloc | apply pw_below_drewN | apply below_drew1) | exact HB.out))) A4.out).mono ?_); rintro e w5 ⟨rfl, hb⟩; refine ⟨_, rfl, ?_⟩; have n0_ := Aside0.mk (below_step (by repeat (first | (with_reducible first | exact HB.out | apply below_alloc | apply pw_below_drewN | apply below_drew1) | exact HB.out)) hb); clear HB; have HB := n0_; clear n0_; (try clear hb); (try clear hb2); (try clear hk); (try clear hi)))
  go_loopg [7, 8, 9, 10] k (fun kq v7 v8 v9 v10 w' => ∃ (x7_1 : Bool) (x8_1 : List (S68)) (x9_1 : Int) (x10_1 : Int), v7 = .bool x7_1 ∧ v9 = .int .i64 x9_1 ∧ v10 = .int .i64 x10_1 ∧ Aside0 (slotmeshlaw31_SponsorBounded.l0 kq a0 l1 l2 x7_1 x8_1 x9_1 x10_1 = some r) ∧ Aside0 (kq ≤ k) ∧ Aside0 (Kd.R k68 68 w' w.heap.size (fun _ => True) v8 x8_1) ∧ Aside0 (Below w.heap.size w w'))
  case atStart => exact ⟨(t246), (([] : List (S68))), (0), (0), (by first | rfl | (simp; done) | (simp [*]; done)), (by first | rfl | (simp; done) | (simp [*]; done)), (by first | rfl | (simp; done) | (simp [*]; done)), H', ⟨Nat.le_refl _⟩, ⟨by first | exact Kd.R_nil _ _ _ _ _ | exact Kd.N_nil _ _ _ _ _ | exact Kd.V_nil _ _ _ _ _ | exact Kd.Q_nil _ _ _ _ _ | exact Kd.S_nil _ _ _ _ _⟩, ⟨by repeat (first | (with_reducible first | exact HB.out | apply below_alloc | apply pw_below_drewN | apply below_drew1) | exact HB.out)⟩⟩
  case round =>
    clear H'
    try clear c1
    try clear c2
    try clear p2
    obtain ⟨x7_1, x8_1, x9_1, x10_1, rfl, rfl, rfl, HA, HK1, HO_8, HB⟩ := hrel
    cases gk with
    | zero => exact absurd HA.out (by simp [slotmeshlaw31_SponsorBounded.l0])
    | succ k1 =>
      have H := HA.out
      clear HA
      simp only [slotmeshlaw31_SponsorBounded.l0] at H
      have HC6 := Aside0.mk H
      clear H
      go_upto_region 5 with (fail)
      go_cut [29] (fun v29 wc => ∃ (kq : Nat) (x29_5 : Bool), v29 = .bool x29_5 ∧ Aside0 (slotmeshlaw31_SponsorBounded.j1 kq a0 l1 l2 x7_1 x8_1 x9_1 x10_1 x29_5 = some r) ∧ Aside0 (kq ≤ k1) ∧ Aside0 (Kd.R k68 68 wc w.heap.size (fun _ => True) u8 x8_1) ∧ Aside0 (Below w.heap.size w wc))
      case first =>
        have H := HC6.out
        clear HC6
        by_cases c7 : x10_1 < (l1.length : Int)
        · rw [if_pos c7] at H
          have c7b0 : decide (x10_1 < (l1.length : Int)) = true := decide_eq_true c7
          clear c7
          (first | rw [c7b0] | (simp only [i64_w, i32_w]; rw [c7b0]) | skip)
          by_cases c8 : x10_1 < (l2.length : Int)
          · rw [if_pos c8] at H
            have c8b0 : decide (x10_1 < (l2.length : Int)) = true := decide_eq_true c8
            clear c8
            have H' := Aside0.mk H
            clear H
            go_wp2
            go_meet
            case rel => exact ⟨_, (decide (x10_1 < 60)), (by first | rfl | (simp; done) | (simp [*]; done)), H', ⟨by have := HK1.out; first | omega | exact Nat.le_refl _⟩, ⟨by (with_reducible repeat (first | apply Kd.R_alloc | apply Kd.R_drewN | apply Kd.R_drew)); exact HO_8.out⟩, ⟨by repeat (first | (with_reducible first | exact HB.out | apply below_alloc | apply pw_below_drewN | apply below_drew1) | exact HB.out)⟩⟩
          · rw [if_neg c8] at H
            have c8b0 : decide (x10_1 < (l2.length : Int)) = false := decide_eq_false c8
            clear c8
            have H' := Aside0.mk H
            clear H
            go_wp2
            go_meet
            case rel => exact ⟨_, (false), (by first | rfl | (simp; done) | (simp [*]; done)), H', ⟨by have := HK1.out; first | omega | exact Nat.le_refl _⟩, ⟨by (with_reducible repeat (first | apply Kd.R_alloc | apply Kd.R_drewN | apply Kd.R_drew)); exact HO_8.out⟩, ⟨by repeat (first | (with_reducible first | exact HB.out | apply below_alloc | apply pw_below_drewN | apply below_drew1) | exact HB.out)⟩⟩
        · rw [if_neg c7] at H
          have c7b0 : decide (x10_1 < (l1.length : Int)) = false := decide_eq_false c7
          clear c7
          (first | rw [c7b0] | (simp only [i64_w, i32_w]; rw [c7b0]) | skip)
          have H' := Aside0.mk H
          clear H
          go_wp2
          go_meet
          case rel => exact ⟨_, (false), (by first | rfl | (simp; done) | (simp [*]; done)), H', ⟨by have := HK1.out; first | omega | exact Nat.le_refl _⟩, ⟨by (with_reducible repeat (first | apply Kd.R_alloc | apply Kd.R_drewN | apply Kd.R_drew)); exact HO_8.out⟩, ⟨by repeat (first | (with_reducible first | exact HB.out | apply below_alloc | apply pw_below_drewN | apply below_drew1) | exact HB.out)⟩⟩
      case rest =>
        clear HC6
        try clear c1
        try clear c2
        try clear p2
        try clear c6
        try clear c7
        try clear c7b0
        try clear c8
        try clear c8b0
        try clear p2
        obtain ⟨kq, x29_5, rfl, HA, HJ5, HO_8, HB⟩ := hcut
        cases kq with
        | zero => exact absurd HA.out (by simp [slotmeshlaw31_SponsorBounded.j1])
        | succ kj5 =>
          have H := HA.out
          clear HA
          simp only [slotmeshlaw31_SponsorBounded.j1] at H
          by_cases c9 : x29_5 = true
          · subst c9
            have H1 : (if 0 ≤ x10_1 then (if x10_1 < (l2.length : Int) then ((sponsor_Expire.f x8_1 (wrap64 (x9_1 + (Int.tmod (wrap64 (rd l2 x10_1)) 8)))).bind fun t248 => (if x10_1 < (l1.length : Int) then ((sponsor_Hear.f t248 a0 ((rd_T54 l1 x10_1).f0) ((rd_T54 l1 x10_1).f1) ((rd_T54 l1 x10_1).f2) ((rd_T54 l1 x10_1).f3) ((rd_T54 l1 x10_1).f4) ((rd_T54 l1 x10_1).f5) ((rd_T54 l1 x10_1).f6.f0) ((rd_T54 l1 x10_1).f6.f1) (wrap64 (x9_1 + (Int.tmod (wrap64 (rd l2 x10_1)) 8)))).bind fun bt252 => (if bt252.2 = 0 then (slotmeshlaw31_SponsorBounded.j2 kj5 a0 l1 l2 x7_1 bt252.1 (wrap64 (x9_1 + (Int.tmod (wrap64 (rd l2 x10_1)) 8))) x10_1) else (slotmeshlaw31_SponsorBounded.j2 kj5 a0 l1 l2 x7_1 t248 (wrap64 (x9_1 + (Int.tmod (wrap64 (rd l2 x10_1)) 8))) x10_1))) else (none))) else (none)) else (none)) = some r := by rw [if_pos rfl] at H; exact H
            clear H
            have H := H1
            clear H1
            by_cases c10 : 0 ≤ x10_1
            · rw [if_pos c10] at H
              have c10b0 : decide (0 ≤ x10_1) = true := decide_eq_true c10
              clear c10
              by_cases c11 : x10_1 < (l2.length : Int)
              · rw [if_pos c11] at H
                have c11b0 : decide (x10_1 < (l2.length : Int)) = true := decide_eq_true c11
                clear c11
                replace H := Option.bind_eq_some_iff.mp H
                obtain ⟨t248, A120, H⟩ := H
                replace H : (if x10_1 < (l1.length : Int) then ((sponsor_Hear.f t248 a0 ((rd_T54 l1 x10_1).f0) ((rd_T54 l1 x10_1).f1) ((rd_T54 l1 x10_1).f2) ((rd_T54 l1 x10_1).f3) ((rd_T54 l1 x10_1).f4) ((rd_T54 l1 x10_1).f5) ((rd_T54 l1 x10_1).f6.f0) ((rd_T54 l1 x10_1).f6.f1) (wrap64 (x9_1 + (Int.tmod (wrap64 (rd l2 x10_1)) 8)))).bind fun bt252 => (if bt252.2 = 0 then (slotmeshlaw31_SponsorBounded.j2 kj5 a0 l1 l2 x7_1 bt252.1 (wrap64 (x9_1 + (Int.tmod (wrap64 (rd l2 x10_1)) 8))) x10_1) else (slotmeshlaw31_SponsorBounded.j2 kj5 a0 l1 l2 x7_1 t248 (wrap64 (x9_1 + (Int.tmod (wrap64 (rd l2 x10_1)) 8))) x10_1))) else (none)) = some r := H
                have A12 := Aside0.mk A120
                clear A120
                by_cases c13 : x10_1 < (l1.length : Int)
                · rw [if_pos c13] at H
                  have c13b0 : decide (x10_1 < (l1.length : Int)) = true := decide_eq_true c13
                  clear c13
                  replace H := Option.bind_eq_some_iff.mp H
                  obtain ⟨⟨t252, t255⟩, A140, H⟩ := H
                  replace H : (if t255 = 0 then (slotmeshlaw31_SponsorBounded.j2 kj5 a0 l1 l2 x7_1 t252 (wrap64 (x9_1 + (Int.tmod (wrap64 (rd l2 x10_1)) 8))) x10_1) else (slotmeshlaw31_SponsorBounded.j2 kj5 a0 l1 l2 x7_1 t248 (wrap64 (x9_1 + (Int.tmod (wrap64 (rd l2 x10_1)) 8))) x10_1)) = some r := H
                  have A14 := Aside0.mk A140
                  clear A140
                  have HC15 := Aside0.mk H
                  clear H
                  have p247 : 0 ≤ (x10_1 : Int) := of_decide_eq_true (by first | (with_reducible assumption) | assumption)
                  have q247 : x10_1 < (l2.length : Int) := of_decide_eq_true (by first | (with_reducible assumption) | assumption)
                  obtain ⟨ad247, e247, hx247_0⟩ := Kd.at_int HR2.out x10_1 p247 q247
                  cases e247
                  replace hx247_0 := (HB.out.cell (World.block_lt_of_cell? w _ hx247_0)).trans hx247_0
                  replace p247 := eq_true p247
                  replace q247 := eq_true q247
                  obtain ⟨Ao16, co16, eo16⟩ := Kd.R_slice HO_8.out
                  subst eo16
                  go_upto_if 55 with (first | ((with_reducible refine gate_callee (f := 31) rfl ?_); refine goesL_ (some 42) rfl rfl Tryd.func31 (by kernel_rfl) rfl #[.slice Ao16 x8_1.length co16, .int .i64 (wrap64 (x9_1 + (Int.tmod (wrap64 (rd l2 x10_1)) 8)))] rfl (by (try simp only [List.map_toArray, List.map_cons, List.map_nil]); first | done | rfl | (simp only [List.length_drop, List.length_take]; rfl)) ?_; (with_reducible refine (sponsor_Expire.calls _ _ x8_1 (wrap64 (x9_1 + (Int.tmod (wrap64 (rd l2 x10_1)) 8))) t248 _ ?side1 ?side2 A12.out).mono ?_); (case side1 => repeat (first | exact (Kd.R_reads' HO_8.out).2.2 | (with_reducible refine Kd.C_alloc ?_ _) | (with_reducible refine Kd.C_drewN ?_ _) | (with_reducible refine Kd.C_drew ?_))); (case side2 => exact (Kd.R_reads' HO_8.out).2.1); rintro e w17 ⟨v249, rfl, ho0, hb⟩; refine ⟨_, rfl, ?_⟩; have n0_ := Aside0.mk (Kd.R_elder' (by (with_reducible repeat (first | apply Kd.R_alloc | apply Kd.R_drewN | apply Kd.R_drew)); exact HO_8.out) (Kd.R_base ho0) hb); have n1_ := Aside0.mk (Kd.R_lower (Kd.R_new' ho0 (Kd.R_lt (by (with_reducible repeat (first | apply Kd.R_alloc | apply Kd.R_drewN | apply Kd.R_drew)); exact HO_8.out))) (below_size (by repeat (first | (with_reducible first | exact HB.out | apply below_alloc | apply pw_below_drewN | apply below_drew1) | exact HB.out)))); have n2_ := Aside0.mk (below_step (by repeat (first | (with_reducible first | exact HB.out | apply below_alloc | apply pw_below_drewN | apply below_drew1) | exact HB.out)) hb); clear HO_8; clear HB; have HO_8 := n0_; have HO250 := n1_; have HB := n2_; clear n0_ n1_ n2_; (try clear hb); (try clear hb2); (try clear hk); (try clear hi); (try clear ho0); have p251 : 0 ≤ (x10_1 : Int) := of_decide_eq_true (by first | (with_reducible assumption) | assumption); have q251 : x10_1 < (l1.length : Int) := of_decide_eq_true (by first | (with_reducible assumption) | assumption); obtain ⟨ad251, e251, hx251_0, hx251_1, hx251_2, hx251_3, hx251_4, hx251_5, hx251_6, hx251_7⟩ := at_T54 HR1.out x10_1 p251 q251; cases e251; replace hx251_0 := (HB.out.cell (World.block_lt_of_cell? w _ hx251_0)).trans hx251_0; replace hx251_1 := (HB.out.cell (World.block_lt_of_cell? w _ hx251_1)).trans hx251_1; replace hx251_2 := (HB.out.cell (World.block_lt_of_cell? w _ hx251_2)).trans hx251_2; replace hx251_3 := (HB.out.cell (World.block_lt_of_cell? w _ hx251_3)).trans hx251_3; replace hx251_4 := (HB.out.cell (World.block_lt_of_cell? w _ hx251_4)).trans hx251_4; replace hx251_5 := (HB.out.cell (World.block_lt_of_cell? w _ hx251_5)).trans hx251_5; replace hx251_6 := (HB.out.cell (World.block_lt_of_cell? w _ hx251_6)).trans hx251_6; replace hx251_7 := (HB.out.cell (World.block_lt_of_cell? w _ hx251_7)).trans hx251_7; replace p251 := eq_true p251; replace q251 := eq_true q251; obtain ⟨Ao18, co18, eo18⟩ := Kd.R_slice HO250.out; subst eo18) | ((with_reducible refine gate_callee (f := 26) rfl ?_); refine goesL_ (some 51) rfl rfl Tryd.func26 (by kernel_rfl) rfl #[.slice Ao18 t248.length co18, .int .i64 a0, .agg #[.int .i64 ((rd_T54 l1 x10_1).f0), .int .i64 ((rd_T54 l1 x10_1).f1), .int .i64 ((rd_T54 l1 x10_1).f2), .int .i64 ((rd_T54 l1 x10_1).f3), .int .i64 ((rd_T54 l1 x10_1).f4), .int .i64 ((rd_T54 l1 x10_1).f5), .int .i64 ((rd_T54 l1 x10_1).f6.f0), .int .i64 ((rd_T54 l1 x10_1).f6.f1)], .int .i64 (wrap64 (x9_1 + (Int.tmod (wrap64 (rd l2 x10_1)) 8)))] rfl (by (try simp only [List.map_toArray, List.map_cons, List.map_nil]); first | done | rfl | (simp only [List.length_drop, List.length_take]; rfl)) ?_; (with_reducible refine (sponsor_Hear.calls _ _ t248 a0 ((rd_T54 l1 x10_1).f0) ((rd_T54 l1 x10_1).f1) ((rd_T54 l1 x10_1).f2) ((rd_T54 l1 x10_1).f3) ((rd_T54 l1 x10_1).f4) ((rd_T54 l1 x10_1).f5) ((rd_T54 l1 x10_1).f6.f0) ((rd_T54 l1 x10_1).f6.f1) (wrap64 (x9_1 + (Int.tmod (wrap64 (rd l2 x10_1)) 8))) t252 t255 _ (HG.out.later (by repeat (first | (with_reducible first | exact HB.out | apply below_alloc | apply pw_below_drewN | apply below_drew1) | exact HB.out))) ?side1 ?side2 A14.out).mono ?_); (case side1 => repeat (first | exact (Kd.R_reads' HO250.out).2.2 | (with_reducible refine Kd.C_alloc ?_ _) | (with_reducible refine Kd.C_drewN ?_ _) | (with_reducible refine Kd.C_drew ?_))); (case side2 => exact (Kd.R_reads' HO250.out).2.1); rintro e w19 ⟨v253, rfl, ho0, hb⟩; refine ⟨_, rfl, ?_⟩; have n0_ := Aside0.mk (Kd.R_elder' (by (with_reducible repeat (first | apply Kd.R_alloc | apply Kd.R_drewN | apply Kd.R_drew)); exact HO_8.out) (Kd.R_base ho0) hb); have n1_ := Aside0.mk (Kd.R_elder' (by (with_reducible repeat (first | apply Kd.R_alloc | apply Kd.R_drewN | apply Kd.R_drew)); exact HO250.out) (Kd.R_base ho0) hb); have n2_ := Aside0.mk (Kd.R_lower (Kd.R_new' (Kd.R_new' ho0 (Kd.R_lt (by (with_reducible repeat (first | apply Kd.R_alloc | apply Kd.R_drewN | apply Kd.R_drew)); exact HO_8.out))) (Kd.R_lt (by (with_reducible repeat (first | apply Kd.R_alloc | apply Kd.R_drewN | apply Kd.R_drew)); exact HO250.out))) (below_size (by repeat (first | (with_reducible first | exact HB.out | apply below_alloc | apply pw_below_drewN | apply below_drew1) | exact HB.out)))); have n3_ := Aside0.mk (below_step (by repeat (first | (with_reducible first | exact HB.out | apply below_alloc | apply pw_below_drewN | apply below_drew1) | exact HB.out)) hb); clear HO_8; clear HO250; clear HB; have HO_8 := n0_; have HO250 := n1_; have HO254 := n2_; have HB := n3_; clear n0_ n1_ n2_ n3_; (try clear hb); (try clear hb2); (try clear hk); (try clear hi); (try clear ho0)))
                  (try simp only [Act.put, List.setIfInBounds_toArray, List.set_cons_zero, List.set_cons_succ])
                  go_cut [8] (fun v8 wc => ∃ (kq : Nat) (x8_14 : List (S68)), Aside0 (slotmeshlaw31_SponsorBounded.j2 kq a0 l1 l2 x7_1 x8_14 (wrap64 (x9_1 + (Int.tmod (wrap64 (rd l2 x10_1)) 8))) x10_1 = some r) ∧ Aside0 (kq ≤ kj5) ∧ Aside0 (Kd.R k68 68 wc w.heap.size (fun _ => True) v8 x8_14) ∧ Aside0 (Below w.heap.size w wc))
                  case first =>
                    have H := HC15.out
                    clear HC15
                    by_cases c20 : t255 = 0
                    · rw [if_pos c20] at H
                      have c20b0 : (t255 == 0) = true := beq_iff_eq.mpr c20
                      have c20b1 : (t255 != 0) = false := bne_eq_false_iff_eq.mpr c20
                      clear c20
                      (first | rw [c20b0] | (simp only [i64_w, i32_w]; rw [c20b0]) | skip)
                      have H' := Aside0.mk H
                      clear H
                      go_wp2
                      go_meet
                      case rel => exact ⟨_, (t252), H', ⟨by have := HK1.out; have := HJ5.out; first | omega | exact Nat.le_refl _⟩, ⟨by (with_reducible repeat (first | apply Kd.R_alloc | apply Kd.R_drewN | apply Kd.R_drew)); exact Kd.R_mono HO254.out (fun _ hk => trivial)⟩, ⟨by repeat (first | (with_reducible first | exact HB.out | apply below_alloc | apply pw_below_drewN | apply below_drew1) | exact HB.out)⟩⟩
                    · rw [if_neg c20] at H
                      have c20b0 : (t255 == 0) = false := beq_eq_false_iff_ne.mpr c20
                      have c20b1 : (t255 != 0) = true := bne_iff_ne.mpr c20
                      (first | rw [c20b0] | (simp only [i64_w, i32_w]; rw [c20b0]) | skip)
                      have H' := Aside0.mk H
                      clear H
                      go_wp2
                      go_meet
                      case rel => exact ⟨_, (t248), H', ⟨by have := HK1.out; have := HJ5.out; first | omega | exact Nat.le_refl _⟩, ⟨by (with_reducible repeat (first | apply Kd.R_alloc | apply Kd.R_drewN | apply Kd.R_drew)); exact Kd.R_mono HO250.out (fun _ hk => trivial)⟩, ⟨by repeat (first | (with_reducible first | exact HB.out | apply below_alloc | apply pw_below_drewN | apply below_drew1) | exact HB.out)⟩⟩
                  case rest =>
                    clear HC15
                    try clear c1
                    try clear c2
                    try clear p2
                    try clear q2
                    try clear hx2
                    try clear c3
                    try clear c6
                    try clear p6
                    try clear c7
                    try clear c7b0
                    try clear c8
                    try clear c8b0
                    try clear c9
                    try clear c10
                    try clear c10b0
                    try clear c11
                    try clear c11b0
                    try clear c13
                    try clear c13b0
                    try clear c20
                    try clear c20b0
                    try clear c20b1
                    try clear hx247_0
                    try clear hx251_0
                    try clear hx251_1
                    try clear hx251_2
                    try clear hx251_3
                    try clear hx251_4
                    try clear hx251_5
                    try clear hx251_6
                    try clear hx251_7
                    try clear p2
                    try clear p247
                    try clear p251
                    try clear q247
                    try clear q251
                    obtain ⟨kq, x8_14, HA, HJ14, HO_8, HB⟩ := hcut
                    cases kq with
                    | zero => exact absurd HA.out (by simp [slotmeshlaw31_SponsorBounded.j2])
                    | succ kj14 =>
                      have H := HA.out
                      clear HA
                      simp only [slotmeshlaw31_SponsorBounded.j2] at H
                      replace H := Option.bind_eq_some_iff.mp H
                      obtain ⟨t256, A210, H⟩ := H
                      replace H : (if x7_1 = true then (slotmeshlaw31_SponsorBounded.j3 kj14 a0 l1 l2 t256 x8_14 (wrap64 (x9_1 + (Int.tmod (wrap64 (rd l2 x10_1)) 8))) x10_1) else (slotmeshlaw31_SponsorBounded.j3 kj14 a0 l1 l2 false x8_14 (wrap64 (x9_1 + (Int.tmod (wrap64 (rd l2 x10_1)) 8))) x10_1)) = some r := H
                      have A21 := Aside0.mk A210
                      clear A210
                      have HC22 := Aside0.mk H
                      clear H
                      obtain ⟨Ao23, co23, eo23⟩ := Kd.R_slice HO_8.out
                      subst eo23
                      go_upto_region 13 with (first | ((with_reducible refine gate_callee (f := 29) rfl ?_); refine goesL_ (some 58) rfl rfl Tryd.func29 (by kernel_rfl) rfl #[.slice Ao23 x8_14.length co23] rfl (by (try simp only [List.map_toArray, List.map_cons, List.map_nil]); first | done | rfl | (simp only [List.length_drop, List.length_take]; rfl)) ?_; (with_reducible refine (slotmeshref31_Valid.calls kj14 _ _ x8_14 t256 _ ?side1 ?side2 A21.out).mono ?_); (case side1 => repeat (first | exact (Kd.R_reads' HO_8.out).2.2 | (with_reducible refine Kd.C_alloc ?_ _) | (with_reducible refine Kd.C_drewN ?_ _) | (with_reducible refine Kd.C_drew ?_))); (case side2 => exact (Kd.R_reads' HO_8.out).2.1); rintro e w24 ⟨rfl, hb⟩; refine ⟨_, rfl, ?_⟩; have n0_ := Aside0.mk (Kd.R_below (by (with_reducible repeat (first | apply Kd.R_alloc | apply Kd.R_drewN | apply Kd.R_drew)); exact HO_8.out) hb); have n1_ := Aside0.mk (below_step (by repeat (first | (with_reducible first | exact HB.out | apply below_alloc | apply pw_below_drewN | apply below_drew1) | exact HB.out)) hb); clear HO_8; clear HB; have HO_8 := n0_; have HB := n1_; clear n0_ n1_; (try clear hb); (try clear hb2); (try clear hk); (try clear hi)))
                      (try simp only [Act.put, List.setIfInBounds_toArray, List.set_cons_zero, List.set_cons_succ])
                      go_cut [7] (fun v7 wc => ∃ (kq : Nat) (x7_21 : Bool), v7 = .bool x7_21 ∧ Aside0 (slotmeshlaw31_SponsorBounded.j3 kq a0 l1 l2 x7_21 x8_14 (wrap64 (x9_1 + (Int.tmod (wrap64 (rd l2 x10_1)) 8))) x10_1 = some r) ∧ Aside0 (kq ≤ kj14) ∧ Aside0 (Kd.R k68 68 wc w.heap.size (fun _ => True) (.slice Ao23 x8_14.length co23) x8_14) ∧ Aside0 (Below w.heap.size w wc))
                      case first =>
                        have H := HC22.out
                        clear HC22
                        by_cases c25 : x7_1 = true
                        · subst c25
                          have H1 : (slotmeshlaw31_SponsorBounded.j3 kj14 a0 l1 l2 t256 x8_14 (wrap64 (x9_1 + (Int.tmod (wrap64 (rd l2 x10_1)) 8))) x10_1) = some r := by rw [if_pos rfl] at H; exact H
                          clear H
                          have H := H1
                          clear H1
                          have H' := Aside0.mk H
                          clear H
                          go_wp2
                          go_meet
                          case rel => exact ⟨_, (t256), (by first | rfl | (simp; done) | (simp [*]; done)), H', ⟨by have := HK1.out; have := HJ5.out; have := HJ14.out; first | omega | exact Nat.le_refl _⟩, ⟨by (with_reducible repeat (first | apply Kd.R_alloc | apply Kd.R_drewN | apply Kd.R_drew)); exact HO_8.out⟩, ⟨by repeat (first | (with_reducible first | exact HB.out | apply below_alloc | apply pw_below_drewN | apply below_drew1) | exact HB.out)⟩⟩
                        · replace c25 := Bool.eq_false_iff.mpr c25
                          subst c25
                          have H1 : (slotmeshlaw31_SponsorBounded.j3 kj14 a0 l1 l2 false x8_14 (wrap64 (x9_1 + (Int.tmod (wrap64 (rd l2 x10_1)) 8))) x10_1) = some r := by rw [if_neg (show ¬ (false = true) by decide)] at H; exact H
                          clear H
                          have H := H1
                          clear H1
                          have H' := Aside0.mk H
                          clear H
                          go_wp2
                          go_meet
                          case rel => exact ⟨_, (false), (by first | rfl | (simp; done) | (simp [*]; done)), H', ⟨by have := HK1.out; have := HJ5.out; have := HJ14.out; first | omega | exact Nat.le_refl _⟩, ⟨by (with_reducible repeat (first | apply Kd.R_alloc | apply Kd.R_drewN | apply Kd.R_drew)); exact HO_8.out⟩, ⟨by repeat (first | (with_reducible first | exact HB.out | apply below_alloc | apply pw_below_drewN | apply below_drew1) | exact HB.out)⟩⟩
                      case rest =>
                        clear HC22
                        try clear c1
                        try clear c2
                        try clear p2
                        try clear q2
                        try clear hx2
                        try clear c3
                        try clear c6
                        try clear p6
                        try clear c7
                        try clear c7b0
                        try clear c8
                        try clear c8b0
                        try clear c9
                        try clear c10
                        try clear c10b0
                        try clear c11
                        try clear c11b0
                        try clear c13
                        try clear c13b0
                        try clear c20
                        try clear c20b0
                        try clear c20b1
                        try clear p24
                        try clear q24
                        try clear hx24
                        try clear c25
                        try clear p25
                        try clear q25
                        try clear hx25
                        try clear hx247_0
                        try clear hx251_0
                        try clear hx251_1
                        try clear hx251_2
                        try clear hx251_3
                        try clear hx251_4
                        try clear hx251_5
                        try clear hx251_6
                        try clear hx251_7
                        try clear p2
                        try clear p247
                        try clear p251
                        try clear p6
                        try clear q2
                        try clear q247
                        try clear q251
                        obtain ⟨kq, x7_21, rfl, HA, HJ21, HO_8, HB⟩ := hcut
                        cases kq with
                        | zero => exact absurd HA.out (by simp [slotmeshlaw31_SponsorBounded.j3])
                        | succ kj21 =>
                          have H := HA.out
                          clear HA
                          simp only [slotmeshlaw31_SponsorBounded.j3] at H
                          have H' := Aside0.mk H
                          clear H
                          go_wp2
                          go_loopg [7, 14] kj21 (fun kq v7 v14 w' => ∃ (x7_5 : Bool) (x14_5 : Int), v7 = .bool x7_5 ∧ v14 = .int .i64 x14_5 ∧ Aside0 (slotmeshlaw31_SponsorBounded.l1 kq a0 l1 l2 x7_5 x8_14 (wrap64 (x9_1 + (Int.tmod (wrap64 (rd l2 x10_1)) 8))) x10_1 x14_5 = some r) ∧ Aside0 (kq ≤ kj21) ∧ Aside0 (Kd.R k68 68 w' w.heap.size (fun _ => True) (.slice Ao23 x8_14.length co23) x8_14) ∧ Aside0 (Below w.heap.size w w'))
                          case atStart => exact ⟨(x7_21), (0), (by first | rfl | (simp; done) | (simp [*]; done)), (by first | rfl | (simp; done) | (simp [*]; done)), H', ⟨Nat.le_refl _⟩, ⟨by (with_reducible repeat (first | apply Kd.R_alloc | apply Kd.R_drewN | apply Kd.R_drew)); exact HO_8.out⟩, ⟨by repeat (first | (with_reducible first | exact HB.out | apply below_alloc | apply pw_below_drewN | apply below_drew1) | exact HB.out)⟩⟩
                          case round =>
                            clear H'
                            try clear c1
                            try clear c2
                            try clear p2
                            try clear q2
                            try clear hx2
                            try clear c3
                            try clear c6
                            try clear p6
                            try clear c7
                            try clear c7b0
                            try clear c8
                            try clear c8b0
                            try clear c9
                            try clear c10
                            try clear c10b0
                            try clear c11
                            try clear c11b0
                            try clear c13
                            try clear c13b0
                            try clear c20
                            try clear c20b0
                            try clear c20b1
                            try clear p24
                            try clear q24
                            try clear hx24
                            try clear c25
                            try clear p25
                            try clear q25
                            try clear hx25
                            try clear hx247_0
                            try clear hx251_0
                            try clear hx251_1
                            try clear hx251_2
                            try clear hx251_3
                            try clear hx251_4
                            try clear hx251_5
                            try clear hx251_6
                            try clear hx251_7
                            try clear p2
                            try clear p24
                            try clear p247
                            try clear p25
                            try clear p251
                            try clear p6
                            try clear q2
                            try clear q24
                            try clear q247
                            try clear q25
                            try clear q251
                            obtain ⟨x7_5, x14_5, rfl, rfl, HA, HK5, HO_8, HB⟩ := hrel
                            cases gk with
                            | zero => exact absurd HA.out (by simp [slotmeshlaw31_SponsorBounded.l1])
                            | succ k5 =>
                              have H := HA.out
                              clear HA
                              simp only [slotmeshlaw31_SponsorBounded.l1] at H
                              by_cases c26 : x14_5 < (x8_14.length : Int)
                              · rw [if_pos c26] at H
                                have c26b0 : decide (x14_5 < (x8_14.length : Int)) = true := decide_eq_true c26
                                clear c26
                                by_cases c27 : x7_5 = true
                                · subst c27
                                  have H1 : (if 0 ≤ x14_5 then (if ((rd_T68 x8_14 x14_5).f3) ≥ (wrap64 (x9_1 + (Int.tmod (wrap64 (rd l2 x10_1)) 8))) then (slotmeshlaw31_SponsorBounded.l1 k5 a0 l1 l2 (decide (((rd_T68 x8_14 x14_5).f3) ≤ (wrap64 ((wrap64 (x9_1 + (Int.tmod (wrap64 (rd l2 x10_1)) 8))) + 12)))) x8_14 (wrap64 (x9_1 + (Int.tmod (wrap64 (rd l2 x10_1)) 8))) x10_1 (wrap64 (x14_5 + 1))) else (slotmeshlaw31_SponsorBounded.l1 k5 a0 l1 l2 false x8_14 (wrap64 (x9_1 + (Int.tmod (wrap64 (rd l2 x10_1)) 8))) x10_1 (wrap64 (x14_5 + 1)))) else (none)) = some r := by rw [if_pos rfl] at H; exact H
                                  clear H
                                  have H := H1
                                  clear H1
                                  by_cases c28 : 0 ≤ x14_5
                                  · rw [if_pos c28] at H
                                    have c28b0 : decide (0 ≤ x14_5) = true := decide_eq_true c28
                                    clear c28
                                    by_cases c29 : ((rd_T68 x8_14 x14_5).f3) ≥ (wrap64 (x9_1 + (Int.tmod (wrap64 (rd l2 x10_1)) 8)))
                                    · rw [if_pos c29] at H
                                      have c29b0 : decide ((wrap64 (x9_1 + (Int.tmod (wrap64 (rd l2 x10_1)) 8))) ≤ ((rd_T68 x8_14 x14_5).f3)) = true := decide_eq_true c29
                                      clear c29
                                      have H' := Aside0.mk H
                                      clear H
                                      have p257 : 0 ≤ (x14_5 : Int) := of_decide_eq_true (by first | (with_reducible assumption) | assumption)
                                      have q257 : x14_5 < (x8_14.length : Int) := of_decide_eq_true (by first | (with_reducible assumption) | assumption)
                                      obtain ⟨ad257, e257, hx257_0, hx257_1, hx257_2, hx257_3, hx257_4, hx257_5⟩ := at_T68 (Kd.R_reads' HO_8.out).2.2 x14_5 p257 q257
                                      cases e257
                                      replace p257 := eq_true p257
                                      replace q257 := eq_true q257
                                      have p258 : 0 ≤ (x14_5 : Int) := of_decide_eq_true (by first | (with_reducible assumption) | assumption)
                                      have q258 : x14_5 < (x8_14.length : Int) := of_decide_eq_true (by first | (with_reducible assumption) | assumption)
                                      obtain ⟨ad258, e258, hx258_0, hx258_1, hx258_2, hx258_3, hx258_4, hx258_5⟩ := at_T68 (Kd.R_reads' HO_8.out).2.2 x14_5 p258 q258
                                      obtain rfl : ad257 = ad258 := (by injection e258)
                                      replace p258 := eq_true p258
                                      replace q258 := eq_true q258
                                      go_wp2
                                      go_roundg k5
                                      case measure => have := HK1.out; have := HJ5.out; have := HJ14.out; have := HJ21.out; have := HK5.out; omega
                                      case rel => exact ⟨(decide (((rd_T68 x8_14 x14_5).f3) ≤ (wrap64 ((wrap64 (x9_1 + (Int.tmod (wrap64 (rd l2 x10_1)) 8))) + 12)))), (wrap64 (x14_5 + 1)), (by first | rfl | (simp; done) | (simp [*]; done)), (by first | rfl | (simp; done) | (simp [*]; done)), H', ⟨by have := HK1.out; have := HJ5.out; have := HJ14.out; have := HJ21.out; have := HK5.out; omega⟩, ⟨by (with_reducible repeat (first | apply Kd.R_alloc | apply Kd.R_drewN | apply Kd.R_drew)); exact HO_8.out⟩, ⟨by repeat (first | (with_reducible first | exact HB.out | apply below_alloc | apply pw_below_drewN | apply below_drew1) | exact HB.out)⟩⟩
                                    · rw [if_neg c29] at H
                                      have c29b0 : decide ((wrap64 (x9_1 + (Int.tmod (wrap64 (rd l2 x10_1)) 8))) ≤ ((rd_T68 x8_14 x14_5).f3)) = false := decide_eq_false c29
                                      clear c29
                                      have H' := Aside0.mk H
                                      clear H
                                      have p257 : 0 ≤ (x14_5 : Int) := of_decide_eq_true (by first | (with_reducible assumption) | assumption)
                                      have q257 : x14_5 < (x8_14.length : Int) := of_decide_eq_true (by first | (with_reducible assumption) | assumption)
                                      obtain ⟨ad257, e257, hx257_0, hx257_1, hx257_2, hx257_3, hx257_4, hx257_5⟩ := at_T68 (Kd.R_reads' HO_8.out).2.2 x14_5 p257 q257
                                      cases e257
                                      replace p257 := eq_true p257
                                      replace q257 := eq_true q257
                                      go_wp2
                                      go_roundg k5
                                      case measure => have := HK1.out; have := HJ5.out; have := HJ14.out; have := HJ21.out; have := HK5.out; omega
                                      case rel => exact ⟨(false), (wrap64 (x14_5 + 1)), (by first | rfl | (simp; done) | (simp [*]; done)), (by first | rfl | (simp; done) | (simp [*]; done)), H', ⟨by have := HK1.out; have := HJ5.out; have := HJ14.out; have := HJ21.out; have := HK5.out; omega⟩, ⟨by (with_reducible repeat (first | apply Kd.R_alloc | apply Kd.R_drewN | apply Kd.R_drew)); exact HO_8.out⟩, ⟨by repeat (first | (with_reducible first | exact HB.out | apply below_alloc | apply pw_below_drewN | apply below_drew1) | exact HB.out)⟩⟩
                                  · rw [if_neg c28] at H
                                    exact absurd H (by simp)
                                · replace c27 := Bool.eq_false_iff.mpr c27
                                  subst c27
                                  have H1 : (slotmeshlaw31_SponsorBounded.l1 k5 a0 l1 l2 false x8_14 (wrap64 (x9_1 + (Int.tmod (wrap64 (rd l2 x10_1)) 8))) x10_1 (wrap64 (x14_5 + 1))) = some r := by rw [if_neg (show ¬ (false = true) by decide)] at H; exact H
                                  clear H
                                  have H := H1
                                  clear H1
                                  have H' := Aside0.mk H
                                  clear H
                                  go_wp2
                                  go_roundg k5
                                  case measure => have := HK1.out; have := HJ5.out; have := HJ14.out; have := HJ21.out; have := HK5.out; omega
                                  case rel => exact ⟨(false), (wrap64 (x14_5 + 1)), (by first | rfl | (simp; done) | (simp [*]; done)), (by first | rfl | (simp; done) | (simp [*]; done)), H', ⟨by have := HK1.out; have := HJ5.out; have := HJ14.out; have := HJ21.out; have := HK5.out; omega⟩, ⟨by (with_reducible repeat (first | apply Kd.R_alloc | apply Kd.R_drewN | apply Kd.R_drew)); exact HO_8.out⟩, ⟨by repeat (first | (with_reducible first | exact HB.out | apply below_alloc | apply pw_below_drewN | apply below_drew1) | exact HB.out)⟩⟩
                              · rw [if_neg c26] at H
                                have c26b0 : decide (x14_5 < (x8_14.length : Int)) = false := decide_eq_false c26
                                clear c26
                                have H' := Aside0.mk H
                                clear H
                                go_wp2
                                go_roundg k5
                                case measure => have := HK1.out; have := HJ5.out; have := HJ14.out; have := HJ21.out; have := HK5.out; omega
                                case rel => exact ⟨(x7_5), (x8_14), ((wrap64 (x9_1 + (Int.tmod (wrap64 (rd l2 x10_1)) 8)))), (wrap64 (x10_1 + 1)), (by first | rfl | (simp; done) | (simp [*]; done)), (by first | rfl | (simp; done) | (simp [*]; done)), (by first | rfl | (simp; done) | (simp [*]; done)), H', ⟨by have := HK1.out; have := HJ5.out; have := HJ14.out; have := HJ21.out; have := HK5.out; omega⟩, ⟨by (with_reducible repeat (first | apply Kd.R_alloc | apply Kd.R_drewN | apply Kd.R_drew)); exact HO_8.out⟩, ⟨by repeat (first | (with_reducible first | exact HB.out | apply below_alloc | apply pw_below_drewN | apply below_drew1) | exact HB.out)⟩⟩
                · rw [if_neg c13] at H
                  exact absurd H (by simp)
              · rw [if_neg c11] at H
                exact absurd H (by simp)
            · rw [if_neg c10] at H
              exact absurd H (by simp)
          · replace c9 := Bool.eq_false_iff.mpr c9
            subst c9
            have H1 : (some x7_1) = some r := by rw [if_neg (show ¬ (false = true) by decide)] at H; exact H
            clear H
            have H := H1
            clear H1
            obtain rfl := Option.some.inj H
            go_wp2
            go_ret
            exact ⟨by first | rfl | (simp [errW_none, errW_some] <;> rfl) | (simp [*, errW_none, errW_some] <;> rfl), by repeat (first | (with_reducible first | exact HB.out | apply below_alloc | apply pw_below_drewN | apply below_drew1) | exact HB.out)⟩

end Go.Proofs.YtncgeclkgmfppaaDoor.H
