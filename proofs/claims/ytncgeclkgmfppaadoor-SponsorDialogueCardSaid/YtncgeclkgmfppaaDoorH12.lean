/-
  What functions of the program compute, as plain functions, each with its contract: the call returns just that, from every memory that holds its arguments.
-/
import Derived.Test.YtncgeclkgmfppaaDoorH0
namespace Go.Proofs.YtncgeclkgmfppaaDoor.H
open Go.RowKit Go.Proofs.YtncgeclkgmfppaaDoorW.PrintWords Go.Proofs.YtncgeclkgmfppaaDoorW.PrintLast Go.Proofs.YtncgeclkgmfppaaDoorW.PrintMore
attribute [local go_sem] max2_int min2_int max_two min_two max_three min_three max_four min_four   -- for this text's walks alone
set_option linter.unusedVariables false
set_option linter.unusedSimpArgs false

/-! ### slotmeshref31_Formed: function 72 -/
def slotmeshref31_Formed.j0 : Nat → Bool → Int → Int → Int → Int → Bool → Int → Option (Bool)
  | 0, _, _, _, _, _, _, _ => none
  | k + 1, x30, x149000, x149001, x149002, x149003, x149004, x149005 => if x30 = true then (some false) else (if x149003 ≥ 0 then (if x149003 ≤ 1000000000 then (if x149005 ≥ 0 then (if x149005 ≤ 2000000 then (if x149005 = 0 then (some true) else (some x149004)) else (some false)) else (some false)) else (some false)) else (some false))
def slotmeshref31_Formed.f (k : Nat) (a0_0 : Int) (a0_1 : Int) (a0_2 : Int) (a0_3 : Int) (a0_4 : Bool) (a0_5 : Int) : Option (Bool) := if a0_0 < 0 then (slotmeshref31_Formed.j0 k true a0_0 a0_1 a0_2 a0_3 a0_4 a0_5) else (if a0_0 > 59 then (slotmeshref31_Formed.j0 k true a0_0 a0_1 a0_2 a0_3 a0_4 a0_5) else (if a0_1 < 0 then (slotmeshref31_Formed.j0 k true a0_0 a0_1 a0_2 a0_3 a0_4 a0_5) else (if a0_1 > 1000000000 then (slotmeshref31_Formed.j0 k true a0_0 a0_1 a0_2 a0_3 a0_4 a0_5) else (if a0_2 < 0 then (slotmeshref31_Formed.j0 k true a0_0 a0_1 a0_2 a0_3 a0_4 a0_5) else (slotmeshref31_Formed.j0 k (decide (a0_2 > 1000000000)) a0_0 a0_1 a0_2 a0_3 a0_4 a0_5)))))
set_option maxHeartbeats 8000000 in
set_option maxRecDepth 100000 in
theorem slotmeshref31_Formed.calls (k : Nat) (a0_0 : Int) (a0_1 : Int) (a0_2 : Int) (a0_3 : Int) (a0_4 : Bool) (a0_5 : Int) (r : Bool) (w : World) (h : slotmeshref31_Formed.f k a0_0 a0_1 a0_2 a0_3 a0_4 a0_5 = some r) :
    Calls Tryd.prog 72 #[.agg #[.int .i64 a0_0, .int .i64 a0_1, .int .i64 a0_2, .int .i64 a0_3, .bool a0_4, .int .i64 a0_5]] w fun e w' => e = .returned (.bool r) ∧ Below w.heap.size w w' := by
  have hu68 := Tryd.underlying68
  have HB := Aside0.mk (Below.refl w.heap.size w)
  have H : (if a0_0 < 0 then (slotmeshref31_Formed.j0 k true a0_0 a0_1 a0_2 a0_3 a0_4 a0_5) else (if a0_0 > 59 then (slotmeshref31_Formed.j0 k true a0_0 a0_1 a0_2 a0_3 a0_4 a0_5) else (if a0_1 < 0 then (slotmeshref31_Formed.j0 k true a0_0 a0_1 a0_2 a0_3 a0_4 a0_5) else (if a0_1 > 1000000000 then (slotmeshref31_Formed.j0 k true a0_0 a0_1 a0_2 a0_3 a0_4 a0_5) else (if a0_2 < 0 then (slotmeshref31_Formed.j0 k true a0_0 a0_1 a0_2 a0_3 a0_4 a0_5) else (slotmeshref31_Formed.j0 k (decide (a0_2 > 1000000000)) a0_0 a0_1 a0_2 a0_3 a0_4 a0_5)))))) = some r := h
  clear h
  have HC2 := Aside0.mk H
  clear H
  go_enter Tryd.func72, Tryd.ntmps72
  go_upto_region 1 with (first | ((with_reducible refine gate_dst (N := 1) rfl ?_); refine box_event ?hg (N := 1) ?hd (cs := #[.int .i64 a0_0, .int .i64 a0_1, .int .i64 a0_2, .int .i64 a0_3, .bool a0_4, .int .i64 a0_5]) (t := 68) ?hr ?_; (case hd => rfl); (case hg => rfl); (case hr => first | (go_simp; done) | (go_simp; rfl)); intro gb148 hg w3 hbox hb; have n0_ := Aside0.mk (below_step (by repeat (first | (with_reducible first | exact HB.out | apply below_alloc | apply pw_below_drewN | apply below_drew1) | exact HB.out)) hb); have n1_ := Aside0.mk (hbox); have n2_ := Aside0.mk ((by rw [hg]; exact (below_size (by repeat (first | (with_reducible first | exact HB.out | apply below_alloc | apply pw_below_drewN | apply below_drew1) | exact HB.out))) : w.heap.size ≤ gb148)); have n3_ := Aside0.mk ((by rw [hg]; exact (below_size (by repeat (first | (with_reducible first | exact HB.out | apply below_alloc | apply pw_below_drewN | apply below_drew1) | exact HB.out))) : w.heap.size ≤ gb148)); clear HB; have HB := n0_; have BK148 := n1_; have GW148 := n2_; have GE148 := n3_; clear n0_ n1_ n2_ n3_; clear hb hbox hg))
  (try simp only [Act.put, List.setIfInBounds_toArray, List.set_cons_zero, List.set_cons_succ])
  go_cut [30] (fun v30 wc => ∃ (kq : Nat) (x30_1 : Bool), v30 = .bool x30_1 ∧ Aside0 (slotmeshref31_Formed.j0 kq x30_1 a0_0 a0_1 a0_2 a0_3 a0_4 a0_5 = some r) ∧ Aside0 (kq ≤ k) ∧ Aside0 (wc.heap[gb148]? = some (.cells #[.int .i64 a0_0, .int .i64 a0_1, .int .i64 a0_2, .int .i64 a0_3, .bool a0_4, .int .i64 a0_5] 68 (0, 0))) ∧ Aside0 (Below w.heap.size w wc))
  case first =>
    have H := HC2.out
    clear HC2
    by_cases c4 : a0_0 < 0
    · rw [if_pos c4] at H
      have c4b0 : decide (a0_0 < 0) = true := decide_eq_true c4
      clear c4
      (first | rw [c4b0] | (simp only [i64_w, i32_w]; rw [c4b0]) | skip)
      have H' := Aside0.mk H
      clear H
      have hcz5_0 : w3.cell? ⟨gb148, 0, none⟩ = some (.int .i64 a0_0) := (blk_cell BK148.out 0).trans rfl
      have hcz5_1 : w3.cell? ⟨gb148, 1, none⟩ = some (.int .i64 a0_1) := (blk_cell BK148.out 1).trans rfl
      have hcz5_2 : w3.cell? ⟨gb148, 2, none⟩ = some (.int .i64 a0_2) := (blk_cell BK148.out 2).trans rfl
      have hcz5_3 : w3.cell? ⟨gb148, 3, none⟩ = some (.int .i64 a0_3) := (blk_cell BK148.out 3).trans rfl
      have hcz5_4 : w3.cell? ⟨gb148, 4, none⟩ = some (.bool a0_4) := (blk_cell BK148.out 4).trans rfl
      have hcz5_5 : w3.cell? ⟨gb148, 5, none⟩ = some (.int .i64 a0_5) := (blk_cell BK148.out 5).trans rfl
      have hfz5_0 := blk_frozen BK148.out 0
      have hfz5_1 := blk_frozen BK148.out 1
      have hfz5_2 := blk_frozen BK148.out 2
      have hfz5_3 := blk_frozen BK148.out 3
      have hfz5_4 := blk_frozen BK148.out 4
      have hfz5_5 := blk_frozen BK148.out 5
      go_wp2
      go_meet
      case rel => exact ⟨_, (true), (by first | rfl | (simp; done) | (simp [*]; done)), H', ⟨by first | omega | exact Nat.le_refl _⟩, ⟨by (with_reducible repeat (first | refine blk_drewN ?_ _ | refine blk_drew ?_ | refine blk_alloc ?_ _)); exact BK148.out⟩, ⟨by repeat (first | (with_reducible first | exact HB.out | apply below_alloc | apply pw_below_drewN | apply below_drew1 | refine below_set ?_ GE148.out) | exact HB.out)⟩⟩
    · rw [if_neg c4] at H
      have c4b0 : decide (a0_0 < 0) = false := decide_eq_false c4
      clear c4
      (first | rw [c4b0] | (simp only [i64_w, i32_w]; rw [c4b0]) | skip)
      by_cases c6 : a0_0 > 59
      · rw [if_pos c6] at H
        have c6b0 : decide (59 < a0_0) = true := decide_eq_true c6
        clear c6
        have H' := Aside0.mk H
        clear H
        have hcz7_0 : w3.cell? ⟨gb148, 0, none⟩ = some (.int .i64 a0_0) := (blk_cell BK148.out 0).trans rfl
        have hcz7_1 : w3.cell? ⟨gb148, 1, none⟩ = some (.int .i64 a0_1) := (blk_cell BK148.out 1).trans rfl
        have hcz7_2 : w3.cell? ⟨gb148, 2, none⟩ = some (.int .i64 a0_2) := (blk_cell BK148.out 2).trans rfl
        have hcz7_3 : w3.cell? ⟨gb148, 3, none⟩ = some (.int .i64 a0_3) := (blk_cell BK148.out 3).trans rfl
        have hcz7_4 : w3.cell? ⟨gb148, 4, none⟩ = some (.bool a0_4) := (blk_cell BK148.out 4).trans rfl
        have hcz7_5 : w3.cell? ⟨gb148, 5, none⟩ = some (.int .i64 a0_5) := (blk_cell BK148.out 5).trans rfl
        have hfz7_0 := blk_frozen BK148.out 0
        have hfz7_1 := blk_frozen BK148.out 1
        have hfz7_2 := blk_frozen BK148.out 2
        have hfz7_3 := blk_frozen BK148.out 3
        have hfz7_4 := blk_frozen BK148.out 4
        have hfz7_5 := blk_frozen BK148.out 5
        go_wp2
        go_meet
        case rel => exact ⟨_, (true), (by first | rfl | (simp; done) | (simp [*]; done)), H', ⟨by first | omega | exact Nat.le_refl _⟩, ⟨by (with_reducible repeat (first | refine blk_drewN ?_ _ | refine blk_drew ?_ | refine blk_alloc ?_ _)); exact BK148.out⟩, ⟨by repeat (first | (with_reducible first | exact HB.out | apply below_alloc | apply pw_below_drewN | apply below_drew1 | refine below_set ?_ GE148.out) | exact HB.out)⟩⟩
      · rw [if_neg c6] at H
        have c6b0 : decide (59 < a0_0) = false := decide_eq_false c6
        clear c6
        by_cases c8 : a0_1 < 0
        · rw [if_pos c8] at H
          have c8b0 : decide (a0_1 < 0) = true := decide_eq_true c8
          clear c8
          have H' := Aside0.mk H
          clear H
          have hcz9_0 : w3.cell? ⟨gb148, 0, none⟩ = some (.int .i64 a0_0) := (blk_cell BK148.out 0).trans rfl
          have hcz9_1 : w3.cell? ⟨gb148, 1, none⟩ = some (.int .i64 a0_1) := (blk_cell BK148.out 1).trans rfl
          have hcz9_2 : w3.cell? ⟨gb148, 2, none⟩ = some (.int .i64 a0_2) := (blk_cell BK148.out 2).trans rfl
          have hcz9_3 : w3.cell? ⟨gb148, 3, none⟩ = some (.int .i64 a0_3) := (blk_cell BK148.out 3).trans rfl
          have hcz9_4 : w3.cell? ⟨gb148, 4, none⟩ = some (.bool a0_4) := (blk_cell BK148.out 4).trans rfl
          have hcz9_5 : w3.cell? ⟨gb148, 5, none⟩ = some (.int .i64 a0_5) := (blk_cell BK148.out 5).trans rfl
          have hfz9_0 := blk_frozen BK148.out 0
          have hfz9_1 := blk_frozen BK148.out 1
          have hfz9_2 := blk_frozen BK148.out 2
          have hfz9_3 := blk_frozen BK148.out 3
          have hfz9_4 := blk_frozen BK148.out 4
          have hfz9_5 := blk_frozen BK148.out 5
          go_wp2
          go_meet
          case rel => exact ⟨_, (true), (by first | rfl | (simp; done) | (simp [*]; done)), H', ⟨by first | omega | exact Nat.le_refl _⟩, ⟨by (with_reducible repeat (first | refine blk_drewN ?_ _ | refine blk_drew ?_ | refine blk_alloc ?_ _)); exact BK148.out⟩, ⟨by repeat (first | (with_reducible first | exact HB.out | apply below_alloc | apply pw_below_drewN | apply below_drew1 | refine below_set ?_ GE148.out) | exact HB.out)⟩⟩
        · rw [if_neg c8] at H
          have c8b0 : decide (a0_1 < 0) = false := decide_eq_false c8
          clear c8
          by_cases c10 : a0_1 > 1000000000
          · rw [if_pos c10] at H
            have c10b0 : decide (1000000000 < a0_1) = true := decide_eq_true c10
            clear c10
            have H' := Aside0.mk H
            clear H
            have hcz11_0 : w3.cell? ⟨gb148, 0, none⟩ = some (.int .i64 a0_0) := (blk_cell BK148.out 0).trans rfl
            have hcz11_1 : w3.cell? ⟨gb148, 1, none⟩ = some (.int .i64 a0_1) := (blk_cell BK148.out 1).trans rfl
            have hcz11_2 : w3.cell? ⟨gb148, 2, none⟩ = some (.int .i64 a0_2) := (blk_cell BK148.out 2).trans rfl
            have hcz11_3 : w3.cell? ⟨gb148, 3, none⟩ = some (.int .i64 a0_3) := (blk_cell BK148.out 3).trans rfl
            have hcz11_4 : w3.cell? ⟨gb148, 4, none⟩ = some (.bool a0_4) := (blk_cell BK148.out 4).trans rfl
            have hcz11_5 : w3.cell? ⟨gb148, 5, none⟩ = some (.int .i64 a0_5) := (blk_cell BK148.out 5).trans rfl
            have hfz11_0 := blk_frozen BK148.out 0
            have hfz11_1 := blk_frozen BK148.out 1
            have hfz11_2 := blk_frozen BK148.out 2
            have hfz11_3 := blk_frozen BK148.out 3
            have hfz11_4 := blk_frozen BK148.out 4
            have hfz11_5 := blk_frozen BK148.out 5
            go_wp2
            go_meet
            case rel => exact ⟨_, (true), (by first | rfl | (simp; done) | (simp [*]; done)), H', ⟨by first | omega | exact Nat.le_refl _⟩, ⟨by (with_reducible repeat (first | refine blk_drewN ?_ _ | refine blk_drew ?_ | refine blk_alloc ?_ _)); exact BK148.out⟩, ⟨by repeat (first | (with_reducible first | exact HB.out | apply below_alloc | apply pw_below_drewN | apply below_drew1 | refine below_set ?_ GE148.out) | exact HB.out)⟩⟩
          · rw [if_neg c10] at H
            have c10b0 : decide (1000000000 < a0_1) = false := decide_eq_false c10
            clear c10
            by_cases c12 : a0_2 < 0
            · rw [if_pos c12] at H
              have c12b0 : decide (a0_2 < 0) = true := decide_eq_true c12
              clear c12
              have H' := Aside0.mk H
              clear H
              have hcz13_0 : w3.cell? ⟨gb148, 0, none⟩ = some (.int .i64 a0_0) := (blk_cell BK148.out 0).trans rfl
              have hcz13_1 : w3.cell? ⟨gb148, 1, none⟩ = some (.int .i64 a0_1) := (blk_cell BK148.out 1).trans rfl
              have hcz13_2 : w3.cell? ⟨gb148, 2, none⟩ = some (.int .i64 a0_2) := (blk_cell BK148.out 2).trans rfl
              have hcz13_3 : w3.cell? ⟨gb148, 3, none⟩ = some (.int .i64 a0_3) := (blk_cell BK148.out 3).trans rfl
              have hcz13_4 : w3.cell? ⟨gb148, 4, none⟩ = some (.bool a0_4) := (blk_cell BK148.out 4).trans rfl
              have hcz13_5 : w3.cell? ⟨gb148, 5, none⟩ = some (.int .i64 a0_5) := (blk_cell BK148.out 5).trans rfl
              have hfz13_0 := blk_frozen BK148.out 0
              have hfz13_1 := blk_frozen BK148.out 1
              have hfz13_2 := blk_frozen BK148.out 2
              have hfz13_3 := blk_frozen BK148.out 3
              have hfz13_4 := blk_frozen BK148.out 4
              have hfz13_5 := blk_frozen BK148.out 5
              go_wp2
              go_meet
              case rel => exact ⟨_, (true), (by first | rfl | (simp; done) | (simp [*]; done)), H', ⟨by first | omega | exact Nat.le_refl _⟩, ⟨by (with_reducible repeat (first | refine blk_drewN ?_ _ | refine blk_drew ?_ | refine blk_alloc ?_ _)); exact BK148.out⟩, ⟨by repeat (first | (with_reducible first | exact HB.out | apply below_alloc | apply pw_below_drewN | apply below_drew1 | refine below_set ?_ GE148.out) | exact HB.out)⟩⟩
            · rw [if_neg c12] at H
              have c12b0 : decide (a0_2 < 0) = false := decide_eq_false c12
              clear c12
              have H' := Aside0.mk H
              clear H
              have hcz14_0 : w3.cell? ⟨gb148, 0, none⟩ = some (.int .i64 a0_0) := (blk_cell BK148.out 0).trans rfl
              have hcz14_1 : w3.cell? ⟨gb148, 1, none⟩ = some (.int .i64 a0_1) := (blk_cell BK148.out 1).trans rfl
              have hcz14_2 : w3.cell? ⟨gb148, 2, none⟩ = some (.int .i64 a0_2) := (blk_cell BK148.out 2).trans rfl
              have hcz14_3 : w3.cell? ⟨gb148, 3, none⟩ = some (.int .i64 a0_3) := (blk_cell BK148.out 3).trans rfl
              have hcz14_4 : w3.cell? ⟨gb148, 4, none⟩ = some (.bool a0_4) := (blk_cell BK148.out 4).trans rfl
              have hcz14_5 : w3.cell? ⟨gb148, 5, none⟩ = some (.int .i64 a0_5) := (blk_cell BK148.out 5).trans rfl
              have hfz14_0 := blk_frozen BK148.out 0
              have hfz14_1 := blk_frozen BK148.out 1
              have hfz14_2 := blk_frozen BK148.out 2
              have hfz14_3 := blk_frozen BK148.out 3
              have hfz14_4 := blk_frozen BK148.out 4
              have hfz14_5 := blk_frozen BK148.out 5
              go_wp2
              go_meet
              case rel => exact ⟨_, (decide (a0_2 > 1000000000)), (by first | rfl | (simp; done) | (simp [*]; done)), H', ⟨by first | omega | exact Nat.le_refl _⟩, ⟨by (with_reducible repeat (first | refine blk_drewN ?_ _ | refine blk_drew ?_ | refine blk_alloc ?_ _)); exact BK148.out⟩, ⟨by repeat (first | (with_reducible first | exact HB.out | apply below_alloc | apply pw_below_drewN | apply below_drew1 | refine below_set ?_ GE148.out) | exact HB.out)⟩⟩
  case rest =>
    clear HC2
    try clear c1
    try clear p2
    try clear c4
    try clear c4b0
    try clear c6
    try clear c6b0
    try clear c7
    try clear c8
    try clear c8b0
    try clear c10
    try clear c10b0
    try clear c12
    try clear c12b0
    try clear hcz11_0
    try clear hcz11_1
    try clear hcz11_2
    try clear hcz11_3
    try clear hcz11_4
    try clear hcz11_5
    try clear hcz13_0
    try clear hcz13_1
    try clear hcz13_2
    try clear hcz13_3
    try clear hcz13_4
    try clear hcz13_5
    try clear hcz14_0
    try clear hcz14_1
    try clear hcz14_2
    try clear hcz14_3
    try clear hcz14_4
    try clear hcz14_5
    try clear hcz5_0
    try clear hcz5_1
    try clear hcz5_2
    try clear hcz5_3
    try clear hcz5_4
    try clear hcz5_5
    try clear hcz7_0
    try clear hcz7_1
    try clear hcz7_2
    try clear hcz7_3
    try clear hcz7_4
    try clear hcz7_5
    try clear hcz9_0
    try clear hcz9_1
    try clear hcz9_2
    try clear hcz9_3
    try clear hcz9_4
    try clear hcz9_5
    try clear hfz11_0
    try clear hfz11_1
    try clear hfz11_2
    try clear hfz11_3
    try clear hfz11_4
    try clear hfz11_5
    try clear hfz13_0
    try clear hfz13_1
    try clear hfz13_2
    try clear hfz13_3
    try clear hfz13_4
    try clear hfz13_5
    try clear hfz14_0
    try clear hfz14_1
    try clear hfz14_2
    try clear hfz14_3
    try clear hfz14_4
    try clear hfz14_5
    try clear hfz5_0
    try clear hfz5_1
    try clear hfz5_2
    try clear hfz5_3
    try clear hfz5_4
    try clear hfz5_5
    try clear hfz7_0
    try clear hfz7_1
    try clear hfz7_2
    try clear hfz7_3
    try clear hfz7_4
    try clear hfz7_5
    try clear hfz9_0
    try clear hfz9_1
    try clear hfz9_2
    try clear hfz9_3
    try clear hfz9_4
    try clear hfz9_5
    obtain ⟨kq, x30_1, rfl, HA, HJ1, BK148, HB⟩ := hcut
    cases kq with
    | zero => exact absurd HA.out (by simp [slotmeshref31_Formed.j0])
    | succ kj1 =>
      have H := HA.out
      clear HA
      simp only [slotmeshref31_Formed.j0] at H
      by_cases c15 : x30_1 = true
      · subst c15
        have H1 : (some false) = some r := by rw [if_pos rfl] at H; exact H
        clear H
        have H := H1
        clear H1
        obtain rfl := Option.some.inj H
        go_wp2
        go_ret
        exact ⟨by first | rfl | (simp [errW_none, errW_some] <;> rfl) | (simp [*, errW_none, errW_some] <;> rfl), by repeat (first | (with_reducible first | exact HB.out | apply below_alloc | apply pw_below_drewN | apply below_drew1 | refine below_set ?_ GE148.out) | exact HB.out)⟩
      · replace c15 := Bool.eq_false_iff.mpr c15
        subst c15
        have H1 : (if a0_3 ≥ 0 then (if a0_3 ≤ 1000000000 then (if a0_5 ≥ 0 then (if a0_5 ≤ 2000000 then (if a0_5 = 0 then (some true) else (some a0_4)) else (some false)) else (some false)) else (some false)) else (some false)) = some r := by rw [if_neg (show ¬ (false = true) by decide)] at H; exact H
        clear H
        have H := H1
        clear H1
        by_cases c16 : a0_3 ≥ 0
        · rw [if_pos c16] at H
          have c16b0 : decide (0 ≤ a0_3) = true := decide_eq_true c16
          clear c16
          by_cases c17 : a0_3 ≤ 1000000000
          · rw [if_pos c17] at H
            have c17b0 : decide (a0_3 ≤ 1000000000) = true := decide_eq_true c17
            clear c17
            by_cases c18 : a0_5 ≥ 0
            · rw [if_pos c18] at H
              have c18b0 : decide (0 ≤ a0_5) = true := decide_eq_true c18
              clear c18
              by_cases c19 : a0_5 ≤ 2000000
              · rw [if_pos c19] at H
                have c19b0 : decide (a0_5 ≤ 2000000) = true := decide_eq_true c19
                clear c19
                by_cases c20 : a0_5 = 0
                · rw [if_pos c20] at H
                  have c20b0 : (a0_5 == 0) = true := beq_iff_eq.mpr c20
                  have c20b1 : (a0_5 != 0) = false := bne_eq_false_iff_eq.mpr c20
                  clear c20
                  obtain rfl := Option.some.inj H
                  have hcz21_0 : wc.cell? ⟨gb148, 0, none⟩ = some (.int .i64 a0_0) := (blk_cell BK148.out 0).trans rfl
                  have hcz21_1 : wc.cell? ⟨gb148, 1, none⟩ = some (.int .i64 a0_1) := (blk_cell BK148.out 1).trans rfl
                  have hcz21_2 : wc.cell? ⟨gb148, 2, none⟩ = some (.int .i64 a0_2) := (blk_cell BK148.out 2).trans rfl
                  have hcz21_3 : wc.cell? ⟨gb148, 3, none⟩ = some (.int .i64 a0_3) := (blk_cell BK148.out 3).trans rfl
                  have hcz21_4 : wc.cell? ⟨gb148, 4, none⟩ = some (.bool a0_4) := (blk_cell BK148.out 4).trans rfl
                  have hcz21_5 : wc.cell? ⟨gb148, 5, none⟩ = some (.int .i64 a0_5) := (blk_cell BK148.out 5).trans rfl
                  have hfz21_0 := blk_frozen BK148.out 0
                  have hfz21_1 := blk_frozen BK148.out 1
                  have hfz21_2 := blk_frozen BK148.out 2
                  have hfz21_3 := blk_frozen BK148.out 3
                  have hfz21_4 := blk_frozen BK148.out 4
                  have hfz21_5 := blk_frozen BK148.out 5
                  go_wp2
                  go_ret
                  exact ⟨by first | rfl | (simp [errW_none, errW_some] <;> rfl) | (simp [*, errW_none, errW_some] <;> rfl), by repeat (first | (with_reducible first | exact HB.out | apply below_alloc | apply pw_below_drewN | apply below_drew1 | refine below_set ?_ GE148.out) | exact HB.out)⟩
                · rw [if_neg c20] at H
                  have c20b0 : (a0_5 == 0) = false := beq_eq_false_iff_ne.mpr c20
                  have c20b1 : (a0_5 != 0) = true := bne_iff_ne.mpr c20
                  obtain rfl := Option.some.inj H
                  have hcz22_0 : wc.cell? ⟨gb148, 0, none⟩ = some (.int .i64 a0_0) := (blk_cell BK148.out 0).trans rfl
                  have hcz22_1 : wc.cell? ⟨gb148, 1, none⟩ = some (.int .i64 a0_1) := (blk_cell BK148.out 1).trans rfl
                  have hcz22_2 : wc.cell? ⟨gb148, 2, none⟩ = some (.int .i64 a0_2) := (blk_cell BK148.out 2).trans rfl
                  have hcz22_3 : wc.cell? ⟨gb148, 3, none⟩ = some (.int .i64 a0_3) := (blk_cell BK148.out 3).trans rfl
                  have hcz22_4 : wc.cell? ⟨gb148, 4, none⟩ = some (.bool a0_4) := (blk_cell BK148.out 4).trans rfl
                  have hcz22_5 : wc.cell? ⟨gb148, 5, none⟩ = some (.int .i64 a0_5) := (blk_cell BK148.out 5).trans rfl
                  have hfz22_0 := blk_frozen BK148.out 0
                  have hfz22_1 := blk_frozen BK148.out 1
                  have hfz22_2 := blk_frozen BK148.out 2
                  have hfz22_3 := blk_frozen BK148.out 3
                  have hfz22_4 := blk_frozen BK148.out 4
                  have hfz22_5 := blk_frozen BK148.out 5
                  go_wp2
                  go_ret
                  exact ⟨by first | rfl | (simp [errW_none, errW_some] <;> rfl) | (simp [*, errW_none, errW_some] <;> rfl), by repeat (first | (with_reducible first | exact HB.out | apply below_alloc | apply pw_below_drewN | apply below_drew1 | refine below_set ?_ GE148.out) | exact HB.out)⟩
              · rw [if_neg c19] at H
                have c19b0 : decide (a0_5 ≤ 2000000) = false := decide_eq_false c19
                clear c19
                obtain rfl := Option.some.inj H
                have hcz23_0 : wc.cell? ⟨gb148, 0, none⟩ = some (.int .i64 a0_0) := (blk_cell BK148.out 0).trans rfl
                have hcz23_1 : wc.cell? ⟨gb148, 1, none⟩ = some (.int .i64 a0_1) := (blk_cell BK148.out 1).trans rfl
                have hcz23_2 : wc.cell? ⟨gb148, 2, none⟩ = some (.int .i64 a0_2) := (blk_cell BK148.out 2).trans rfl
                have hcz23_3 : wc.cell? ⟨gb148, 3, none⟩ = some (.int .i64 a0_3) := (blk_cell BK148.out 3).trans rfl
                have hcz23_4 : wc.cell? ⟨gb148, 4, none⟩ = some (.bool a0_4) := (blk_cell BK148.out 4).trans rfl
                have hcz23_5 : wc.cell? ⟨gb148, 5, none⟩ = some (.int .i64 a0_5) := (blk_cell BK148.out 5).trans rfl
                have hfz23_0 := blk_frozen BK148.out 0
                have hfz23_1 := blk_frozen BK148.out 1
                have hfz23_2 := blk_frozen BK148.out 2
                have hfz23_3 := blk_frozen BK148.out 3
                have hfz23_4 := blk_frozen BK148.out 4
                have hfz23_5 := blk_frozen BK148.out 5
                go_wp2
                go_ret
                exact ⟨by first | rfl | (simp [errW_none, errW_some] <;> rfl) | (simp [*, errW_none, errW_some] <;> rfl), by repeat (first | (with_reducible first | exact HB.out | apply below_alloc | apply pw_below_drewN | apply below_drew1 | refine below_set ?_ GE148.out) | exact HB.out)⟩
            · rw [if_neg c18] at H
              have c18b0 : decide (0 ≤ a0_5) = false := decide_eq_false c18
              clear c18
              obtain rfl := Option.some.inj H
              have hcz24_0 : wc.cell? ⟨gb148, 0, none⟩ = some (.int .i64 a0_0) := (blk_cell BK148.out 0).trans rfl
              have hcz24_1 : wc.cell? ⟨gb148, 1, none⟩ = some (.int .i64 a0_1) := (blk_cell BK148.out 1).trans rfl
              have hcz24_2 : wc.cell? ⟨gb148, 2, none⟩ = some (.int .i64 a0_2) := (blk_cell BK148.out 2).trans rfl
              have hcz24_3 : wc.cell? ⟨gb148, 3, none⟩ = some (.int .i64 a0_3) := (blk_cell BK148.out 3).trans rfl
              have hcz24_4 : wc.cell? ⟨gb148, 4, none⟩ = some (.bool a0_4) := (blk_cell BK148.out 4).trans rfl
              have hcz24_5 : wc.cell? ⟨gb148, 5, none⟩ = some (.int .i64 a0_5) := (blk_cell BK148.out 5).trans rfl
              have hfz24_0 := blk_frozen BK148.out 0
              have hfz24_1 := blk_frozen BK148.out 1
              have hfz24_2 := blk_frozen BK148.out 2
              have hfz24_3 := blk_frozen BK148.out 3
              have hfz24_4 := blk_frozen BK148.out 4
              have hfz24_5 := blk_frozen BK148.out 5
              go_wp2
              go_ret
              exact ⟨by first | rfl | (simp [errW_none, errW_some] <;> rfl) | (simp [*, errW_none, errW_some] <;> rfl), by repeat (first | (with_reducible first | exact HB.out | apply below_alloc | apply pw_below_drewN | apply below_drew1 | refine below_set ?_ GE148.out) | exact HB.out)⟩
          · rw [if_neg c17] at H
            have c17b0 : decide (a0_3 ≤ 1000000000) = false := decide_eq_false c17
            clear c17
            obtain rfl := Option.some.inj H
            have hcz25_0 : wc.cell? ⟨gb148, 0, none⟩ = some (.int .i64 a0_0) := (blk_cell BK148.out 0).trans rfl
            have hcz25_1 : wc.cell? ⟨gb148, 1, none⟩ = some (.int .i64 a0_1) := (blk_cell BK148.out 1).trans rfl
            have hcz25_2 : wc.cell? ⟨gb148, 2, none⟩ = some (.int .i64 a0_2) := (blk_cell BK148.out 2).trans rfl
            have hcz25_3 : wc.cell? ⟨gb148, 3, none⟩ = some (.int .i64 a0_3) := (blk_cell BK148.out 3).trans rfl
            have hcz25_4 : wc.cell? ⟨gb148, 4, none⟩ = some (.bool a0_4) := (blk_cell BK148.out 4).trans rfl
            have hcz25_5 : wc.cell? ⟨gb148, 5, none⟩ = some (.int .i64 a0_5) := (blk_cell BK148.out 5).trans rfl
            have hfz25_0 := blk_frozen BK148.out 0
            have hfz25_1 := blk_frozen BK148.out 1
            have hfz25_2 := blk_frozen BK148.out 2
            have hfz25_3 := blk_frozen BK148.out 3
            have hfz25_4 := blk_frozen BK148.out 4
            have hfz25_5 := blk_frozen BK148.out 5
            go_wp2
            go_ret
            exact ⟨by first | rfl | (simp [errW_none, errW_some] <;> rfl) | (simp [*, errW_none, errW_some] <;> rfl), by repeat (first | (with_reducible first | exact HB.out | apply below_alloc | apply pw_below_drewN | apply below_drew1 | refine below_set ?_ GE148.out) | exact HB.out)⟩
        · rw [if_neg c16] at H
          have c16b0 : decide (0 ≤ a0_3) = false := decide_eq_false c16
          clear c16
          obtain rfl := Option.some.inj H
          have hcz26_0 : wc.cell? ⟨gb148, 0, none⟩ = some (.int .i64 a0_0) := (blk_cell BK148.out 0).trans rfl
          have hcz26_1 : wc.cell? ⟨gb148, 1, none⟩ = some (.int .i64 a0_1) := (blk_cell BK148.out 1).trans rfl
          have hcz26_2 : wc.cell? ⟨gb148, 2, none⟩ = some (.int .i64 a0_2) := (blk_cell BK148.out 2).trans rfl
          have hcz26_3 : wc.cell? ⟨gb148, 3, none⟩ = some (.int .i64 a0_3) := (blk_cell BK148.out 3).trans rfl
          have hcz26_4 : wc.cell? ⟨gb148, 4, none⟩ = some (.bool a0_4) := (blk_cell BK148.out 4).trans rfl
          have hcz26_5 : wc.cell? ⟨gb148, 5, none⟩ = some (.int .i64 a0_5) := (blk_cell BK148.out 5).trans rfl
          have hfz26_0 := blk_frozen BK148.out 0
          have hfz26_1 := blk_frozen BK148.out 1
          have hfz26_2 := blk_frozen BK148.out 2
          have hfz26_3 := blk_frozen BK148.out 3
          have hfz26_4 := blk_frozen BK148.out 4
          have hfz26_5 := blk_frozen BK148.out 5
          go_wp2
          go_ret
          exact ⟨by first | rfl | (simp [errW_none, errW_some] <;> rfl) | (simp [*, errW_none, errW_some] <;> rfl), by repeat (first | (with_reducible first | exact HB.out | apply below_alloc | apply pw_below_drewN | apply below_drew1 | refine below_set ?_ GE148.out) | exact HB.out)⟩

/-! ### slotmeshref31_Valid: function 29 -/
mutual
def slotmeshref31_Valid.l0 : Nat → List (S68) → Int → Option (Bool)
  | 0, _, _ => none
  | k + 1, x0, x3 => if x3 < (x0.length : Int) then (if 0 ≤ x3 then ((slotmeshref31_Formed.f k ((rd_T68 x0 x3).f0) ((rd_T68 x0 x3).f1) ((rd_T68 x0 x3).f2) ((rd_T68 x0 x3).f3) ((rd_T68 x0 x3).f4) ((rd_T68 x0 x3).f5)).bind fun t150 => (if t150 = true then (if x3 > 0 then (if 0 ≤ (wrap64 (x3 - 1)) then (if (wrap64 (x3 - 1)) < (x0.length : Int) then (slotmeshref31_Valid.j1 k x0 x3 (decide (((rd_T68 x0 (wrap64 (x3 - 1))).f0) ≥ ((rd_T68 x0 x3).f0)))) else (none)) else (none)) else (slotmeshref31_Valid.j1 k x0 x3 false)) else (slotmeshref31_Valid.j1 k x0 x3 true))) else (none)) else (some (decide ((x0.length : Int) ≤ 4)))
def slotmeshref31_Valid.j1 : Nat → List (S68) → Int → Bool → Option (Bool)
  | 0, _, _, _ => none
  | k + 1, x0, x3, x35 => if x35 = true then (some false) else (slotmeshref31_Valid.l0 k x0 (wrap64 (x3 + 1)))
end
def slotmeshref31_Valid.f (k : Nat) (l0 : List (S68)) : Option (Bool) := slotmeshref31_Valid.l0 k l0 0
set_option maxHeartbeats 8000000 in
set_option maxRecDepth 100000 in
theorem slotmeshref31_Valid.calls (k : Nat) (A0 : Option Addr) (c0 : Nat) (l0 : List (S68)) (r : Bool) (w : World) (hr0 : Kd.C k68 w A0 l0.length l0) (hc0 : l0.length ≤ c0) (h : slotmeshref31_Valid.f k l0 = some r) :
    Calls Tryd.prog 29 #[.slice A0 l0.length c0] w fun e w' => e = .returned (.bool r) ∧ Below w.heap.size w w' := by
  have hu68 := Tryd.underlying68
  have HR0 := Aside0.mk hr0
  have HC0 := Aside0.mk hc0
  clear hr0 hc0
  have HB := Aside0.mk (Below.refl w.heap.size w)
  have H : (slotmeshref31_Valid.l0 k l0 0) = some r := h
  clear h
  have H' := Aside0.mk H
  clear H
  go_enter Tryd.func29, Tryd.ntmps29
  go_wp2
  repeat (go_quiet (fail); try go_wp2)
  go_loopg [3] k (fun kq v3 w' => ∃ (x3_1 : Int), v3 = .int .i64 x3_1 ∧ Aside0 (slotmeshref31_Valid.l0 kq l0 x3_1 = some r) ∧ Aside0 (kq ≤ k) ∧ Aside0 (Below w.heap.size w w'))
  case atStart => exact ⟨(0), (by first | rfl | (simp; done) | (simp [*]; done)), H', ⟨Nat.le_refl _⟩, ⟨by repeat (first | (with_reducible first | exact HB.out | apply below_alloc | apply pw_below_drewN | apply below_drew1) | exact HB.out)⟩⟩
  case round =>
    clear H'
    obtain ⟨x3_1, rfl, HA, HK1, HB⟩ := hrel
    cases gk with
    | zero => exact absurd HA.out (by simp [slotmeshref31_Valid.l0])
    | succ k1 =>
      have H := HA.out
      clear HA
      simp only [slotmeshref31_Valid.l0] at H
      by_cases c2 : x3_1 < (l0.length : Int)
      · rw [if_pos c2] at H
        have c2b0 : decide (x3_1 < (l0.length : Int)) = true := decide_eq_true c2
        clear c2
        by_cases c3 : 0 ≤ x3_1
        · rw [if_pos c3] at H
          have c3b0 : decide (0 ≤ x3_1) = true := decide_eq_true c3
          clear c3
          replace H := Option.bind_eq_some_iff.mp H
          obtain ⟨t150, A40, H⟩ := H
          replace H : (if t150 = true then (if x3_1 > 0 then (if 0 ≤ (wrap64 (x3_1 - 1)) then (if (wrap64 (x3_1 - 1)) < (l0.length : Int) then (slotmeshref31_Valid.j1 k1 l0 x3_1 (decide (((rd_T68 l0 (wrap64 (x3_1 - 1))).f0) ≥ ((rd_T68 l0 x3_1).f0)))) else (none)) else (none)) else (slotmeshref31_Valid.j1 k1 l0 x3_1 false)) else (slotmeshref31_Valid.j1 k1 l0 x3_1 true)) = some r := H
          have A4 := Aside0.mk A40
          clear A40
          have HC5 := Aside0.mk H
          clear H
          have p149 : 0 ≤ (x3_1 : Int) := of_decide_eq_true (by first | (with_reducible assumption) | assumption)
          have q149 : x3_1 < (l0.length : Int) := of_decide_eq_true (by first | (with_reducible assumption) | assumption)
          obtain ⟨ad149, e149, hx149_0, hx149_1, hx149_2, hx149_3, hx149_4, hx149_5⟩ := at_T68 HR0.out x3_1 p149 q149
          cases e149
          replace hx149_0 := (HB.out.cell (World.block_lt_of_cell? w _ hx149_0)).trans hx149_0
          replace hx149_1 := (HB.out.cell (World.block_lt_of_cell? w _ hx149_1)).trans hx149_1
          replace hx149_2 := (HB.out.cell (World.block_lt_of_cell? w _ hx149_2)).trans hx149_2
          replace hx149_3 := (HB.out.cell (World.block_lt_of_cell? w _ hx149_3)).trans hx149_3
          replace hx149_4 := (HB.out.cell (World.block_lt_of_cell? w _ hx149_4)).trans hx149_4
          replace hx149_5 := (HB.out.cell (World.block_lt_of_cell? w _ hx149_5)).trans hx149_5
          replace p149 := eq_true p149
          replace q149 := eq_true q149
          go_upto_region 5 with (first | (go_at_call 72; (with_reducible refine (slotmeshref31_Formed.calls k1 ((rd_T68 l0 x3_1).f0) ((rd_T68 l0 x3_1).f1) ((rd_T68 l0 x3_1).f2) ((rd_T68 l0 x3_1).f3) ((rd_T68 l0 x3_1).f4) ((rd_T68 l0 x3_1).f5) t150 _ A4.out).mono ?_); rintro e w6 ⟨rfl, hb⟩; have n0_ := Aside0.mk (below_step (by repeat (first | (with_reducible first | exact HB.out | apply below_alloc | apply pw_below_drewN | apply below_drew1) | exact HB.out)) hb); clear HB; have HB := n0_; clear n0_; (try clear hb); (try clear hb2); (try clear hk); (try clear hi)))
          repeat (go_quiet (first | (go_at_call 72; (with_reducible refine (slotmeshref31_Formed.calls k1 ((rd_T68 l0 x3_1).f0) ((rd_T68 l0 x3_1).f1) ((rd_T68 l0 x3_1).f2) ((rd_T68 l0 x3_1).f3) ((rd_T68 l0 x3_1).f4) ((rd_T68 l0 x3_1).f5) t150 _ A4.out).mono ?_); rintro e w6 ⟨rfl, hb⟩; have n0_ := Aside0.mk (below_step (by repeat (first | (with_reducible first | exact HB.out | apply below_alloc | apply pw_below_drewN | apply below_drew1) | exact HB.out)) hb); clear HB; have HB := n0_; clear n0_; (try clear hb); (try clear hb2); (try clear hk); (try clear hi))); go_upto_region 5 with (first | (go_at_call 72; (with_reducible refine (slotmeshref31_Formed.calls k1 ((rd_T68 l0 x3_1).f0) ((rd_T68 l0 x3_1).f1) ((rd_T68 l0 x3_1).f2) ((rd_T68 l0 x3_1).f3) ((rd_T68 l0 x3_1).f4) ((rd_T68 l0 x3_1).f5) t150 _ A4.out).mono ?_); rintro e w6 ⟨rfl, hb⟩; have n0_ := Aside0.mk (below_step (by repeat (first | (with_reducible first | exact HB.out | apply below_alloc | apply pw_below_drewN | apply below_drew1) | exact HB.out)) hb); clear HB; have HB := n0_; clear n0_; (try clear hb); (try clear hb2); (try clear hk); (try clear hi))))
          (try simp only [Act.put, List.setIfInBounds_toArray, List.set_cons_zero, List.set_cons_succ])
          go_cut [35] (fun v35 wc => ∃ (kq : Nat) (x35_4 : Bool), v35 = .bool x35_4 ∧ Aside0 (slotmeshref31_Valid.j1 kq l0 x3_1 x35_4 = some r) ∧ Aside0 (kq ≤ k1) ∧ Aside0 (Below w.heap.size w wc))
          case first =>
            have H := HC5.out
            clear HC5
            by_cases c7 : t150 = true
            · subst c7
              have H1 : (if x3_1 > 0 then (if 0 ≤ (wrap64 (x3_1 - 1)) then (if (wrap64 (x3_1 - 1)) < (l0.length : Int) then (slotmeshref31_Valid.j1 k1 l0 x3_1 (decide (((rd_T68 l0 (wrap64 (x3_1 - 1))).f0) ≥ ((rd_T68 l0 x3_1).f0)))) else (none)) else (none)) else (slotmeshref31_Valid.j1 k1 l0 x3_1 false)) = some r := by rw [if_pos rfl] at H; exact H
              clear H
              have H := H1
              clear H1
              by_cases c8 : x3_1 > 0
              · rw [if_pos c8] at H
                have c8b0 : decide (0 < x3_1) = true := decide_eq_true c8
                clear c8
                (first | rw [c8b0] | (simp only [i64_w, i32_w]; rw [c8b0]) | skip)
                obtain ⟨ji9, hji9⟩ : ∃ j_ : Int, (wrap64 (x3_1 - 1)) = j_ := ⟨_, rfl⟩
                replace H : (if 0 ≤ (ji9) then (if (ji9) < (l0.length : Int) then (slotmeshref31_Valid.j1 k1 l0 x3_1 (decide (((rd_T68 l0 (ji9)).f0) ≥ ((rd_T68 l0 x3_1).f0)))) else (none)) else (none)) = some r := by first | (rw [hji9] at H; exact H) | (simp only [hji9] at H ⊢; exact H)
                have hji9w : (IntKind.i64.wrap (x3_1 - 1)) = ji9 := (i64_w _).trans hji9
                by_cases c10 : 0 ≤ (ji9)
                · rw [if_pos c10] at H
                  have c10b0 : decide (0 ≤ (ji9)) = true := decide_eq_true c10
                  clear c10
                  by_cases c11 : (ji9) < (l0.length : Int)
                  · rw [if_pos c11] at H
                    have c11b0 : decide ((ji9) < (l0.length : Int)) = true := decide_eq_true c11
                    clear c11
                    have H' := Aside0.mk H
                    clear H
                    have p151 : 0 ≤ ((ji9) : Int) := of_decide_eq_true (by first | (with_reducible assumption) | assumption)
                    have q151 : (ji9) < (l0.length : Int) := of_decide_eq_true (by first | (with_reducible assumption) | assumption)
                    obtain ⟨ad151, e151, hx151_0, hx151_1, hx151_2, hx151_3, hx151_4, hx151_5⟩ := at_T68 HR0.out (ji9) p151 q151
                    obtain rfl : ad149 = ad151 := (by injection e151)
                    replace hx151_0 := (HB.out.cell (World.block_lt_of_cell? w _ hx151_0)).trans hx151_0
                    replace hx151_1 := (HB.out.cell (World.block_lt_of_cell? w _ hx151_1)).trans hx151_1
                    replace hx151_2 := (HB.out.cell (World.block_lt_of_cell? w _ hx151_2)).trans hx151_2
                    replace hx151_3 := (HB.out.cell (World.block_lt_of_cell? w _ hx151_3)).trans hx151_3
                    replace hx151_4 := (HB.out.cell (World.block_lt_of_cell? w _ hx151_4)).trans hx151_4
                    replace hx151_5 := (HB.out.cell (World.block_lt_of_cell? w _ hx151_5)).trans hx151_5
                    replace p151 := eq_true p151
                    replace q151 := eq_true q151
                    have p152 : 0 ≤ (x3_1 : Int) := of_decide_eq_true (by first | (with_reducible assumption) | assumption)
                    have q152 : x3_1 < (l0.length : Int) := of_decide_eq_true (by first | (with_reducible assumption) | assumption)
                    obtain ⟨ad152, e152, hx152_0, hx152_1, hx152_2, hx152_3, hx152_4, hx152_5⟩ := at_T68 HR0.out x3_1 p152 q152
                    obtain rfl : ad149 = ad152 := (by injection e152)
                    replace hx152_0 := (HB.out.cell (World.block_lt_of_cell? w _ hx152_0)).trans hx152_0
                    replace hx152_1 := (HB.out.cell (World.block_lt_of_cell? w _ hx152_1)).trans hx152_1
                    replace hx152_2 := (HB.out.cell (World.block_lt_of_cell? w _ hx152_2)).trans hx152_2
                    replace hx152_3 := (HB.out.cell (World.block_lt_of_cell? w _ hx152_3)).trans hx152_3
                    replace hx152_4 := (HB.out.cell (World.block_lt_of_cell? w _ hx152_4)).trans hx152_4
                    replace hx152_5 := (HB.out.cell (World.block_lt_of_cell? w _ hx152_5)).trans hx152_5
                    replace p152 := eq_true p152
                    replace q152 := eq_true q152
                    go_wp2
                    repeat (go_quiet (fail); try go_wp2)
                    go_meet
                    case rel => exact ⟨_, (decide (((rd_T68 l0 (ji9)).f0) ≥ ((rd_T68 l0 x3_1).f0))), (by first | rfl | (simp; done) | (simp only [← hji9] <;> (first | rfl | simp)) | (simp [*]; done)), H', ⟨by have := HK1.out; first | omega | exact Nat.le_refl _⟩, ⟨by repeat (first | (with_reducible first | exact HB.out | apply below_alloc | apply pw_below_drewN | apply below_drew1) | exact HB.out)⟩⟩
                  · rw [if_neg c11] at H
                    exact absurd H (by simp)
                · rw [if_neg c10] at H
                  exact absurd H (by simp)
              · rw [if_neg c8] at H
                have c8b0 : decide (0 < x3_1) = false := decide_eq_false c8
                clear c8
                (first | rw [c8b0] | (simp only [i64_w, i32_w]; rw [c8b0]) | skip)
                have H' := Aside0.mk H
                clear H
                go_wp2
                repeat (go_quiet (fail); try go_wp2)
                go_meet
                case rel => exact ⟨_, (false), (by first | rfl | (simp; done) | (simp [*]; done)), H', ⟨by have := HK1.out; first | omega | exact Nat.le_refl _⟩, ⟨by repeat (first | (with_reducible first | exact HB.out | apply below_alloc | apply pw_below_drewN | apply below_drew1) | exact HB.out)⟩⟩
            · replace c7 := Bool.eq_false_iff.mpr c7
              subst c7
              have H1 : (slotmeshref31_Valid.j1 k1 l0 x3_1 true) = some r := by rw [if_neg (show ¬ (false = true) by decide)] at H; exact H
              clear H
              have H := H1
              clear H1
              have H' := Aside0.mk H
              clear H
              go_wp2
              repeat (go_quiet (fail); try go_wp2)
              go_meet
              case rel => exact ⟨_, (true), (by first | rfl | (simp; done) | (simp [*]; done)), H', ⟨by have := HK1.out; first | omega | exact Nat.le_refl _⟩, ⟨by repeat (first | (with_reducible first | exact HB.out | apply below_alloc | apply pw_below_drewN | apply below_drew1) | exact HB.out)⟩⟩
          case rest =>
            clear HC5
            try clear c1
            try clear p1
            try clear q1
            try clear hx1
            try clear c2
            try clear c2b0
            try clear p2
            try clear c3
            try clear c3b0
            try clear p6
            try clear c7
            try clear c8
            try clear c8b0
            try clear c10
            try clear c10b0
            try clear c11
            try clear c11b0
            try clear hx149_0
            try clear hx149_1
            try clear hx149_2
            try clear hx149_3
            try clear hx149_4
            try clear hx149_5
            try clear hx151_0
            try clear hx151_1
            try clear hx151_2
            try clear hx151_3
            try clear hx151_4
            try clear hx151_5
            try clear hx152_0
            try clear hx152_1
            try clear hx152_2
            try clear hx152_3
            try clear hx152_4
            try clear hx152_5
            try clear p149
            try clear p151
            try clear p152
            try clear q149
            try clear q151
            try clear q152
            obtain ⟨kq, x35_4, rfl, HA, HJ4, HB⟩ := hcut
            cases kq with
            | zero => exact absurd HA.out (by simp [slotmeshref31_Valid.j1])
            | succ kj4 =>
              have H := HA.out
              clear HA
              simp only [slotmeshref31_Valid.j1] at H
              by_cases c12 : x35_4 = true
              · subst c12
                have H1 : (some false) = some r := by rw [if_pos rfl] at H; exact H
                clear H
                have H := H1
                clear H1
                obtain rfl := Option.some.inj H
                go_wp2
                repeat (go_quiet (fail); try go_wp2)
                go_ret
                exact ⟨by first | rfl | (simp [errW_none, errW_some] <;> rfl) | (simp [*, errW_none, errW_some] <;> rfl), by repeat (first | (with_reducible first | exact HB.out | apply below_alloc | apply pw_below_drewN | apply below_drew1) | exact HB.out)⟩
              · replace c12 := Bool.eq_false_iff.mpr c12
                subst c12
                have H1 : (slotmeshref31_Valid.l0 kj4 l0 (wrap64 (x3_1 + 1))) = some r := by rw [if_neg (show ¬ (false = true) by decide)] at H; exact H
                clear H
                have H := H1
                clear H1
                have H' := Aside0.mk H
                clear H
                go_wp2
                repeat (go_quiet (fail); try go_wp2)
                go_roundg kj4
                case measure => have := HK1.out; have := HJ4.out; omega
                case rel => exact ⟨(wrap64 (x3_1 + 1)), (by first | rfl | (simp; done) | (simp [*]; done)), H', ⟨by have := HK1.out; have := HJ4.out; omega⟩, ⟨by repeat (first | (with_reducible first | exact HB.out | apply below_alloc | apply pw_below_drewN | apply below_drew1) | exact HB.out)⟩⟩
        · rw [if_neg c3] at H
          exact absurd H (by simp)
      · rw [if_neg c2] at H
        have c2b0 : decide (x3_1 < (l0.length : Int)) = false := decide_eq_false c2
        clear c2
        obtain rfl := Option.some.inj H
        go_wp2
        repeat (go_quiet (fail); try go_wp2)
        go_ret
        exact ⟨by first | rfl | (simp [errW_none, errW_some] <;> rfl) | (simp [*, errW_none, errW_some] <;> rfl), by repeat (first | (with_reducible first | exact HB.out | apply below_alloc | apply pw_below_drewN | apply below_drew1) | exact HB.out)⟩

/-! ### slotmeshref31_Of: function 38 -/
def slotmeshref31_Of.l0 : Nat → List (S68) → Int → Int → Option (Int × Int × Int × Int × Bool × Int × Bool)
  | 0, _, _, _ => none
  | k + 1, x0, x1, x6 => if x6 < (x0.length : Int) then (if 0 ≤ x6 then (if ((rd_T68 x0 x6).f0) = x1 then (some ((rd_T68 x0 x6).f0, (rd_T68 x0 x6).f1, (rd_T68 x0 x6).f2, (rd_T68 x0 x6).f3, (rd_T68 x0 x6).f4, (rd_T68 x0 x6).f5, true)) else (slotmeshref31_Of.l0 k x0 x1 (wrap64 (x6 + 1)))) else (none)) else (some (0, 0, 0, 0, false, 0, false))
def slotmeshref31_Of.f (k : Nat) (l0 : List (S68)) (a1 : Int) : Option (Int × Int × Int × Int × Bool × Int × Bool) := slotmeshref31_Of.l0 k l0 a1 0
set_option maxHeartbeats 8000000 in
set_option maxRecDepth 100000 in
theorem slotmeshref31_Of.calls (k : Nat) (A0 : Option Addr) (c0 : Nat) (l0 : List (S68)) (a1 : Int) (r1 : Int) (r2 : Int) (r3 : Int) (r4 : Int) (r5 : Bool) (r6 : Int) (r7 : Bool) (w : World) (hr0 : Kd.C k68 w A0 l0.length l0) (hc0 : l0.length ≤ c0) (h : slotmeshref31_Of.f k l0 a1 = some (r1, r2, r3, r4, r5, r6, r7)) :
    Calls Tryd.prog 38 #[.slice A0 l0.length c0, .int .i64 a1] w fun e w' => e = .returned (.tuple #[.agg #[.int .i64 r1, .int .i64 r2, .int .i64 r3, .int .i64 r4, .bool r5, .int .i64 r6], .bool r7]) ∧ Below w.heap.size w w' := by
  have hu68 := Tryd.underlying68
  have HR0 := Aside0.mk hr0
  have HC0 := Aside0.mk hc0
  clear hr0 hc0
  have HB := Aside0.mk (Below.refl w.heap.size w)
  have H : (slotmeshref31_Of.l0 k l0 a1 0) = some (r1, r2, r3, r4, r5, r6, r7) := h
  clear h
  have H' := Aside0.mk H
  clear H
  go_enter Tryd.func38, Tryd.ntmps38
  go_wp2_with (first | ((with_reducible refine gate_dst (N := 4) rfl ?_); refine box_event ?hg (N := 4) ?hd (cs := #[.int .i64 0, .int .i64 0, .int .i64 0, .int .i64 0, .bool false, .int .i64 0]) (t := 68) ?hr ?_; (case hd => rfl); (case hg => rfl); (case hr => first | (go_simp; done) | (go_simp; rfl)); intro gb153 hg w3 hbox hb; have n0_ := Aside0.mk (below_step (by repeat (first | (with_reducible first | exact HB.out | apply below_alloc | apply pw_below_drewN | apply below_drew1) | exact HB.out)) hb); have n1_ := Aside0.mk (hbox); have n2_ := Aside0.mk ((by rw [hg]; exact (below_size (by repeat (first | (with_reducible first | exact HB.out | apply below_alloc | apply pw_below_drewN | apply below_drew1) | exact HB.out))) : w.heap.size ≤ gb153)); have n3_ := Aside0.mk ((by rw [hg]; exact (below_size (by repeat (first | (with_reducible first | exact HB.out | apply below_alloc | apply pw_below_drewN | apply below_drew1) | exact HB.out))) : w.heap.size ≤ gb153)); clear HB; have HB := n0_; have BK153 := n1_; have GW153 := n2_; have GE153 := n3_; clear n0_ n1_ n2_ n3_; clear hb hbox hg))
  go_loopg [6] k (fun kq v6 w' => ∃ (x6_1 : Int) (x154000_1 : Int) (x154001_1 : Int) (x154002_1 : Int) (x154003_1 : Int) (x154004_1 : Bool) (x154005_1 : Int), v6 = .int .i64 x6_1 ∧ Aside0 (slotmeshref31_Of.l0 kq l0 a1 x6_1 = some (r1, r2, r3, r4, r5, r6, r7)) ∧ Aside0 (kq ≤ k) ∧ Aside0 (w'.heap[gb153]? = some (.cells #[.int .i64 x154000_1, .int .i64 x154001_1, .int .i64 x154002_1, .int .i64 x154003_1, .bool x154004_1, .int .i64 x154005_1] 68 (0, 0))) ∧ Aside0 (Below w.heap.size w w'))
  case atStart => exact ⟨(0), (0), (0), (0), (0), (false), (0), (by first | rfl | (simp; done) | (simp [*]; done)), H', ⟨Nat.le_refl _⟩, ⟨by (with_reducible repeat (first | refine blk_drewN ?_ _ | refine blk_drew ?_ | refine blk_alloc ?_ _)); exact BK153.out⟩, ⟨by repeat (first | (with_reducible first | exact HB.out | apply below_alloc | apply pw_below_drewN | apply below_drew1 | refine below_set ?_ GE153.out) | exact HB.out)⟩⟩
  case round =>
    clear H'
    try clear p2
    try clear c3
    obtain ⟨x6_1, x154000_1, x154001_1, x154002_1, x154003_1, x154004_1, x154005_1, rfl, HA, HK1, BK153, HB⟩ := hrel
    cases gk with
    | zero => exact absurd HA.out (by simp [slotmeshref31_Of.l0])
    | succ k1 =>
      have H := HA.out
      clear HA
      simp only [slotmeshref31_Of.l0] at H
      by_cases c4 : x6_1 < (l0.length : Int)
      · rw [if_pos c4] at H
        have c4b0 : decide (x6_1 < (l0.length : Int)) = true := decide_eq_true c4
        clear c4
        by_cases c5 : 0 ≤ x6_1
        · rw [if_pos c5] at H
          have c5b0 : decide (0 ≤ x6_1) = true := decide_eq_true c5
          clear c5
          by_cases c6 : ((rd_T68 l0 x6_1).f0) = a1
          · rw [if_pos c6] at H
            have c6b0 : (((rd_T68 l0 x6_1).f0) == a1) = true := beq_iff_eq.mpr c6
            have c6b1 : (((rd_T68 l0 x6_1).f0) != a1) = false := bne_eq_false_iff_eq.mpr c6
            clear c6
            simp only [Option.some.injEq, Prod.mk.injEq] at H
            obtain ⟨rfl, rfl, rfl, rfl, rfl, rfl, rfl⟩ := H
            have p154 : 0 ≤ (x6_1 : Int) := of_decide_eq_true (by first | (with_reducible assumption) | assumption)
            have q154 : x6_1 < (l0.length : Int) := of_decide_eq_true (by first | (with_reducible assumption) | assumption)
            obtain ⟨ad154, e154, hx154_0, hx154_1, hx154_2, hx154_3, hx154_4, hx154_5⟩ := at_T68 HR0.out x6_1 p154 q154
            cases e154
            replace hx154_0 := (HB.out.cell (World.block_lt_of_cell? w _ hx154_0)).trans hx154_0
            replace hx154_1 := (HB.out.cell (World.block_lt_of_cell? w _ hx154_1)).trans hx154_1
            replace hx154_2 := (HB.out.cell (World.block_lt_of_cell? w _ hx154_2)).trans hx154_2
            replace hx154_3 := (HB.out.cell (World.block_lt_of_cell? w _ hx154_3)).trans hx154_3
            replace hx154_4 := (HB.out.cell (World.block_lt_of_cell? w _ hx154_4)).trans hx154_4
            replace hx154_5 := (HB.out.cell (World.block_lt_of_cell? w _ hx154_5)).trans hx154_5
            replace p154 := eq_true p154
            replace q154 := eq_true q154
            have p155 : 0 ≤ (x6_1 : Int) := of_decide_eq_true (by first | (with_reducible assumption) | assumption)
            have q155 : x6_1 < (l0.length : Int) := of_decide_eq_true (by first | (with_reducible assumption) | assumption)
            obtain ⟨ad155, e155, hx155_0, hx155_1, hx155_2, hx155_3, hx155_4, hx155_5⟩ := at_T68 HR0.out x6_1 p155 q155
            obtain rfl : ad154 = ad155 := (by injection e155)
            replace hx155_0 := (HB.out.cell (World.block_lt_of_cell? w _ hx155_0)).trans hx155_0
            replace hx155_1 := (HB.out.cell (World.block_lt_of_cell? w _ hx155_1)).trans hx155_1
            replace hx155_2 := (HB.out.cell (World.block_lt_of_cell? w _ hx155_2)).trans hx155_2
            replace hx155_3 := (HB.out.cell (World.block_lt_of_cell? w _ hx155_3)).trans hx155_3
            replace hx155_4 := (HB.out.cell (World.block_lt_of_cell? w _ hx155_4)).trans hx155_4
            replace hx155_5 := (HB.out.cell (World.block_lt_of_cell? w _ hx155_5)).trans hx155_5
            replace p155 := eq_true p155
            replace q155 := eq_true q155
            have hcz7_0 : wr.cell? ⟨gb153, 0, none⟩ = some (.int .i64 x154000_1) := (blk_cell BK153.out 0).trans rfl
            have hcz7_1 : wr.cell? ⟨gb153, 1, none⟩ = some (.int .i64 x154001_1) := (blk_cell BK153.out 1).trans rfl
            have hcz7_2 : wr.cell? ⟨gb153, 2, none⟩ = some (.int .i64 x154002_1) := (blk_cell BK153.out 2).trans rfl
            have hcz7_3 : wr.cell? ⟨gb153, 3, none⟩ = some (.int .i64 x154003_1) := (blk_cell BK153.out 3).trans rfl
            have hcz7_4 : wr.cell? ⟨gb153, 4, none⟩ = some (.bool x154004_1) := (blk_cell BK153.out 4).trans rfl
            have hcz7_5 : wr.cell? ⟨gb153, 5, none⟩ = some (.int .i64 x154005_1) := (blk_cell BK153.out 5).trans rfl
            have hfz7_0 := blk_frozen BK153.out 0
            have hfz7_1 := blk_frozen BK153.out 1
            have hfz7_2 := blk_frozen BK153.out 2
            have hfz7_3 := blk_frozen BK153.out 3
            have hfz7_4 := blk_frozen BK153.out 4
            have hfz7_5 := blk_frozen BK153.out 5
            go_wp2
            refine bodyPost_ret (results_ct rfl _ _ gb153 68 #[.int .i64 ((rd_T68 l0 x6_1).f0), .int .i64 ((rd_T68 l0 x6_1).f1), .int .i64 ((rd_T68 l0 x6_1).f2), .int .i64 ((rd_T68 l0 x6_1).f3), .bool ((rd_T68 l0 x6_1).f4), .int .i64 ((rd_T68 l0 x6_1).f5)] (0, 0) _ rfl (by (with_reducible repeat (first | refine blk_drewN ?_ _ | refine blk_drew ?_ | refine blk_alloc ?_ _)); refine blk_put (cs := #[.int .i64 ((rd_T68 l0 x6_1).f0), .int .i64 ((rd_T68 l0 x6_1).f1), .int .i64 ((rd_T68 l0 x6_1).f2), .int .i64 ((rd_T68 l0 x6_1).f3), .bool ((rd_T68 l0 x6_1).f4), .int .i64 x154005_1]) ?_ 5 _ rfl; (with_reducible repeat (first | refine blk_drewN ?_ _ | refine blk_drew ?_ | refine blk_alloc ?_ _)); refine blk_put (cs := #[.int .i64 ((rd_T68 l0 x6_1).f0), .int .i64 ((rd_T68 l0 x6_1).f1), .int .i64 ((rd_T68 l0 x6_1).f2), .int .i64 ((rd_T68 l0 x6_1).f3), .bool x154004_1, .int .i64 x154005_1]) ?_ 4 _ rfl; (with_reducible repeat (first | refine blk_drewN ?_ _ | refine blk_drew ?_ | refine blk_alloc ?_ _)); refine blk_put (cs := #[.int .i64 ((rd_T68 l0 x6_1).f0), .int .i64 ((rd_T68 l0 x6_1).f1), .int .i64 ((rd_T68 l0 x6_1).f2), .int .i64 x154003_1, .bool x154004_1, .int .i64 x154005_1]) ?_ 3 _ rfl; (with_reducible repeat (first | refine blk_drewN ?_ _ | refine blk_drew ?_ | refine blk_alloc ?_ _)); refine blk_put (cs := #[.int .i64 ((rd_T68 l0 x6_1).f0), .int .i64 ((rd_T68 l0 x6_1).f1), .int .i64 x154002_1, .int .i64 x154003_1, .bool x154004_1, .int .i64 x154005_1]) ?_ 2 _ rfl; (with_reducible repeat (first | refine blk_drewN ?_ _ | refine blk_drew ?_ | refine blk_alloc ?_ _)); refine blk_put (cs := #[.int .i64 ((rd_T68 l0 x6_1).f0), .int .i64 x154001_1, .int .i64 x154002_1, .int .i64 x154003_1, .bool x154004_1, .int .i64 x154005_1]) ?_ 1 _ rfl; (with_reducible repeat (first | refine blk_drewN ?_ _ | refine blk_drew ?_ | refine blk_alloc ?_ _)); refine blk_put (cs := #[.int .i64 x154000_1, .int .i64 x154001_1, .int .i64 x154002_1, .int .i64 x154003_1, .bool x154004_1, .int .i64 x154005_1]) ?_ 0 _ rfl; (with_reducible repeat (first | refine blk_drewN ?_ _ | refine blk_drew ?_ | refine blk_alloc ?_ _)); exact BK153.out) Tryd.underlying68 rfl (by kernel_rfl)) rfl ?_
            exact ⟨by first | rfl | (simp [errW_none, errW_some] <;> rfl) | (simp [*, errW_none, errW_some] <;> rfl), by repeat (first | (with_reducible first | exact HB.out | apply below_alloc | apply pw_below_drewN | apply below_drew1 | refine below_set ?_ GE153.out) | exact HB.out)⟩
          · rw [if_neg c6] at H
            have c6b0 : (((rd_T68 l0 x6_1).f0) == a1) = false := beq_eq_false_iff_ne.mpr c6
            have c6b1 : (((rd_T68 l0 x6_1).f0) != a1) = true := bne_iff_ne.mpr c6
            have H' := Aside0.mk H
            clear H
            have p154 : 0 ≤ (x6_1 : Int) := of_decide_eq_true (by first | (with_reducible assumption) | assumption)
            have q154 : x6_1 < (l0.length : Int) := of_decide_eq_true (by first | (with_reducible assumption) | assumption)
            obtain ⟨ad154, e154, hx154_0, hx154_1, hx154_2, hx154_3, hx154_4, hx154_5⟩ := at_T68 HR0.out x6_1 p154 q154
            cases e154
            replace hx154_0 := (HB.out.cell (World.block_lt_of_cell? w _ hx154_0)).trans hx154_0
            replace hx154_1 := (HB.out.cell (World.block_lt_of_cell? w _ hx154_1)).trans hx154_1
            replace hx154_2 := (HB.out.cell (World.block_lt_of_cell? w _ hx154_2)).trans hx154_2
            replace hx154_3 := (HB.out.cell (World.block_lt_of_cell? w _ hx154_3)).trans hx154_3
            replace hx154_4 := (HB.out.cell (World.block_lt_of_cell? w _ hx154_4)).trans hx154_4
            replace hx154_5 := (HB.out.cell (World.block_lt_of_cell? w _ hx154_5)).trans hx154_5
            replace p154 := eq_true p154
            replace q154 := eq_true q154
            go_wp2
            go_roundg k1
            case measure => have := HK1.out; omega
            case rel => exact ⟨(wrap64 (x6_1 + 1)), (x154000_1), (x154001_1), (x154002_1), (x154003_1), (x154004_1), (x154005_1), (by first | rfl | (simp; done) | (simp [*]; done)), H', ⟨by have := HK1.out; omega⟩, ⟨by (with_reducible repeat (first | refine blk_drewN ?_ _ | refine blk_drew ?_ | refine blk_alloc ?_ _)); exact BK153.out⟩, ⟨by repeat (first | (with_reducible first | exact HB.out | apply below_alloc | apply pw_below_drewN | apply below_drew1 | refine below_set ?_ GE153.out) | exact HB.out)⟩⟩
        · rw [if_neg c5] at H
          exact absurd H (by simp)
      · rw [if_neg c4] at H
        have c4b0 : decide (x6_1 < (l0.length : Int)) = false := decide_eq_false c4
        clear c4
        simp only [Option.some.injEq, Prod.mk.injEq] at H
        obtain ⟨rfl, rfl, rfl, rfl, rfl, rfl, rfl⟩ := H
        have hcz8_0 : wr.cell? ⟨gb153, 0, none⟩ = some (.int .i64 x154000_1) := (blk_cell BK153.out 0).trans rfl
        have hcz8_1 : wr.cell? ⟨gb153, 1, none⟩ = some (.int .i64 x154001_1) := (blk_cell BK153.out 1).trans rfl
        have hcz8_2 : wr.cell? ⟨gb153, 2, none⟩ = some (.int .i64 x154002_1) := (blk_cell BK153.out 2).trans rfl
        have hcz8_3 : wr.cell? ⟨gb153, 3, none⟩ = some (.int .i64 x154003_1) := (blk_cell BK153.out 3).trans rfl
        have hcz8_4 : wr.cell? ⟨gb153, 4, none⟩ = some (.bool x154004_1) := (blk_cell BK153.out 4).trans rfl
        have hcz8_5 : wr.cell? ⟨gb153, 5, none⟩ = some (.int .i64 x154005_1) := (blk_cell BK153.out 5).trans rfl
        have hfz8_0 := blk_frozen BK153.out 0
        have hfz8_1 := blk_frozen BK153.out 1
        have hfz8_2 := blk_frozen BK153.out 2
        have hfz8_3 := blk_frozen BK153.out 3
        have hfz8_4 := blk_frozen BK153.out 4
        have hfz8_5 := blk_frozen BK153.out 5
        go_wp2
        refine bodyPost_ret (results_ct rfl _ _ gb153 68 #[.int .i64 0, .int .i64 0, .int .i64 0, .int .i64 0, .bool false, .int .i64 0] (0, 0) _ rfl (by (with_reducible repeat (first | refine blk_drewN ?_ _ | refine blk_drew ?_ | refine blk_alloc ?_ _)); refine blk_put (cs := #[.int .i64 0, .int .i64 0, .int .i64 0, .int .i64 0, .bool false, .int .i64 x154005_1]) ?_ 5 _ rfl; (with_reducible repeat (first | refine blk_drewN ?_ _ | refine blk_drew ?_ | refine blk_alloc ?_ _)); refine blk_put (cs := #[.int .i64 0, .int .i64 0, .int .i64 0, .int .i64 0, .bool x154004_1, .int .i64 x154005_1]) ?_ 4 _ rfl; (with_reducible repeat (first | refine blk_drewN ?_ _ | refine blk_drew ?_ | refine blk_alloc ?_ _)); refine blk_put (cs := #[.int .i64 0, .int .i64 0, .int .i64 0, .int .i64 x154003_1, .bool x154004_1, .int .i64 x154005_1]) ?_ 3 _ rfl; (with_reducible repeat (first | refine blk_drewN ?_ _ | refine blk_drew ?_ | refine blk_alloc ?_ _)); refine blk_put (cs := #[.int .i64 0, .int .i64 0, .int .i64 x154002_1, .int .i64 x154003_1, .bool x154004_1, .int .i64 x154005_1]) ?_ 2 _ rfl; (with_reducible repeat (first | refine blk_drewN ?_ _ | refine blk_drew ?_ | refine blk_alloc ?_ _)); refine blk_put (cs := #[.int .i64 0, .int .i64 x154001_1, .int .i64 x154002_1, .int .i64 x154003_1, .bool x154004_1, .int .i64 x154005_1]) ?_ 1 _ rfl; (with_reducible repeat (first | refine blk_drewN ?_ _ | refine blk_drew ?_ | refine blk_alloc ?_ _)); refine blk_put (cs := #[.int .i64 x154000_1, .int .i64 x154001_1, .int .i64 x154002_1, .int .i64 x154003_1, .bool x154004_1, .int .i64 x154005_1]) ?_ 0 _ rfl; (with_reducible repeat (first | refine blk_drewN ?_ _ | refine blk_drew ?_ | refine blk_alloc ?_ _)); exact BK153.out) Tryd.underlying68 rfl (by kernel_rfl)) rfl ?_
        exact ⟨by first | rfl | (simp [errW_none, errW_some] <;> rfl) | (simp [*, errW_none, errW_some] <;> rfl), by repeat (first | (with_reducible first | exact HB.out | apply below_alloc | apply pw_below_drewN | apply below_drew1 | refine below_set ?_ GE153.out) | exact HB.out)⟩

end Go.Proofs.YtncgeclkgmfppaaDoor.H
