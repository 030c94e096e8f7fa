/-
  What functions of the program compute, as plain functions, each with its contract: the call returns just that, from every memory that holds its arguments.
-/
import Derived.Test.YtncgeclkgmfppaaDoorH0
import Derived.Test.YtncgeclkgmfppaaDoorH5
namespace Go.Proofs.YtncgeclkgmfppaaDoor.H
open Go.RowKit Go.Proofs.YtncgeclkgmfppaaDoorW.PrintWords Go.Proofs.YtncgeclkgmfppaaDoorW.PrintLast Go.Proofs.YtncgeclkgmfppaaDoorW.PrintMore
attribute [local go_sem] max2_int min2_int max_two min_two max_three min_three max_four min_four   -- for this text's walks alone
set_option linter.unusedVariables false
set_option linter.unusedSimpArgs false

/-! ### join_node: function 80 -/
def join_node.f (a0 : Int) : Option (Bool) := if a0 ≥ 0 then (some (decide (a0 < 60))) else (some false)
set_option maxHeartbeats 8000000 in
set_option maxRecDepth 100000 in
theorem join_node.calls (a0 : Int) (r : Bool) (w : World) (h : join_node.f a0 = some r) :
    Calls Tryd.prog 80 #[.int .i64 a0] w fun e w' => e = .returned (.bool r) ∧ Drawn0 w w' := by
  have H : (if a0 ≥ 0 then (some (decide (a0 < 60))) else (some false)) = some r := h
  clear h
  by_cases c2 : a0 ≥ 0
  · rw [if_pos c2] at H
    have c2b0 : decide (0 ≤ a0) = true := decide_eq_true c2
    clear c2
    obtain rfl := Option.some.inj H
    go_enter Tryd.func80, Tryd.ntmps80
    go_wp2
    go_ret
    exact ⟨by first | rfl | (simp; done) | (simp [*]; done), by repeat (first | exact Drawn0.refl _ | apply Drawn0.step)⟩
  · rw [if_neg c2] at H
    have c2b0 : decide (0 ≤ a0) = false := decide_eq_false c2
    clear c2
    obtain rfl := Option.some.inj H
    go_enter Tryd.func80, Tryd.ntmps80
    go_wp2
    go_ret
    exact ⟨by first | rfl | (simp; done) | (simp [*]; done), by repeat (first | exact Drawn0.refl _ | apply Drawn0.step)⟩

/-! ### join_formed: function 83 -/
def join_formed.f (a0_0 : Int) (a0_1 : Int) (a0_2 : Int) (a0_3 : Int) (a0_4 : Int) (a0_5 : Int) (a0_6 : Int) (a0_7 : Int) : Option (Bool) := (join_node.f a0_1).bind fun t113 => (if t113 = true then ((join_node.f a0_2).bind fun t114 => (if t114 = true then (if a0_1 = a0_2 then (some false) else (if (mn a0_3 a0_4) ≥ 0 then (if (mx a0_3 a0_4) ≤ 1000000000 then (if a0_0 ≥ 1 then (some (decide (a0_0 ≤ 4))) else (some false)) else (some false)) else (some false))) else (some false))) else (some false))
set_option maxHeartbeats 8000000 in
set_option maxRecDepth 100000 in
theorem join_formed.calls (a0_0 : Int) (a0_1 : Int) (a0_2 : Int) (a0_3 : Int) (a0_4 : Int) (a0_5 : Int) (a0_6 : Int) (a0_7 : Int) (r : Bool) (w : World) (h : join_formed.f a0_0 a0_1 a0_2 a0_3 a0_4 a0_5 a0_6 a0_7 = some r) :
    Calls Tryd.prog 83 #[.agg #[.int .i64 a0_0, .int .i64 a0_1, .int .i64 a0_2, .int .i64 a0_3, .int .i64 a0_4, .int .i64 a0_5, .int .i64 a0_6, .int .i64 a0_7]] w fun e w' => e = .returned (.bool r) ∧ Below w.heap.size w w' := by
  have hu54 := Tryd.underlying54
  have HB := Aside0.mk (Below.refl w.heap.size w)
  have H : ((join_node.f a0_1).bind fun t113 => (if t113 = true then ((join_node.f a0_2).bind fun t114 => (if t114 = true then (if a0_1 = a0_2 then (some false) else (if (mn a0_3 a0_4) ≥ 0 then (if (mx a0_3 a0_4) ≤ 1000000000 then (if a0_0 ≥ 1 then (some (decide (a0_0 ≤ 4))) else (some false)) else (some false)) else (some false))) else (some false))) else (some false))) = some r := h
  clear h
  replace H := Option.bind_eq_some_iff.mp H
  obtain ⟨t113, A20, H⟩ := H
  replace H : (if t113 = true then ((join_node.f a0_2).bind fun t114 => (if t114 = true then (if a0_1 = a0_2 then (some false) else (if (mn a0_3 a0_4) ≥ 0 then (if (mx a0_3 a0_4) ≤ 1000000000 then (if a0_0 ≥ 1 then (some (decide (a0_0 ≤ 4))) else (some false)) else (some false)) else (some false))) else (some false))) else (some false)) = some r := H
  have A2 := Aside0.mk A20
  clear A20
  by_cases c3 : t113 = true
  · subst c3
    have H1 : ((join_node.f a0_2).bind fun t114 => (if t114 = true then (if a0_1 = a0_2 then (some false) else (if (mn a0_3 a0_4) ≥ 0 then (if (mx a0_3 a0_4) ≤ 1000000000 then (if a0_0 ≥ 1 then (some (decide (a0_0 ≤ 4))) else (some false)) else (some false)) else (some false))) else (some false))) = some r := by rw [if_pos rfl] at H; exact H
    clear H
    have H := H1
    clear H1
    replace H := Option.bind_eq_some_iff.mp H
    obtain ⟨t114, A40, H⟩ := H
    replace H : (if t114 = true then (if a0_1 = a0_2 then (some false) else (if (mn a0_3 a0_4) ≥ 0 then (if (mx a0_3 a0_4) ≤ 1000000000 then (if a0_0 ≥ 1 then (some (decide (a0_0 ≤ 4))) else (some false)) else (some false)) else (some false))) else (some false)) = some r := H
    have A4 := Aside0.mk A40
    clear A40
    by_cases c5 : t114 = true
    · subst c5
      have H1 : (if a0_1 = a0_2 then (some false) else (if (mn a0_3 a0_4) ≥ 0 then (if (mx a0_3 a0_4) ≤ 1000000000 then (if a0_0 ≥ 1 then (some (decide (a0_0 ≤ 4))) else (some false)) else (some false)) else (some false))) = some r := by rw [if_pos rfl] at H; exact H
      clear H
      have H := H1
      clear H1
      by_cases c6 : a0_1 = a0_2
      · rw [if_pos c6] at H
        have c6b0 : (a0_1 == a0_2) = true := beq_iff_eq.mpr c6
        have c6b1 : (a0_1 != a0_2) = false := bne_eq_false_iff_eq.mpr c6
        clear c6
        obtain rfl := Option.some.inj H
        go_enter Tryd.func83, Tryd.ntmps83
        go_wp2_with (first | ((with_reducible refine gate_dst (N := 1) rfl ?_); (try (refine gate_guard (by rfl) ?_; dsimp only)); refine box_event ?hg (N := 1) ?hd (cs := #[.int .i64 a0_0, .int .i64 a0_1, .int .i64 a0_2, .int .i64 a0_3, .int .i64 a0_4, .int .i64 a0_5, .int .i64 a0_6, .int .i64 a0_7]) (t := 54) ?hr ?_; (case hd => rfl); (case hg => rfl); (case hr => first | (go_simp; done) | (go_simp; rfl)); intro gb112 hg w7 hbox hb; have n0_ := Aside0.mk (below_step (by repeat (first | (with_reducible first | exact HB.out | apply below_alloc | apply pw_below_drewN | apply below_drew1) | exact HB.out)) hb); have n1_ := Aside0.mk (hbox); have n2_ := Aside0.mk ((by rw [hg]; exact (below_size (by repeat (first | (with_reducible first | exact HB.out | apply below_alloc | apply pw_below_drewN | apply below_drew1) | exact HB.out))) : w.heap.size ≤ gb112)); have n3_ := Aside0.mk ((by rw [hg]; exact (below_size (by repeat (first | (with_reducible first | exact HB.out | apply below_alloc | apply pw_below_drewN | apply below_drew1) | exact HB.out))) : w.heap.size ≤ gb112)); clear HB; have HB := n0_; have BK112 := n1_; have GW112 := n2_; have GE112 := n3_; clear n0_ n1_ n2_ n3_; clear hb hbox hg; have hcz8_0 : w7.cell? ⟨gb112, 0, none⟩ = some (.int .i64 a0_0) := (blk_cell BK112.out 0).trans rfl; have hcz8_1 : w7.cell? ⟨gb112, 1, none⟩ = some (.int .i64 a0_1) := (blk_cell BK112.out 1).trans rfl; have hcz8_2 : w7.cell? ⟨gb112, 2, none⟩ = some (.int .i64 a0_2) := (blk_cell BK112.out 2).trans rfl; have hcz8_3 : w7.cell? ⟨gb112, 3, none⟩ = some (.int .i64 a0_3) := (blk_cell BK112.out 3).trans rfl; have hcz8_4 : w7.cell? ⟨gb112, 4, none⟩ = some (.int .i64 a0_4) := (blk_cell BK112.out 4).trans rfl; have hcz8_5 : w7.cell? ⟨gb112, 5, none⟩ = some (.int .i64 a0_5) := (blk_cell BK112.out 5).trans rfl; have hcz8_6 : w7.cell? ⟨gb112, 6, none⟩ = some (.int .i64 a0_6) := (blk_cell BK112.out 6).trans rfl; have hcz8_7 : w7.cell? ⟨gb112, 7, none⟩ = some (.int .i64 a0_7) := (blk_cell BK112.out 7).trans rfl; have hfz8_0 := blk_frozen BK112.out 0; have hfz8_1 := blk_frozen BK112.out 1; have hfz8_2 := blk_frozen BK112.out 2; have hfz8_3 := blk_frozen BK112.out 3; have hfz8_4 := blk_frozen BK112.out 4; have hfz8_5 := blk_frozen BK112.out 5; have hfz8_6 := blk_frozen BK112.out 6; have hfz8_7 := blk_frozen BK112.out 7) | ((with_reducible refine gate_callee (f := 80) rfl ?_); refine goesL_ (some 5) rfl rfl Tryd.func80 (by kernel_rfl) rfl #[.int .i64 a0_1] rfl (by (try simp only [List.map_toArray, List.map_cons, List.map_nil]); first | done | rfl | (simp only [List.length_drop, List.length_take]; rfl)) ?_; (with_reducible refine (join_node.calls a0_1 true _ A2.out).mono ?_); rintro e w' ⟨rfl, ⟨nd, rfl⟩⟩; refine ⟨_, rfl, ?_⟩) | (go_at_call 80; (with_reducible refine (join_node.calls a0_2 true _ A4.out).mono ?_); rintro e w' ⟨rfl, ⟨nd, rfl⟩⟩))
        go_ret
        exact ⟨by first | rfl | (simp [errW_none, errW_some] <;> rfl) | (simp [*, errW_none, errW_some] <;> rfl), by repeat (first | (with_reducible first | exact HB.out | apply below_alloc | apply pw_below_drewN | apply below_drew1 | refine below_set ?_ GE112.out) | exact HB.out)⟩
      · rw [if_neg c6] at H
        have c6b0 : (a0_1 == a0_2) = false := beq_eq_false_iff_ne.mpr c6
        have c6b1 : (a0_1 != a0_2) = true := bne_iff_ne.mpr c6
        obtain ⟨ji9, hji9⟩ : ∃ j_ : Int, (mn a0_3 a0_4) = j_ := ⟨_, rfl⟩
        replace H : (if (ji9) ≥ 0 then (if (mx a0_3 a0_4) ≤ 1000000000 then (if a0_0 ≥ 1 then (some (decide (a0_0 ≤ 4))) else (some false)) else (some false)) else (some false)) = some r := by first | (rw [hji9] at H; exact H) | (simp only [hji9] at H ⊢; exact H)
        (try rw [hji9] at A2)
        (try rw [hji9] at A4)
        have hji9_ : (if a0_4 < a0_3 then a0_4 else a0_3) = ji9 := hji9
        by_cases c10 : (ji9) ≥ 0
        · rw [if_pos c10] at H
          have c10b0 : decide (0 ≤ (ji9)) = true := decide_eq_true c10
          clear c10
          obtain ⟨ji11, hji11⟩ : ∃ j_ : Int, (mx a0_3 a0_4) = j_ := ⟨_, rfl⟩
          replace H : (if (ji11) ≤ 1000000000 then (if a0_0 ≥ 1 then (some (decide (a0_0 ≤ 4))) else (some false)) else (some false)) = some r := by first | (rw [hji11] at H; exact H) | (simp only [hji11] at H ⊢; exact H)
          (try rw [hji11] at A2)
          (try rw [hji11] at A4)
          have hji11_ : (if a0_3 < a0_4 then a0_4 else a0_3) = ji11 := hji11
          by_cases c12 : (ji11) ≤ 1000000000
          · rw [if_pos c12] at H
            have c12b0 : decide ((ji11) ≤ 1000000000) = true := decide_eq_true c12
            clear c12
            by_cases c13 : a0_0 ≥ 1
            · rw [if_pos c13] at H
              have c13b0 : decide (1 ≤ a0_0) = true := decide_eq_true c13
              clear c13
              obtain rfl := Option.some.inj H
              go_enter Tryd.func83, Tryd.ntmps83
              go_wp2_with (first | ((with_reducible refine gate_dst (N := 1) rfl ?_); (try (refine gate_guard (by rfl) ?_; dsimp only)); refine box_event ?hg (N := 1) ?hd (cs := #[.int .i64 a0_0, .int .i64 a0_1, .int .i64 a0_2, .int .i64 a0_3, .int .i64 a0_4, .int .i64 a0_5, .int .i64 a0_6, .int .i64 a0_7]) (t := 54) ?hr ?_; (case hd => rfl); (case hg => rfl); (case hr => first | (go_simp; done) | (go_simp; rfl)); intro gb112 hg w14 hbox hb; have n0_ := Aside0.mk (below_step (by repeat (first | (with_reducible first | exact HB.out | apply below_alloc | apply pw_below_drewN | apply below_drew1) | exact HB.out)) hb); have n1_ := Aside0.mk (hbox); have n2_ := Aside0.mk ((by rw [hg]; exact (below_size (by repeat (first | (with_reducible first | exact HB.out | apply below_alloc | apply pw_below_drewN | apply below_drew1) | exact HB.out))) : w.heap.size ≤ gb112)); have n3_ := Aside0.mk ((by rw [hg]; exact (below_size (by repeat (first | (with_reducible first | exact HB.out | apply below_alloc | apply pw_below_drewN | apply below_drew1) | exact HB.out))) : w.heap.size ≤ gb112)); clear HB; have HB := n0_; have BK112 := n1_; have GW112 := n2_; have GE112 := n3_; clear n0_ n1_ n2_ n3_; clear hb hbox hg; have hcz15_0 : w14.cell? ⟨gb112, 0, none⟩ = some (.int .i64 a0_0) := (blk_cell BK112.out 0).trans rfl; have hcz15_1 : w14.cell? ⟨gb112, 1, none⟩ = some (.int .i64 a0_1) := (blk_cell BK112.out 1).trans rfl; have hcz15_2 : w14.cell? ⟨gb112, 2, none⟩ = some (.int .i64 a0_2) := (blk_cell BK112.out 2).trans rfl; have hcz15_3 : w14.cell? ⟨gb112, 3, none⟩ = some (.int .i64 a0_3) := (blk_cell BK112.out 3).trans rfl; have hcz15_4 : w14.cell? ⟨gb112, 4, none⟩ = some (.int .i64 a0_4) := (blk_cell BK112.out 4).trans rfl; have hcz15_5 : w14.cell? ⟨gb112, 5, none⟩ = some (.int .i64 a0_5) := (blk_cell BK112.out 5).trans rfl; have hcz15_6 : w14.cell? ⟨gb112, 6, none⟩ = some (.int .i64 a0_6) := (blk_cell BK112.out 6).trans rfl; have hcz15_7 : w14.cell? ⟨gb112, 7, none⟩ = some (.int .i64 a0_7) := (blk_cell BK112.out 7).trans rfl; have hfz15_0 := blk_frozen BK112.out 0; have hfz15_1 := blk_frozen BK112.out 1; have hfz15_2 := blk_frozen BK112.out 2; have hfz15_3 := blk_frozen BK112.out 3; have hfz15_4 := blk_frozen BK112.out 4; have hfz15_5 := blk_frozen BK112.out 5; have hfz15_6 := blk_frozen BK112.out 6; have hfz15_7 := blk_frozen BK112.out 7) | ((with_reducible refine gate_callee (f := 80) rfl ?_); refine goesL_ (some 5) rfl rfl Tryd.func80 (by kernel_rfl) rfl #[.int .i64 a0_1] rfl (by (try simp only [List.map_toArray, List.map_cons, List.map_nil]); first | done | rfl | (simp only [List.length_drop, List.length_take]; rfl)) ?_; (with_reducible refine (join_node.calls a0_1 true _ A2.out).mono ?_); rintro e w' ⟨rfl, ⟨nd, rfl⟩⟩; refine ⟨_, rfl, ?_⟩) | (go_at_call 80; (with_reducible refine (join_node.calls a0_2 true _ A4.out).mono ?_); rintro e w' ⟨rfl, ⟨nd, rfl⟩⟩))
              go_ret
              exact ⟨by first | rfl | (simp [errW_none, errW_some] <;> rfl) | (simp only [← hji9, ← hji11]; first | rfl | (simp [errW_none, errW_some] <;> rfl)) | (simp [*, errW_none, errW_some] <;> rfl), by repeat (first | (with_reducible first | exact HB.out | apply below_alloc | apply pw_below_drewN | apply below_drew1 | refine below_set ?_ GE112.out) | exact HB.out)⟩
            · rw [if_neg c13] at H
              have c13b0 : decide (1 ≤ a0_0) = false := decide_eq_false c13
              clear c13
              obtain rfl := Option.some.inj H
              go_enter Tryd.func83, Tryd.ntmps83
              go_wp2_with (first | ((with_reducible refine gate_dst (N := 1) rfl ?_); (try (refine gate_guard (by rfl) ?_; dsimp only)); refine box_event ?hg (N := 1) ?hd (cs := #[.int .i64 a0_0, .int .i64 a0_1, .int .i64 a0_2, .int .i64 a0_3, .int .i64 a0_4, .int .i64 a0_5, .int .i64 a0_6, .int .i64 a0_7]) (t := 54) ?hr ?_; (case hd => rfl); (case hg => rfl); (case hr => first | (go_simp; done) | (go_simp; rfl)); intro gb112 hg w16 hbox hb; have n0_ := Aside0.mk (below_step (by repeat (first | (with_reducible first | exact HB.out | apply below_alloc | apply pw_below_drewN | apply below_drew1) | exact HB.out)) hb); have n1_ := Aside0.mk (hbox); have n2_ := Aside0.mk ((by rw [hg]; exact (below_size (by repeat (first | (with_reducible first | exact HB.out | apply below_alloc | apply pw_below_drewN | apply below_drew1) | exact HB.out))) : w.heap.size ≤ gb112)); have n3_ := Aside0.mk ((by rw [hg]; exact (below_size (by repeat (first | (with_reducible first | exact HB.out | apply below_alloc | apply pw_below_drewN | apply below_drew1) | exact HB.out))) : w.heap.size ≤ gb112)); clear HB; have HB := n0_; have BK112 := n1_; have GW112 := n2_; have GE112 := n3_; clear n0_ n1_ n2_ n3_; clear hb hbox hg; have hcz17_0 : w16.cell? ⟨gb112, 0, none⟩ = some (.int .i64 a0_0) := (blk_cell BK112.out 0).trans rfl; have hcz17_1 : w16.cell? ⟨gb112, 1, none⟩ = some (.int .i64 a0_1) := (blk_cell BK112.out 1).trans rfl; have hcz17_2 : w16.cell? ⟨gb112, 2, none⟩ = some (.int .i64 a0_2) := (blk_cell BK112.out 2).trans rfl; have hcz17_3 : w16.cell? ⟨gb112, 3, none⟩ = some (.int .i64 a0_3) := (blk_cell BK112.out 3).trans rfl; have hcz17_4 : w16.cell? ⟨gb112, 4, none⟩ = some (.int .i64 a0_4) := (blk_cell BK112.out 4).trans rfl; have hcz17_5 : w16.cell? ⟨gb112, 5, none⟩ = some (.int .i64 a0_5) := (blk_cell BK112.out 5).trans rfl; have hcz17_6 : w16.cell? ⟨gb112, 6, none⟩ = some (.int .i64 a0_6) := (blk_cell BK112.out 6).trans rfl; have hcz17_7 : w16.cell? ⟨gb112, 7, none⟩ = some (.int .i64 a0_7) := (blk_cell BK112.out 7).trans rfl; have hfz17_0 := blk_frozen BK112.out 0; have hfz17_1 := blk_frozen BK112.out 1; have hfz17_2 := blk_frozen BK112.out 2; have hfz17_3 := blk_frozen BK112.out 3; have hfz17_4 := blk_frozen BK112.out 4; have hfz17_5 := blk_frozen BK112.out 5; have hfz17_6 := blk_frozen BK112.out 6; have hfz17_7 := blk_frozen BK112.out 7) | ((with_reducible refine gate_callee (f := 80) rfl ?_); refine goesL_ (some 5) rfl rfl Tryd.func80 (by kernel_rfl) rfl #[.int .i64 a0_1] rfl (by (try simp only [List.map_toArray, List.map_cons, List.map_nil]); first | done | rfl | (simp only [List.length_drop, List.length_take]; rfl)) ?_; (with_reducible refine (join_node.calls a0_1 true _ A2.out).mono ?_); rintro e w' ⟨rfl, ⟨nd, rfl⟩⟩; refine ⟨_, rfl, ?_⟩) | (go_at_call 80; (with_reducible refine (join_node.calls a0_2 true _ A4.out).mono ?_); rintro e w' ⟨rfl, ⟨nd, rfl⟩⟩))
              go_ret
              exact ⟨by first | rfl | (simp [errW_none, errW_some] <;> rfl) | (simp only [← hji9, ← hji11]; first | rfl | (simp [errW_none, errW_some] <;> rfl)) | (simp [*, errW_none, errW_some] <;> rfl), by repeat (first | (with_reducible first | exact HB.out | apply below_alloc | apply pw_below_drewN | apply below_drew1 | refine below_set ?_ GE112.out) | exact HB.out)⟩
          · rw [if_neg c12] at H
            have c12b0 : decide ((ji11) ≤ 1000000000) = false := decide_eq_false c12
            clear c12
            obtain rfl := Option.some.inj H
            go_enter Tryd.func83, Tryd.ntmps83
            go_wp2_with (first | ((with_reducible refine gate_dst (N := 1) rfl ?_); (try (refine gate_guard (by rfl) ?_; dsimp only)); refine box_event ?hg (N := 1) ?hd (cs := #[.int .i64 a0_0, .int .i64 a0_1, .int .i64 a0_2, .int .i64 a0_3, .int .i64 a0_4, .int .i64 a0_5, .int .i64 a0_6, .int .i64 a0_7]) (t := 54) ?hr ?_; (case hd => rfl); (case hg => rfl); (case hr => first | (go_simp; done) | (go_simp; rfl)); intro gb112 hg w18 hbox hb; have n0_ := Aside0.mk (below_step (by repeat (first | (with_reducible first | exact HB.out | apply below_alloc | apply pw_below_drewN | apply below_drew1) | exact HB.out)) hb); have n1_ := Aside0.mk (hbox); have n2_ := Aside0.mk ((by rw [hg]; exact (below_size (by repeat (first | (with_reducible first | exact HB.out | apply below_alloc | apply pw_below_drewN | apply below_drew1) | exact HB.out))) : w.heap.size ≤ gb112)); have n3_ := Aside0.mk ((by rw [hg]; exact (below_size (by repeat (first | (with_reducible first | exact HB.out | apply below_alloc | apply pw_below_drewN | apply below_drew1) | exact HB.out))) : w.heap.size ≤ gb112)); clear HB; have HB := n0_; have BK112 := n1_; have GW112 := n2_; have GE112 := n3_; clear n0_ n1_ n2_ n3_; clear hb hbox hg; have hcz19_0 : w18.cell? ⟨gb112, 0, none⟩ = some (.int .i64 a0_0) := (blk_cell BK112.out 0).trans rfl; have hcz19_1 : w18.cell? ⟨gb112, 1, none⟩ = some (.int .i64 a0_1) := (blk_cell BK112.out 1).trans rfl; have hcz19_2 : w18.cell? ⟨gb112, 2, none⟩ = some (.int .i64 a0_2) := (blk_cell BK112.out 2).trans rfl; have hcz19_3 : w18.cell? ⟨gb112, 3, none⟩ = some (.int .i64 a0_3) := (blk_cell BK112.out 3).trans rfl; have hcz19_4 : w18.cell? ⟨gb112, 4, none⟩ = some (.int .i64 a0_4) := (blk_cell BK112.out 4).trans rfl; have hcz19_5 : w18.cell? ⟨gb112, 5, none⟩ = some (.int .i64 a0_5) := (blk_cell BK112.out 5).trans rfl; have hcz19_6 : w18.cell? ⟨gb112, 6, none⟩ = some (.int .i64 a0_6) := (blk_cell BK112.out 6).trans rfl; have hcz19_7 : w18.cell? ⟨gb112, 7, none⟩ = some (.int .i64 a0_7) := (blk_cell BK112.out 7).trans rfl; have hfz19_0 := blk_frozen BK112.out 0; have hfz19_1 := blk_frozen BK112.out 1; have hfz19_2 := blk_frozen BK112.out 2; have hfz19_3 := blk_frozen BK112.out 3; have hfz19_4 := blk_frozen BK112.out 4; have hfz19_5 := blk_frozen BK112.out 5; have hfz19_6 := blk_frozen BK112.out 6; have hfz19_7 := blk_frozen BK112.out 7) | ((with_reducible refine gate_callee (f := 80) rfl ?_); refine goesL_ (some 5) rfl rfl Tryd.func80 (by kernel_rfl) rfl #[.int .i64 a0_1] rfl (by (try simp only [List.map_toArray, List.map_cons, List.map_nil]); first | done | rfl | (simp only [List.length_drop, List.length_take]; rfl)) ?_; (with_reducible refine (join_node.calls a0_1 true _ A2.out).mono ?_); rintro e w' ⟨rfl, ⟨nd, rfl⟩⟩; refine ⟨_, rfl, ?_⟩) | (go_at_call 80; (with_reducible refine (join_node.calls a0_2 true _ A4.out).mono ?_); rintro e w' ⟨rfl, ⟨nd, rfl⟩⟩))
            go_ret
            exact ⟨by first | rfl | (simp [errW_none, errW_some] <;> rfl) | (simp only [← hji9, ← hji11]; first | rfl | (simp [errW_none, errW_some] <;> rfl)) | (simp [*, errW_none, errW_some] <;> rfl), by repeat (first | (with_reducible first | exact HB.out | apply below_alloc | apply pw_below_drewN | apply below_drew1 | refine below_set ?_ GE112.out) | exact HB.out)⟩
        · rw [if_neg c10] at H
          have c10b0 : decide (0 ≤ (ji9)) = false := decide_eq_false c10
          clear c10
          obtain rfl := Option.some.inj H
          go_enter Tryd.func83, Tryd.ntmps83
          go_wp2_with (first | ((with_reducible refine gate_dst (N := 1) rfl ?_); (try (refine gate_guard (by rfl) ?_; dsimp only)); refine box_event ?hg (N := 1) ?hd (cs := #[.int .i64 a0_0, .int .i64 a0_1, .int .i64 a0_2, .int .i64 a0_3, .int .i64 a0_4, .int .i64 a0_5, .int .i64 a0_6, .int .i64 a0_7]) (t := 54) ?hr ?_; (case hd => rfl); (case hg => rfl); (case hr => first | (go_simp; done) | (go_simp; rfl)); intro gb112 hg w20 hbox hb; have n0_ := Aside0.mk (below_step (by repeat (first | (with_reducible first | exact HB.out | apply below_alloc | apply pw_below_drewN | apply below_drew1) | exact HB.out)) hb); have n1_ := Aside0.mk (hbox); have n2_ := Aside0.mk ((by rw [hg]; exact (below_size (by repeat (first | (with_reducible first | exact HB.out | apply below_alloc | apply pw_below_drewN | apply below_drew1) | exact HB.out))) : w.heap.size ≤ gb112)); have n3_ := Aside0.mk ((by rw [hg]; exact (below_size (by repeat (first | (with_reducible first | exact HB.out | apply below_alloc | apply pw_below_drewN | apply below_drew1) | exact HB.out))) : w.heap.size ≤ gb112)); clear HB; have HB := n0_; have BK112 := n1_; have GW112 := n2_; have GE112 := n3_; clear n0_ n1_ n2_ n3_; clear hb hbox hg; have hcz21_0 : w20.cell? ⟨gb112, 0, none⟩ = some (.int .i64 a0_0) := (blk_cell BK112.out 0).trans rfl; have hcz21_1 : w20.cell? ⟨gb112, 1, none⟩ = some (.int .i64 a0_1) := (blk_cell BK112.out 1).trans rfl; have hcz21_2 : w20.cell? ⟨gb112, 2, none⟩ = some (.int .i64 a0_2) := (blk_cell BK112.out 2).trans rfl; have hcz21_3 : w20.cell? ⟨gb112, 3, none⟩ = some (.int .i64 a0_3) := (blk_cell BK112.out 3).trans rfl; have hcz21_4 : w20.cell? ⟨gb112, 4, none⟩ = some (.int .i64 a0_4) := (blk_cell BK112.out 4).trans rfl; have hcz21_5 : w20.cell? ⟨gb112, 5, none⟩ = some (.int .i64 a0_5) := (blk_cell BK112.out 5).trans rfl; have hcz21_6 : w20.cell? ⟨gb112, 6, none⟩ = some (.int .i64 a0_6) := (blk_cell BK112.out 6).trans rfl; have hcz21_7 : w20.cell? ⟨gb112, 7, none⟩ = some (.int .i64 a0_7) := (blk_cell BK112.out 7).trans rfl; have hfz21_0 := blk_frozen BK112.out 0; have hfz21_1 := blk_frozen BK112.out 1; have hfz21_2 := blk_frozen BK112.out 2; have hfz21_3 := blk_frozen BK112.out 3; have hfz21_4 := blk_frozen BK112.out 4; have hfz21_5 := blk_frozen BK112.out 5; have hfz21_6 := blk_frozen BK112.out 6; have hfz21_7 := blk_frozen BK112.out 7) | ((with_reducible refine gate_callee (f := 80) rfl ?_); refine goesL_ (some 5) rfl rfl Tryd.func80 (by kernel_rfl) rfl #[.int .i64 a0_1] rfl (by (try simp only [List.map_toArray, List.map_cons, List.map_nil]); first | done | rfl | (simp only [List.length_drop, List.length_take]; rfl)) ?_; (with_reducible refine (join_node.calls a0_1 true _ A2.out).mono ?_); rintro e w' ⟨rfl, ⟨nd, rfl⟩⟩; refine ⟨_, rfl, ?_⟩) | (go_at_call 80; (with_reducible refine (join_node.calls a0_2 true _ A4.out).mono ?_); rintro e w' ⟨rfl, ⟨nd, rfl⟩⟩))
          go_ret
          exact ⟨by first | rfl | (simp [errW_none, errW_some] <;> rfl) | (simp only [← hji9]; first | rfl | (simp [errW_none, errW_some] <;> rfl)) | (simp [*, errW_none, errW_some] <;> rfl), by repeat (first | (with_reducible first | exact HB.out | apply below_alloc | apply pw_below_drewN | apply below_drew1 | refine below_set ?_ GE112.out) | exact HB.out)⟩
    · replace c5 := Bool.eq_false_iff.mpr c5
      subst c5
      have H1 : (some false) = some r := by rw [if_neg (show ¬ (false = true) by decide)] at H; exact H
      clear H
      have H := H1
      clear H1
      obtain rfl := Option.some.inj H
      go_enter Tryd.func83, Tryd.ntmps83
      go_wp2_with (first | ((with_reducible refine gate_dst (N := 1) rfl ?_); (try (refine gate_guard (by rfl) ?_; dsimp only)); refine box_event ?hg (N := 1) ?hd (cs := #[.int .i64 a0_0, .int .i64 a0_1, .int .i64 a0_2, .int .i64 a0_3, .int .i64 a0_4, .int .i64 a0_5, .int .i64 a0_6, .int .i64 a0_7]) (t := 54) ?hr ?_; (case hd => rfl); (case hg => rfl); (case hr => first | (go_simp; done) | (go_simp; rfl)); intro gb112 hg w22 hbox hb; have n0_ := Aside0.mk (below_step (by repeat (first | (with_reducible first | exact HB.out | apply below_alloc | apply pw_below_drewN | apply below_drew1) | exact HB.out)) hb); have n1_ := Aside0.mk (hbox); have n2_ := Aside0.mk ((by rw [hg]; exact (below_size (by repeat (first | (with_reducible first | exact HB.out | apply below_alloc | apply pw_below_drewN | apply below_drew1) | exact HB.out))) : w.heap.size ≤ gb112)); have n3_ := Aside0.mk ((by rw [hg]; exact (below_size (by repeat (first | (with_reducible first | exact HB.out | apply below_alloc | apply pw_below_drewN | apply below_drew1) | exact HB.out))) : w.heap.size ≤ gb112)); clear HB; have HB := n0_; have BK112 := n1_; have GW112 := n2_; have GE112 := n3_; clear n0_ n1_ n2_ n3_; clear hb hbox hg; have hcz23_0 : w22.cell? ⟨gb112, 0, none⟩ = some (.int .i64 a0_0) := (blk_cell BK112.out 0).trans rfl; have hcz23_1 : w22.cell? ⟨gb112, 1, none⟩ = some (.int .i64 a0_1) := (blk_cell BK112.out 1).trans rfl; have hcz23_2 : w22.cell? ⟨gb112, 2, none⟩ = some (.int .i64 a0_2) := (blk_cell BK112.out 2).trans rfl; have hcz23_3 : w22.cell? ⟨gb112, 3, none⟩ = some (.int .i64 a0_3) := (blk_cell BK112.out 3).trans rfl; have hcz23_4 : w22.cell? ⟨gb112, 4, none⟩ = some (.int .i64 a0_4) := (blk_cell BK112.out 4).trans rfl; have hcz23_5 : w22.cell? ⟨gb112, 5, none⟩ = some (.int .i64 a0_5) := (blk_cell BK112.out 5).trans rfl; have hcz23_6 : w22.cell? ⟨gb112, 6, none⟩ = some (.int .i64 a0_6) := (blk_cell BK112.out 6).trans rfl; have hcz23_7 : w22.cell? ⟨gb112, 7, none⟩ = some (.int .i64 a0_7) := (blk_cell BK112.out 7).trans rfl; have hfz23_0 := blk_frozen BK112.out 0; have hfz23_1 := blk_frozen BK112.out 1; have hfz23_2 := blk_frozen BK112.out 2; have hfz23_3 := blk_frozen BK112.out 3; have hfz23_4 := blk_frozen BK112.out 4; have hfz23_5 := blk_frozen BK112.out 5; have hfz23_6 := blk_frozen BK112.out 6; have hfz23_7 := blk_frozen BK112.out 7) | ((with_reducible refine gate_callee (f := 80) rfl ?_); refine goesL_ (some 5) rfl rfl Tryd.func80 (by kernel_rfl) rfl #[.int .i64 a0_1] rfl (by (try simp only [List.map_toArray, List.map_cons, List.map_nil]); first | done | rfl | (simp only [List.length_drop, List.length_take]; rfl)) ?_; (with_reducible refine (join_node.calls a0_1 true _ A2.out).mono ?_); rintro e w' ⟨rfl, ⟨nd, rfl⟩⟩; refine ⟨_, rfl, ?_⟩) | (go_at_call 80; (with_reducible refine (join_node.calls a0_2 false _ A4.out).mono ?_); rintro e w' ⟨rfl, ⟨nd, rfl⟩⟩))
      go_ret
      exact ⟨by first | rfl | (simp [errW_none, errW_some] <;> rfl) | (simp [*, errW_none, errW_some] <;> rfl), by repeat (first | (with_reducible first | exact HB.out | apply below_alloc | apply pw_below_drewN | apply below_drew1 | refine below_set ?_ GE112.out) | exact HB.out)⟩
  · replace c3 := Bool.eq_false_iff.mpr c3
    subst c3
    have H1 : (some false) = some r := by rw [if_neg (show ¬ (false = true) by decide)] at H; exact H
    clear H
    have H := H1
    clear H1
    obtain rfl := Option.some.inj H
    go_enter Tryd.func83, Tryd.ntmps83
    go_wp2_with (first | ((with_reducible refine gate_dst (N := 1) rfl ?_); (try (refine gate_guard (by rfl) ?_; dsimp only)); refine box_event ?hg (N := 1) ?hd (cs := #[.int .i64 a0_0, .int .i64 a0_1, .int .i64 a0_2, .int .i64 a0_3, .int .i64 a0_4, .int .i64 a0_5, .int .i64 a0_6, .int .i64 a0_7]) (t := 54) ?hr ?_; (case hd => rfl); (case hg => rfl); (case hr => first | (go_simp; done) | (go_simp; rfl)); intro gb112 hg w24 hbox hb; have n0_ := Aside0.mk (below_step (by repeat (first | (with_reducible first | exact HB.out | apply below_alloc | apply pw_below_drewN | apply below_drew1) | exact HB.out)) hb); have n1_ := Aside0.mk (hbox); have n2_ := Aside0.mk ((by rw [hg]; exact (below_size (by repeat (first | (with_reducible first | exact HB.out | apply below_alloc | apply pw_below_drewN | apply below_drew1) | exact HB.out))) : w.heap.size ≤ gb112)); have n3_ := Aside0.mk ((by rw [hg]; exact (below_size (by repeat (first | (with_reducible first | exact HB.out | apply below_alloc | apply pw_below_drewN | apply below_drew1) | exact HB.out))) : w.heap.size ≤ gb112)); clear HB; have HB := n0_; have BK112 := n1_; have GW112 := n2_; have GE112 := n3_; clear n0_ n1_ n2_ n3_; clear hb hbox hg; have hcz25_0 : w24.cell? ⟨gb112, 0, none⟩ = some (.int .i64 a0_0) := (blk_cell BK112.out 0).trans rfl; have hcz25_1 : w24.cell? ⟨gb112, 1, none⟩ = some (.int .i64 a0_1) := (blk_cell BK112.out 1).trans rfl; have hcz25_2 : w24.cell? ⟨gb112, 2, none⟩ = some (.int .i64 a0_2) := (blk_cell BK112.out 2).trans rfl; have hcz25_3 : w24.cell? ⟨gb112, 3, none⟩ = some (.int .i64 a0_3) := (blk_cell BK112.out 3).trans rfl; have hcz25_4 : w24.cell? ⟨gb112, 4, none⟩ = some (.int .i64 a0_4) := (blk_cell BK112.out 4).trans rfl; have hcz25_5 : w24.cell? ⟨gb112, 5, none⟩ = some (.int .i64 a0_5) := (blk_cell BK112.out 5).trans rfl; have hcz25_6 : w24.cell? ⟨gb112, 6, none⟩ = some (.int .i64 a0_6) := (blk_cell BK112.out 6).trans rfl; have hcz25_7 : w24.cell? ⟨gb112, 7, none⟩ = some (.int .i64 a0_7) := (blk_cell BK112.out 7).trans rfl; have hfz25_0 := blk_frozen BK112.out 0; have hfz25_1 := blk_frozen BK112.out 1; have hfz25_2 := blk_frozen BK112.out 2; have hfz25_3 := blk_frozen BK112.out 3; have hfz25_4 := blk_frozen BK112.out 4; have hfz25_5 := blk_frozen BK112.out 5; have hfz25_6 := blk_frozen BK112.out 6; have hfz25_7 := blk_frozen BK112.out 7) | ((with_reducible refine gate_callee (f := 80) rfl ?_); refine goesL_ (some 5) rfl rfl Tryd.func80 (by kernel_rfl) rfl #[.int .i64 a0_1] rfl (by (try simp only [List.map_toArray, List.map_cons, List.map_nil]); first | done | rfl | (simp only [List.length_drop, List.length_take]; rfl)) ?_; (with_reducible refine (join_node.calls a0_1 false _ A2.out).mono ?_); rintro e w' ⟨rfl, ⟨nd, rfl⟩⟩; refine ⟨_, rfl, ?_⟩))
    go_ret
    exact ⟨by first | rfl | (simp [errW_none, errW_some] <;> rfl) | (simp [*, errW_none, errW_some] <;> rfl), by repeat (first | (with_reducible first | exact HB.out | apply below_alloc | apply pw_below_drewN | apply below_drew1 | refine below_set ?_ GE112.out) | exact HB.out)⟩

/-! ### join_Judge: function 41 -/
def join_Judge.j0 : Nat → Bool → Int → Int → Int → Int → Int → Int → Int → Int → Int → Int → Option (Int × Int × Int × Int × Int × Int × Int × Int × Int)
  | 0, _, _, _, _, _, _, _, _, _, _, _ => none
  | k + 1, x27, x116000, x116001, x116002, x116003, x116004, x116005, x116006, x116007, x117000, x117001 => if x27 = true then (some (0, 0, 0, 0, 0, 0, 0, 0, 1)) else ((seal_Own.f x116001).bind fun bt119 => (if x116000 = 3 then (if bt119.2 = 0 then (if x116005 = bt119.1 then (some (4, x116001, x116002, x116003, 0, x116005, x117000, x117001, 0)) else (some (0, 0, 0, 0, 0, 0, 0, 0, 13))) else (some (0, 0, 0, 0, 0, 0, 0, 0, 13))) else (some (0, 0, 0, 0, 0, 0, 0, 0, 9))))
def join_Judge.f (k : Nat) (a0_0 : Int) (a0_1 : Int) (a0_2 : Int) (a0_3 : Int) (a0_4 : Int) (a0_5 : Int) (a0_6 : Int) (a0_7 : Int) (a1_0 : Int) (a1_1 : Int) : Option (Int × Int × Int × Int × Int × Int × Int × Int × Int) := (join_formed.f a0_0 a0_1 a0_2 a0_3 a0_4 a0_5 a0_6 a0_7).bind fun t118 => (if t118 = true then (if a1_0 < 0 then (join_Judge.j0 k true a0_0 a0_1 a0_2 a0_3 a0_4 a0_5 a0_6 a0_7 a1_0 a1_1) else (if a1_0 ≥ a1_1 then (join_Judge.j0 k true a0_0 a0_1 a0_2 a0_3 a0_4 a0_5 a0_6 a0_7 a1_0 a1_1) else (join_Judge.j0 k (decide (a1_1 > 1000000000)) a0_0 a0_1 a0_2 a0_3 a0_4 a0_5 a0_6 a0_7 a1_0 a1_1))) else (join_Judge.j0 k true a0_0 a0_1 a0_2 a0_3 a0_4 a0_5 a0_6 a0_7 a1_0 a1_1))
set_option maxHeartbeats 8000000 in
set_option maxRecDepth 100000 in
theorem join_Judge.calls (k : Nat) (a0_0 : Int) (a0_1 : Int) (a0_2 : Int) (a0_3 : Int) (a0_4 : Int) (a0_5 : Int) (a0_6 : Int) (a0_7 : Int) (a1_0 : Int) (a1_1 : Int) (r1 : Int) (r2 : Int) (r3 : Int) (r4 : Int) (r5 : Int) (r6 : Int) (r7 : Int) (r8 : Int) (r9 : Int) (w : World) (h : join_Judge.f k a0_0 a0_1 a0_2 a0_3 a0_4 a0_5 a0_6 a0_7 a1_0 a1_1 = some (r1, r2, r3, r4, r5, r6, r7, r8, r9)) :
    Calls Tryd.prog 41 #[.agg #[.int .i64 a0_0, .int .i64 a0_1, .int .i64 a0_2, .int .i64 a0_3, .int .i64 a0_4, .int .i64 a0_5, .int .i64 a0_6, .int .i64 a0_7], .agg #[.int .i64 a1_0, .int .i64 a1_1]] w fun e w' => e = .returned (.tuple #[.agg #[.int .i64 r1, .int .i64 r2, .int .i64 r3, .int .i64 r4, .int .i64 r5, .int .i64 r6, .int .i64 r7, .int .i64 r8], .int .i64 r9]) ∧ Below w.heap.size w w' := by
  have hu54 := Tryd.underlying54
  have hu25 := Tryd.underlying25
  have HB := Aside0.mk (Below.refl w.heap.size w)
  have H : ((join_formed.f a0_0 a0_1 a0_2 a0_3 a0_4 a0_5 a0_6 a0_7).bind fun t118 => (if t118 = true then (if a1_0 < 0 then (join_Judge.j0 k true a0_0 a0_1 a0_2 a0_3 a0_4 a0_5 a0_6 a0_7 a1_0 a1_1) else (if a1_0 ≥ a1_1 then (join_Judge.j0 k true a0_0 a0_1 a0_2 a0_3 a0_4 a0_5 a0_6 a0_7 a1_0 a1_1) else (join_Judge.j0 k (decide (a1_1 > 1000000000)) a0_0 a0_1 a0_2 a0_3 a0_4 a0_5 a0_6 a0_7 a1_0 a1_1))) else (join_Judge.j0 k true a0_0 a0_1 a0_2 a0_3 a0_4 a0_5 a0_6 a0_7 a1_0 a1_1))) = some (r1, r2, r3, r4, r5, r6, r7, r8, r9) := h
  clear h
  have HC3 := Aside0.mk H
  clear H
  go_enter Tryd.func41, Tryd.ntmps41
  go_upto_region 1 with (first | ((with_reducible refine gate_dst (N := 2) rfl ?_); refine box_event ?hg (N := 2) ?hd (cs := #[.int .i64 a0_0, .int .i64 a0_1, .int .i64 a0_2, .int .i64 a0_3, .int .i64 a0_4, .int .i64 a0_5, .int .i64 a0_6, .int .i64 a0_7]) (t := 54) ?hr ?_; (case hd => rfl); (case hg => rfl); (case hr => first | (go_simp; done) | (go_simp; rfl)); intro gb115 hg w4 hbox hb; have n0_ := Aside0.mk (below_step (by repeat (first | (with_reducible first | exact HB.out | apply below_alloc | apply pw_below_drewN | apply below_drew1) | exact HB.out)) hb); have n1_ := Aside0.mk (hbox); have n2_ := Aside0.mk ((by rw [hg]; exact (below_size (by repeat (first | (with_reducible first | exact HB.out | apply below_alloc | apply pw_below_drewN | apply below_drew1) | exact HB.out))) : w.heap.size ≤ gb115)); have n3_ := Aside0.mk ((by rw [hg]; exact (below_size (by repeat (first | (with_reducible first | exact HB.out | apply below_alloc | apply pw_below_drewN | apply below_drew1) | exact HB.out))) : w.heap.size ≤ gb115)); clear HB; have HB := n0_; have BK115 := n1_; have GW115 := n2_; have GE115 := n3_; clear n0_ n1_ n2_ n3_; clear hb hbox hg) | ((with_reducible refine gate_dst (N := 3) rfl ?_); refine box_event ?hg (N := 3) ?hd (cs := #[.int .i64 a1_0, .int .i64 a1_1]) (t := 25) ?hr ?_; (case hd => rfl); (case hg => rfl); (case hr => first | (go_simp; done) | (go_simp; rfl)); intro gb116 hg w5 hbox hb; have n0_ := Aside0.mk (blk_below (g := gb115) (o := .cells #[.int .i64 a0_0, .int .i64 a0_1, .int .i64 a0_2, .int .i64 a0_3, .int .i64 a0_4, .int .i64 a0_5, .int .i64 a0_6, .int .i64 a0_7] 54 (0, 0)) (by (with_reducible repeat (first | refine blk_drewN ?_ _ | refine blk_drew ?_ | refine blk_alloc ?_ _)); exact BK115.out) hb); have n1_ := Aside0.mk (below_step (by repeat (first | (with_reducible first | exact HB.out | apply below_alloc | apply pw_below_drewN | apply below_drew1 | refine below_set ?_ GE115.out) | exact HB.out)) hb); have n2_ := Aside0.mk (hbox); have n3_ := Aside0.mk ((by rw [hg]; exact (below_size (by repeat (first | (with_reducible first | exact HB.out | apply below_alloc | apply pw_below_drewN | apply below_drew1 | refine below_set ?_ GE115.out) | exact HB.out))) : w.heap.size ≤ gb116)); have n4_ := Aside0.mk ((by rw [hg]; exact (below_size (by repeat (first | (with_reducible first | exact HB.out | apply below_alloc | apply pw_below_drewN | apply below_drew1 | refine below_set ?_ GE115.out) | exact HB.out))) : w.heap.size ≤ gb116)); have n5_ := Aside0.mk ((by rw [hg]; exact Nat.ne_of_lt (blk_lt (g := gb115) (o := .cells #[.int .i64 a0_0, .int .i64 a0_1, .int .i64 a0_2, .int .i64 a0_3, .int .i64 a0_4, .int .i64 a0_5, .int .i64 a0_6, .int .i64 a0_7] 54 (0, 0)) (by (with_reducible repeat (first | refine blk_drewN ?_ _ | refine blk_drew ?_ | refine blk_alloc ?_ _)); exact BK115.out)) : gb115 ≠ gb116)); have n6_ := Aside0.mk ((by rw [hg]; exact Nat.ne_of_gt (blk_lt (g := gb115) (o := .cells #[.int .i64 a0_0, .int .i64 a0_1, .int .i64 a0_2, .int .i64 a0_3, .int .i64 a0_4, .int .i64 a0_5, .int .i64 a0_6, .int .i64 a0_7] 54 (0, 0)) (by (with_reducible repeat (first | refine blk_drewN ?_ _ | refine blk_drew ?_ | refine blk_alloc ?_ _)); exact BK115.out)) : gb116 ≠ gb115)); clear BK115; clear HB; have BK115 := n0_; have HB := n1_; have BK116 := n2_; have GW116 := n3_; have GE116 := n4_; have NB115_116 := n5_; have NB116_115 := n6_; clear n0_ n1_ n2_ n3_ n4_ n5_ n6_; clear hb hbox hg) | ((with_reducible refine gate_dst (N := 4) rfl ?_); refine box_event ?hg (N := 4) ?hd (cs := #[.int .i64 0, .int .i64 0, .int .i64 0, .int .i64 0, .int .i64 0, .int .i64 0, .int .i64 0, .int .i64 0]) (t := 54) ?hr ?_; (case hd => rfl); (case hg => rfl); (case hr => first | (go_simp; done) | (go_simp; rfl)); intro gb117 hg w6 hbox hb; have n0_ := Aside0.mk (blk_below (g := gb115) (o := .cells #[.int .i64 a0_0, .int .i64 a0_1, .int .i64 a0_2, .int .i64 a0_3, .int .i64 a0_4, .int .i64 a0_5, .int .i64 a0_6, .int .i64 a0_7] 54 (0, 0)) (by (with_reducible repeat (first | refine blk_drewN ?_ _ | refine blk_drew ?_ | refine blk_alloc ?_ _)); exact BK115.out) hb); have n1_ := Aside0.mk (blk_below (g := gb116) (o := .cells #[.int .i64 a1_0, .int .i64 a1_1] 25 (0, 0)) (by (with_reducible repeat (first | refine blk_drewN ?_ _ | refine blk_drew ?_ | refine blk_alloc ?_ _)); exact BK116.out) hb); have n2_ := Aside0.mk (below_step (by repeat (first | (with_reducible first | exact HB.out | apply below_alloc | apply pw_below_drewN | apply below_drew1 | refine below_set ?_ GE115.out | refine below_set ?_ GE116.out) | exact HB.out)) hb); have n3_ := Aside0.mk (hbox); have n4_ := Aside0.mk ((by rw [hg]; exact (below_size (by repeat (first | (with_reducible first | exact HB.out | apply below_alloc | apply pw_below_drewN | apply below_drew1 | refine below_set ?_ GE115.out | refine below_set ?_ GE116.out) | exact HB.out))) : w.heap.size ≤ gb117)); have n5_ := Aside0.mk ((by rw [hg]; exact (below_size (by repeat (first | (with_reducible first | exact HB.out | apply below_alloc | apply pw_below_drewN | apply below_drew1 | refine below_set ?_ GE115.out | refine below_set ?_ GE116.out) | exact HB.out))) : w.heap.size ≤ gb117)); have n6_ := Aside0.mk ((by rw [hg]; exact Nat.ne_of_lt (blk_lt (g := gb115) (o := .cells #[.int .i64 a0_0, .int .i64 a0_1, .int .i64 a0_2, .int .i64 a0_3, .int .i64 a0_4, .int .i64 a0_5, .int .i64 a0_6, .int .i64 a0_7] 54 (0, 0)) (by (with_reducible repeat (first | refine blk_drewN ?_ _ | refine blk_drew ?_ | refine blk_alloc ?_ _)); exact BK115.out)) : gb115 ≠ gb117)); have n7_ := Aside0.mk ((by rw [hg]; exact Nat.ne_of_gt (blk_lt (g := gb115) (o := .cells #[.int .i64 a0_0, .int .i64 a0_1, .int .i64 a0_2, .int .i64 a0_3, .int .i64 a0_4, .int .i64 a0_5, .int .i64 a0_6, .int .i64 a0_7] 54 (0, 0)) (by (with_reducible repeat (first | refine blk_drewN ?_ _ | refine blk_drew ?_ | refine blk_alloc ?_ _)); exact BK115.out)) : gb117 ≠ gb115)); have n8_ := Aside0.mk ((by rw [hg]; exact Nat.ne_of_lt (blk_lt (g := gb116) (o := .cells #[.int .i64 a1_0, .int .i64 a1_1] 25 (0, 0)) (by (with_reducible repeat (first | refine blk_drewN ?_ _ | refine blk_drew ?_ | refine blk_alloc ?_ _)); exact BK116.out)) : gb116 ≠ gb117)); have n9_ := Aside0.mk ((by rw [hg]; exact Nat.ne_of_gt (blk_lt (g := gb116) (o := .cells #[.int .i64 a1_0, .int .i64 a1_1] 25 (0, 0)) (by (with_reducible repeat (first | refine blk_drewN ?_ _ | refine blk_drew ?_ | refine blk_alloc ?_ _)); exact BK116.out)) : gb117 ≠ gb116)); clear BK115; clear BK116; clear HB; have BK115 := n0_; have BK116 := n1_; have HB := n2_; have BK117 := n3_; have GW117 := n4_; have GE117 := n5_; have NB115_117 := n6_; have NB117_115 := n7_; have NB116_117 := n8_; have NB117_116 := n9_; clear n0_ n1_ n2_ n3_ n4_ n5_ n6_ n7_ n8_ n9_; clear hb hbox hg))
  (try simp only [Act.put, List.setIfInBounds_toArray, List.set_cons_zero, List.set_cons_succ])
  go_cut [27] (fun v27 wc => ∃ (kq : Nat) (x27_2 : Bool), v27 = .bool x27_2 ∧ Aside0 (join_Judge.j0 kq x27_2 a0_0 a0_1 a0_2 a0_3 a0_4 a0_5 a0_6 a0_7 a1_0 a1_1 = some (r1, r2, r3, r4, r5, r6, r7, r8, r9)) ∧ Aside0 (kq ≤ k) ∧ Aside0 (wc.heap[gb115]? = some (.cells #[.int .i64 a0_0, .int .i64 a0_1, .int .i64 a0_2, .int .i64 a0_3, .int .i64 a0_4, .int .i64 a0_5, .int .i64 a0_6, .int .i64 a0_7] 54 (0, 0))) ∧ Aside0 (wc.heap[gb116]? = some (.cells #[.int .i64 a1_0, .int .i64 a1_1] 25 (0, 0))) ∧ Aside0 (wc.heap[gb117]? = some (.cells #[.int .i64 0, .int .i64 0, .int .i64 0, .int .i64 0, .int .i64 0, .int .i64 0, .int .i64 0, .int .i64 0] 54 (0, 0))) ∧ Aside0 (Below w.heap.size w wc))
  case first =>
    have H := HC3.out
    clear HC3
    replace H := Option.bind_eq_some_iff.mp H
    obtain ⟨t118, A70, H⟩ := H
    replace H : (if t118 = true then (if a1_0 < 0 then (join_Judge.j0 k true a0_0 a0_1 a0_2 a0_3 a0_4 a0_5 a0_6 a0_7 a1_0 a1_1) else (if a1_0 ≥ a1_1 then (join_Judge.j0 k true a0_0 a0_1 a0_2 a0_3 a0_4 a0_5 a0_6 a0_7 a1_0 a1_1) else (join_Judge.j0 k (decide (a1_1 > 1000000000)) a0_0 a0_1 a0_2 a0_3 a0_4 a0_5 a0_6 a0_7 a1_0 a1_1))) else (join_Judge.j0 k true a0_0 a0_1 a0_2 a0_3 a0_4 a0_5 a0_6 a0_7 a1_0 a1_1)) = some (r1, r2, r3, r4, r5, r6, r7, r8, r9) := H
    have A7 := Aside0.mk A70
    clear A70
    by_cases c8 : t118 = true
    · subst c8
      have H1 : (if a1_0 < 0 then (join_Judge.j0 k true a0_0 a0_1 a0_2 a0_3 a0_4 a0_5 a0_6 a0_7 a1_0 a1_1) else (if a1_0 ≥ a1_1 then (join_Judge.j0 k true a0_0 a0_1 a0_2 a0_3 a0_4 a0_5 a0_6 a0_7 a1_0 a1_1) else (join_Judge.j0 k (decide (a1_1 > 1000000000)) a0_0 a0_1 a0_2 a0_3 a0_4 a0_5 a0_6 a0_7 a1_0 a1_1))) = some (r1, r2, r3, r4, r5, r6, r7, r8, r9) := by rw [if_pos rfl] at H; exact H
      clear H
      have H := H1
      clear H1
      by_cases c9 : a1_0 < 0
      · rw [if_pos c9] at H
        have c9b0 : decide (a1_0 < 0) = true := decide_eq_true c9
        clear c9
        (first | rw [c9b0] | (simp only [i64_w, i32_w]; rw [c9b0]) | skip)
        have H' := Aside0.mk H
        clear H
        have hnb10 := NB115_116.out
        have hnc10 := NB116_115.out
        have hnb11 := NB115_117.out
        have hnc11 := NB117_115.out
        have hcz12_0 : w6.cell? ⟨gb115, 0, none⟩ = some (.int .i64 a0_0) := (blk_cell BK115.out 0).trans rfl
        have hcz12_1 : w6.cell? ⟨gb115, 1, none⟩ = some (.int .i64 a0_1) := (blk_cell BK115.out 1).trans rfl
        have hcz12_2 : w6.cell? ⟨gb115, 2, none⟩ = some (.int .i64 a0_2) := (blk_cell BK115.out 2).trans rfl
        have hcz12_3 : w6.cell? ⟨gb115, 3, none⟩ = some (.int .i64 a0_3) := (blk_cell BK115.out 3).trans rfl
        have hcz12_4 : w6.cell? ⟨gb115, 4, none⟩ = some (.int .i64 a0_4) := (blk_cell BK115.out 4).trans rfl
        have hcz12_5 : w6.cell? ⟨gb115, 5, none⟩ = some (.int .i64 a0_5) := (blk_cell BK115.out 5).trans rfl
        have hcz12_6 : w6.cell? ⟨gb115, 6, none⟩ = some (.int .i64 a0_6) := (blk_cell BK115.out 6).trans rfl
        have hcz12_7 : w6.cell? ⟨gb115, 7, none⟩ = some (.int .i64 a0_7) := (blk_cell BK115.out 7).trans rfl
        have hfz12_0 := blk_frozen BK115.out 0
        have hfz12_1 := blk_frozen BK115.out 1
        have hfz12_2 := blk_frozen BK115.out 2
        have hfz12_3 := blk_frozen BK115.out 3
        have hfz12_4 := blk_frozen BK115.out 4
        have hfz12_5 := blk_frozen BK115.out 5
        have hfz12_6 := blk_frozen BK115.out 6
        have hfz12_7 := blk_frozen BK115.out 7
        go_wp2_with (first | ((with_reducible refine gate_callee (f := 83) rfl ?_); refine goesL_ (some 9) rfl rfl Tryd.func83 (by kernel_rfl) rfl #[.agg #[.int .i64 a0_0, .int .i64 a0_1, .int .i64 a0_2, .int .i64 a0_3, .int .i64 a0_4, .int .i64 a0_5, .int .i64 a0_6, .int .i64 a0_7]] rfl (by (try simp only [List.map_toArray, List.map_cons, List.map_nil]); first | done | rfl | (simp only [List.length_drop, List.length_take]; rfl)) ?_; (with_reducible refine (join_formed.calls a0_0 a0_1 a0_2 a0_3 a0_4 a0_5 a0_6 a0_7 true _ A7.out).mono ?_); rintro e w13 ⟨rfl, hb⟩; refine ⟨_, rfl, ?_⟩; have n0_ := Aside0.mk (blk_below (g := gb115) (o := .cells #[.int .i64 a0_0, .int .i64 a0_1, .int .i64 a0_2, .int .i64 a0_3, .int .i64 a0_4, .int .i64 a0_5, .int .i64 a0_6, .int .i64 a0_7] 54 (0, 0)) (by (with_reducible repeat (first | refine blk_drewN ?_ _ | refine blk_drew ?_ | refine blk_alloc ?_ _)); exact BK115.out) hb); have n1_ := Aside0.mk (blk_below (g := gb116) (o := .cells #[.int .i64 a1_0, .int .i64 a1_1] 25 (0, 0)) (by (with_reducible repeat (first | refine blk_drewN ?_ _ | refine blk_drew ?_ | refine blk_alloc ?_ _)); exact BK116.out) hb); have n2_ := Aside0.mk (blk_below (g := gb117) (o := .cells #[.int .i64 0, .int .i64 0, .int .i64 0, .int .i64 0, .int .i64 0, .int .i64 0, .int .i64 0, .int .i64 0] 54 (0, 0)) (by (with_reducible repeat (first | refine blk_drewN ?_ _ | refine blk_drew ?_ | refine blk_alloc ?_ _)); exact BK117.out) hb); have n3_ := Aside0.mk (below_step (by repeat (first | (with_reducible first | exact HB.out | apply below_alloc | apply pw_below_drewN | apply below_drew1 | refine below_set ?_ GE115.out | refine below_set ?_ GE116.out | refine below_set ?_ GE117.out) | exact HB.out)) hb); clear BK115; clear BK116; clear BK117; clear HB; have BK115 := n0_; have BK116 := n1_; have BK117 := n2_; have HB := n3_; clear n0_ n1_ n2_ n3_; (try clear hb); (try clear hb2); (try clear hk); (try clear hi); have hnb14 := NB116_117.out; have hnc14 := NB117_116.out; have hcz15_0 : w13.cell? ⟨gb116, 0, none⟩ = some (.int .i64 a1_0) := (blk_cell BK116.out 0).trans rfl; have hcz15_1 : w13.cell? ⟨gb116, 1, none⟩ = some (.int .i64 a1_1) := (blk_cell BK116.out 1).trans rfl; have hfz15_0 := blk_frozen BK116.out 0; have hfz15_1 := blk_frozen BK116.out 1))
        go_meet
        case rel => exact ⟨_, (true), (by first | rfl | (simp; done) | (simp [*]; done)), H', ⟨by first | omega | exact Nat.le_refl _⟩, ⟨by (with_reducible repeat (first | refine blk_drewN ?_ _ | refine blk_drew ?_ | refine blk_alloc ?_ _)); exact BK115.out⟩, ⟨by (with_reducible repeat (first | refine blk_drewN ?_ _ | refine blk_drew ?_ | refine blk_alloc ?_ _)); exact BK116.out⟩, ⟨by (with_reducible repeat (first | refine blk_drewN ?_ _ | refine blk_drew ?_ | refine blk_alloc ?_ _)); exact BK117.out⟩, ⟨by repeat (first | (with_reducible first | exact HB.out | apply below_alloc | apply pw_below_drewN | apply below_drew1 | refine below_set ?_ GE115.out | refine below_set ?_ GE116.out | refine below_set ?_ GE117.out) | exact HB.out)⟩⟩
      · rw [if_neg c9] at H
        have c9b0 : decide (a1_0 < 0) = false := decide_eq_false c9
        clear c9
        (first | rw [c9b0] | (simp only [i64_w, i32_w]; rw [c9b0]) | skip)
        by_cases c16 : a1_0 ≥ a1_1
        · rw [if_pos c16] at H
          have c16b0 : decide (a1_1 ≤ a1_0) = true := decide_eq_true c16
          clear c16
          have H' := Aside0.mk H
          clear H
          have hnb17 := NB115_116.out
          have hnc17 := NB116_115.out
          have hnb18 := NB115_117.out
          have hnc18 := NB117_115.out
          have hcz19_0 : w6.cell? ⟨gb115, 0, none⟩ = some (.int .i64 a0_0) := (blk_cell BK115.out 0).trans rfl
          have hcz19_1 : w6.cell? ⟨gb115, 1, none⟩ = some (.int .i64 a0_1) := (blk_cell BK115.out 1).trans rfl
          have hcz19_2 : w6.cell? ⟨gb115, 2, none⟩ = some (.int .i64 a0_2) := (blk_cell BK115.out 2).trans rfl
          have hcz19_3 : w6.cell? ⟨gb115, 3, none⟩ = some (.int .i64 a0_3) := (blk_cell BK115.out 3).trans rfl
          have hcz19_4 : w6.cell? ⟨gb115, 4, none⟩ = some (.int .i64 a0_4) := (blk_cell BK115.out 4).trans rfl
          have hcz19_5 : w6.cell? ⟨gb115, 5, none⟩ = some (.int .i64 a0_5) := (blk_cell BK115.out 5).trans rfl
          have hcz19_6 : w6.cell? ⟨gb115, 6, none⟩ = some (.int .i64 a0_6) := (blk_cell BK115.out 6).trans rfl
          have hcz19_7 : w6.cell? ⟨gb115, 7, none⟩ = some (.int .i64 a0_7) := (blk_cell BK115.out 7).trans rfl
          have hfz19_0 := blk_frozen BK115.out 0
          have hfz19_1 := blk_frozen BK115.out 1
          have hfz19_2 := blk_frozen BK115.out 2
          have hfz19_3 := blk_frozen BK115.out 3
          have hfz19_4 := blk_frozen BK115.out 4
          have hfz19_5 := blk_frozen BK115.out 5
          have hfz19_6 := blk_frozen BK115.out 6
          have hfz19_7 := blk_frozen BK115.out 7
          go_wp2_with (first | ((with_reducible refine gate_callee (f := 83) rfl ?_); refine goesL_ (some 9) rfl rfl Tryd.func83 (by kernel_rfl) rfl #[.agg #[.int .i64 a0_0, .int .i64 a0_1, .int .i64 a0_2, .int .i64 a0_3, .int .i64 a0_4, .int .i64 a0_5, .int .i64 a0_6, .int .i64 a0_7]] rfl (by (try simp only [List.map_toArray, List.map_cons, List.map_nil]); first | done | rfl | (simp only [List.length_drop, List.length_take]; rfl)) ?_; (with_reducible refine (join_formed.calls a0_0 a0_1 a0_2 a0_3 a0_4 a0_5 a0_6 a0_7 true _ A7.out).mono ?_); rintro e w20 ⟨rfl, hb⟩; refine ⟨_, rfl, ?_⟩; have n0_ := Aside0.mk (blk_below (g := gb115) (o := .cells #[.int .i64 a0_0, .int .i64 a0_1, .int .i64 a0_2, .int .i64 a0_3, .int .i64 a0_4, .int .i64 a0_5, .int .i64 a0_6, .int .i64 a0_7] 54 (0, 0)) (by (with_reducible repeat (first | refine blk_drewN ?_ _ | refine blk_drew ?_ | refine blk_alloc ?_ _)); exact BK115.out) hb); have n1_ := Aside0.mk (blk_below (g := gb116) (o := .cells #[.int .i64 a1_0, .int .i64 a1_1] 25 (0, 0)) (by (with_reducible repeat (first | refine blk_drewN ?_ _ | refine blk_drew ?_ | refine blk_alloc ?_ _)); exact BK116.out) hb); have n2_ := Aside0.mk (blk_below (g := gb117) (o := .cells #[.int .i64 0, .int .i64 0, .int .i64 0, .int .i64 0, .int .i64 0, .int .i64 0, .int .i64 0, .int .i64 0] 54 (0, 0)) (by (with_reducible repeat (first | refine blk_drewN ?_ _ | refine blk_drew ?_ | refine blk_alloc ?_ _)); exact BK117.out) hb); have n3_ := Aside0.mk (below_step (by repeat (first | (with_reducible first | exact HB.out | apply below_alloc | apply pw_below_drewN | apply below_drew1 | refine below_set ?_ GE115.out | refine below_set ?_ GE116.out | refine below_set ?_ GE117.out) | exact HB.out)) hb); clear BK115; clear BK116; clear BK117; clear HB; have BK115 := n0_; have BK116 := n1_; have BK117 := n2_; have HB := n3_; clear n0_ n1_ n2_ n3_; (try clear hb); (try clear hb2); (try clear hk); (try clear hi); have hnb21 := NB116_117.out; have hnc21 := NB117_116.out; have hcz22_0 : w20.cell? ⟨gb116, 0, none⟩ = some (.int .i64 a1_0) := (blk_cell BK116.out 0).trans rfl; have hcz22_1 : w20.cell? ⟨gb116, 1, none⟩ = some (.int .i64 a1_1) := (blk_cell BK116.out 1).trans rfl; have hfz22_0 := blk_frozen BK116.out 0; have hfz22_1 := blk_frozen BK116.out 1))
          go_meet
          case rel => exact ⟨_, (true), (by first | rfl | (simp; done) | (simp [*]; done)), H', ⟨by first | omega | exact Nat.le_refl _⟩, ⟨by (with_reducible repeat (first | refine blk_drewN ?_ _ | refine blk_drew ?_ | refine blk_alloc ?_ _)); exact BK115.out⟩, ⟨by (with_reducible repeat (first | refine blk_drewN ?_ _ | refine blk_drew ?_ | refine blk_alloc ?_ _)); exact BK116.out⟩, ⟨by (with_reducible repeat (first | refine blk_drewN ?_ _ | refine blk_drew ?_ | refine blk_alloc ?_ _)); exact BK117.out⟩, ⟨by repeat (first | (with_reducible first | exact HB.out | apply below_alloc | apply pw_below_drewN | apply below_drew1 | refine below_set ?_ GE115.out | refine below_set ?_ GE116.out | refine below_set ?_ GE117.out) | exact HB.out)⟩⟩
        · rw [if_neg c16] at H
          have c16b0 : decide (a1_1 ≤ a1_0) = false := decide_eq_false c16
          clear c16
          have H' := Aside0.mk H
          clear H
          have hnb23 := NB115_116.out
          have hnc23 := NB116_115.out
          have hnb24 := NB115_117.out
          have hnc24 := NB117_115.out
          have hcz25_0 : w6.cell? ⟨gb115, 0, none⟩ = some (.int .i64 a0_0) := (blk_cell BK115.out 0).trans rfl
          have hcz25_1 : w6.cell? ⟨gb115, 1, none⟩ = some (.int .i64 a0_1) := (blk_cell BK115.out 1).trans rfl
          have hcz25_2 : w6.cell? ⟨gb115, 2, none⟩ = some (.int .i64 a0_2) := (blk_cell BK115.out 2).trans rfl
          have hcz25_3 : w6.cell? ⟨gb115, 3, none⟩ = some (.int .i64 a0_3) := (blk_cell BK115.out 3).trans rfl
          have hcz25_4 : w6.cell? ⟨gb115, 4, none⟩ = some (.int .i64 a0_4) := (blk_cell BK115.out 4).trans rfl
          have hcz25_5 : w6.cell? ⟨gb115, 5, none⟩ = some (.int .i64 a0_5) := (blk_cell BK115.out 5).trans rfl
          have hcz25_6 : w6.cell? ⟨gb115, 6, none⟩ = some (.int .i64 a0_6) := (blk_cell BK115.out 6).trans rfl
          have hcz25_7 : w6.cell? ⟨gb115, 7, none⟩ = some (.int .i64 a0_7) := (blk_cell BK115.out 7).trans rfl
          have hfz25_0 := blk_frozen BK115.out 0
          have hfz25_1 := blk_frozen BK115.out 1
          have hfz25_2 := blk_frozen BK115.out 2
          have hfz25_3 := blk_frozen BK115.out 3
          have hfz25_4 := blk_frozen BK115.out 4
          have hfz25_5 := blk_frozen BK115.out 5
          have hfz25_6 := blk_frozen BK115.out 6
          have hfz25_7 := blk_frozen BK115.out 7
          go_wp2_with (first | ((with_reducible refine gate_callee (f := 83) rfl ?_); refine goesL_ (some 9) rfl rfl Tryd.func83 (by kernel_rfl) rfl #[.agg #[.int .i64 a0_0, .int .i64 a0_1, .int .i64 a0_2, .int .i64 a0_3, .int .i64 a0_4, .int .i64 a0_5, .int .i64 a0_6, .int .i64 a0_7]] rfl (by (try simp only [List.map_toArray, List.map_cons, List.map_nil]); first | done | rfl | (simp only [List.length_drop, List.length_take]; rfl)) ?_; (with_reducible refine (join_formed.calls a0_0 a0_1 a0_2 a0_3 a0_4 a0_5 a0_6 a0_7 true _ A7.out).mono ?_); rintro e w26 ⟨rfl, hb⟩; refine ⟨_, rfl, ?_⟩; have n0_ := Aside0.mk (blk_below (g := gb115) (o := .cells #[.int .i64 a0_0, .int .i64 a0_1, .int .i64 a0_2, .int .i64 a0_3, .int .i64 a0_4, .int .i64 a0_5, .int .i64 a0_6, .int .i64 a0_7] 54 (0, 0)) (by (with_reducible repeat (first | refine blk_drewN ?_ _ | refine blk_drew ?_ | refine blk_alloc ?_ _)); exact BK115.out) hb); have n1_ := Aside0.mk (blk_below (g := gb116) (o := .cells #[.int .i64 a1_0, .int .i64 a1_1] 25 (0, 0)) (by (with_reducible repeat (first | refine blk_drewN ?_ _ | refine blk_drew ?_ | refine blk_alloc ?_ _)); exact BK116.out) hb); have n2_ := Aside0.mk (blk_below (g := gb117) (o := .cells #[.int .i64 0, .int .i64 0, .int .i64 0, .int .i64 0, .int .i64 0, .int .i64 0, .int .i64 0, .int .i64 0] 54 (0, 0)) (by (with_reducible repeat (first | refine blk_drewN ?_ _ | refine blk_drew ?_ | refine blk_alloc ?_ _)); exact BK117.out) hb); have n3_ := Aside0.mk (below_step (by repeat (first | (with_reducible first | exact HB.out | apply below_alloc | apply pw_below_drewN | apply below_drew1 | refine below_set ?_ GE115.out | refine below_set ?_ GE116.out | refine below_set ?_ GE117.out) | exact HB.out)) hb); clear BK115; clear BK116; clear BK117; clear HB; have BK115 := n0_; have BK116 := n1_; have BK117 := n2_; have HB := n3_; clear n0_ n1_ n2_ n3_; (try clear hb); (try clear hb2); (try clear hk); (try clear hi); have hnb27 := NB116_117.out; have hnc27 := NB117_116.out; have hcz28_0 : w26.cell? ⟨gb116, 0, none⟩ = some (.int .i64 a1_0) := (blk_cell BK116.out 0).trans rfl; have hcz28_1 : w26.cell? ⟨gb116, 1, none⟩ = some (.int .i64 a1_1) := (blk_cell BK116.out 1).trans rfl; have hfz28_0 := blk_frozen BK116.out 0; have hfz28_1 := blk_frozen BK116.out 1))
          go_meet
          case rel => exact ⟨_, (decide (a1_1 > 1000000000)), (by first | rfl | (simp; done) | (simp [*]; done)), H', ⟨by first | omega | exact Nat.le_refl _⟩, ⟨by (with_reducible repeat (first | refine blk_drewN ?_ _ | refine blk_drew ?_ | refine blk_alloc ?_ _)); exact BK115.out⟩, ⟨by (with_reducible repeat (first | refine blk_drewN ?_ _ | refine blk_drew ?_ | refine blk_alloc ?_ _)); exact BK116.out⟩, ⟨by (with_reducible repeat (first | refine blk_drewN ?_ _ | refine blk_drew ?_ | refine blk_alloc ?_ _)); exact BK117.out⟩, ⟨by repeat (first | (with_reducible first | exact HB.out | apply below_alloc | apply pw_below_drewN | apply below_drew1 | refine below_set ?_ GE115.out | refine below_set ?_ GE116.out | refine below_set ?_ GE117.out) | exact HB.out)⟩⟩
    · replace c8 := Bool.eq_false_iff.mpr c8
      subst c8
      have H1 : (join_Judge.j0 k true a0_0 a0_1 a0_2 a0_3 a0_4 a0_5 a0_6 a0_7 a1_0 a1_1) = some (r1, r2, r3, r4, r5, r6, r7, r8, r9) := by rw [if_neg (show ¬ (false = true) by decide)] at H; exact H
      clear H
      have H := H1
      clear H1
      have H' := Aside0.mk H
      clear H
      have hnb29 := NB115_116.out
      have hnc29 := NB116_115.out
      have hnb30 := NB115_117.out
      have hnc30 := NB117_115.out
      have hcz31_0 : w6.cell? ⟨gb115, 0, none⟩ = some (.int .i64 a0_0) := (blk_cell BK115.out 0).trans rfl
      have hcz31_1 : w6.cell? ⟨gb115, 1, none⟩ = some (.int .i64 a0_1) := (blk_cell BK115.out 1).trans rfl
      have hcz31_2 : w6.cell? ⟨gb115, 2, none⟩ = some (.int .i64 a0_2) := (blk_cell BK115.out 2).trans rfl
      have hcz31_3 : w6.cell? ⟨gb115, 3, none⟩ = some (.int .i64 a0_3) := (blk_cell BK115.out 3).trans rfl
      have hcz31_4 : w6.cell? ⟨gb115, 4, none⟩ = some (.int .i64 a0_4) := (blk_cell BK115.out 4).trans rfl
      have hcz31_5 : w6.cell? ⟨gb115, 5, none⟩ = some (.int .i64 a0_5) := (blk_cell BK115.out 5).trans rfl
      have hcz31_6 : w6.cell? ⟨gb115, 6, none⟩ = some (.int .i64 a0_6) := (blk_cell BK115.out 6).trans rfl
      have hcz31_7 : w6.cell? ⟨gb115, 7, none⟩ = some (.int .i64 a0_7) := (blk_cell BK115.out 7).trans rfl
      have hfz31_0 := blk_frozen BK115.out 0
      have hfz31_1 := blk_frozen BK115.out 1
      have hfz31_2 := blk_frozen BK115.out 2
      have hfz31_3 := blk_frozen BK115.out 3
      have hfz31_4 := blk_frozen BK115.out 4
      have hfz31_5 := blk_frozen BK115.out 5
      have hfz31_6 := blk_frozen BK115.out 6
      have hfz31_7 := blk_frozen BK115.out 7
      go_wp2_with (first | ((with_reducible refine gate_callee (f := 83) rfl ?_); refine goesL_ (some 9) rfl rfl Tryd.func83 (by kernel_rfl) rfl #[.agg #[.int .i64 a0_0, .int .i64 a0_1, .int .i64 a0_2, .int .i64 a0_3, .int .i64 a0_4, .int .i64 a0_5, .int .i64 a0_6, .int .i64 a0_7]] rfl (by (try simp only [List.map_toArray, List.map_cons, List.map_nil]); first | done | rfl | (simp only [List.length_drop, List.length_take]; rfl)) ?_; (with_reducible refine (join_formed.calls a0_0 a0_1 a0_2 a0_3 a0_4 a0_5 a0_6 a0_7 false _ A7.out).mono ?_); rintro e w32 ⟨rfl, hb⟩; refine ⟨_, rfl, ?_⟩; have n0_ := Aside0.mk (blk_below (g := gb115) (o := .cells #[.int .i64 a0_0, .int .i64 a0_1, .int .i64 a0_2, .int .i64 a0_3, .int .i64 a0_4, .int .i64 a0_5, .int .i64 a0_6, .int .i64 a0_7] 54 (0, 0)) (by (with_reducible repeat (first | refine blk_drewN ?_ _ | refine blk_drew ?_ | refine blk_alloc ?_ _)); exact BK115.out) hb); have n1_ := Aside0.mk (blk_below (g := gb116) (o := .cells #[.int .i64 a1_0, .int .i64 a1_1] 25 (0, 0)) (by (with_reducible repeat (first | refine blk_drewN ?_ _ | refine blk_drew ?_ | refine blk_alloc ?_ _)); exact BK116.out) hb); have n2_ := Aside0.mk (blk_below (g := gb117) (o := .cells #[.int .i64 0, .int .i64 0, .int .i64 0, .int .i64 0, .int .i64 0, .int .i64 0, .int .i64 0, .int .i64 0] 54 (0, 0)) (by (with_reducible repeat (first | refine blk_drewN ?_ _ | refine blk_drew ?_ | refine blk_alloc ?_ _)); exact BK117.out) hb); have n3_ := Aside0.mk (below_step (by repeat (first | (with_reducible first | exact HB.out | apply below_alloc | apply pw_below_drewN | apply below_drew1 | refine below_set ?_ GE115.out | refine below_set ?_ GE116.out | refine below_set ?_ GE117.out) | exact HB.out)) hb); clear BK115; clear BK116; clear BK117; clear HB; have BK115 := n0_; have BK116 := n1_; have BK117 := n2_; have HB := n3_; clear n0_ n1_ n2_ n3_; (try clear hb); (try clear hb2); (try clear hk); (try clear hi)))
      go_meet
      case rel => exact ⟨_, (true), (by first | rfl | (simp; done) | (simp [*]; done)), H', ⟨by first | omega | exact Nat.le_refl _⟩, ⟨by (with_reducible repeat (first | refine blk_drewN ?_ _ | refine blk_drew ?_ | refine blk_alloc ?_ _)); exact BK115.out⟩, ⟨by (with_reducible repeat (first | refine blk_drewN ?_ _ | refine blk_drew ?_ | refine blk_alloc ?_ _)); exact BK116.out⟩, ⟨by (with_reducible repeat (first | refine blk_drewN ?_ _ | refine blk_drew ?_ | refine blk_alloc ?_ _)); exact BK117.out⟩, ⟨by repeat (first | (with_reducible first | exact HB.out | apply below_alloc | apply pw_below_drewN | apply below_drew1 | refine below_set ?_ GE115.out | refine below_set ?_ GE116.out | refine below_set ?_ GE117.out) | exact HB.out)⟩⟩
  case rest =>
    clear HC3
    try clear c1
    try clear c2
    try clear p2
    try clear c3
    try clear c4
    try clear c8
    try clear c9
    try clear c9b0
    try clear c10
    try clear c11
    try clear c14
    try clear c16
    try clear c16b0
    try clear c17
    try clear c18
    try clear c21
    try clear c23
    try clear c24
    try clear c27
    try clear c29
    try clear c30
    try clear hcz12_0
    try clear hcz12_1
    try clear hcz12_2
    try clear hcz12_3
    try clear hcz12_4
    try clear hcz12_5
    try clear hcz12_6
    try clear hcz12_7
    try clear hcz15_0
    try clear hcz15_1
    try clear hcz19_0
    try clear hcz19_1
    try clear hcz19_2
    try clear hcz19_3
    try clear hcz19_4
    try clear hcz19_5
    try clear hcz19_6
    try clear hcz19_7
    try clear hcz22_0
    try clear hcz22_1
    try clear hcz25_0
    try clear hcz25_1
    try clear hcz25_2
    try clear hcz25_3
    try clear hcz25_4
    try clear hcz25_5
    try clear hcz25_6
    try clear hcz25_7
    try clear hcz28_0
    try clear hcz28_1
    try clear hcz31_0
    try clear hcz31_1
    try clear hcz31_2
    try clear hcz31_3
    try clear hcz31_4
    try clear hcz31_5
    try clear hcz31_6
    try clear hcz31_7
    try clear hfz12_0
    try clear hfz12_1
    try clear hfz12_2
    try clear hfz12_3
    try clear hfz12_4
    try clear hfz12_5
    try clear hfz12_6
    try clear hfz12_7
    try clear hfz15_0
    try clear hfz15_1
    try clear hfz19_0
    try clear hfz19_1
    try clear hfz19_2
    try clear hfz19_3
    try clear hfz19_4
    try clear hfz19_5
    try clear hfz19_6
    try clear hfz19_7
    try clear hfz22_0
    try clear hfz22_1
    try clear hfz25_0
    try clear hfz25_1
    try clear hfz25_2
    try clear hfz25_3
    try clear hfz25_4
    try clear hfz25_5
    try clear hfz25_6
    try clear hfz25_7
    try clear hfz28_0
    try clear hfz28_1
    try clear hfz31_0
    try clear hfz31_1
    try clear hfz31_2
    try clear hfz31_3
    try clear hfz31_4
    try clear hfz31_5
    try clear hfz31_6
    try clear hfz31_7
    obtain ⟨kq, x27_2, rfl, HA, HJ2, BK115, BK116, BK117, HB⟩ := hcut
    cases kq with
    | zero => exact absurd HA.out (by simp [join_Judge.j0])
    | succ kj2 =>
      have H := HA.out
      clear HA
      simp only [join_Judge.j0] at H
      by_cases c33 : x27_2 = true
      · subst c33
        have H1 : (some (0, 0, 0, 0, 0, 0, 0, 0, 1)) = some (r1, r2, r3, r4, r5, r6, r7, r8, r9) := by rw [if_pos rfl] at H; exact H
        clear H
        have H := H1
        clear H1
        simp only [Option.some.injEq, Prod.mk.injEq] at H
        obtain ⟨rfl, rfl, rfl, rfl, rfl, rfl, rfl, rfl, rfl⟩ := H
        have hnb34 := NB117_115.out
        have hnc34 := NB115_117.out
        have hnb35 := NB117_116.out
        have hnc35 := NB116_117.out
        have hcz36_0 : wc.cell? ⟨gb117, 0, none⟩ = some (.int .i64 0) := (blk_cell BK117.out 0).trans rfl
        have hcz36_1 : wc.cell? ⟨gb117, 1, none⟩ = some (.int .i64 0) := (blk_cell BK117.out 1).trans rfl
        have hcz36_2 : wc.cell? ⟨gb117, 2, none⟩ = some (.int .i64 0) := (blk_cell BK117.out 2).trans rfl
        have hcz36_3 : wc.cell? ⟨gb117, 3, none⟩ = some (.int .i64 0) := (blk_cell BK117.out 3).trans rfl
        have hcz36_4 : wc.cell? ⟨gb117, 4, none⟩ = some (.int .i64 0) := (blk_cell BK117.out 4).trans rfl
        have hcz36_5 : wc.cell? ⟨gb117, 5, none⟩ = some (.int .i64 0) := (blk_cell BK117.out 5).trans rfl
        have hcz36_6 : wc.cell? ⟨gb117, 6, none⟩ = some (.int .i64 0) := (blk_cell BK117.out 6).trans rfl
        have hcz36_7 : wc.cell? ⟨gb117, 7, none⟩ = some (.int .i64 0) := (blk_cell BK117.out 7).trans rfl
        have hfz36_0 := blk_frozen BK117.out 0
        have hfz36_1 := blk_frozen BK117.out 1
        have hfz36_2 := blk_frozen BK117.out 2
        have hfz36_3 := blk_frozen BK117.out 3
        have hfz36_4 := blk_frozen BK117.out 4
        have hfz36_5 := blk_frozen BK117.out 5
        have hfz36_6 := blk_frozen BK117.out 6
        have hfz36_7 := blk_frozen BK117.out 7
        go_wp2
        refine bodyPost_ret (results_ct rfl _ _ gb117 54 #[.int .i64 0, .int .i64 0, .int .i64 0, .int .i64 0, .int .i64 0, .int .i64 0, .int .i64 0, .int .i64 0] (0, 0) _ rfl (by (with_reducible repeat (first | refine blk_drewN ?_ _ | refine blk_drew ?_ | refine blk_alloc ?_ _)); refine blk_put (cs := #[.int .i64 0, .int .i64 0, .int .i64 0, .int .i64 0, .int .i64 0, .int .i64 0, .int .i64 0, .int .i64 0]) ?_ 7 _ rfl; (with_reducible repeat (first | refine blk_drewN ?_ _ | refine blk_drew ?_ | refine blk_alloc ?_ _)); refine blk_put (cs := #[.int .i64 0, .int .i64 0, .int .i64 0, .int .i64 0, .int .i64 0, .int .i64 0, .int .i64 0, .int .i64 0]) ?_ 6 _ rfl; (with_reducible repeat (first | refine blk_drewN ?_ _ | refine blk_drew ?_ | refine blk_alloc ?_ _)); refine blk_put (cs := #[.int .i64 0, .int .i64 0, .int .i64 0, .int .i64 0, .int .i64 0, .int .i64 0, .int .i64 0, .int .i64 0]) ?_ 5 _ rfl; (with_reducible repeat (first | refine blk_drewN ?_ _ | refine blk_drew ?_ | refine blk_alloc ?_ _)); refine blk_put (cs := #[.int .i64 0, .int .i64 0, .int .i64 0, .int .i64 0, .int .i64 0, .int .i64 0, .int .i64 0, .int .i64 0]) ?_ 4 _ rfl; (with_reducible repeat (first | refine blk_drewN ?_ _ | refine blk_drew ?_ | refine blk_alloc ?_ _)); refine blk_put (cs := #[.int .i64 0, .int .i64 0, .int .i64 0, .int .i64 0, .int .i64 0, .int .i64 0, .int .i64 0, .int .i64 0]) ?_ 3 _ rfl; (with_reducible repeat (first | refine blk_drewN ?_ _ | refine blk_drew ?_ | refine blk_alloc ?_ _)); refine blk_put (cs := #[.int .i64 0, .int .i64 0, .int .i64 0, .int .i64 0, .int .i64 0, .int .i64 0, .int .i64 0, .int .i64 0]) ?_ 2 _ rfl; (with_reducible repeat (first | refine blk_drewN ?_ _ | refine blk_drew ?_ | refine blk_alloc ?_ _)); refine blk_put (cs := #[.int .i64 0, .int .i64 0, .int .i64 0, .int .i64 0, .int .i64 0, .int .i64 0, .int .i64 0, .int .i64 0]) ?_ 1 _ rfl; (with_reducible repeat (first | refine blk_drewN ?_ _ | refine blk_drew ?_ | refine blk_alloc ?_ _)); refine blk_put (cs := #[.int .i64 0, .int .i64 0, .int .i64 0, .int .i64 0, .int .i64 0, .int .i64 0, .int .i64 0, .int .i64 0]) ?_ 0 _ rfl; (with_reducible repeat (first | refine blk_drewN ?_ _ | refine blk_drew ?_ | refine blk_alloc ?_ _)); exact BK117.out) Tryd.underlying54 rfl (by kernel_rfl)) rfl ?_
        exact ⟨by first | rfl | (simp [errW_none, errW_some] <;> rfl) | (simp [*, errW_none, errW_some] <;> rfl), by repeat (first | (with_reducible first | exact HB.out | apply below_alloc | apply pw_below_drewN | apply below_drew1 | refine below_set ?_ GE115.out | refine below_set ?_ GE116.out | refine below_set ?_ GE117.out) | exact HB.out)⟩
      · replace c33 := Bool.eq_false_iff.mpr c33
        subst c33
        have H1 : ((seal_Own.f a0_1).bind fun bt119 => (if a0_0 = 3 then (if bt119.2 = 0 then (if a0_5 = bt119.1 then (some (4, a0_1, a0_2, a0_3, 0, a0_5, a1_0, a1_1, 0)) else (some (0, 0, 0, 0, 0, 0, 0, 0, 13))) else (some (0, 0, 0, 0, 0, 0, 0, 0, 13))) else (some (0, 0, 0, 0, 0, 0, 0, 0, 9)))) = some (r1, r2, r3, r4, r5, r6, r7, r8, r9) := by rw [if_neg (show ¬ (false = true) by decide)] at H; exact H
        clear H
        have H := H1
        clear H1
        replace H := Option.bind_eq_some_iff.mp H
        obtain ⟨⟨t119, t120⟩, A370, H⟩ := H
        replace H : (if a0_0 = 3 then (if t120 = 0 then (if a0_5 = t119 then (some (4, a0_1, a0_2, a0_3, 0, a0_5, a1_0, a1_1, 0)) else (some (0, 0, 0, 0, 0, 0, 0, 0, 13))) else (some (0, 0, 0, 0, 0, 0, 0, 0, 13))) else (some (0, 0, 0, 0, 0, 0, 0, 0, 9))) = some (r1, r2, r3, r4, r5, r6, r7, r8, r9) := H
        have A37 := Aside0.mk A370
        clear A370
        by_cases c38 : a0_0 = 3
        · rw [if_pos c38] at H
          have c38b0 : (a0_0 == 3) = true := beq_iff_eq.mpr c38
          have c38b1 : (a0_0 != 3) = false := bne_eq_false_iff_eq.mpr c38
          clear c38
          by_cases c39 : t120 = 0
          · rw [if_pos c39] at H
            have c39b0 : (t120 == 0) = true := beq_iff_eq.mpr c39
            have c39b1 : (t120 != 0) = false := bne_eq_false_iff_eq.mpr c39
            clear c39
            by_cases c40 : a0_5 = t119
            · rw [if_pos c40] at H
              have c40b0 : (a0_5 == t119) = true := beq_iff_eq.mpr c40
              have c40b1 : (a0_5 != t119) = false := bne_eq_false_iff_eq.mpr c40
              clear c40
              simp only [Option.some.injEq, Prod.mk.injEq] at H
              obtain ⟨rfl, rfl, rfl, rfl, rfl, rfl, rfl, rfl, rfl⟩ := H
              have hnb41 := NB115_116.out
              have hnc41 := NB116_115.out
              have hnb42 := NB115_117.out
              have hnc42 := NB117_115.out
              have hcz43_0 : wc.cell? ⟨gb115, 0, none⟩ = some (.int .i64 a0_0) := (blk_cell BK115.out 0).trans rfl
              have hcz43_1 : wc.cell? ⟨gb115, 1, none⟩ = some (.int .i64 a0_1) := (blk_cell BK115.out 1).trans rfl
              have hcz43_2 : wc.cell? ⟨gb115, 2, none⟩ = some (.int .i64 a0_2) := (blk_cell BK115.out 2).trans rfl
              have hcz43_3 : wc.cell? ⟨gb115, 3, none⟩ = some (.int .i64 a0_3) := (blk_cell BK115.out 3).trans rfl
              have hcz43_4 : wc.cell? ⟨gb115, 4, none⟩ = some (.int .i64 a0_4) := (blk_cell BK115.out 4).trans rfl
              have hcz43_5 : wc.cell? ⟨gb115, 5, none⟩ = some (.int .i64 a0_5) := (blk_cell BK115.out 5).trans rfl
              have hcz43_6 : wc.cell? ⟨gb115, 6, none⟩ = some (.int .i64 a0_6) := (blk_cell BK115.out 6).trans rfl
              have hcz43_7 : wc.cell? ⟨gb115, 7, none⟩ = some (.int .i64 a0_7) := (blk_cell BK115.out 7).trans rfl
              have hfz43_0 := blk_frozen BK115.out 0
              have hfz43_1 := blk_frozen BK115.out 1
              have hfz43_2 := blk_frozen BK115.out 2
              have hfz43_3 := blk_frozen BK115.out 3
              have hfz43_4 := blk_frozen BK115.out 4
              have hfz43_5 := blk_frozen BK115.out 5
              have hfz43_6 := blk_frozen BK115.out 6
              have hfz43_7 := blk_frozen BK115.out 7
              try go_wp2_with (first | ((with_reducible refine gate_callee (f := 82) rfl ?_); refine goesL_ (some 32) rfl rfl Tryd.func82 (by kernel_rfl) rfl #[.int .i64 a0_1] rfl (by (try simp only [List.map_toArray, List.map_cons, List.map_nil]); first | done | rfl | (simp only [List.length_drop, List.length_take]; rfl)) ?_; (with_reducible refine (seal_Own.calls a0_1 t119 t120 _ A37.out).mono ?_); rintro e w44 ⟨rfl, hb⟩; refine ⟨_, rfl, ?_⟩; have n0_ := Aside0.mk (blk_below (g := gb115) (o := .cells #[.int .i64 a0_0, .int .i64 a0_1, .int .i64 a0_2, .int .i64 a0_3, .int .i64 a0_4, .int .i64 a0_5, .int .i64 a0_6, .int .i64 a0_7] 54 (0, 0)) (by (with_reducible repeat (first | refine blk_drewN ?_ _ | refine blk_drew ?_ | refine blk_alloc ?_ _)); exact BK115.out) hb); have n1_ := Aside0.mk (blk_below (g := gb116) (o := .cells #[.int .i64 a1_0, .int .i64 a1_1] 25 (0, 0)) (by (with_reducible repeat (first | refine blk_drewN ?_ _ | refine blk_drew ?_ | refine blk_alloc ?_ _)); exact BK116.out) hb); have n2_ := Aside0.mk (blk_below (g := gb117) (o := .cells #[.int .i64 0, .int .i64 0, .int .i64 0, .int .i64 0, .int .i64 0, .int .i64 0, .int .i64 0, .int .i64 0] 54 (0, 0)) (by (with_reducible repeat (first | refine blk_drewN ?_ _ | refine blk_drew ?_ | refine blk_alloc ?_ _)); exact BK117.out) hb); have n3_ := Aside0.mk (below_step (by repeat (first | (with_reducible first | exact HB.out | apply below_alloc | apply pw_below_drewN | apply below_drew1 | refine below_set ?_ GE115.out | refine below_set ?_ GE116.out | refine below_set ?_ GE117.out) | exact HB.out)) hb); clear BK115; clear BK116; clear BK117; clear HB; have BK115 := n0_; have BK116 := n1_; have BK117 := n2_; have HB := n3_; clear n0_ n1_ n2_ n3_; (try clear hb); (try clear hb2); (try clear hk); (try clear hi); have hcz45_0 : w44.cell? ⟨gb115, 0, none⟩ = some (.int .i64 a0_0) := (blk_cell BK115.out 0).trans rfl; have hcz45_1 : w44.cell? ⟨gb115, 1, none⟩ = some (.int .i64 a0_1) := (blk_cell BK115.out 1).trans rfl; have hcz45_2 : w44.cell? ⟨gb115, 2, none⟩ = some (.int .i64 a0_2) := (blk_cell BK115.out 2).trans rfl; have hcz45_3 : w44.cell? ⟨gb115, 3, none⟩ = some (.int .i64 a0_3) := (blk_cell BK115.out 3).trans rfl; have hcz45_4 : w44.cell? ⟨gb115, 4, none⟩ = some (.int .i64 a0_4) := (blk_cell BK115.out 4).trans rfl; have hcz45_5 : w44.cell? ⟨gb115, 5, none⟩ = some (.int .i64 a0_5) := (blk_cell BK115.out 5).trans rfl; have hcz45_6 : w44.cell? ⟨gb115, 6, none⟩ = some (.int .i64 a0_6) := (blk_cell BK115.out 6).trans rfl; have hcz45_7 : w44.cell? ⟨gb115, 7, none⟩ = some (.int .i64 a0_7) := (blk_cell BK115.out 7).trans rfl; have hfz45_0 := blk_frozen BK115.out 0; have hfz45_1 := blk_frozen BK115.out 1; have hfz45_2 := blk_frozen BK115.out 2; have hfz45_3 := blk_frozen BK115.out 3; have hfz45_4 := blk_frozen BK115.out 4; have hfz45_5 := blk_frozen BK115.out 5; have hfz45_6 := blk_frozen BK115.out 6; have hfz45_7 := blk_frozen BK115.out 7))
              have n0_ := Aside0.mk (blk_drew BK115.out)
              have n1_ := Aside0.mk (blk_drew BK116.out)
              have n2_ := Aside0.mk (blk_drew BK117.out)
              have n3_ := Aside0.mk (below_drew1 HB.out)
              clear BK115
              clear BK116
              clear BK117
              clear HB
              have BK115 := n0_
              have BK116 := n1_
              have BK117 := n2_
              have HB := n3_
              clear n0_ n1_ n2_ n3_
              refine start_ (n := 7) (S := fun w' => w'.cell? ⟨gb116, 0, none⟩ = some (.int .i64 a1_0) ∧ w'.cell? ⟨gb116, 1, none⟩ = some (.int .i64 a1_1)) (ds := []) #[false, false, false, false, false, false, false] (by kernel_rfl) rfl rfl ⟨(blk_cell BK116.out 0).trans rfl, (blk_cell BK116.out 1).trans rfl⟩ (fun hHeld => ?_)
              generalize w44.drew = w46 at BK115 BK116 BK117 HB hHeld ⊢
              refine pure_ (i := 1) (N := some 51) (v := ?_) (a' := ?_) #[false, true, false, false, false, false, false] rfl rfl (by kernel_rfl) (fun _ _ _ h => h) (Or.inl ⟨by rfl, ?_⟩) ?_ ?_
              rotate_left
              · intro w'
                go_simp
                with_reducible rfl
              rotate_left
              · simp only [Act.put, List.setIfInBounds_toArray, List.set_cons_zero, List.set_cons_succ, i64_w, i32_w]
                rfl
              refine take_ (i := 0) (N := some 50) (v := ?_) (a' := ?_) #[true, true, false, false, false, false, false] rfl rfl (by kernel_rfl) (fun _ _ _ h => h) (Or.inl ⟨by rfl, ?_⟩) hHeld ?_ ?_
              rotate_left
              · rintro w' ⟨s0, s1⟩
                go_simp
                with_reducible rfl
              rotate_left
              · simp only [Act.put, List.setIfInBounds_toArray, List.set_cons_zero, List.set_cons_succ, i64_w, i32_w]
                rfl
              refine one_ (i := 2) (N := none) #[true, true, true, false, false, false, false] rfl rfl (by kernel_rfl) (by decide) (fun K hK => ?_)
              have hs47 : w46.cell? ⟨gb115, 0, none⟩ = some (.int .i64 a0_0) := (blk_cell BK115.out 0).trans rfl
              have hfs47 := blk_frozen BK115.out 0
              have hns47_1 := NB116_115.out
              have hns47_2 := NB117_115.out
              have hms47_1 := NB115_116.out
              have hms47_2 := NB115_117.out
              refine skip_ (w1 := ?_) (by rfl) rfl ?_ ?_
              rotate_left
              · go_simp
                rfl
              refine hK.out _ _ ⟨((cell_far (p := ⟨gb115, _, none⟩) NB116_115.out _).trans (hHeld.1)), ((cell_far (p := ⟨gb115, _, none⟩) NB116_115.out _).trans (hHeld.2))⟩ (fun hHeld => ?_)
              clear hK K
              refine pure_ (i := 3) (N := some 52) (v := ?_) (a' := ?_) #[true, true, true, true, false, false, false] rfl rfl (by kernel_rfl) (fun _ _ _ h => h) (Or.inl ⟨by rfl, ?_⟩) ?_ ?_
              rotate_left
              · intro w'
                go_simp
                with_reducible rfl
              rotate_left
              · simp only [Act.put, List.setIfInBounds_toArray, List.set_cons_zero, List.set_cons_succ, i64_w, i32_w]
                rfl
              refine one_ (i := 4) (N := none) #[true, true, true, true, true, false, false] rfl rfl (by kernel_rfl) (by decide) (fun K hK => ?_)
              have hs48 : w46.cell? ⟨gb115, 4, none⟩ = some (.int .i64 a0_4) := (blk_cell BK115.out 4).trans rfl
              have hfs48 := blk_frozen BK115.out 4
              have hns48_1 := NB116_115.out
              have hns48_2 := NB117_115.out
              have hms48_1 := NB115_116.out
              have hms48_2 := NB115_117.out
              refine skip_ (w1 := ?_) (by rfl) rfl ?_ ?_
              rotate_left
              · go_simp
                rfl
              refine hK.out _ _ ⟨((cell_far (p := ⟨gb115, _, none⟩) NB116_115.out _).trans (hHeld.1)), ((cell_far (p := ⟨gb115, _, none⟩) NB116_115.out _).trans (hHeld.2))⟩ (fun hHeld => ?_)
              clear hK K
              refine pure_ (i := 5) (N := some 53) (v := ?_) (a' := ?_) #[true, true, true, true, true, true, false] rfl rfl (by kernel_rfl) (fun _ _ _ h => h) (Or.inl ⟨by rfl, ?_⟩) ?_ ?_
              rotate_left
              · intro w'
                go_simp
                with_reducible rfl
              rotate_left
              · simp only [Act.put, List.setIfInBounds_toArray, List.set_cons_zero, List.set_cons_succ, i64_w, i32_w]
                rfl
              refine one_ (i := 6) (N := none) #[true, true, true, true, true, true, true] rfl rfl (by kernel_rfl) (by decide) (fun K hK => ?_)
              have hs49 : w46.cell? ⟨gb115, 6, none⟩ = some (.int .i64 a0_6) := (blk_cell BK115.out 6).trans rfl
              have hfs49 := blk_frozen BK115.out 6
              have hns49_1 := NB116_115.out
              have hns49_2 := NB117_115.out
              have hms49_1 := NB115_116.out
              have hms49_2 := NB115_117.out
              have hs50 : w46.cell? ⟨gb115, 7, none⟩ = some (.int .i64 a0_7) := (blk_cell BK115.out 7).trans rfl
              have hfs50 := blk_frozen BK115.out 7
              have hns50_1 := NB116_115.out
              have hns50_2 := NB117_115.out
              have hms50_1 := NB115_116.out
              have hms50_2 := NB115_117.out
              refine skip_ (w1 := ?_) (by rfl) rfl ?_ ?_
              rotate_left
              · go_simp
                rfl
              refine hK.out _ _ ⟨((cell_far (p := ⟨gb115, _, none⟩) NB116_115.out _).trans (((cell_far (p := ⟨gb115, _, none⟩) NB116_115.out _).trans (hHeld.1)))), ((cell_far (p := ⟨gb115, _, none⟩) NB116_115.out _).trans (((cell_far (p := ⟨gb115, _, none⟩) NB116_115.out _).trans (hHeld.2))))⟩ (fun hHeld => ?_)
              clear hK K
              refine done_ (by kernel_rfl) ?_
              have hcz51_0 : w46.cell? ⟨gb115, 0, none⟩ = some (.int .i64 a0_0) := (blk_cell BK115.out 0).trans rfl
              have hcz51_1 : w46.cell? ⟨gb115, 1, none⟩ = some (.int .i64 a0_1) := (blk_cell BK115.out 1).trans rfl
              have hcz51_2 : w46.cell? ⟨gb115, 2, none⟩ = some (.int .i64 a0_2) := (blk_cell BK115.out 2).trans rfl
              have hcz51_3 : w46.cell? ⟨gb115, 3, none⟩ = some (.int .i64 a0_3) := (blk_cell BK115.out 3).trans rfl
              have hcz51_4 : w46.cell? ⟨gb115, 4, none⟩ = some (.int .i64 a0_4) := (blk_cell BK115.out 4).trans rfl
              have hcz51_5 : w46.cell? ⟨gb115, 5, none⟩ = some (.int .i64 a0_5) := (blk_cell BK115.out 5).trans rfl
              have hcz51_6 : w46.cell? ⟨gb115, 6, none⟩ = some (.int .i64 a0_6) := (blk_cell BK115.out 6).trans rfl
              have hcz51_7 : w46.cell? ⟨gb115, 7, none⟩ = some (.int .i64 a0_7) := (blk_cell BK115.out 7).trans rfl
              have hfz51_0 := blk_frozen BK115.out 0
              have hfz51_1 := blk_frozen BK115.out 1
              have hfz51_2 := blk_frozen BK115.out 2
              have hfz51_3 := blk_frozen BK115.out 3
              have hfz51_4 := blk_frozen BK115.out 4
              have hfz51_5 := blk_frozen BK115.out 5
              have hfz51_6 := blk_frozen BK115.out 6
              have hfz51_7 := blk_frozen BK115.out 7
              have hnb52 := NB117_116.out
              have hnc52 := NB116_117.out
              have hcz53_0 : w46.cell? ⟨gb117, 0, none⟩ = some (.int .i64 0) := (blk_cell BK117.out 0).trans rfl
              have hcz53_1 : w46.cell? ⟨gb117, 1, none⟩ = some (.int .i64 0) := (blk_cell BK117.out 1).trans rfl
              have hcz53_2 : w46.cell? ⟨gb117, 2, none⟩ = some (.int .i64 0) := (blk_cell BK117.out 2).trans rfl
              have hcz53_3 : w46.cell? ⟨gb117, 3, none⟩ = some (.int .i64 0) := (blk_cell BK117.out 3).trans rfl
              have hcz53_4 : w46.cell? ⟨gb117, 4, none⟩ = some (.int .i64 0) := (blk_cell BK117.out 4).trans rfl
              have hcz53_5 : w46.cell? ⟨gb117, 5, none⟩ = some (.int .i64 0) := (blk_cell BK117.out 5).trans rfl
              have hcz53_6 : w46.cell? ⟨gb117, 6, none⟩ = some (.int .i64 0) := (blk_cell BK117.out 6).trans rfl
              have hcz53_7 : w46.cell? ⟨gb117, 7, none⟩ = some (.int .i64 0) := (blk_cell BK117.out 7).trans rfl
              have hfz53_0 := blk_frozen BK117.out 0
              have hfz53_1 := blk_frozen BK117.out 1
              have hfz53_2 := blk_frozen BK117.out 2
              have hfz53_3 := blk_frozen BK117.out 3
              have hfz53_4 := blk_frozen BK117.out 4
              have hfz53_5 := blk_frozen BK117.out 5
              have hfz53_6 := blk_frozen BK117.out 6
              have hfz53_7 := blk_frozen BK117.out 7
              try go_wp2
              refine bodyPost_ret (results_ct rfl _ _ gb117 54 #[.int .i64 4, .int .i64 a0_1, .int .i64 a0_2, .int .i64 a0_3, .int .i64 0, .int .i64 a0_5, .int .i64 a1_0, .int .i64 a1_1] (0, 0) _ rfl (by (with_reducible repeat (first | refine blk_drewN ?_ _ | refine blk_drew ?_ | refine blk_alloc ?_ _)); refine blk_put (cs := #[.int .i64 4, .int .i64 a0_1, .int .i64 a0_2, .int .i64 a0_3, .int .i64 0, .int .i64 a0_5, .int .i64 a1_0, .int .i64 0]) ?_ 7 _ rfl; (with_reducible repeat (first | refine blk_drewN ?_ _ | refine blk_drew ?_ | refine blk_alloc ?_ _)); refine blk_put (cs := #[.int .i64 4, .int .i64 a0_1, .int .i64 a0_2, .int .i64 a0_3, .int .i64 0, .int .i64 a0_5, .int .i64 0, .int .i64 0]) ?_ 6 _ rfl; (with_reducible repeat (first | refine blk_drewN ?_ _ | refine blk_drew ?_ | refine blk_alloc ?_ _)); refine blk_put (cs := #[.int .i64 4, .int .i64 a0_1, .int .i64 a0_2, .int .i64 a0_3, .int .i64 0, .int .i64 0, .int .i64 0, .int .i64 0]) ?_ 5 _ rfl; (with_reducible repeat (first | refine blk_drewN ?_ _ | refine blk_drew ?_ | refine blk_alloc ?_ _)); refine blk_put (cs := #[.int .i64 4, .int .i64 a0_1, .int .i64 a0_2, .int .i64 a0_3, .int .i64 0, .int .i64 0, .int .i64 0, .int .i64 0]) ?_ 4 _ rfl; (with_reducible repeat (first | refine blk_drewN ?_ _ | refine blk_drew ?_ | refine blk_alloc ?_ _)); refine blk_put (cs := #[.int .i64 4, .int .i64 a0_1, .int .i64 a0_2, .int .i64 0, .int .i64 0, .int .i64 0, .int .i64 0, .int .i64 0]) ?_ 3 _ rfl; (with_reducible repeat (first | refine blk_drewN ?_ _ | refine blk_drew ?_ | refine blk_alloc ?_ _)); refine blk_put (cs := #[.int .i64 4, .int .i64 a0_1, .int .i64 0, .int .i64 0, .int .i64 0, .int .i64 0, .int .i64 0, .int .i64 0]) ?_ 2 _ rfl; (with_reducible repeat (first | refine blk_drewN ?_ _ | refine blk_drew ?_ | refine blk_alloc ?_ _)); refine blk_put (cs := #[.int .i64 4, .int .i64 0, .int .i64 0, .int .i64 0, .int .i64 0, .int .i64 0, .int .i64 0, .int .i64 0]) ?_ 1 _ rfl; (with_reducible repeat (first | refine blk_drewN ?_ _ | refine blk_drew ?_ | refine blk_alloc ?_ _)); refine blk_put (cs := #[.int .i64 0, .int .i64 0, .int .i64 0, .int .i64 0, .int .i64 0, .int .i64 0, .int .i64 0, .int .i64 0]) ?_ 0 _ rfl; (with_reducible repeat (first | refine blk_drewN ?_ _ | refine blk_drew ?_ | refine blk_alloc ?_ _)); refine blk_far ?_ NB117_115.out _; (with_reducible repeat (first | refine blk_drewN ?_ _ | refine blk_drew ?_ | refine blk_alloc ?_ _)); refine blk_far ?_ NB117_115.out _; (with_reducible repeat (first | refine blk_drewN ?_ _ | refine blk_drew ?_ | refine blk_alloc ?_ _)); refine blk_far ?_ NB117_115.out _; (with_reducible repeat (first | refine blk_drewN ?_ _ | refine blk_drew ?_ | refine blk_alloc ?_ _)); refine blk_far ?_ NB117_115.out _; (with_reducible repeat (first | refine blk_drewN ?_ _ | refine blk_drew ?_ | refine blk_alloc ?_ _)); exact BK117.out) Tryd.underlying54 rfl (by kernel_rfl)) rfl ?_
              exact ⟨by first | rfl | (simp [errW_none, errW_some] <;> rfl) | (simp [*, errW_none, errW_some] <;> rfl), by repeat (first | (with_reducible first | exact HB.out | apply below_alloc | apply pw_below_drewN | apply below_drew1 | refine below_set ?_ GE115.out | refine below_set ?_ GE116.out | refine below_set ?_ GE117.out) | exact HB.out)⟩
            · rw [if_neg c40] at H
              have c40b0 : (a0_5 == t119) = false := beq_eq_false_iff_ne.mpr c40
              have c40b1 : (a0_5 != t119) = true := bne_iff_ne.mpr c40
              simp only [Option.some.injEq, Prod.mk.injEq] at H
              obtain ⟨rfl, rfl, rfl, rfl, rfl, rfl, rfl, rfl, rfl⟩ := H
              have hnb54 := NB115_116.out
              have hnc54 := NB116_115.out
              have hnb55 := NB115_117.out
              have hnc55 := NB117_115.out
              have hcz56_0 : wc.cell? ⟨gb115, 0, none⟩ = some (.int .i64 a0_0) := (blk_cell BK115.out 0).trans rfl
              have hcz56_1 : wc.cell? ⟨gb115, 1, none⟩ = some (.int .i64 a0_1) := (blk_cell BK115.out 1).trans rfl
              have hcz56_2 : wc.cell? ⟨gb115, 2, none⟩ = some (.int .i64 a0_2) := (blk_cell BK115.out 2).trans rfl
              have hcz56_3 : wc.cell? ⟨gb115, 3, none⟩ = some (.int .i64 a0_3) := (blk_cell BK115.out 3).trans rfl
              have hcz56_4 : wc.cell? ⟨gb115, 4, none⟩ = some (.int .i64 a0_4) := (blk_cell BK115.out 4).trans rfl
              have hcz56_5 : wc.cell? ⟨gb115, 5, none⟩ = some (.int .i64 a0_5) := (blk_cell BK115.out 5).trans rfl
              have hcz56_6 : wc.cell? ⟨gb115, 6, none⟩ = some (.int .i64 a0_6) := (blk_cell BK115.out 6).trans rfl
              have hcz56_7 : wc.cell? ⟨gb115, 7, none⟩ = some (.int .i64 a0_7) := (blk_cell BK115.out 7).trans rfl
              have hfz56_0 := blk_frozen BK115.out 0
              have hfz56_1 := blk_frozen BK115.out 1
              have hfz56_2 := blk_frozen BK115.out 2
              have hfz56_3 := blk_frozen BK115.out 3
              have hfz56_4 := blk_frozen BK115.out 4
              have hfz56_5 := blk_frozen BK115.out 5
              have hfz56_6 := blk_frozen BK115.out 6
              have hfz56_7 := blk_frozen BK115.out 7
              go_wp2_with (first | ((with_reducible refine gate_callee (f := 82) rfl ?_); refine goesL_ (some 32) rfl rfl Tryd.func82 (by kernel_rfl) rfl #[.int .i64 a0_1] rfl (by (try simp only [List.map_toArray, List.map_cons, List.map_nil]); first | done | rfl | (simp only [List.length_drop, List.length_take]; rfl)) ?_; (with_reducible refine (seal_Own.calls a0_1 t119 t120 _ A37.out).mono ?_); rintro e w57 ⟨rfl, hb⟩; refine ⟨_, rfl, ?_⟩; have n0_ := Aside0.mk (blk_below (g := gb115) (o := .cells #[.int .i64 a0_0, .int .i64 a0_1, .int .i64 a0_2, .int .i64 a0_3, .int .i64 a0_4, .int .i64 a0_5, .int .i64 a0_6, .int .i64 a0_7] 54 (0, 0)) (by (with_reducible repeat (first | refine blk_drewN ?_ _ | refine blk_drew ?_ | refine blk_alloc ?_ _)); exact BK115.out) hb); have n1_ := Aside0.mk (blk_below (g := gb116) (o := .cells #[.int .i64 a1_0, .int .i64 a1_1] 25 (0, 0)) (by (with_reducible repeat (first | refine blk_drewN ?_ _ | refine blk_drew ?_ | refine blk_alloc ?_ _)); exact BK116.out) hb); have n2_ := Aside0.mk (blk_below (g := gb117) (o := .cells #[.int .i64 0, .int .i64 0, .int .i64 0, .int .i64 0, .int .i64 0, .int .i64 0, .int .i64 0, .int .i64 0] 54 (0, 0)) (by (with_reducible repeat (first | refine blk_drewN ?_ _ | refine blk_drew ?_ | refine blk_alloc ?_ _)); exact BK117.out) hb); have n3_ := Aside0.mk (below_step (by repeat (first | (with_reducible first | exact HB.out | apply below_alloc | apply pw_below_drewN | apply below_drew1 | refine below_set ?_ GE115.out | refine below_set ?_ GE116.out | refine below_set ?_ GE117.out) | exact HB.out)) hb); clear BK115; clear BK116; clear BK117; clear HB; have BK115 := n0_; have BK116 := n1_; have BK117 := n2_; have HB := n3_; clear n0_ n1_ n2_ n3_; (try clear hb); (try clear hb2); (try clear hk); (try clear hi); have hcz58_0 : w57.cell? ⟨gb115, 0, none⟩ = some (.int .i64 a0_0) := (blk_cell BK115.out 0).trans rfl; have hcz58_1 : w57.cell? ⟨gb115, 1, none⟩ = some (.int .i64 a0_1) := (blk_cell BK115.out 1).trans rfl; have hcz58_2 : w57.cell? ⟨gb115, 2, none⟩ = some (.int .i64 a0_2) := (blk_cell BK115.out 2).trans rfl; have hcz58_3 : w57.cell? ⟨gb115, 3, none⟩ = some (.int .i64 a0_3) := (blk_cell BK115.out 3).trans rfl; have hcz58_4 : w57.cell? ⟨gb115, 4, none⟩ = some (.int .i64 a0_4) := (blk_cell BK115.out 4).trans rfl; have hcz58_5 : w57.cell? ⟨gb115, 5, none⟩ = some (.int .i64 a0_5) := (blk_cell BK115.out 5).trans rfl; have hcz58_6 : w57.cell? ⟨gb115, 6, none⟩ = some (.int .i64 a0_6) := (blk_cell BK115.out 6).trans rfl; have hcz58_7 : w57.cell? ⟨gb115, 7, none⟩ = some (.int .i64 a0_7) := (blk_cell BK115.out 7).trans rfl; have hfz58_0 := blk_frozen BK115.out 0; have hfz58_1 := blk_frozen BK115.out 1; have hfz58_2 := blk_frozen BK115.out 2; have hfz58_3 := blk_frozen BK115.out 3; have hfz58_4 := blk_frozen BK115.out 4; have hfz58_5 := blk_frozen BK115.out 5; have hfz58_6 := blk_frozen BK115.out 6; have hfz58_7 := blk_frozen BK115.out 7; have hnb59 := NB117_116.out; have hnc59 := NB116_117.out; have hcz60_0 : w57.cell? ⟨gb117, 0, none⟩ = some (.int .i64 0) := (blk_cell BK117.out 0).trans rfl; have hcz60_1 : w57.cell? ⟨gb117, 1, none⟩ = some (.int .i64 0) := (blk_cell BK117.out 1).trans rfl; have hcz60_2 : w57.cell? ⟨gb117, 2, none⟩ = some (.int .i64 0) := (blk_cell BK117.out 2).trans rfl; have hcz60_3 : w57.cell? ⟨gb117, 3, none⟩ = some (.int .i64 0) := (blk_cell BK117.out 3).trans rfl; have hcz60_4 : w57.cell? ⟨gb117, 4, none⟩ = some (.int .i64 0) := (blk_cell BK117.out 4).trans rfl; have hcz60_5 : w57.cell? ⟨gb117, 5, none⟩ = some (.int .i64 0) := (blk_cell BK117.out 5).trans rfl; have hcz60_6 : w57.cell? ⟨gb117, 6, none⟩ = some (.int .i64 0) := (blk_cell BK117.out 6).trans rfl; have hcz60_7 : w57.cell? ⟨gb117, 7, none⟩ = some (.int .i64 0) := (blk_cell BK117.out 7).trans rfl; have hfz60_0 := blk_frozen BK117.out 0; have hfz60_1 := blk_frozen BK117.out 1; have hfz60_2 := blk_frozen BK117.out 2; have hfz60_3 := blk_frozen BK117.out 3; have hfz60_4 := blk_frozen BK117.out 4; have hfz60_5 := blk_frozen BK117.out 5; have hfz60_6 := blk_frozen BK117.out 6; have hfz60_7 := blk_frozen BK117.out 7))
              refine bodyPost_ret (results_ct rfl _ _ gb117 54 #[.int .i64 0, .int .i64 0, .int .i64 0, .int .i64 0, .int .i64 0, .int .i64 0, .int .i64 0, .int .i64 0] (0, 0) _ rfl (by (with_reducible repeat (first | refine blk_drewN ?_ _ | refine blk_drew ?_ | refine blk_alloc ?_ _)); refine blk_put (cs := #[.int .i64 0, .int .i64 0, .int .i64 0, .int .i64 0, .int .i64 0, .int .i64 0, .int .i64 0, .int .i64 0]) ?_ 7 _ rfl; (with_reducible repeat (first | refine blk_drewN ?_ _ | refine blk_drew ?_ | refine blk_alloc ?_ _)); refine blk_put (cs := #[.int .i64 0, .int .i64 0, .int .i64 0, .int .i64 0, .int .i64 0, .int .i64 0, .int .i64 0, .int .i64 0]) ?_ 6 _ rfl; (with_reducible repeat (first | refine blk_drewN ?_ _ | refine blk_drew ?_ | refine blk_alloc ?_ _)); refine blk_put (cs := #[.int .i64 0, .int .i64 0, .int .i64 0, .int .i64 0, .int .i64 0, .int .i64 0, .int .i64 0, .int .i64 0]) ?_ 5 _ rfl; (with_reducible repeat (first | refine blk_drewN ?_ _ | refine blk_drew ?_ | refine blk_alloc ?_ _)); refine blk_put (cs := #[.int .i64 0, .int .i64 0, .int .i64 0, .int .i64 0, .int .i64 0, .int .i64 0, .int .i64 0, .int .i64 0]) ?_ 4 _ rfl; (with_reducible repeat (first | refine blk_drewN ?_ _ | refine blk_drew ?_ | refine blk_alloc ?_ _)); refine blk_put (cs := #[.int .i64 0, .int .i64 0, .int .i64 0, .int .i64 0, .int .i64 0, .int .i64 0, .int .i64 0, .int .i64 0]) ?_ 3 _ rfl; (with_reducible repeat (first | refine blk_drewN ?_ _ | refine blk_drew ?_ | refine blk_alloc ?_ _)); refine blk_put (cs := #[.int .i64 0, .int .i64 0, .int .i64 0, .int .i64 0, .int .i64 0, .int .i64 0, .int .i64 0, .int .i64 0]) ?_ 2 _ rfl; (with_reducible repeat (first | refine blk_drewN ?_ _ | refine blk_drew ?_ | refine blk_alloc ?_ _)); refine blk_put (cs := #[.int .i64 0, .int .i64 0, .int .i64 0, .int .i64 0, .int .i64 0, .int .i64 0, .int .i64 0, .int .i64 0]) ?_ 1 _ rfl; (with_reducible repeat (first | refine blk_drewN ?_ _ | refine blk_drew ?_ | refine blk_alloc ?_ _)); refine blk_put (cs := #[.int .i64 0, .int .i64 0, .int .i64 0, .int .i64 0, .int .i64 0, .int .i64 0, .int .i64 0, .int .i64 0]) ?_ 0 _ rfl; (with_reducible repeat (first | refine blk_drewN ?_ _ | refine blk_drew ?_ | refine blk_alloc ?_ _)); exact BK117.out) Tryd.underlying54 rfl (by kernel_rfl)) rfl ?_
              exact ⟨by first | rfl | (simp [errW_none, errW_some] <;> rfl) | (simp [*, errW_none, errW_some] <;> rfl), by repeat (first | (with_reducible first | exact HB.out | apply below_alloc | apply pw_below_drewN | apply below_drew1 | refine below_set ?_ GE115.out | refine below_set ?_ GE116.out | refine below_set ?_ GE117.out) | exact HB.out)⟩
          · rw [if_neg c39] at H
            have c39b0 : (t120 == 0) = false := beq_eq_false_iff_ne.mpr c39
            have c39b1 : (t120 != 0) = true := bne_iff_ne.mpr c39
            simp only [Option.some.injEq, Prod.mk.injEq] at H
            obtain ⟨rfl, rfl, rfl, rfl, rfl, rfl, rfl, rfl, rfl⟩ := H
            have hnb61 := NB115_116.out
            have hnc61 := NB116_115.out
            have hnb62 := NB115_117.out
            have hnc62 := NB117_115.out
            have hcz63_0 : wc.cell? ⟨gb115, 0, none⟩ = some (.int .i64 a0_0) := (blk_cell BK115.out 0).trans rfl
            have hcz63_1 : wc.cell? ⟨gb115, 1, none⟩ = some (.int .i64 a0_1) := (blk_cell BK115.out 1).trans rfl
            have hcz63_2 : wc.cell? ⟨gb115, 2, none⟩ = some (.int .i64 a0_2) := (blk_cell BK115.out 2).trans rfl
            have hcz63_3 : wc.cell? ⟨gb115, 3, none⟩ = some (.int .i64 a0_3) := (blk_cell BK115.out 3).trans rfl
            have hcz63_4 : wc.cell? ⟨gb115, 4, none⟩ = some (.int .i64 a0_4) := (blk_cell BK115.out 4).trans rfl
            have hcz63_5 : wc.cell? ⟨gb115, 5, none⟩ = some (.int .i64 a0_5) := (blk_cell BK115.out 5).trans rfl
            have hcz63_6 : wc.cell? ⟨gb115, 6, none⟩ = some (.int .i64 a0_6) := (blk_cell BK115.out 6).trans rfl
            have hcz63_7 : wc.cell? ⟨gb115, 7, none⟩ = some (.int .i64 a0_7) := (blk_cell BK115.out 7).trans rfl
            have hfz63_0 := blk_frozen BK115.out 0
            have hfz63_1 := blk_frozen BK115.out 1
            have hfz63_2 := blk_frozen BK115.out 2
            have hfz63_3 := blk_frozen BK115.out 3
            have hfz63_4 := blk_frozen BK115.out 4
            have hfz63_5 := blk_frozen BK115.out 5
            have hfz63_6 := blk_frozen BK115.out 6
            have hfz63_7 := blk_frozen BK115.out 7
            go_wp2_with (first | ((with_reducible refine gate_callee (f := 82) rfl ?_); refine goesL_ (some 32) rfl rfl Tryd.func82 (by kernel_rfl) rfl #[.int .i64 a0_1] rfl (by (try simp only [List.map_toArray, List.map_cons, List.map_nil]); first | done | rfl | (simp only [List.length_drop, List.length_take]; rfl)) ?_; (with_reducible refine (seal_Own.calls a0_1 t119 t120 _ A37.out).mono ?_); rintro e w64 ⟨rfl, hb⟩; refine ⟨_, rfl, ?_⟩; have n0_ := Aside0.mk (blk_below (g := gb115) (o := .cells #[.int .i64 a0_0, .int .i64 a0_1, .int .i64 a0_2, .int .i64 a0_3, .int .i64 a0_4, .int .i64 a0_5, .int .i64 a0_6, .int .i64 a0_7] 54 (0, 0)) (by (with_reducible repeat (first | refine blk_drewN ?_ _ | refine blk_drew ?_ | refine blk_alloc ?_ _)); exact BK115.out) hb); have n1_ := Aside0.mk (blk_below (g := gb116) (o := .cells #[.int .i64 a1_0, .int .i64 a1_1] 25 (0, 0)) (by (with_reducible repeat (first | refine blk_drewN ?_ _ | refine blk_drew ?_ | refine blk_alloc ?_ _)); exact BK116.out) hb); have n2_ := Aside0.mk (blk_below (g := gb117) (o := .cells #[.int .i64 0, .int .i64 0, .int .i64 0, .int .i64 0, .int .i64 0, .int .i64 0, .int .i64 0, .int .i64 0] 54 (0, 0)) (by (with_reducible repeat (first | refine blk_drewN ?_ _ | refine blk_drew ?_ | refine blk_alloc ?_ _)); exact BK117.out) hb); have n3_ := Aside0.mk (below_step (by repeat (first | (with_reducible first | exact HB.out | apply below_alloc | apply pw_below_drewN | apply below_drew1 | refine below_set ?_ GE115.out | refine below_set ?_ GE116.out | refine below_set ?_ GE117.out) | exact HB.out)) hb); clear BK115; clear BK116; clear BK117; clear HB; have BK115 := n0_; have BK116 := n1_; have BK117 := n2_; have HB := n3_; clear n0_ n1_ n2_ n3_; (try clear hb); (try clear hb2); (try clear hk); (try clear hi); have hcz65_0 : w64.cell? ⟨gb115, 0, none⟩ = some (.int .i64 a0_0) := (blk_cell BK115.out 0).trans rfl; have hcz65_1 : w64.cell? ⟨gb115, 1, none⟩ = some (.int .i64 a0_1) := (blk_cell BK115.out 1).trans rfl; have hcz65_2 : w64.cell? ⟨gb115, 2, none⟩ = some (.int .i64 a0_2) := (blk_cell BK115.out 2).trans rfl; have hcz65_3 : w64.cell? ⟨gb115, 3, none⟩ = some (.int .i64 a0_3) := (blk_cell BK115.out 3).trans rfl; have hcz65_4 : w64.cell? ⟨gb115, 4, none⟩ = some (.int .i64 a0_4) := (blk_cell BK115.out 4).trans rfl; have hcz65_5 : w64.cell? ⟨gb115, 5, none⟩ = some (.int .i64 a0_5) := (blk_cell BK115.out 5).trans rfl; have hcz65_6 : w64.cell? ⟨gb115, 6, none⟩ = some (.int .i64 a0_6) := (blk_cell BK115.out 6).trans rfl; have hcz65_7 : w64.cell? ⟨gb115, 7, none⟩ = some (.int .i64 a0_7) := (blk_cell BK115.out 7).trans rfl; have hfz65_0 := blk_frozen BK115.out 0; have hfz65_1 := blk_frozen BK115.out 1; have hfz65_2 := blk_frozen BK115.out 2; have hfz65_3 := blk_frozen BK115.out 3; have hfz65_4 := blk_frozen BK115.out 4; have hfz65_5 := blk_frozen BK115.out 5; have hfz65_6 := blk_frozen BK115.out 6; have hfz65_7 := blk_frozen BK115.out 7; have hnb66 := NB117_116.out; have hnc66 := NB116_117.out; have hcz67_0 : w64.cell? ⟨gb117, 0, none⟩ = some (.int .i64 0) := (blk_cell BK117.out 0).trans rfl; have hcz67_1 : w64.cell? ⟨gb117, 1, none⟩ = some (.int .i64 0) := (blk_cell BK117.out 1).trans rfl; have hcz67_2 : w64.cell? ⟨gb117, 2, none⟩ = some (.int .i64 0) := (blk_cell BK117.out 2).trans rfl; have hcz67_3 : w64.cell? ⟨gb117, 3, none⟩ = some (.int .i64 0) := (blk_cell BK117.out 3).trans rfl; have hcz67_4 : w64.cell? ⟨gb117, 4, none⟩ = some (.int .i64 0) := (blk_cell BK117.out 4).trans rfl; have hcz67_5 : w64.cell? ⟨gb117, 5, none⟩ = some (.int .i64 0) := (blk_cell BK117.out 5).trans rfl; have hcz67_6 : w64.cell? ⟨gb117, 6, none⟩ = some (.int .i64 0) := (blk_cell BK117.out 6).trans rfl; have hcz67_7 : w64.cell? ⟨gb117, 7, none⟩ = some (.int .i64 0) := (blk_cell BK117.out 7).trans rfl; have hfz67_0 := blk_frozen BK117.out 0; have hfz67_1 := blk_frozen BK117.out 1; have hfz67_2 := blk_frozen BK117.out 2; have hfz67_3 := blk_frozen BK117.out 3; have hfz67_4 := blk_frozen BK117.out 4; have hfz67_5 := blk_frozen BK117.out 5; have hfz67_6 := blk_frozen BK117.out 6; have hfz67_7 := blk_frozen BK117.out 7))
            refine bodyPost_ret (results_ct rfl _ _ gb117 54 #[.int .i64 0, .int .i64 0, .int .i64 0, .int .i64 0, .int .i64 0, .int .i64 0, .int .i64 0, .int .i64 0] (0, 0) _ rfl (by (with_reducible repeat (first | refine blk_drewN ?_ _ | refine blk_drew ?_ | refine blk_alloc ?_ _)); refine blk_put (cs := #[.int .i64 0, .int .i64 0, .int .i64 0, .int .i64 0, .int .i64 0, .int .i64 0, .int .i64 0, .int .i64 0]) ?_ 7 _ rfl; (with_reducible repeat (first | refine blk_drewN ?_ _ | refine blk_drew ?_ | refine blk_alloc ?_ _)); refine blk_put (cs := #[.int .i64 0, .int .i64 0, .int .i64 0, .int .i64 0, .int .i64 0, .int .i64 0, .int .i64 0, .int .i64 0]) ?_ 6 _ rfl; (with_reducible repeat (first | refine blk_drewN ?_ _ | refine blk_drew ?_ | refine blk_alloc ?_ _)); refine blk_put (cs := #[.int .i64 0, .int .i64 0, .int .i64 0, .int .i64 0, .int .i64 0, .int .i64 0, .int .i64 0, .int .i64 0]) ?_ 5 _ rfl; (with_reducible repeat (first | refine blk_drewN ?_ _ | refine blk_drew ?_ | refine blk_alloc ?_ _)); refine blk_put (cs := #[.int .i64 0, .int .i64 0, .int .i64 0, .int .i64 0, .int .i64 0, .int .i64 0, .int .i64 0, .int .i64 0]) ?_ 4 _ rfl; (with_reducible repeat (first | refine blk_drewN ?_ _ | refine blk_drew ?_ | refine blk_alloc ?_ _)); refine blk_put (cs := #[.int .i64 0, .int .i64 0, .int .i64 0, .int .i64 0, .int .i64 0, .int .i64 0, .int .i64 0, .int .i64 0]) ?_ 3 _ rfl; (with_reducible repeat (first | refine blk_drewN ?_ _ | refine blk_drew ?_ | refine blk_alloc ?_ _)); refine blk_put (cs := #[.int .i64 0, .int .i64 0, .int .i64 0, .int .i64 0, .int .i64 0, .int .i64 0, .int .i64 0, .int .i64 0]) ?_ 2 _ rfl; (with_reducible repeat (first | refine blk_drewN ?_ _ | refine blk_drew ?_ | refine blk_alloc ?_ _)); refine blk_put (cs := #[.int .i64 0, .int .i64 0, .int .i64 0, .int .i64 0, .int .i64 0, .int .i64 0, .int .i64 0, .int .i64 0]) ?_ 1 _ rfl; (with_reducible repeat (first | refine blk_drewN ?_ _ | refine blk_drew ?_ | refine blk_alloc ?_ _)); refine blk_put (cs := #[.int .i64 0, .int .i64 0, .int .i64 0, .int .i64 0, .int .i64 0, .int .i64 0, .int .i64 0, .int .i64 0]) ?_ 0 _ rfl; (with_reducible repeat (first | refine blk_drewN ?_ _ | refine blk_drew ?_ | refine blk_alloc ?_ _)); exact BK117.out) Tryd.underlying54 rfl (by kernel_rfl)) rfl ?_
            exact ⟨by first | rfl | (simp [errW_none, errW_some] <;> rfl) | (simp [*, errW_none, errW_some] <;> rfl), by repeat (first | (with_reducible first | exact HB.out | apply below_alloc | apply pw_below_drewN | apply below_drew1 | refine below_set ?_ GE115.out | refine below_set ?_ GE116.out | refine below_set ?_ GE117.out) | exact HB.out)⟩
        · rw [if_neg c38] at H
          have c38b0 : (a0_0 == 3) = false := beq_eq_false_iff_ne.mpr c38
          have c38b1 : (a0_0 != 3) = true := bne_iff_ne.mpr c38
          simp only [Option.some.injEq, Prod.mk.injEq] at H
          obtain ⟨rfl, rfl, rfl, rfl, rfl, rfl, rfl, rfl, rfl⟩ := H
          have hnb68 := NB115_116.out
          have hnc68 := NB116_115.out
          have hnb69 := NB115_117.out
          have hnc69 := NB117_115.out
          have hcz70_0 : wc.cell? ⟨gb115, 0, none⟩ = some (.int .i64 a0_0) := (blk_cell BK115.out 0).trans rfl
          have hcz70_1 : wc.cell? ⟨gb115, 1, none⟩ = some (.int .i64 a0_1) := (blk_cell BK115.out 1).trans rfl
          have hcz70_2 : wc.cell? ⟨gb115, 2, none⟩ = some (.int .i64 a0_2) := (blk_cell BK115.out 2).trans rfl
          have hcz70_3 : wc.cell? ⟨gb115, 3, none⟩ = some (.int .i64 a0_3) := (blk_cell BK115.out 3).trans rfl
          have hcz70_4 : wc.cell? ⟨gb115, 4, none⟩ = some (.int .i64 a0_4) := (blk_cell BK115.out 4).trans rfl
          have hcz70_5 : wc.cell? ⟨gb115, 5, none⟩ = some (.int .i64 a0_5) := (blk_cell BK115.out 5).trans rfl
          have hcz70_6 : wc.cell? ⟨gb115, 6, none⟩ = some (.int .i64 a0_6) := (blk_cell BK115.out 6).trans rfl
          have hcz70_7 : wc.cell? ⟨gb115, 7, none⟩ = some (.int .i64 a0_7) := (blk_cell BK115.out 7).trans rfl
          have hfz70_0 := blk_frozen BK115.out 0
          have hfz70_1 := blk_frozen BK115.out 1
          have hfz70_2 := blk_frozen BK115.out 2
          have hfz70_3 := blk_frozen BK115.out 3
          have hfz70_4 := blk_frozen BK115.out 4
          have hfz70_5 := blk_frozen BK115.out 5
          have hfz70_6 := blk_frozen BK115.out 6
          have hfz70_7 := blk_frozen BK115.out 7
          go_wp2_with (first | ((with_reducible refine gate_callee (f := 82) rfl ?_); refine goesL_ (some 32) rfl rfl Tryd.func82 (by kernel_rfl) rfl #[.int .i64 a0_1] rfl (by (try simp only [List.map_toArray, List.map_cons, List.map_nil]); first | done | rfl | (simp only [List.length_drop, List.length_take]; rfl)) ?_; (with_reducible refine (seal_Own.calls a0_1 t119 t120 _ A37.out).mono ?_); rintro e w71 ⟨rfl, hb⟩; refine ⟨_, rfl, ?_⟩; have n0_ := Aside0.mk (blk_below (g := gb115) (o := .cells #[.int .i64 a0_0, .int .i64 a0_1, .int .i64 a0_2, .int .i64 a0_3, .int .i64 a0_4, .int .i64 a0_5, .int .i64 a0_6, .int .i64 a0_7] 54 (0, 0)) (by (with_reducible repeat (first | refine blk_drewN ?_ _ | refine blk_drew ?_ | refine blk_alloc ?_ _)); exact BK115.out) hb); have n1_ := Aside0.mk (blk_below (g := gb116) (o := .cells #[.int .i64 a1_0, .int .i64 a1_1] 25 (0, 0)) (by (with_reducible repeat (first | refine blk_drewN ?_ _ | refine blk_drew ?_ | refine blk_alloc ?_ _)); exact BK116.out) hb); have n2_ := Aside0.mk (blk_below (g := gb117) (o := .cells #[.int .i64 0, .int .i64 0, .int .i64 0, .int .i64 0, .int .i64 0, .int .i64 0, .int .i64 0, .int .i64 0] 54 (0, 0)) (by (with_reducible repeat (first | refine blk_drewN ?_ _ | refine blk_drew ?_ | refine blk_alloc ?_ _)); exact BK117.out) hb); have n3_ := Aside0.mk (below_step (by repeat (first | (with_reducible first | exact HB.out | apply below_alloc | apply pw_below_drewN | apply below_drew1 | refine below_set ?_ GE115.out | refine below_set ?_ GE116.out | refine below_set ?_ GE117.out) | exact HB.out)) hb); clear BK115; clear BK116; clear BK117; clear HB; have BK115 := n0_; have BK116 := n1_; have BK117 := n2_; have HB := n3_; clear n0_ n1_ n2_ n3_; (try clear hb); (try clear hb2); (try clear hk); (try clear hi); have hcz72_0 : w71.cell? ⟨gb115, 0, none⟩ = some (.int .i64 a0_0) := (blk_cell BK115.out 0).trans rfl; have hcz72_1 : w71.cell? ⟨gb115, 1, none⟩ = some (.int .i64 a0_1) := (blk_cell BK115.out 1).trans rfl; have hcz72_2 : w71.cell? ⟨gb115, 2, none⟩ = some (.int .i64 a0_2) := (blk_cell BK115.out 2).trans rfl; have hcz72_3 : w71.cell? ⟨gb115, 3, none⟩ = some (.int .i64 a0_3) := (blk_cell BK115.out 3).trans rfl; have hcz72_4 : w71.cell? ⟨gb115, 4, none⟩ = some (.int .i64 a0_4) := (blk_cell BK115.out 4).trans rfl; have hcz72_5 : w71.cell? ⟨gb115, 5, none⟩ = some (.int .i64 a0_5) := (blk_cell BK115.out 5).trans rfl; have hcz72_6 : w71.cell? ⟨gb115, 6, none⟩ = some (.int .i64 a0_6) := (blk_cell BK115.out 6).trans rfl; have hcz72_7 : w71.cell? ⟨gb115, 7, none⟩ = some (.int .i64 a0_7) := (blk_cell BK115.out 7).trans rfl; have hfz72_0 := blk_frozen BK115.out 0; have hfz72_1 := blk_frozen BK115.out 1; have hfz72_2 := blk_frozen BK115.out 2; have hfz72_3 := blk_frozen BK115.out 3; have hfz72_4 := blk_frozen BK115.out 4; have hfz72_5 := blk_frozen BK115.out 5; have hfz72_6 := blk_frozen BK115.out 6; have hfz72_7 := blk_frozen BK115.out 7; have hnb73 := NB117_116.out; have hnc73 := NB116_117.out; have hcz74_0 : w71.cell? ⟨gb117, 0, none⟩ = some (.int .i64 0) := (blk_cell BK117.out 0).trans rfl; have hcz74_1 : w71.cell? ⟨gb117, 1, none⟩ = some (.int .i64 0) := (blk_cell BK117.out 1).trans rfl; have hcz74_2 : w71.cell? ⟨gb117, 2, none⟩ = some (.int .i64 0) := (blk_cell BK117.out 2).trans rfl; have hcz74_3 : w71.cell? ⟨gb117, 3, none⟩ = some (.int .i64 0) := (blk_cell BK117.out 3).trans rfl; have hcz74_4 : w71.cell? ⟨gb117, 4, none⟩ = some (.int .i64 0) := (blk_cell BK117.out 4).trans rfl; have hcz74_5 : w71.cell? ⟨gb117, 5, none⟩ = some (.int .i64 0) := (blk_cell BK117.out 5).trans rfl; have hcz74_6 : w71.cell? ⟨gb117, 6, none⟩ = some (.int .i64 0) := (blk_cell BK117.out 6).trans rfl; have hcz74_7 : w71.cell? ⟨gb117, 7, none⟩ = some (.int .i64 0) := (blk_cell BK117.out 7).trans rfl; have hfz74_0 := blk_frozen BK117.out 0; have hfz74_1 := blk_frozen BK117.out 1; have hfz74_2 := blk_frozen BK117.out 2; have hfz74_3 := blk_frozen BK117.out 3; have hfz74_4 := blk_frozen BK117.out 4; have hfz74_5 := blk_frozen BK117.out 5; have hfz74_6 := blk_frozen BK117.out 6; have hfz74_7 := blk_frozen BK117.out 7))
          refine bodyPost_ret (results_ct rfl _ _ gb117 54 #[.int .i64 0, .int .i64 0, .int .i64 0, .int .i64 0, .int .i64 0, .int .i64 0, .int .i64 0, .int .i64 0] (0, 0) _ rfl (by (with_reducible repeat (first | refine blk_drewN ?_ _ | refine blk_drew ?_ | refine blk_alloc ?_ _)); refine blk_put (cs := #[.int .i64 0, .int .i64 0, .int .i64 0, .int .i64 0, .int .i64 0, .int .i64 0, .int .i64 0, .int .i64 0]) ?_ 7 _ rfl; (with_reducible repeat (first | refine blk_drewN ?_ _ | refine blk_drew ?_ | refine blk_alloc ?_ _)); refine blk_put (cs := #[.int .i64 0, .int .i64 0, .int .i64 0, .int .i64 0, .int .i64 0, .int .i64 0, .int .i64 0, .int .i64 0]) ?_ 6 _ rfl; (with_reducible repeat (first | refine blk_drewN ?_ _ | refine blk_drew ?_ | refine blk_alloc ?_ _)); refine blk_put (cs := #[.int .i64 0, .int .i64 0, .int .i64 0, .int .i64 0, .int .i64 0, .int .i64 0, .int .i64 0, .int .i64 0]) ?_ 5 _ rfl; (with_reducible repeat (first | refine blk_drewN ?_ _ | refine blk_drew ?_ | refine blk_alloc ?_ _)); refine blk_put (cs := #[.int .i64 0, .int .i64 0, .int .i64 0, .int .i64 0, .int .i64 0, .int .i64 0, .int .i64 0, .int .i64 0]) ?_ 4 _ rfl; (with_reducible repeat (first | refine blk_drewN ?_ _ | refine blk_drew ?_ | refine blk_alloc ?_ _)); refine blk_put (cs := #[.int .i64 0, .int .i64 0, .int .i64 0, .int .i64 0, .int .i64 0, .int .i64 0, .int .i64 0, .int .i64 0]) ?_ 3 _ rfl; (with_reducible repeat (first | refine blk_drewN ?_ _ | refine blk_drew ?_ | refine blk_alloc ?_ _)); refine blk_put (cs := #[.int .i64 0, .int .i64 0, .int .i64 0, .int .i64 0, .int .i64 0, .int .i64 0, .int .i64 0, .int .i64 0]) ?_ 2 _ rfl; (with_reducible repeat (first | refine blk_drewN ?_ _ | refine blk_drew ?_ | refine blk_alloc ?_ _)); refine blk_put (cs := #[.int .i64 0, .int .i64 0, .int .i64 0, .int .i64 0, .int .i64 0, .int .i64 0, .int .i64 0, .int .i64 0]) ?_ 1 _ rfl; (with_reducible repeat (first | refine blk_drewN ?_ _ | refine blk_drew ?_ | refine blk_alloc ?_ _)); refine blk_put (cs := #[.int .i64 0, .int .i64 0, .int .i64 0, .int .i64 0, .int .i64 0, .int .i64 0, .int .i64 0, .int .i64 0]) ?_ 0 _ rfl; (with_reducible repeat (first | refine blk_drewN ?_ _ | refine blk_drew ?_ | refine blk_alloc ?_ _)); exact BK117.out) Tryd.underlying54 rfl (by kernel_rfl)) rfl ?_
          exact ⟨by first | rfl | (simp [errW_none, errW_some] <;> rfl) | (simp [*, errW_none, errW_some] <;> rfl), by repeat (first | (with_reducible first | exact HB.out | apply below_alloc | apply pw_below_drewN | apply below_drew1 | refine below_set ?_ GE115.out | refine below_set ?_ GE116.out | refine below_set ?_ GE117.out) | exact HB.out)⟩

/-! ### sponsor_isWord: function 63 -/
def sponsor_isWord.f (k : Nat) (a0_0 : Int) (a0_1 : Int) (a0_2 : Int) (a0_3 : Int) (a0_4 : Int) (a0_5 : Int) (a0_6 : Int) (a0_7 : Int) : Option (Bool) := (join_Judge.f k a0_0 a0_1 a0_2 a0_3 a0_4 a0_5 a0_6 a0_7 0 1).bind fun bt122 => (some (bt122.2.2.2.2.2.2.2.2 != 1))
set_option maxHeartbeats 8000000 in
set_option maxRecDepth 100000 in
theorem sponsor_isWord.calls (k : Nat) (a0_0 : Int) (a0_1 : Int) (a0_2 : Int) (a0_3 : Int) (a0_4 : Int) (a0_5 : Int) (a0_6 : Int) (a0_7 : Int) (r : Bool) (w : World) (h : sponsor_isWord.f k a0_0 a0_1 a0_2 a0_3 a0_4 a0_5 a0_6 a0_7 = some r) :
    Calls Tryd.prog 63 #[.agg #[.int .i64 a0_0, .int .i64 a0_1, .int .i64 a0_2, .int .i64 a0_3, .int .i64 a0_4, .int .i64 a0_5, .int .i64 a0_6, .int .i64 a0_7]] w fun e w' => e = .returned (.bool r) ∧ Below w.heap.size w w' := by
  have hu54 := Tryd.underlying54
  have hu25 := Tryd.underlying25
  have HB := Aside0.mk (Below.refl w.heap.size w)
  have H : ((join_Judge.f k a0_0 a0_1 a0_2 a0_3 a0_4 a0_5 a0_6 a0_7 0 1).bind fun bt122 => (some (bt122.2.2.2.2.2.2.2.2 != 1))) = some r := h
  clear h
  replace H := Option.bind_eq_some_iff.mp H
  obtain ⟨⟨t122, t123, t124, t125, t126, t127, t128, t129, t130⟩, A20, H⟩ := H
  replace H : (some (t130 != 1)) = some r := H
  have A2 := Aside0.mk A20
  clear A20
  obtain rfl := Option.some.inj H
  go_enter Tryd.func63, Tryd.ntmps63
  go_wp2_with (first | ((with_reducible refine gate_dst (N := 1) rfl ?_); refine box_event ?hg (N := 1) ?hd (cs := #[.int .i64 a0_0, .int .i64 a0_1, .int .i64 a0_2, .int .i64 a0_3, .int .i64 a0_4, .int .i64 a0_5, .int .i64 a0_6, .int .i64 a0_7]) (t := 54) ?hr ?_; (case hd => rfl); (case hg => rfl); (case hr => first | (go_simp; done) | (go_simp; rfl)); intro gb121 hg w3 hbox hb; have n0_ := Aside0.mk (below_step (by repeat (first | (with_reducible first | exact HB.out | apply below_alloc | apply pw_below_drewN | apply below_drew1) | exact HB.out)) hb); have n1_ := Aside0.mk (hbox); have n2_ := Aside0.mk ((by rw [hg]; exact (below_size (by repeat (first | (with_reducible first | exact HB.out | apply below_alloc | apply pw_below_drewN | apply below_drew1) | exact HB.out))) : w.heap.size ≤ gb121)); have n3_ := Aside0.mk ((by rw [hg]; exact (below_size (by repeat (first | (with_reducible first | exact HB.out | apply below_alloc | apply pw_below_drewN | apply below_drew1) | exact HB.out))) : w.heap.size ≤ gb121)); clear HB; have HB := n0_; have BK121 := n1_; have GW121 := n2_; have GE121 := n3_; clear n0_ n1_ n2_ n3_; clear hb hbox hg; have hcz4_0 : w3.cell? ⟨gb121, 0, none⟩ = some (.int .i64 a0_0) := (blk_cell BK121.out 0).trans rfl; have hcz4_1 : w3.cell? ⟨gb121, 1, none⟩ = some (.int .i64 a0_1) := (blk_cell BK121.out 1).trans rfl; have hcz4_2 : w3.cell? ⟨gb121, 2, none⟩ = some (.int .i64 a0_2) := (blk_cell BK121.out 2).trans rfl; have hcz4_3 : w3.cell? ⟨gb121, 3, none⟩ = some (.int .i64 a0_3) := (blk_cell BK121.out 3).trans rfl; have hcz4_4 : w3.cell? ⟨gb121, 4, none⟩ = some (.int .i64 a0_4) := (blk_cell BK121.out 4).trans rfl; have hcz4_5 : w3.cell? ⟨gb121, 5, none⟩ = some (.int .i64 a0_5) := (blk_cell BK121.out 5).trans rfl; have hcz4_6 : w3.cell? ⟨gb121, 6, none⟩ = some (.int .i64 a0_6) := (blk_cell BK121.out 6).trans rfl; have hcz4_7 : w3.cell? ⟨gb121, 7, none⟩ = some (.int .i64 a0_7) := (blk_cell BK121.out 7).trans rfl; have hfz4_0 := blk_frozen BK121.out 0; have hfz4_1 := blk_frozen BK121.out 1; have hfz4_2 := blk_frozen BK121.out 2; have hfz4_3 := blk_frozen BK121.out 3; have hfz4_4 := blk_frozen BK121.out 4; have hfz4_5 := blk_frozen BK121.out 5; have hfz4_6 := blk_frozen BK121.out 6; have hfz4_7 := blk_frozen BK121.out 7) | ((with_reducible refine gate_callee (f := 41) rfl ?_); refine goesL_ (some 8) rfl rfl Tryd.func41 (by kernel_rfl) rfl #[.agg #[.int .i64 a0_0, .int .i64 a0_1, .int .i64 a0_2, .int .i64 a0_3, .int .i64 a0_4, .int .i64 a0_5, .int .i64 a0_6, .int .i64 a0_7], .agg #[.int .i64 0, .int .i64 1]] rfl (by (try simp only [List.map_toArray, List.map_cons, List.map_nil]); first | done | rfl | (simp only [List.length_drop, List.length_take]; rfl)) ?_; (with_reducible refine (join_Judge.calls k a0_0 a0_1 a0_2 a0_3 a0_4 a0_5 a0_6 a0_7 0 1 t122 t123 t124 t125 t126 t127 t128 t129 t130 _ A2.out).mono ?_); rintro e w5 ⟨rfl, hb⟩; refine ⟨_, rfl, ?_⟩; have n0_ := Aside0.mk (blk_below (g := gb121) (o := .cells #[.int .i64 a0_0, .int .i64 a0_1, .int .i64 a0_2, .int .i64 a0_3, .int .i64 a0_4, .int .i64 a0_5, .int .i64 a0_6, .int .i64 a0_7] 54 (0, 0)) (by (with_reducible repeat (first | refine blk_drewN ?_ _ | refine blk_drew ?_ | refine blk_alloc ?_ _)); exact BK121.out) hb); have n1_ := Aside0.mk (below_step (by repeat (first | (with_reducible first | exact HB.out | apply below_alloc | apply pw_below_drewN | apply below_drew1 | refine below_set ?_ GE121.out) | exact HB.out)) hb); clear BK121; clear HB; have BK121 := n0_; have HB := n1_; clear n0_ n1_; (try clear hb); (try clear hb2); (try clear hk); (try clear hi)) | ((with_reducible refine gate_dst (N := 3) rfl ?_); refine box_event ?hg (N := 3) ?hd (cs := #[.int .i64 0, .int .i64 0, .int .i64 0, .int .i64 0, .int .i64 0, .int .i64 0, .int .i64 0, .int .i64 0]) (t := 54) ?hr ?_; (case hd => rfl); (case hg => rfl); (case hr => first | (go_simp; done) | (go_simp; rfl)); intro gb131 hg w6 hbox hb; have n0_ := Aside0.mk (blk_below (g := gb121) (o := .cells #[.int .i64 a0_0, .int .i64 a0_1, .int .i64 a0_2, .int .i64 a0_3, .int .i64 a0_4, .int .i64 a0_5, .int .i64 a0_6, .int .i64 a0_7] 54 (0, 0)) (by (with_reducible repeat (first | refine blk_drewN ?_ _ | refine blk_drew ?_ | refine blk_alloc ?_ _)); exact BK121.out) hb); have n1_ := Aside0.mk (below_step (by repeat (first | (with_reducible first | exact HB.out | apply below_alloc | apply pw_below_drewN | apply below_drew1 | refine below_set ?_ GE121.out) | exact HB.out)) hb); have n2_ := Aside0.mk (hbox); have n3_ := Aside0.mk ((by rw [hg]; exact (below_size (by repeat (first | (with_reducible first | exact HB.out | apply below_alloc | apply pw_below_drewN | apply below_drew1 | refine below_set ?_ GE121.out) | exact HB.out))) : w.heap.size ≤ gb131)); have n4_ := Aside0.mk ((by rw [hg]; exact (below_size (by repeat (first | (with_reducible first | exact HB.out | apply below_alloc | apply pw_below_drewN | apply below_drew1 | refine below_set ?_ GE121.out) | exact HB.out))) : w.heap.size ≤ gb131)); have n5_ := Aside0.mk ((by rw [hg]; exact Nat.ne_of_lt (blk_lt (g := gb121) (o := .cells #[.int .i64 a0_0, .int .i64 a0_1, .int .i64 a0_2, .int .i64 a0_3, .int .i64 a0_4, .int .i64 a0_5, .int .i64 a0_6, .int .i64 a0_7] 54 (0, 0)) (by (with_reducible repeat (first | refine blk_drewN ?_ _ | refine blk_drew ?_ | refine blk_alloc ?_ _)); exact BK121.out)) : gb121 ≠ gb131)); have n6_ := Aside0.mk ((by rw [hg]; exact Nat.ne_of_gt (blk_lt (g := gb121) (o := .cells #[.int .i64 a0_0, .int .i64 a0_1, .int .i64 a0_2, .int .i64 a0_3, .int .i64 a0_4, .int .i64 a0_5, .int .i64 a0_6, .int .i64 a0_7] 54 (0, 0)) (by (with_reducible repeat (first | refine blk_drewN ?_ _ | refine blk_drew ?_ | refine blk_alloc ?_ _)); exact BK121.out)) : gb131 ≠ gb121)); clear BK121; clear HB; have BK121 := n0_; have HB := n1_; have BK131 := n2_; have GW131 := n3_; have GE131 := n4_; have NB121_131 := n5_; have NB131_121 := n6_; clear n0_ n1_ n2_ n3_ n4_ n5_ n6_; clear hb hbox hg; have hnb7 := NB131_121.out; have hnc7 := NB121_131.out; have hcz8_0 : w6.cell? ⟨gb131, 0, none⟩ = some (.int .i64 0) := (blk_cell BK131.out 0).trans rfl; have hcz8_1 : w6.cell? ⟨gb131, 1, none⟩ = some (.int .i64 0) := (blk_cell BK131.out 1).trans rfl; have hcz8_2 : w6.cell? ⟨gb131, 2, none⟩ = some (.int .i64 0) := (blk_cell BK131.out 2).trans rfl; have hcz8_3 : w6.cell? ⟨gb131, 3, none⟩ = some (.int .i64 0) := (blk_cell BK131.out 3).trans rfl; have hcz8_4 : w6.cell? ⟨gb131, 4, none⟩ = some (.int .i64 0) := (blk_cell BK131.out 4).trans rfl; have hcz8_5 : w6.cell? ⟨gb131, 5, none⟩ = some (.int .i64 0) := (blk_cell BK131.out 5).trans rfl; have hcz8_6 : w6.cell? ⟨gb131, 6, none⟩ = some (.int .i64 0) := (blk_cell BK131.out 6).trans rfl; have hcz8_7 : w6.cell? ⟨gb131, 7, none⟩ = some (.int .i64 0) := (blk_cell BK131.out 7).trans rfl; have hfz8_0 := blk_frozen BK131.out 0; have hfz8_1 := blk_frozen BK131.out 1; have hfz8_2 := blk_frozen BK131.out 2; have hfz8_3 := blk_frozen BK131.out 3; have hfz8_4 := blk_frozen BK131.out 4; have hfz8_5 := blk_frozen BK131.out 5; have hfz8_6 := blk_frozen BK131.out 6; have hfz8_7 := blk_frozen BK131.out 7))
  go_ret
  exact ⟨by first | rfl | (simp [errW_none, errW_some] <;> rfl) | (simp [*, errW_none, errW_some] <;> rfl), by repeat (first | (with_reducible first | exact HB.out | apply below_alloc | apply pw_below_drewN | apply below_drew1 | refine below_set ?_ GE121.out | refine below_set ?_ GE131.out) | exact HB.out)⟩

end Go.Proofs.YtncgeclkgmfppaaDoor.H
