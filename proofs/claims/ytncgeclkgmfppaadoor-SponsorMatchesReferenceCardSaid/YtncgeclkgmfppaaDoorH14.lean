/-
  What functions of the program compute, as plain functions, each with its contract: the call returns just that, from every memory that holds its arguments.
-/
import Derived.Test.YtncgeclkgmfppaaDoorH0
import Derived.Test.YtncgeclkgmfppaaDoorH12
import Derived.Test.YtncgeclkgmfppaaDoorH13
namespace Go.Proofs.YtncgeclkgmfppaaDoor.H
open Go.RowKit Go.Proofs.YtncgeclkgmfppaaDoorW.PrintWords Go.Proofs.YtncgeclkgmfppaaDoorW.PrintLast Go.Proofs.YtncgeclkgmfppaaDoorW.PrintMore
attribute [local go_sem] max2_int min2_int max_two min_two max_three min_three max_four min_four   -- for this text's walks alone
set_option linter.unusedVariables false
set_option linter.unusedSimpArgs false

/-! ### slotmeshref31_Hear: function 27 -/
mutual
def slotmeshref31_Hear.j0 : Nat → List (S68) → Int → Int → Bool → Int → Int → Int → Int → Int → Int → Int → Int → Option ((List (S68)) × Int)
  | 0, _, _, _, _, _, _, _, _, _, _, _, _ => none
  | k + 1, x0, x1, x3, x48, x178000, x178001, x178002, x178003, x178004, x178005, x178006, x178007 => if x48 = true then (some (([] : List (S68)), 1)) else ((slotmeshref31_Of.f k x0 x178001).bind fun bt180 => (if x178000 = 1 then (if bt180.2.2.2.2.2.2 = true then (slotmeshref31_Hear.j1 k x0 x1 x3 bt180.2.2.2.2.2.2 (decide (bt180.2.1 > x178003)) x178000 x178001 x178002 x178003 x178004 x178005 x178006 x178007 bt180.1 bt180.2.1 bt180.2.2.1 bt180.2.2.2.1 bt180.2.2.2.2.1 bt180.2.2.2.2.2.1) else (slotmeshref31_Hear.j1 k x0 x1 x3 bt180.2.2.2.2.2.2 false x178000 x178001 x178002 x178003 x178004 x178005 x178006 x178007 bt180.1 bt180.2.1 bt180.2.2.1 bt180.2.2.2.1 bt180.2.2.2.2.1 bt180.2.2.2.2.2.1)) else (if x178000 = 3 then (if bt180.2.2.2.2.2.2 = true then (if bt180.2.1 = x178003 then (slotmeshref31_Hear.j4 k x0 (bt180.2.2.1 != x178004) x178000 x178001 x178002 x178003 x178004 x178005 x178006 x178007 bt180.1 bt180.2.1 bt180.2.2.1 bt180.2.2.2.1 bt180.2.2.2.2.1 bt180.2.2.2.2.2.1) else (slotmeshref31_Hear.j4 k x0 true x178000 x178001 x178002 x178003 x178004 x178005 x178006 x178007 bt180.1 bt180.2.1 bt180.2.2.1 bt180.2.2.2.1 bt180.2.2.2.2.1 bt180.2.2.2.2.2.1)) else (slotmeshref31_Hear.j4 k x0 true x178000 x178001 x178002 x178003 x178004 x178005 x178006 x178007 bt180.1 bt180.2.1 bt180.2.2.1 bt180.2.2.2.1 bt180.2.2.2.2.1 bt180.2.2.2.2.2.1)) else (some (([] : List (S68)), 9)))))
def slotmeshref31_Hear.j1 : Nat → List (S68) → Int → Int → Bool → Bool → Int → Int → Int → Int → Int → Int → Int → Int → Int → Int → Int → Int → Bool → Int → Option ((List (S68)) × Int)
  | 0, _, _, _, _, _, _, _, _, _, _, _, _, _, _, _, _, _, _, _ => none
  | k + 1, x0, x1, x3, x13, x66, x178000, x178001, x178002, x178003, x178004, x178005, x178006, x178007, x188000, x188001, x188002, x188003, x188004, x188005 => if x66 = true then (some (([] : List (S68)), 14)) else (if x13 = true then (slotmeshref31_Hear.j2 k x0 x1 x3 x13 (x188001 == x178003) x178000 x178001 x178002 x178003 x178004 x178005 x178006 x178007 x188000 x188001 x188002 x188003 x188004 x188005) else (slotmeshref31_Hear.j2 k x0 x1 x3 x13 false x178000 x178001 x178002 x178003 x178004 x178005 x178006 x178007 x188000 x188001 x188002 x188003 x188004 x188005))
def slotmeshref31_Hear.j2 : Nat → List (S68) → Int → Int → Bool → Bool → Int → Int → Int → Int → Int → Int → Int → Int → Int → Int → Int → Int → Bool → Int → Option ((List (S68)) × Int)
  | 0, _, _, _, _, _, _, _, _, _, _, _, _, _, _, _, _, _, _, _ => none
  | k + 1, x0, x1, x3, x13, x74, x178000, x178001, x178002, x178003, x178004, x178005, x178006, x178007, x188000, x188001, x188002, x188003, x188004, x188005 => if x74 = true then ((slotmeshref31_With.f k x0 x188000 x188001 x188002 x188003 x188004 x188005).bind fun t188 => (some (t188, 0))) else (if x13 = true then (slotmeshref31_Hear.j3 k x0 x1 x3 false x178000 x178001 x178002 x178003 x178004 x178005 x178006 x178007) else (slotmeshref31_Hear.j3 k x0 x1 x3 (decide ((x0.length : Int) ≥ 4)) x178000 x178001 x178002 x178003 x178004 x178005 x178006 x178007))
def slotmeshref31_Hear.j3 : Nat → List (S68) → Int → Int → Bool → Int → Int → Int → Int → Int → Int → Int → Int → Option ((List (S68)) × Int)
  | 0, _, _, _, _, _, _, _, _, _, _, _, _ => none
  | k + 1, x0, x1, x3, x84, x178000, x178001, x178002, x178003, x178004, x178005, x178006, x178007 => if x84 = true then (some (([] : List (S68)), 10)) else ((slotmeshref31_Challenge.f k x1 x178001 x178003 x3).bind fun t191 => ((slotmeshref31_With.f k x0 x178001 x178003 t191 (wrap64 (x3 + 12)) false 0).bind fun t192 => (some (t192, 0))))
def slotmeshref31_Hear.j4 : Nat → List (S68) → Bool → Int → Int → Int → Int → Int → Int → Int → Int → Int → Int → Int → Int → Bool → Int → Option ((List (S68)) × Int)
  | 0, _, _, _, _, _, _, _, _, _, _, _, _, _, _, _, _ => none
  | k + 1, x0, x120, x178000, x178001, x178002, x178003, x178004, x178005, x178006, x178007, x188000, x188001, x188002, x188003, x188004, x188005 => if x120 = true then (some (([] : List (S68)), 4)) else ((slotmeshref31_With.f k x0 x188000 x188001 x188002 x188003 true x178005).bind fun t195 => (some (t195, 0)))
end
def slotmeshref31_Hear.f (k : Nat) (l0 : List (S68)) (a1 : Int) (a2_0 : Int) (a2_1 : Int) (a2_2 : Int) (a2_3 : Int) (a2_4 : Int) (a2_5 : Int) (a2_6 : Int) (a2_7 : Int) (a3 : Int) : Option ((List (S68)) × Int) := (slotmeshref31_Valid.f k l0).bind fun t178 => ((slotmeshref30_Formed.f a2_0 a2_1 a2_2 a2_3 a2_4 a2_5 a2_6 a2_7).bind fun t179 => (if t178 = true then (if t179 = true then (if a2_2 = a1 then (if a2_5 < 0 then (slotmeshref31_Hear.j0 k l0 a1 a3 true a2_0 a2_1 a2_2 a2_3 a2_4 a2_5 a2_6 a2_7) else (if a2_5 > 2000000 then (slotmeshref31_Hear.j0 k l0 a1 a3 true a2_0 a2_1 a2_2 a2_3 a2_4 a2_5 a2_6 a2_7) else (if a3 < 0 then (slotmeshref31_Hear.j0 k l0 a1 a3 true a2_0 a2_1 a2_2 a2_3 a2_4 a2_5 a2_6 a2_7) else (slotmeshref31_Hear.j0 k l0 a1 a3 (decide (a3 > 999999988)) a2_0 a2_1 a2_2 a2_3 a2_4 a2_5 a2_6 a2_7)))) else (slotmeshref31_Hear.j0 k l0 a1 a3 true a2_0 a2_1 a2_2 a2_3 a2_4 a2_5 a2_6 a2_7)) else (slotmeshref31_Hear.j0 k l0 a1 a3 true a2_0 a2_1 a2_2 a2_3 a2_4 a2_5 a2_6 a2_7)) else (slotmeshref31_Hear.j0 k l0 a1 a3 true a2_0 a2_1 a2_2 a2_3 a2_4 a2_5 a2_6 a2_7)))
set_option maxHeartbeats 8000000 in
set_option maxRecDepth 100000 in
theorem slotmeshref31_Hear.calls (k : Nat) (A0 : Option Addr) (c0 : Nat) (l0 : List (S68)) (a1 : Int) (a2_0 : Int) (a2_1 : Int) (a2_2 : Int) (a2_3 : Int) (a2_4 : Int) (a2_5 : Int) (a2_6 : Int) (a2_7 : Int) (a3 : Int) (r1 : List (S68)) (r2 : Int) (w : World) (hr0 : Kd.C k68 w A0 l0.length l0) (hc0 : l0.length ≤ c0) (h : slotmeshref31_Hear.f k l0 a1 a2_0 a2_1 a2_2 a2_3 a2_4 a2_5 a2_6 a2_7 a3 = some (r1, r2)) :
    Calls Tryd.prog 27 #[.slice A0 l0.length c0, .int .i64 a1, .agg #[.int .i64 a2_0, .int .i64 a2_1, .int .i64 a2_2, .int .i64 a2_3, .int .i64 a2_4, .int .i64 a2_5, .int .i64 a2_6, .int .i64 a2_7], .int .i64 a3] w fun e w' => ∃ v0_ : Value, e = .returned (.tuple #[v0_, .int .i64 r2]) ∧ Kd.R k68 68 w' w.heap.size (fun _ => True) v0_ r1 ∧ Below w.heap.size w w' := by
  have hu54 := Tryd.underlying54
  have hu68 := Tryd.underlying68
  have HR0 := Aside0.mk hr0
  have HC0 := Aside0.mk hc0
  clear hr0 hc0
  have HB := Aside0.mk (Below.refl w.heap.size w)
  have H : ((slotmeshref31_Valid.f k l0).bind fun t178 => ((slotmeshref30_Formed.f a2_0 a2_1 a2_2 a2_3 a2_4 a2_5 a2_6 a2_7).bind fun t179 => (if t178 = true then (if t179 = true then (if a2_2 = a1 then (if a2_5 < 0 then (slotmeshref31_Hear.j0 k l0 a1 a3 true a2_0 a2_1 a2_2 a2_3 a2_4 a2_5 a2_6 a2_7) else (if a2_5 > 2000000 then (slotmeshref31_Hear.j0 k l0 a1 a3 true a2_0 a2_1 a2_2 a2_3 a2_4 a2_5 a2_6 a2_7) else (if a3 < 0 then (slotmeshref31_Hear.j0 k l0 a1 a3 true a2_0 a2_1 a2_2 a2_3 a2_4 a2_5 a2_6 a2_7) else (slotmeshref31_Hear.j0 k l0 a1 a3 (decide (a3 > 999999988)) a2_0 a2_1 a2_2 a2_3 a2_4 a2_5 a2_6 a2_7)))) else (slotmeshref31_Hear.j0 k l0 a1 a3 true a2_0 a2_1 a2_2 a2_3 a2_4 a2_5 a2_6 a2_7)) else (slotmeshref31_Hear.j0 k l0 a1 a3 true a2_0 a2_1 a2_2 a2_3 a2_4 a2_5 a2_6 a2_7)) else (slotmeshref31_Hear.j0 k l0 a1 a3 true a2_0 a2_1 a2_2 a2_3 a2_4 a2_5 a2_6 a2_7)))) = some (r1, r2) := h
  clear h
  replace H := Option.bind_eq_some_iff.mp H
  obtain ⟨t178, A50, H⟩ := H
  replace H : ((slotmeshref30_Formed.f a2_0 a2_1 a2_2 a2_3 a2_4 a2_5 a2_6 a2_7).bind fun t179 => (if t178 = true then (if t179 = true then (if a2_2 = a1 then (if a2_5 < 0 then (slotmeshref31_Hear.j0 k l0 a1 a3 true a2_0 a2_1 a2_2 a2_3 a2_4 a2_5 a2_6 a2_7) else (if a2_5 > 2000000 then (slotmeshref31_Hear.j0 k l0 a1 a3 true a2_0 a2_1 a2_2 a2_3 a2_4 a2_5 a2_6 a2_7) else (if a3 < 0 then (slotmeshref31_Hear.j0 k l0 a1 a3 true a2_0 a2_1 a2_2 a2_3 a2_4 a2_5 a2_6 a2_7) else (slotmeshref31_Hear.j0 k l0 a1 a3 (decide (a3 > 999999988)) a2_0 a2_1 a2_2 a2_3 a2_4 a2_5 a2_6 a2_7)))) else (slotmeshref31_Hear.j0 k l0 a1 a3 true a2_0 a2_1 a2_2 a2_3 a2_4 a2_5 a2_6 a2_7)) else (slotmeshref31_Hear.j0 k l0 a1 a3 true a2_0 a2_1 a2_2 a2_3 a2_4 a2_5 a2_6 a2_7)) else (slotmeshref31_Hear.j0 k l0 a1 a3 true a2_0 a2_1 a2_2 a2_3 a2_4 a2_5 a2_6 a2_7))) = some (r1, r2) := H
  have A5 := Aside0.mk A50
  clear A50
  replace H := Option.bind_eq_some_iff.mp H
  obtain ⟨t179, A60, H⟩ := H
  replace H : (if t178 = true then (if t179 = true then (if a2_2 = a1 then (if a2_5 < 0 then (slotmeshref31_Hear.j0 k l0 a1 a3 true a2_0 a2_1 a2_2 a2_3 a2_4 a2_5 a2_6 a2_7) else (if a2_5 > 2000000 then (slotmeshref31_Hear.j0 k l0 a1 a3 true a2_0 a2_1 a2_2 a2_3 a2_4 a2_5 a2_6 a2_7) else (if a3 < 0 then (slotmeshref31_Hear.j0 k l0 a1 a3 true a2_0 a2_1 a2_2 a2_3 a2_4 a2_5 a2_6 a2_7) else (slotmeshref31_Hear.j0 k l0 a1 a3 (decide (a3 > 999999988)) a2_0 a2_1 a2_2 a2_3 a2_4 a2_5 a2_6 a2_7)))) else (slotmeshref31_Hear.j0 k l0 a1 a3 true a2_0 a2_1 a2_2 a2_3 a2_4 a2_5 a2_6 a2_7)) else (slotmeshref31_Hear.j0 k l0 a1 a3 true a2_0 a2_1 a2_2 a2_3 a2_4 a2_5 a2_6 a2_7)) else (slotmeshref31_Hear.j0 k l0 a1 a3 true a2_0 a2_1 a2_2 a2_3 a2_4 a2_5 a2_6 a2_7)) = some (r1, r2) := H
  have A6 := Aside0.mk A60
  clear A60
  have HC7 := Aside0.mk H
  clear H
  go_enter Tryd.func27, Tryd.ntmps27
  go_upto_region 3 with (first | ((with_reducible refine gate_dst (N := 6) rfl ?_); (try (refine gate_guard (by rfl) ?_; dsimp only)); refine box_event ?hg (N := 6) ?hd (cs := #[.int .i64 a2_0, .int .i64 a2_1, .int .i64 a2_2, .int .i64 a2_3, .int .i64 a2_4, .int .i64 a2_5, .int .i64 a2_6, .int .i64 a2_7]) (t := 54) ?hr ?_; (case hd => rfl); (case hg => rfl); (case hr => first | (go_simp; done) | (go_simp; rfl)); intro gb177 hg w8 hbox hb; have n0_ := Aside0.mk (below_step (by repeat (first | (with_reducible first | exact HB.out | apply below_alloc | apply pw_below_drewN | apply below_drew1) | exact HB.out)) hb); have n1_ := Aside0.mk (hbox); have n2_ := Aside0.mk ((by rw [hg]; exact (below_size (by repeat (first | (with_reducible first | exact HB.out | apply below_alloc | apply pw_below_drewN | apply below_drew1) | exact HB.out))) : w.heap.size ≤ gb177)); have n3_ := Aside0.mk ((by rw [hg]; exact (below_size (by repeat (first | (with_reducible first | exact HB.out | apply below_alloc | apply pw_below_drewN | apply below_drew1) | exact HB.out))) : w.heap.size ≤ gb177)); clear HB; have HB := n0_; have BK177 := n1_; have GW177 := n2_; have GE177 := n3_; clear n0_ n1_ n2_ n3_; clear hb hbox hg) | ((with_reducible refine gate_callee (f := 29) rfl ?_); refine goesL_ (some 16) rfl rfl Tryd.func29 (by kernel_rfl) rfl #[.slice A0 l0.length c0] rfl (by (try simp only [List.map_toArray, List.map_cons, List.map_nil]); first | done | rfl | (simp only [List.length_drop, List.length_take]; rfl)) ?_; (with_reducible refine (slotmeshref31_Valid.calls k _ _ l0 t178 _ ?side1 ?side2 A5.out).mono ?_); (case side1 => repeat (first | exact (Kd.C_below HR0.out HB.out) | (with_reducible refine Kd.C_alloc ?_ _) | (with_reducible refine Kd.C_drewN ?_ _) | (with_reducible refine Kd.C_drew ?_))); (case side2 => exact HC0.out); rintro e w9 ⟨rfl, hb⟩; refine ⟨_, rfl, ?_⟩; have n0_ := Aside0.mk (blk_below (g := gb177) (o := .cells #[.int .i64 a2_0, .int .i64 a2_1, .int .i64 a2_2, .int .i64 a2_3, .int .i64 a2_4, .int .i64 a2_5, .int .i64 a2_6, .int .i64 a2_7] 54 (0, 0)) (by (with_reducible repeat (first | refine blk_drewN ?_ _ | refine blk_drew ?_ | refine blk_alloc ?_ _)); exact BK177.out) hb); have n1_ := Aside0.mk (below_step (by repeat (first | (with_reducible first | exact HB.out | apply below_alloc | apply pw_below_drewN | apply below_drew1 | refine below_set ?_ GE177.out) | exact HB.out)) hb); clear BK177; clear HB; have BK177 := n0_; have HB := n1_; clear n0_ n1_; (try clear hb); (try clear hb2); (try clear hk); (try clear hi); have hcz10_0 : w9.cell? ⟨gb177, 0, none⟩ = some (.int .i64 a2_0) := (blk_cell BK177.out 0).trans rfl; have hcz10_1 : w9.cell? ⟨gb177, 1, none⟩ = some (.int .i64 a2_1) := (blk_cell BK177.out 1).trans rfl; have hcz10_2 : w9.cell? ⟨gb177, 2, none⟩ = some (.int .i64 a2_2) := (blk_cell BK177.out 2).trans rfl; have hcz10_3 : w9.cell? ⟨gb177, 3, none⟩ = some (.int .i64 a2_3) := (blk_cell BK177.out 3).trans rfl; have hcz10_4 : w9.cell? ⟨gb177, 4, none⟩ = some (.int .i64 a2_4) := (blk_cell BK177.out 4).trans rfl; have hcz10_5 : w9.cell? ⟨gb177, 5, none⟩ = some (.int .i64 a2_5) := (blk_cell BK177.out 5).trans rfl; have hcz10_6 : w9.cell? ⟨gb177, 6, none⟩ = some (.int .i64 a2_6) := (blk_cell BK177.out 6).trans rfl; have hcz10_7 : w9.cell? ⟨gb177, 7, none⟩ = some (.int .i64 a2_7) := (blk_cell BK177.out 7).trans rfl; have hfz10_0 := blk_frozen BK177.out 0; have hfz10_1 := blk_frozen BK177.out 1; have hfz10_2 := blk_frozen BK177.out 2; have hfz10_3 := blk_frozen BK177.out 3; have hfz10_4 := blk_frozen BK177.out 4; have hfz10_5 := blk_frozen BK177.out 5; have hfz10_6 := blk_frozen BK177.out 6; have hfz10_7 := blk_frozen BK177.out 7) | ((with_reducible refine gate_callee (f := 68) rfl ?_); refine goesL_ (some 18) rfl rfl Tryd.func68 (by kernel_rfl) rfl #[.agg #[.int .i64 a2_0, .int .i64 a2_1, .int .i64 a2_2, .int .i64 a2_3, .int .i64 a2_4, .int .i64 a2_5, .int .i64 a2_6, .int .i64 a2_7]] rfl (by (try simp only [List.map_toArray, List.map_cons, List.map_nil]); first | done | rfl | (simp only [List.length_drop, List.length_take]; rfl)) ?_; (with_reducible refine (slotmeshref30_Formed.calls a2_0 a2_1 a2_2 a2_3 a2_4 a2_5 a2_6 a2_7 t179 _ A6.out).mono ?_); rintro e w11 ⟨rfl, hb⟩; refine ⟨_, rfl, ?_⟩; have n0_ := Aside0.mk (blk_below (g := gb177) (o := .cells #[.int .i64 a2_0, .int .i64 a2_1, .int .i64 a2_2, .int .i64 a2_3, .int .i64 a2_4, .int .i64 a2_5, .int .i64 a2_6, .int .i64 a2_7] 54 (0, 0)) (by (with_reducible repeat (first | refine blk_drewN ?_ _ | refine blk_drew ?_ | refine blk_alloc ?_ _)); exact BK177.out) hb); have n1_ := Aside0.mk (below_step (by repeat (first | (with_reducible first | exact HB.out | apply below_alloc | apply pw_below_drewN | apply below_drew1 | refine below_set ?_ GE177.out) | exact HB.out)) hb); clear BK177; clear HB; have BK177 := n0_; have HB := n1_; clear n0_ n1_; (try clear hb); (try clear hb2); (try clear hk); (try clear hi)))
  (try simp only [Act.put, List.setIfInBounds_toArray, List.set_cons_zero, List.set_cons_succ])
  go_cut [48] (fun v48 wc => ∃ (kq : Nat) (x48_6 : Bool), v48 = .bool x48_6 ∧ Aside0 (slotmeshref31_Hear.j0 kq l0 a1 a3 x48_6 a2_0 a2_1 a2_2 a2_3 a2_4 a2_5 a2_6 a2_7 = some (r1, r2)) ∧ Aside0 (kq ≤ k) ∧ Aside0 (wc.heap[gb177]? = some (.cells #[.int .i64 a2_0, .int .i64 a2_1, .int .i64 a2_2, .int .i64 a2_3, .int .i64 a2_4, .int .i64 a2_5, .int .i64 a2_6, .int .i64 a2_7] 54 (0, 0))) ∧ Aside0 (Below w.heap.size w wc))
  case first =>
    have H := HC7.out
    clear HC7
    by_cases c12 : t178 = true
    · subst c12
      have H1 : (if t179 = true then (if a2_2 = a1 then (if a2_5 < 0 then (slotmeshref31_Hear.j0 k l0 a1 a3 true a2_0 a2_1 a2_2 a2_3 a2_4 a2_5 a2_6 a2_7) else (if a2_5 > 2000000 then (slotmeshref31_Hear.j0 k l0 a1 a3 true a2_0 a2_1 a2_2 a2_3 a2_4 a2_5 a2_6 a2_7) else (if a3 < 0 then (slotmeshref31_Hear.j0 k l0 a1 a3 true a2_0 a2_1 a2_2 a2_3 a2_4 a2_5 a2_6 a2_7) else (slotmeshref31_Hear.j0 k l0 a1 a3 (decide (a3 > 999999988)) a2_0 a2_1 a2_2 a2_3 a2_4 a2_5 a2_6 a2_7)))) else (slotmeshref31_Hear.j0 k l0 a1 a3 true a2_0 a2_1 a2_2 a2_3 a2_4 a2_5 a2_6 a2_7)) else (slotmeshref31_Hear.j0 k l0 a1 a3 true a2_0 a2_1 a2_2 a2_3 a2_4 a2_5 a2_6 a2_7)) = some (r1, r2) := by rw [if_pos rfl] at H; exact H
      clear H
      have H := H1
      clear H1
      by_cases c13 : t179 = true
      · subst c13
        have H1 : (if a2_2 = a1 then (if a2_5 < 0 then (slotmeshref31_Hear.j0 k l0 a1 a3 true a2_0 a2_1 a2_2 a2_3 a2_4 a2_5 a2_6 a2_7) else (if a2_5 > 2000000 then (slotmeshref31_Hear.j0 k l0 a1 a3 true a2_0 a2_1 a2_2 a2_3 a2_4 a2_5 a2_6 a2_7) else (if a3 < 0 then (slotmeshref31_Hear.j0 k l0 a1 a3 true a2_0 a2_1 a2_2 a2_3 a2_4 a2_5 a2_6 a2_7) else (slotmeshref31_Hear.j0 k l0 a1 a3 (decide (a3 > 999999988)) a2_0 a2_1 a2_2 a2_3 a2_4 a2_5 a2_6 a2_7)))) else (slotmeshref31_Hear.j0 k l0 a1 a3 true a2_0 a2_1 a2_2 a2_3 a2_4 a2_5 a2_6 a2_7)) = some (r1, r2) := by rw [if_pos rfl] at H; exact H
        clear H
        have H := H1
        clear H1
        by_cases c14 : a2_2 = a1
        · rw [if_pos c14] at H
          have c14b0 : (a2_2 == a1) = true := beq_iff_eq.mpr c14
          have c14b1 : (a2_2 != a1) = false := bne_eq_false_iff_eq.mpr c14
          clear c14
          (first | rw [c14b0] | (simp only [i64_w, i32_w]; rw [c14b0]) | skip)
          by_cases c15 : a2_5 < 0
          · rw [if_pos c15] at H
            have c15b0 : decide (a2_5 < 0) = true := decide_eq_true c15
            clear c15
            have H' := Aside0.mk H
            clear H
            have hcz16_0 : w11.cell? ⟨gb177, 0, none⟩ = some (.int .i64 a2_0) := (blk_cell BK177.out 0).trans rfl
            have hcz16_1 : w11.cell? ⟨gb177, 1, none⟩ = some (.int .i64 a2_1) := (blk_cell BK177.out 1).trans rfl
            have hcz16_2 : w11.cell? ⟨gb177, 2, none⟩ = some (.int .i64 a2_2) := (blk_cell BK177.out 2).trans rfl
            have hcz16_3 : w11.cell? ⟨gb177, 3, none⟩ = some (.int .i64 a2_3) := (blk_cell BK177.out 3).trans rfl
            have hcz16_4 : w11.cell? ⟨gb177, 4, none⟩ = some (.int .i64 a2_4) := (blk_cell BK177.out 4).trans rfl
            have hcz16_5 : w11.cell? ⟨gb177, 5, none⟩ = some (.int .i64 a2_5) := (blk_cell BK177.out 5).trans rfl
            have hcz16_6 : w11.cell? ⟨gb177, 6, none⟩ = some (.int .i64 a2_6) := (blk_cell BK177.out 6).trans rfl
            have hcz16_7 : w11.cell? ⟨gb177, 7, none⟩ = some (.int .i64 a2_7) := (blk_cell BK177.out 7).trans rfl
            have hfz16_0 := blk_frozen BK177.out 0
            have hfz16_1 := blk_frozen BK177.out 1
            have hfz16_2 := blk_frozen BK177.out 2
            have hfz16_3 := blk_frozen BK177.out 3
            have hfz16_4 := blk_frozen BK177.out 4
            have hfz16_5 := blk_frozen BK177.out 5
            have hfz16_6 := blk_frozen BK177.out 6
            have hfz16_7 := blk_frozen BK177.out 7
            go_wp2
            go_meet
            case rel => exact ⟨_, (true), (by first | rfl | (simp; done) | (simp [*]; done)), H', ⟨by first | omega | exact Nat.le_refl _⟩, ⟨by (with_reducible repeat (first | refine blk_drewN ?_ _ | refine blk_drew ?_ | refine blk_alloc ?_ _)); exact BK177.out⟩, ⟨by repeat (first | (with_reducible first | exact HB.out | apply below_alloc | apply pw_below_drewN | apply below_drew1 | refine below_set ?_ GE177.out) | exact HB.out)⟩⟩
          · rw [if_neg c15] at H
            have c15b0 : decide (a2_5 < 0) = false := decide_eq_false c15
            clear c15
            by_cases c17 : a2_5 > 2000000
            · rw [if_pos c17] at H
              have c17b0 : decide (2000000 < a2_5) = true := decide_eq_true c17
              clear c17
              have H' := Aside0.mk H
              clear H
              have hcz18_0 : w11.cell? ⟨gb177, 0, none⟩ = some (.int .i64 a2_0) := (blk_cell BK177.out 0).trans rfl
              have hcz18_1 : w11.cell? ⟨gb177, 1, none⟩ = some (.int .i64 a2_1) := (blk_cell BK177.out 1).trans rfl
              have hcz18_2 : w11.cell? ⟨gb177, 2, none⟩ = some (.int .i64 a2_2) := (blk_cell BK177.out 2).trans rfl
              have hcz18_3 : w11.cell? ⟨gb177, 3, none⟩ = some (.int .i64 a2_3) := (blk_cell BK177.out 3).trans rfl
              have hcz18_4 : w11.cell? ⟨gb177, 4, none⟩ = some (.int .i64 a2_4) := (blk_cell BK177.out 4).trans rfl
              have hcz18_5 : w11.cell? ⟨gb177, 5, none⟩ = some (.int .i64 a2_5) := (blk_cell BK177.out 5).trans rfl
              have hcz18_6 : w11.cell? ⟨gb177, 6, none⟩ = some (.int .i64 a2_6) := (blk_cell BK177.out 6).trans rfl
              have hcz18_7 : w11.cell? ⟨gb177, 7, none⟩ = some (.int .i64 a2_7) := (blk_cell BK177.out 7).trans rfl
              have hfz18_0 := blk_frozen BK177.out 0
              have hfz18_1 := blk_frozen BK177.out 1
              have hfz18_2 := blk_frozen BK177.out 2
              have hfz18_3 := blk_frozen BK177.out 3
              have hfz18_4 := blk_frozen BK177.out 4
              have hfz18_5 := blk_frozen BK177.out 5
              have hfz18_6 := blk_frozen BK177.out 6
              have hfz18_7 := blk_frozen BK177.out 7
              go_wp2
              go_meet
              case rel => exact ⟨_, (true), (by first | rfl | (simp; done) | (simp [*]; done)), H', ⟨by first | omega | exact Nat.le_refl _⟩, ⟨by (with_reducible repeat (first | refine blk_drewN ?_ _ | refine blk_drew ?_ | refine blk_alloc ?_ _)); exact BK177.out⟩, ⟨by repeat (first | (with_reducible first | exact HB.out | apply below_alloc | apply pw_below_drewN | apply below_drew1 | refine below_set ?_ GE177.out) | exact HB.out)⟩⟩
            · rw [if_neg c17] at H
              have c17b0 : decide (2000000 < a2_5) = false := decide_eq_false c17
              clear c17
              by_cases c19 : a3 < 0
              · rw [if_pos c19] at H
                have c19b0 : decide (a3 < 0) = true := decide_eq_true c19
                clear c19
                have H' := Aside0.mk H
                clear H
                have hcz20_0 : w11.cell? ⟨gb177, 0, none⟩ = some (.int .i64 a2_0) := (blk_cell BK177.out 0).trans rfl
                have hcz20_1 : w11.cell? ⟨gb177, 1, none⟩ = some (.int .i64 a2_1) := (blk_cell BK177.out 1).trans rfl
                have hcz20_2 : w11.cell? ⟨gb177, 2, none⟩ = some (.int .i64 a2_2) := (blk_cell BK177.out 2).trans rfl
                have hcz20_3 : w11.cell? ⟨gb177, 3, none⟩ = some (.int .i64 a2_3) := (blk_cell BK177.out 3).trans rfl
                have hcz20_4 : w11.cell? ⟨gb177, 4, none⟩ = some (.int .i64 a2_4) := (blk_cell BK177.out 4).trans rfl
                have hcz20_5 : w11.cell? ⟨gb177, 5, none⟩ = some (.int .i64 a2_5) := (blk_cell BK177.out 5).trans rfl
                have hcz20_6 : w11.cell? ⟨gb177, 6, none⟩ = some (.int .i64 a2_6) := (blk_cell BK177.out 6).trans rfl
                have hcz20_7 : w11.cell? ⟨gb177, 7, none⟩ = some (.int .i64 a2_7) := (blk_cell BK177.out 7).trans rfl
                have hfz20_0 := blk_frozen BK177.out 0
                have hfz20_1 := blk_frozen BK177.out 1
                have hfz20_2 := blk_frozen BK177.out 2
                have hfz20_3 := blk_frozen BK177.out 3
                have hfz20_4 := blk_frozen BK177.out 4
                have hfz20_5 := blk_frozen BK177.out 5
                have hfz20_6 := blk_frozen BK177.out 6
                have hfz20_7 := blk_frozen BK177.out 7
                go_wp2
                go_meet
                case rel => exact ⟨_, (true), (by first | rfl | (simp; done) | (simp [*]; done)), H', ⟨by first | omega | exact Nat.le_refl _⟩, ⟨by (with_reducible repeat (first | refine blk_drewN ?_ _ | refine blk_drew ?_ | refine blk_alloc ?_ _)); exact BK177.out⟩, ⟨by repeat (first | (with_reducible first | exact HB.out | apply below_alloc | apply pw_below_drewN | apply below_drew1 | refine below_set ?_ GE177.out) | exact HB.out)⟩⟩
              · rw [if_neg c19] at H
                have c19b0 : decide (a3 < 0) = false := decide_eq_false c19
                clear c19
                have H' := Aside0.mk H
                clear H
                have hcz21_0 : w11.cell? ⟨gb177, 0, none⟩ = some (.int .i64 a2_0) := (blk_cell BK177.out 0).trans rfl
                have hcz21_1 : w11.cell? ⟨gb177, 1, none⟩ = some (.int .i64 a2_1) := (blk_cell BK177.out 1).trans rfl
                have hcz21_2 : w11.cell? ⟨gb177, 2, none⟩ = some (.int .i64 a2_2) := (blk_cell BK177.out 2).trans rfl
                have hcz21_3 : w11.cell? ⟨gb177, 3, none⟩ = some (.int .i64 a2_3) := (blk_cell BK177.out 3).trans rfl
                have hcz21_4 : w11.cell? ⟨gb177, 4, none⟩ = some (.int .i64 a2_4) := (blk_cell BK177.out 4).trans rfl
                have hcz21_5 : w11.cell? ⟨gb177, 5, none⟩ = some (.int .i64 a2_5) := (blk_cell BK177.out 5).trans rfl
                have hcz21_6 : w11.cell? ⟨gb177, 6, none⟩ = some (.int .i64 a2_6) := (blk_cell BK177.out 6).trans rfl
                have hcz21_7 : w11.cell? ⟨gb177, 7, none⟩ = some (.int .i64 a2_7) := (blk_cell BK177.out 7).trans rfl
                have hfz21_0 := blk_frozen BK177.out 0
                have hfz21_1 := blk_frozen BK177.out 1
                have hfz21_2 := blk_frozen BK177.out 2
                have hfz21_3 := blk_frozen BK177.out 3
                have hfz21_4 := blk_frozen BK177.out 4
                have hfz21_5 := blk_frozen BK177.out 5
                have hfz21_6 := blk_frozen BK177.out 6
                have hfz21_7 := blk_frozen BK177.out 7
                go_wp2
                go_meet
                case rel => exact ⟨_, (decide (a3 > 999999988)), (by first | rfl | (simp; done) | (simp [*]; done)), H', ⟨by first | omega | exact Nat.le_refl _⟩, ⟨by (with_reducible repeat (first | refine blk_drewN ?_ _ | refine blk_drew ?_ | refine blk_alloc ?_ _)); exact BK177.out⟩, ⟨by repeat (first | (with_reducible first | exact HB.out | apply below_alloc | apply pw_below_drewN | apply below_drew1 | refine below_set ?_ GE177.out) | exact HB.out)⟩⟩
        · rw [if_neg c14] at H
          have c14b0 : (a2_2 == a1) = false := beq_eq_false_iff_ne.mpr c14
          have c14b1 : (a2_2 != a1) = true := bne_iff_ne.mpr c14
          (first | rw [c14b0] | (simp only [i64_w, i32_w]; rw [c14b0]) | skip)
          have H' := Aside0.mk H
          clear H
          have hcz22_0 : w11.cell? ⟨gb177, 0, none⟩ = some (.int .i64 a2_0) := (blk_cell BK177.out 0).trans rfl
          have hcz22_1 : w11.cell? ⟨gb177, 1, none⟩ = some (.int .i64 a2_1) := (blk_cell BK177.out 1).trans rfl
          have hcz22_2 : w11.cell? ⟨gb177, 2, none⟩ = some (.int .i64 a2_2) := (blk_cell BK177.out 2).trans rfl
          have hcz22_3 : w11.cell? ⟨gb177, 3, none⟩ = some (.int .i64 a2_3) := (blk_cell BK177.out 3).trans rfl
          have hcz22_4 : w11.cell? ⟨gb177, 4, none⟩ = some (.int .i64 a2_4) := (blk_cell BK177.out 4).trans rfl
          have hcz22_5 : w11.cell? ⟨gb177, 5, none⟩ = some (.int .i64 a2_5) := (blk_cell BK177.out 5).trans rfl
          have hcz22_6 : w11.cell? ⟨gb177, 6, none⟩ = some (.int .i64 a2_6) := (blk_cell BK177.out 6).trans rfl
          have hcz22_7 : w11.cell? ⟨gb177, 7, none⟩ = some (.int .i64 a2_7) := (blk_cell BK177.out 7).trans rfl
          have hfz22_0 := blk_frozen BK177.out 0
          have hfz22_1 := blk_frozen BK177.out 1
          have hfz22_2 := blk_frozen BK177.out 2
          have hfz22_3 := blk_frozen BK177.out 3
          have hfz22_4 := blk_frozen BK177.out 4
          have hfz22_5 := blk_frozen BK177.out 5
          have hfz22_6 := blk_frozen BK177.out 6
          have hfz22_7 := blk_frozen BK177.out 7
          go_wp2
          go_meet
          case rel => exact ⟨_, (true), (by first | rfl | (simp; done) | (simp [*]; done)), H', ⟨by first | omega | exact Nat.le_refl _⟩, ⟨by (with_reducible repeat (first | refine blk_drewN ?_ _ | refine blk_drew ?_ | refine blk_alloc ?_ _)); exact BK177.out⟩, ⟨by repeat (first | (with_reducible first | exact HB.out | apply below_alloc | apply pw_below_drewN | apply below_drew1 | refine below_set ?_ GE177.out) | exact HB.out)⟩⟩
      · replace c13 := Bool.eq_false_iff.mpr c13
        subst c13
        have H1 : (slotmeshref31_Hear.j0 k l0 a1 a3 true a2_0 a2_1 a2_2 a2_3 a2_4 a2_5 a2_6 a2_7) = some (r1, r2) := by rw [if_neg (show ¬ (false = true) by decide)] at H; exact H
        clear H
        have H := H1
        clear H1
        have H' := Aside0.mk H
        clear H
        go_wp2
        go_meet
        case rel => exact ⟨_, (true), (by first | rfl | (simp; done) | (simp [*]; done)), H', ⟨by first | omega | exact Nat.le_refl _⟩, ⟨by (with_reducible repeat (first | refine blk_drewN ?_ _ | refine blk_drew ?_ | refine blk_alloc ?_ _)); exact BK177.out⟩, ⟨by repeat (first | (with_reducible first | exact HB.out | apply below_alloc | apply pw_below_drewN | apply below_drew1 | refine below_set ?_ GE177.out) | exact HB.out)⟩⟩
    · replace c12 := Bool.eq_false_iff.mpr c12
      subst c12
      have H1 : (slotmeshref31_Hear.j0 k l0 a1 a3 true a2_0 a2_1 a2_2 a2_3 a2_4 a2_5 a2_6 a2_7) = some (r1, r2) := by rw [if_neg (show ¬ (false = true) by decide)] at H; exact H
      clear H
      have H := H1
      clear H1
      have H' := Aside0.mk H
      clear H
      go_wp2
      go_meet
      case rel => exact ⟨_, (true), (by first | rfl | (simp; done) | (simp [*]; done)), H', ⟨by first | omega | exact Nat.le_refl _⟩, ⟨by (with_reducible repeat (first | refine blk_drewN ?_ _ | refine blk_drew ?_ | refine blk_alloc ?_ _)); exact BK177.out⟩, ⟨by repeat (first | (with_reducible first | exact HB.out | apply below_alloc | apply pw_below_drewN | apply below_drew1 | refine below_set ?_ GE177.out) | exact HB.out)⟩⟩
  case rest =>
    clear HC7
    try clear c1
    try clear c2
    try clear p2
    try clear c6
    try clear c12
    try clear c13
    try clear c14
    try clear c14b0
    try clear c14b1
    try clear c15
    try clear c15b0
    try clear c17
    try clear c17b0
    try clear c19
    try clear c19b0
    try clear hcz10_0
    try clear hcz10_1
    try clear hcz10_2
    try clear hcz10_3
    try clear hcz10_4
    try clear hcz10_5
    try clear hcz10_6
    try clear hcz10_7
    try clear hcz16_0
    try clear hcz16_1
    try clear hcz16_2
    try clear hcz16_3
    try clear hcz16_4
    try clear hcz16_5
    try clear hcz16_6
    try clear hcz16_7
    try clear hcz18_0
    try clear hcz18_1
    try clear hcz18_2
    try clear hcz18_3
    try clear hcz18_4
    try clear hcz18_5
    try clear hcz18_6
    try clear hcz18_7
    try clear hcz20_0
    try clear hcz20_1
    try clear hcz20_2
    try clear hcz20_3
    try clear hcz20_4
    try clear hcz20_5
    try clear hcz20_6
    try clear hcz20_7
    try clear hcz21_0
    try clear hcz21_1
    try clear hcz21_2
    try clear hcz21_3
    try clear hcz21_4
    try clear hcz21_5
    try clear hcz21_6
    try clear hcz21_7
    try clear hcz22_0
    try clear hcz22_1
    try clear hcz22_2
    try clear hcz22_3
    try clear hcz22_4
    try clear hcz22_5
    try clear hcz22_6
    try clear hcz22_7
    try clear hfz10_0
    try clear hfz10_1
    try clear hfz10_2
    try clear hfz10_3
    try clear hfz10_4
    try clear hfz10_5
    try clear hfz10_6
    try clear hfz10_7
    try clear hfz16_0
    try clear hfz16_1
    try clear hfz16_2
    try clear hfz16_3
    try clear hfz16_4
    try clear hfz16_5
    try clear hfz16_6
    try clear hfz16_7
    try clear hfz18_0
    try clear hfz18_1
    try clear hfz18_2
    try clear hfz18_3
    try clear hfz18_4
    try clear hfz18_5
    try clear hfz18_6
    try clear hfz18_7
    try clear hfz20_0
    try clear hfz20_1
    try clear hfz20_2
    try clear hfz20_3
    try clear hfz20_4
    try clear hfz20_5
    try clear hfz20_6
    try clear hfz20_7
    try clear hfz21_0
    try clear hfz21_1
    try clear hfz21_2
    try clear hfz21_3
    try clear hfz21_4
    try clear hfz21_5
    try clear hfz21_6
    try clear hfz21_7
    try clear hfz22_0
    try clear hfz22_1
    try clear hfz22_2
    try clear hfz22_3
    try clear hfz22_4
    try clear hfz22_5
    try clear hfz22_6
    try clear hfz22_7
    obtain ⟨kq, x48_6, rfl, HA, HJ6, BK177, HB⟩ := hcut
    cases kq with
    | zero => exact absurd HA.out (by simp [slotmeshref31_Hear.j0])
    | succ kj6 =>
      have H := HA.out
      clear HA
      simp only [slotmeshref31_Hear.j0] at H
      by_cases c23 : x48_6 = true
      · subst c23
        have H1 : (some (([] : List (S68)), 1)) = some (r1, r2) := by rw [if_pos rfl] at H; exact H
        clear H
        have H := H1
        clear H1
        simp only [Option.some.injEq, Prod.mk.injEq] at H
        obtain ⟨rfl, rfl⟩ := H
        go_wp2
        go_ret2
        exact ⟨_, by first | rfl | (simp [errW_none, errW_some] <;> rfl) | (simp [*, errW_none, errW_some] <;> rfl), by first | exact Kd.R_nil _ _ _ _ _ | exact Kd.N_nil _ _ _ _ _ | exact Kd.V_nil _ _ _ _ _ | exact Kd.Q_nil _ _ _ _ _ | exact Kd.S_nil _ _ _ _ _, by repeat (first | (with_reducible first | exact HB.out | apply below_alloc | apply pw_below_drewN | apply below_drew1 | refine below_set ?_ GE177.out) | exact HB.out)⟩
      · replace c23 := Bool.eq_false_iff.mpr c23
        subst c23
        have H1 : ((slotmeshref31_Of.f kj6 l0 a2_1).bind fun bt180 => (if a2_0 = 1 then (if bt180.2.2.2.2.2.2 = true then (slotmeshref31_Hear.j1 kj6 l0 a1 a3 bt180.2.2.2.2.2.2 (decide (bt180.2.1 > a2_3)) a2_0 a2_1 a2_2 a2_3 a2_4 a2_5 a2_6 a2_7 bt180.1 bt180.2.1 bt180.2.2.1 bt180.2.2.2.1 bt180.2.2.2.2.1 bt180.2.2.2.2.2.1) else (slotmeshref31_Hear.j1 kj6 l0 a1 a3 bt180.2.2.2.2.2.2 false a2_0 a2_1 a2_2 a2_3 a2_4 a2_5 a2_6 a2_7 bt180.1 bt180.2.1 bt180.2.2.1 bt180.2.2.2.1 bt180.2.2.2.2.1 bt180.2.2.2.2.2.1)) else (if a2_0 = 3 then (if bt180.2.2.2.2.2.2 = true then (if bt180.2.1 = a2_3 then (slotmeshref31_Hear.j4 kj6 l0 (bt180.2.2.1 != a2_4) a2_0 a2_1 a2_2 a2_3 a2_4 a2_5 a2_6 a2_7 bt180.1 bt180.2.1 bt180.2.2.1 bt180.2.2.2.1 bt180.2.2.2.2.1 bt180.2.2.2.2.2.1) else (slotmeshref31_Hear.j4 kj6 l0 true a2_0 a2_1 a2_2 a2_3 a2_4 a2_5 a2_6 a2_7 bt180.1 bt180.2.1 bt180.2.2.1 bt180.2.2.2.1 bt180.2.2.2.2.1 bt180.2.2.2.2.2.1)) else (slotmeshref31_Hear.j4 kj6 l0 true a2_0 a2_1 a2_2 a2_3 a2_4 a2_5 a2_6 a2_7 bt180.1 bt180.2.1 bt180.2.2.1 bt180.2.2.2.1 bt180.2.2.2.2.1 bt180.2.2.2.2.2.1)) else (some (([] : List (S68)), 9))))) = some (r1, r2) := by rw [if_neg (show ¬ (false = true) by decide)] at H; exact H
        clear H
        have H := H1
        clear H1
        replace H := Option.bind_eq_some_iff.mp H
        obtain ⟨⟨t180, t181, t182, t183, t184, t185, t186⟩, A240, H⟩ := H
        replace H : (if a2_0 = 1 then (if t186 = true then (slotmeshref31_Hear.j1 kj6 l0 a1 a3 t186 (decide (t181 > a2_3)) a2_0 a2_1 a2_2 a2_3 a2_4 a2_5 a2_6 a2_7 t180 t181 t182 t183 t184 t185) else (slotmeshref31_Hear.j1 kj6 l0 a1 a3 t186 false a2_0 a2_1 a2_2 a2_3 a2_4 a2_5 a2_6 a2_7 t180 t181 t182 t183 t184 t185)) else (if a2_0 = 3 then (if t186 = true then (if t181 = a2_3 then (slotmeshref31_Hear.j4 kj6 l0 (t182 != a2_4) a2_0 a2_1 a2_2 a2_3 a2_4 a2_5 a2_6 a2_7 t180 t181 t182 t183 t184 t185) else (slotmeshref31_Hear.j4 kj6 l0 true a2_0 a2_1 a2_2 a2_3 a2_4 a2_5 a2_6 a2_7 t180 t181 t182 t183 t184 t185)) else (slotmeshref31_Hear.j4 kj6 l0 true a2_0 a2_1 a2_2 a2_3 a2_4 a2_5 a2_6 a2_7 t180 t181 t182 t183 t184 t185)) else (some (([] : List (S68)), 9)))) = some (r1, r2) := H
        have A24 := Aside0.mk A240
        clear A240
        by_cases c25 : a2_0 = 1
        · rw [if_pos c25] at H
          have c25b0 : (a2_0 == 1) = true := beq_iff_eq.mpr c25
          have c25b1 : (a2_0 != 1) = false := bne_eq_false_iff_eq.mpr c25
          clear c25
          have HC26 := Aside0.mk H
          clear H
          have hcz27_0 : wc.cell? ⟨gb177, 0, none⟩ = some (.int .i64 a2_0) := (blk_cell BK177.out 0).trans rfl
          have hcz27_1 : wc.cell? ⟨gb177, 1, none⟩ = some (.int .i64 a2_1) := (blk_cell BK177.out 1).trans rfl
          have hcz27_2 : wc.cell? ⟨gb177, 2, none⟩ = some (.int .i64 a2_2) := (blk_cell BK177.out 2).trans rfl
          have hcz27_3 : wc.cell? ⟨gb177, 3, none⟩ = some (.int .i64 a2_3) := (blk_cell BK177.out 3).trans rfl
          have hcz27_4 : wc.cell? ⟨gb177, 4, none⟩ = some (.int .i64 a2_4) := (blk_cell BK177.out 4).trans rfl
          have hcz27_5 : wc.cell? ⟨gb177, 5, none⟩ = some (.int .i64 a2_5) := (blk_cell BK177.out 5).trans rfl
          have hcz27_6 : wc.cell? ⟨gb177, 6, none⟩ = some (.int .i64 a2_6) := (blk_cell BK177.out 6).trans rfl
          have hcz27_7 : wc.cell? ⟨gb177, 7, none⟩ = some (.int .i64 a2_7) := (blk_cell BK177.out 7).trans rfl
          have hfz27_0 := blk_frozen BK177.out 0
          have hfz27_1 := blk_frozen BK177.out 1
          have hfz27_2 := blk_frozen BK177.out 2
          have hfz27_3 := blk_frozen BK177.out 3
          have hfz27_4 := blk_frozen BK177.out 4
          have hfz27_5 := blk_frozen BK177.out 5
          have hfz27_6 := blk_frozen BK177.out 6
          have hfz27_7 := blk_frozen BK177.out 7
          go_upto_region 7 with (first | ((with_reducible refine gate_callee (f := 38) rfl ?_); refine goesL_ (some 53) rfl rfl Tryd.func38 (by kernel_rfl) rfl #[.slice A0 l0.length c0, .int .i64 a2_1] rfl (by (try simp only [List.map_toArray, List.map_cons, List.map_nil]); first | done | rfl | (simp only [List.length_drop, List.length_take]; rfl)) ?_; (with_reducible refine (slotmeshref31_Of.calls kj6 _ _ l0 a2_1 t180 t181 t182 t183 t184 t185 t186 _ ?side1 ?side2 A24.out).mono ?_); (case side1 => repeat (first | exact (Kd.C_below HR0.out HB.out) | (with_reducible refine Kd.C_alloc ?_ _) | (with_reducible refine Kd.C_drewN ?_ _) | (with_reducible refine Kd.C_drew ?_))); (case side2 => exact HC0.out); rintro e w28 ⟨rfl, hb⟩; refine ⟨_, rfl, ?_⟩; have n0_ := Aside0.mk (blk_below (g := gb177) (o := .cells #[.int .i64 a2_0, .int .i64 a2_1, .int .i64 a2_2, .int .i64 a2_3, .int .i64 a2_4, .int .i64 a2_5, .int .i64 a2_6, .int .i64 a2_7] 54 (0, 0)) (by (with_reducible repeat (first | refine blk_drewN ?_ _ | refine blk_drew ?_ | refine blk_alloc ?_ _)); exact BK177.out) hb); have n1_ := Aside0.mk (below_step (by repeat (first | (with_reducible first | exact HB.out | apply below_alloc | apply pw_below_drewN | apply below_drew1 | refine below_set ?_ GE177.out) | exact HB.out)) hb); clear BK177; clear HB; have BK177 := n0_; have HB := n1_; clear n0_ n1_; (try clear hb); (try clear hb2); (try clear hk); (try clear hi)) | ((with_reducible refine gate_dst (N := 12) rfl ?_); (try (refine gate_guard (by rfl) ?_; dsimp only)); refine box_event ?hg (N := 12) ?hd (cs := #[.int .i64 0, .int .i64 0, .int .i64 0, .int .i64 0, .bool false, .int .i64 0]) (t := 68) ?hr ?_; (case hd => rfl); (case hg => rfl); (case hr => first | (go_simp; done) | (go_simp; rfl)); intro gb187 hg w29 hbox hb; have n0_ := Aside0.mk (blk_below (g := gb177) (o := .cells #[.int .i64 a2_0, .int .i64 a2_1, .int .i64 a2_2, .int .i64 a2_3, .int .i64 a2_4, .int .i64 a2_5, .int .i64 a2_6, .int .i64 a2_7] 54 (0, 0)) (by (with_reducible repeat (first | refine blk_drewN ?_ _ | refine blk_drew ?_ | refine blk_alloc ?_ _)); exact BK177.out) hb); have n1_ := Aside0.mk (below_step (by repeat (first | (with_reducible first | exact HB.out | apply below_alloc | apply pw_below_drewN | apply below_drew1 | refine below_set ?_ GE177.out) | exact HB.out)) hb); have n2_ := Aside0.mk (hbox); have n3_ := Aside0.mk ((by rw [hg]; exact (below_size (by repeat (first | (with_reducible first | exact HB.out | apply below_alloc | apply pw_below_drewN | apply below_drew1 | refine below_set ?_ GE177.out) | exact HB.out))) : w.heap.size ≤ gb187)); have n4_ := Aside0.mk ((by rw [hg]; exact (below_size (by repeat (first | (with_reducible first | exact HB.out | apply below_alloc | apply pw_below_drewN | apply below_drew1 | refine below_set ?_ GE177.out) | exact HB.out))) : w.heap.size ≤ gb187)); have n5_ := Aside0.mk ((by rw [hg]; exact Nat.ne_of_lt (blk_lt (g := gb177) (o := .cells #[.int .i64 a2_0, .int .i64 a2_1, .int .i64 a2_2, .int .i64 a2_3, .int .i64 a2_4, .int .i64 a2_5, .int .i64 a2_6, .int .i64 a2_7] 54 (0, 0)) (by (with_reducible repeat (first | refine blk_drewN ?_ _ | refine blk_drew ?_ | refine blk_alloc ?_ _)); exact BK177.out)) : gb177 ≠ gb187)); have n6_ := Aside0.mk ((by rw [hg]; exact Nat.ne_of_gt (blk_lt (g := gb177) (o := .cells #[.int .i64 a2_0, .int .i64 a2_1, .int .i64 a2_2, .int .i64 a2_3, .int .i64 a2_4, .int .i64 a2_5, .int .i64 a2_6, .int .i64 a2_7] 54 (0, 0)) (by (with_reducible repeat (first | refine blk_drewN ?_ _ | refine blk_drew ?_ | refine blk_alloc ?_ _)); exact BK177.out)) : gb187 ≠ gb177)); clear BK177; clear HB; have BK177 := n0_; have HB := n1_; have BK187 := n2_; have GW187 := n3_; have GE187 := n4_; have NB177_187 := n5_; have NB187_177 := n6_; clear n0_ n1_ n2_ n3_ n4_ n5_ n6_; clear hb hbox hg; have hnb30 := NB187_177.out; have hnc30 := NB177_187.out; have hcz31_0 : w29.cell? ⟨gb187, 0, none⟩ = some (.int .i64 0) := (blk_cell BK187.out 0).trans rfl; have hcz31_1 : w29.cell? ⟨gb187, 1, none⟩ = some (.int .i64 0) := (blk_cell BK187.out 1).trans rfl; have hcz31_2 : w29.cell? ⟨gb187, 2, none⟩ = some (.int .i64 0) := (blk_cell BK187.out 2).trans rfl; have hcz31_3 : w29.cell? ⟨gb187, 3, none⟩ = some (.int .i64 0) := (blk_cell BK187.out 3).trans rfl; have hcz31_4 : w29.cell? ⟨gb187, 4, none⟩ = some (.bool false) := (blk_cell BK187.out 4).trans rfl; have hcz31_5 : w29.cell? ⟨gb187, 5, none⟩ = some (.int .i64 0) := (blk_cell BK187.out 5).trans rfl; have hfz31_0 := blk_frozen BK187.out 0; have hfz31_1 := blk_frozen BK187.out 1; have hfz31_2 := blk_frozen BK187.out 2; have hfz31_3 := blk_frozen BK187.out 3; have hfz31_4 := blk_frozen BK187.out 4; have hfz31_5 := blk_frozen BK187.out 5; have hcz32_0 : w29.cell? ⟨gb177, 0, none⟩ = some (.int .i64 a2_0) := (blk_cell BK177.out 0).trans rfl; have hcz32_1 : w29.cell? ⟨gb177, 1, none⟩ = some (.int .i64 a2_1) := (blk_cell BK177.out 1).trans rfl; have hcz32_2 : w29.cell? ⟨gb177, 2, none⟩ = some (.int .i64 a2_2) := (blk_cell BK177.out 2).trans rfl; have hcz32_3 : w29.cell? ⟨gb177, 3, none⟩ = some (.int .i64 a2_3) := (blk_cell BK177.out 3).trans rfl; have hcz32_4 : w29.cell? ⟨gb177, 4, none⟩ = some (.int .i64 a2_4) := (blk_cell BK177.out 4).trans rfl; have hcz32_5 : w29.cell? ⟨gb177, 5, none⟩ = some (.int .i64 a2_5) := (blk_cell BK177.out 5).trans rfl; have hcz32_6 : w29.cell? ⟨gb177, 6, none⟩ = some (.int .i64 a2_6) := (blk_cell BK177.out 6).trans rfl; have hcz32_7 : w29.cell? ⟨gb177, 7, none⟩ = some (.int .i64 a2_7) := (blk_cell BK177.out 7).trans rfl; have hfz32_0 := blk_frozen BK177.out 0; have hfz32_1 := blk_frozen BK177.out 1; have hfz32_2 := blk_frozen BK177.out 2; have hfz32_3 := blk_frozen BK177.out 3; have hfz32_4 := blk_frozen BK177.out 4; have hfz32_5 := blk_frozen BK177.out 5; have hfz32_6 := blk_frozen BK177.out 6; have hfz32_7 := blk_frozen BK177.out 7))
          (try simp only [Act.put, List.setIfInBounds_toArray, List.set_cons_zero, List.set_cons_succ])
          go_cut [66] (fun v66 wc => ∃ (kq : Nat) (x66_25 : Bool), v66 = .bool x66_25 ∧ Aside0 (slotmeshref31_Hear.j1 kq l0 a1 a3 t186 x66_25 a2_0 a2_1 a2_2 a2_3 a2_4 a2_5 a2_6 a2_7 t180 t181 t182 t183 t184 t185 = some (r1, r2)) ∧ Aside0 (kq ≤ kj6) ∧ Aside0 (wc.heap[gb177]? = some (.cells #[.int .i64 a2_0, .int .i64 a2_1, .int .i64 a2_2, .int .i64 a2_3, .int .i64 a2_4, .int .i64 a2_5, .int .i64 a2_6, .int .i64 a2_7] 54 (0, 0))) ∧ Aside0 (wc.heap[gb187]? = some (.cells #[.int .i64 t180, .int .i64 t181, .int .i64 t182, .int .i64 t183, .bool t184, .int .i64 t185] 68 (0, 0))) ∧ Aside0 (Below w.heap.size w wc))
          case first =>
            have H := HC26.out
            clear HC26
            by_cases c33 : t186 = true
            · subst c33
              have H1 : (slotmeshref31_Hear.j1 kj6 l0 a1 a3 true (decide (t181 > a2_3)) a2_0 a2_1 a2_2 a2_3 a2_4 a2_5 a2_6 a2_7 t180 t181 t182 t183 t184 t185) = some (r1, r2) := by rw [if_pos rfl] at H; exact H
              clear H
              have H := H1
              clear H1
              have H' := Aside0.mk H
              clear H
              have hnb34 := NB187_177.out
              have hnc34 := NB177_187.out
              have hcz35_0 : w29.cell? ⟨gb187, 0, none⟩ = some (.int .i64 0) := (blk_cell BK187.out 0).trans rfl
              have hcz35_1 : w29.cell? ⟨gb187, 1, none⟩ = some (.int .i64 0) := (blk_cell BK187.out 1).trans rfl
              have hcz35_2 : w29.cell? ⟨gb187, 2, none⟩ = some (.int .i64 0) := (blk_cell BK187.out 2).trans rfl
              have hcz35_3 : w29.cell? ⟨gb187, 3, none⟩ = some (.int .i64 0) := (blk_cell BK187.out 3).trans rfl
              have hcz35_4 : w29.cell? ⟨gb187, 4, none⟩ = some (.bool false) := (blk_cell BK187.out 4).trans rfl
              have hcz35_5 : w29.cell? ⟨gb187, 5, none⟩ = some (.int .i64 0) := (blk_cell BK187.out 5).trans rfl
              have hfz35_0 := blk_frozen BK187.out 0
              have hfz35_1 := blk_frozen BK187.out 1
              have hfz35_2 := blk_frozen BK187.out 2
              have hfz35_3 := blk_frozen BK187.out 3
              have hfz35_4 := blk_frozen BK187.out 4
              have hfz35_5 := blk_frozen BK187.out 5
              have hcz36_0 : w29.cell? ⟨gb177, 0, none⟩ = some (.int .i64 a2_0) := (blk_cell BK177.out 0).trans rfl
              have hcz36_1 : w29.cell? ⟨gb177, 1, none⟩ = some (.int .i64 a2_1) := (blk_cell BK177.out 1).trans rfl
              have hcz36_2 : w29.cell? ⟨gb177, 2, none⟩ = some (.int .i64 a2_2) := (blk_cell BK177.out 2).trans rfl
              have hcz36_3 : w29.cell? ⟨gb177, 3, none⟩ = some (.int .i64 a2_3) := (blk_cell BK177.out 3).trans rfl
              have hcz36_4 : w29.cell? ⟨gb177, 4, none⟩ = some (.int .i64 a2_4) := (blk_cell BK177.out 4).trans rfl
              have hcz36_5 : w29.cell? ⟨gb177, 5, none⟩ = some (.int .i64 a2_5) := (blk_cell BK177.out 5).trans rfl
              have hcz36_6 : w29.cell? ⟨gb177, 6, none⟩ = some (.int .i64 a2_6) := (blk_cell BK177.out 6).trans rfl
              have hcz36_7 : w29.cell? ⟨gb177, 7, none⟩ = some (.int .i64 a2_7) := (blk_cell BK177.out 7).trans rfl
              have hfz36_0 := blk_frozen BK177.out 0
              have hfz36_1 := blk_frozen BK177.out 1
              have hfz36_2 := blk_frozen BK177.out 2
              have hfz36_3 := blk_frozen BK177.out 3
              have hfz36_4 := blk_frozen BK177.out 4
              have hfz36_5 := blk_frozen BK177.out 5
              have hfz36_6 := blk_frozen BK177.out 6
              have hfz36_7 := blk_frozen BK177.out 7
              go_wp2
              go_meet
              case rel => exact ⟨_, (decide (t181 > a2_3)), (by first | rfl | (simp; done) | (simp [*]; done)), H', ⟨by have := HJ6.out; first | omega | exact Nat.le_refl _⟩, ⟨by (with_reducible repeat (first | refine blk_drewN ?_ _ | refine blk_drew ?_ | refine blk_alloc ?_ _)); refine blk_far ?_ NB177_187.out _; (with_reducible repeat (first | refine blk_drewN ?_ _ | refine blk_drew ?_ | refine blk_alloc ?_ _)); refine blk_far ?_ NB177_187.out _; (with_reducible repeat (first | refine blk_drewN ?_ _ | refine blk_drew ?_ | refine blk_alloc ?_ _)); refine blk_far ?_ NB177_187.out _; (with_reducible repeat (first | refine blk_drewN ?_ _ | refine blk_drew ?_ | refine blk_alloc ?_ _)); refine blk_far ?_ NB177_187.out _; (with_reducible repeat (first | refine blk_drewN ?_ _ | refine blk_drew ?_ | refine blk_alloc ?_ _)); refine blk_far ?_ NB177_187.out _; (with_reducible repeat (first | refine blk_drewN ?_ _ | refine blk_drew ?_ | refine blk_alloc ?_ _)); refine blk_far ?_ NB177_187.out _; (with_reducible repeat (first | refine blk_drewN ?_ _ | refine blk_drew ?_ | refine blk_alloc ?_ _)); exact BK177.out⟩, ⟨by (with_reducible repeat (first | refine blk_drewN ?_ _ | refine blk_drew ?_ | refine blk_alloc ?_ _)); refine blk_put (cs := #[.int .i64 t180, .int .i64 t181, .int .i64 t182, .int .i64 t183, .bool t184, .int .i64 0]) ?_ 5 _ rfl; (with_reducible repeat (first | refine blk_drewN ?_ _ | refine blk_drew ?_ | refine blk_alloc ?_ _)); refine blk_put (cs := #[.int .i64 t180, .int .i64 t181, .int .i64 t182, .int .i64 t183, .bool false, .int .i64 0]) ?_ 4 _ rfl; (with_reducible repeat (first | refine blk_drewN ?_ _ | refine blk_drew ?_ | refine blk_alloc ?_ _)); refine blk_put (cs := #[.int .i64 t180, .int .i64 t181, .int .i64 t182, .int .i64 0, .bool false, .int .i64 0]) ?_ 3 _ rfl; (with_reducible repeat (first | refine blk_drewN ?_ _ | refine blk_drew ?_ | refine blk_alloc ?_ _)); refine blk_put (cs := #[.int .i64 t180, .int .i64 t181, .int .i64 0, .int .i64 0, .bool false, .int .i64 0]) ?_ 2 _ rfl; (with_reducible repeat (first | refine blk_drewN ?_ _ | refine blk_drew ?_ | refine blk_alloc ?_ _)); refine blk_put (cs := #[.int .i64 t180, .int .i64 0, .int .i64 0, .int .i64 0, .bool false, .int .i64 0]) ?_ 1 _ rfl; (with_reducible repeat (first | refine blk_drewN ?_ _ | refine blk_drew ?_ | refine blk_alloc ?_ _)); refine blk_put (cs := #[.int .i64 0, .int .i64 0, .int .i64 0, .int .i64 0, .bool false, .int .i64 0]) ?_ 0 _ rfl; (with_reducible repeat (first | refine blk_drewN ?_ _ | refine blk_drew ?_ | refine blk_alloc ?_ _)); exact BK187.out⟩, ⟨by repeat (first | (with_reducible first | exact HB.out | apply below_alloc | apply pw_below_drewN | apply below_drew1 | refine below_set ?_ GE177.out | refine below_set ?_ GE187.out) | exact HB.out)⟩⟩
            · replace c33 := Bool.eq_false_iff.mpr c33
              subst c33
              have H1 : (slotmeshref31_Hear.j1 kj6 l0 a1 a3 false false a2_0 a2_1 a2_2 a2_3 a2_4 a2_5 a2_6 a2_7 t180 t181 t182 t183 t184 t185) = some (r1, r2) := by rw [if_neg (show ¬ (false = true) by decide)] at H; exact H
              clear H
              have H := H1
              clear H1
              have H' := Aside0.mk H
              clear H
              go_wp2
              go_meet
              case rel => exact ⟨_, (false), (by first | rfl | (simp; done) | (simp [*]; done)), H', ⟨by have := HJ6.out; first | omega | exact Nat.le_refl _⟩, ⟨by (with_reducible repeat (first | refine blk_drewN ?_ _ | refine blk_drew ?_ | refine blk_alloc ?_ _)); refine blk_far ?_ NB177_187.out _; (with_reducible repeat (first | refine blk_drewN ?_ _ | refine blk_drew ?_ | refine blk_alloc ?_ _)); refine blk_far ?_ NB177_187.out _; (with_reducible repeat (first | refine blk_drewN ?_ _ | refine blk_drew ?_ | refine blk_alloc ?_ _)); refine blk_far ?_ NB177_187.out _; (with_reducible repeat (first | refine blk_drewN ?_ _ | refine blk_drew ?_ | refine blk_alloc ?_ _)); refine blk_far ?_ NB177_187.out _; (with_reducible repeat (first | refine blk_drewN ?_ _ | refine blk_drew ?_ | refine blk_alloc ?_ _)); refine blk_far ?_ NB177_187.out _; (with_reducible repeat (first | refine blk_drewN ?_ _ | refine blk_drew ?_ | refine blk_alloc ?_ _)); refine blk_far ?_ NB177_187.out _; (with_reducible repeat (first | refine blk_drewN ?_ _ | refine blk_drew ?_ | refine blk_alloc ?_ _)); exact BK177.out⟩, ⟨by (with_reducible repeat (first | refine blk_drewN ?_ _ | refine blk_drew ?_ | refine blk_alloc ?_ _)); refine blk_put (cs := #[.int .i64 t180, .int .i64 t181, .int .i64 t182, .int .i64 t183, .bool t184, .int .i64 0]) ?_ 5 _ rfl; (with_reducible repeat (first | refine blk_drewN ?_ _ | refine blk_drew ?_ | refine blk_alloc ?_ _)); refine blk_put (cs := #[.int .i64 t180, .int .i64 t181, .int .i64 t182, .int .i64 t183, .bool false, .int .i64 0]) ?_ 4 _ rfl; (with_reducible repeat (first | refine blk_drewN ?_ _ | refine blk_drew ?_ | refine blk_alloc ?_ _)); refine blk_put (cs := #[.int .i64 t180, .int .i64 t181, .int .i64 t182, .int .i64 0, .bool false, .int .i64 0]) ?_ 3 _ rfl; (with_reducible repeat (first | refine blk_drewN ?_ _ | refine blk_drew ?_ | refine blk_alloc ?_ _)); refine blk_put (cs := #[.int .i64 t180, .int .i64 t181, .int .i64 0, .int .i64 0, .bool false, .int .i64 0]) ?_ 2 _ rfl; (with_reducible repeat (first | refine blk_drewN ?_ _ | refine blk_drew ?_ | refine blk_alloc ?_ _)); refine blk_put (cs := #[.int .i64 t180, .int .i64 0, .int .i64 0, .int .i64 0, .bool false, .int .i64 0]) ?_ 1 _ rfl; (with_reducible repeat (first | refine blk_drewN ?_ _ | refine blk_drew ?_ | refine blk_alloc ?_ _)); refine blk_put (cs := #[.int .i64 0, .int .i64 0, .int .i64 0, .int .i64 0, .bool false, .int .i64 0]) ?_ 0 _ rfl; (with_reducible repeat (first | refine blk_drewN ?_ _ | refine blk_drew ?_ | refine blk_alloc ?_ _)); exact BK187.out⟩, ⟨by repeat (first | (with_reducible first | exact HB.out | apply below_alloc | apply pw_below_drewN | apply below_drew1 | refine below_set ?_ GE177.out | refine below_set ?_ GE187.out) | exact HB.out)⟩⟩
          case rest =>
            clear HC26
            try clear c1
            try clear c2
            try clear p2
            try clear c3
            try clear c6
            try clear c12
            try clear c13
            try clear c14
            try clear c14b0
            try clear c14b1
            try clear c15
            try clear c15b0
            try clear c17
            try clear c17b0
            try clear c19
            try clear c19b0
            try clear c23
            try clear c25
            try clear c25b0
            try clear c25b1
            try clear c27
            try clear c29
            try clear c30
            try clear c33
            try clear c34
            try clear hcz10_0
            try clear hcz10_1
            try clear hcz10_2
            try clear hcz10_3
            try clear hcz10_4
            try clear hcz10_5
            try clear hcz10_6
            try clear hcz10_7
            try clear hcz16_0
            try clear hcz16_1
            try clear hcz16_2
            try clear hcz16_3
            try clear hcz16_4
            try clear hcz16_5
            try clear hcz16_6
            try clear hcz16_7
            try clear hcz18_0
            try clear hcz18_1
            try clear hcz18_2
            try clear hcz18_3
            try clear hcz18_4
            try clear hcz18_5
            try clear hcz18_6
            try clear hcz18_7
            try clear hcz20_0
            try clear hcz20_1
            try clear hcz20_2
            try clear hcz20_3
            try clear hcz20_4
            try clear hcz20_5
            try clear hcz20_6
            try clear hcz20_7
            try clear hcz21_0
            try clear hcz21_1
            try clear hcz21_2
            try clear hcz21_3
            try clear hcz21_4
            try clear hcz21_5
            try clear hcz21_6
            try clear hcz21_7
            try clear hcz22_0
            try clear hcz22_1
            try clear hcz22_2
            try clear hcz22_3
            try clear hcz22_4
            try clear hcz22_5
            try clear hcz22_6
            try clear hcz22_7
            try clear hcz27_0
            try clear hcz27_1
            try clear hcz27_2
            try clear hcz27_3
            try clear hcz27_4
            try clear hcz27_5
            try clear hcz27_6
            try clear hcz27_7
            try clear hcz31_0
            try clear hcz31_1
            try clear hcz31_2
            try clear hcz31_3
            try clear hcz31_4
            try clear hcz31_5
            try clear hcz32_0
            try clear hcz32_1
            try clear hcz32_2
            try clear hcz32_3
            try clear hcz32_4
            try clear hcz32_5
            try clear hcz32_6
            try clear hcz32_7
            try clear hcz35_0
            try clear hcz35_1
            try clear hcz35_2
            try clear hcz35_3
            try clear hcz35_4
            try clear hcz35_5
            try clear hcz36_0
            try clear hcz36_1
            try clear hcz36_2
            try clear hcz36_3
            try clear hcz36_4
            try clear hcz36_5
            try clear hcz36_6
            try clear hcz36_7
            try clear hfz10_0
            try clear hfz10_1
            try clear hfz10_2
            try clear hfz10_3
            try clear hfz10_4
            try clear hfz10_5
            try clear hfz10_6
            try clear hfz10_7
            try clear hfz16_0
            try clear hfz16_1
            try clear hfz16_2
            try clear hfz16_3
            try clear hfz16_4
            try clear hfz16_5
            try clear hfz16_6
            try clear hfz16_7
            try clear hfz18_0
            try clear hfz18_1
            try clear hfz18_2
            try clear hfz18_3
            try clear hfz18_4
            try clear hfz18_5
            try clear hfz18_6
            try clear hfz18_7
            try clear hfz20_0
            try clear hfz20_1
            try clear hfz20_2
            try clear hfz20_3
            try clear hfz20_4
            try clear hfz20_5
            try clear hfz20_6
            try clear hfz20_7
            try clear hfz21_0
            try clear hfz21_1
            try clear hfz21_2
            try clear hfz21_3
            try clear hfz21_4
            try clear hfz21_5
            try clear hfz21_6
            try clear hfz21_7
            try clear hfz22_0
            try clear hfz22_1
            try clear hfz22_2
            try clear hfz22_3
            try clear hfz22_4
            try clear hfz22_5
            try clear hfz22_6
            try clear hfz22_7
            try clear hfz27_0
            try clear hfz27_1
            try clear hfz27_2
            try clear hfz27_3
            try clear hfz27_4
            try clear hfz27_5
            try clear hfz27_6
            try clear hfz27_7
            try clear hfz31_0
            try clear hfz31_1
            try clear hfz31_2
            try clear hfz31_3
            try clear hfz31_4
            try clear hfz31_5
            try clear hfz32_0
            try clear hfz32_1
            try clear hfz32_2
            try clear hfz32_3
            try clear hfz32_4
            try clear hfz32_5
            try clear hfz32_6
            try clear hfz32_7
            try clear hfz35_0
            try clear hfz35_1
            try clear hfz35_2
            try clear hfz35_3
            try clear hfz35_4
            try clear hfz35_5
            try clear hfz36_0
            try clear hfz36_1
            try clear hfz36_2
            try clear hfz36_3
            try clear hfz36_4
            try clear hfz36_5
            try clear hfz36_6
            try clear hfz36_7
            try clear p2
            obtain ⟨kq, x66_25, rfl, HA, HJ25, BK177, BK187, HB⟩ := hcut
            cases kq with
            | zero => exact absurd HA.out (by simp [slotmeshref31_Hear.j1])
            | succ kj25 =>
              have H := HA.out
              clear HA
              simp only [slotmeshref31_Hear.j1] at H
              by_cases c37 : x66_25 = true
              · subst c37
                have H1 : (some (([] : List (S68)), 14)) = some (r1, r2) := by rw [if_pos rfl] at H; exact H
                clear H
                have H := H1
                clear H1
                simp only [Option.some.injEq, Prod.mk.injEq] at H
                obtain ⟨rfl, rfl⟩ := H
                go_wp2
                go_ret2
                exact ⟨_, by first | rfl | (simp [errW_none, errW_some] <;> rfl) | (simp [*, errW_none, errW_some] <;> rfl), by first | exact Kd.R_nil _ _ _ _ _ | exact Kd.N_nil _ _ _ _ _ | exact Kd.V_nil _ _ _ _ _ | exact Kd.Q_nil _ _ _ _ _ | exact Kd.S_nil _ _ _ _ _, by repeat (first | (with_reducible first | exact HB.out | apply below_alloc | apply pw_below_drewN | apply below_drew1 | refine below_set ?_ GE177.out | refine below_set ?_ GE187.out) | exact HB.out)⟩
              · replace c37 := Bool.eq_false_iff.mpr c37
                subst c37
                have H1 : (if t186 = true then (slotmeshref31_Hear.j2 kj25 l0 a1 a3 t186 (t181 == a2_3) a2_0 a2_1 a2_2 a2_3 a2_4 a2_5 a2_6 a2_7 t180 t181 t182 t183 t184 t185) else (slotmeshref31_Hear.j2 kj25 l0 a1 a3 t186 false a2_0 a2_1 a2_2 a2_3 a2_4 a2_5 a2_6 a2_7 t180 t181 t182 t183 t184 t185)) = some (r1, r2) := by rw [if_neg (show ¬ (false = true) by decide)] at H; exact H
                clear H
                have H := H1
                clear H1
                have HC38 := Aside0.mk H
                clear H
                go_upto_region 9 with (fail)
                go_cut [74] (fun v74 wc => ∃ (kq : Nat) (x74_37 : Bool), v74 = .bool x74_37 ∧ Aside0 (slotmeshref31_Hear.j2 kq l0 a1 a3 t186 x74_37 a2_0 a2_1 a2_2 a2_3 a2_4 a2_5 a2_6 a2_7 t180 t181 t182 t183 t184 t185 = some (r1, r2)) ∧ Aside0 (kq ≤ kj25) ∧ Aside0 (wc.heap[gb177]? = some (.cells #[.int .i64 a2_0, .int .i64 a2_1, .int .i64 a2_2, .int .i64 a2_3, .int .i64 a2_4, .int .i64 a2_5, .int .i64 a2_6, .int .i64 a2_7] 54 (0, 0))) ∧ Aside0 (wc.heap[gb187]? = some (.cells #[.int .i64 t180, .int .i64 t181, .int .i64 t182, .int .i64 t183, .bool t184, .int .i64 t185] 68 (0, 0))) ∧ Aside0 (Below w.heap.size w wc))
                case first =>
                  have H := HC38.out
                  clear HC38
                  by_cases c39 : t186 = true
                  · subst c39
                    have H1 : (slotmeshref31_Hear.j2 kj25 l0 a1 a3 true (t181 == a2_3) a2_0 a2_1 a2_2 a2_3 a2_4 a2_5 a2_6 a2_7 t180 t181 t182 t183 t184 t185) = some (r1, r2) := by rw [if_pos rfl] at H; exact H
                    clear H
                    have H := H1
                    clear H1
                    have H' := Aside0.mk H
                    clear H
                    have hnb40 := NB187_177.out
                    have hnc40 := NB177_187.out
                    have hcz41_0 : wc.cell? ⟨gb187, 0, none⟩ = some (.int .i64 t180) := (blk_cell BK187.out 0).trans rfl
                    have hcz41_1 : wc.cell? ⟨gb187, 1, none⟩ = some (.int .i64 t181) := (blk_cell BK187.out 1).trans rfl
                    have hcz41_2 : wc.cell? ⟨gb187, 2, none⟩ = some (.int .i64 t182) := (blk_cell BK187.out 2).trans rfl
                    have hcz41_3 : wc.cell? ⟨gb187, 3, none⟩ = some (.int .i64 t183) := (blk_cell BK187.out 3).trans rfl
                    have hcz41_4 : wc.cell? ⟨gb187, 4, none⟩ = some (.bool t184) := (blk_cell BK187.out 4).trans rfl
                    have hcz41_5 : wc.cell? ⟨gb187, 5, none⟩ = some (.int .i64 t185) := (blk_cell BK187.out 5).trans rfl
                    have hfz41_0 := blk_frozen BK187.out 0
                    have hfz41_1 := blk_frozen BK187.out 1
                    have hfz41_2 := blk_frozen BK187.out 2
                    have hfz41_3 := blk_frozen BK187.out 3
                    have hfz41_4 := blk_frozen BK187.out 4
                    have hfz41_5 := blk_frozen BK187.out 5
                    have hcz42_0 : wc.cell? ⟨gb177, 0, none⟩ = some (.int .i64 a2_0) := (blk_cell BK177.out 0).trans rfl
                    have hcz42_1 : wc.cell? ⟨gb177, 1, none⟩ = some (.int .i64 a2_1) := (blk_cell BK177.out 1).trans rfl
                    have hcz42_2 : wc.cell? ⟨gb177, 2, none⟩ = some (.int .i64 a2_2) := (blk_cell BK177.out 2).trans rfl
                    have hcz42_3 : wc.cell? ⟨gb177, 3, none⟩ = some (.int .i64 a2_3) := (blk_cell BK177.out 3).trans rfl
                    have hcz42_4 : wc.cell? ⟨gb177, 4, none⟩ = some (.int .i64 a2_4) := (blk_cell BK177.out 4).trans rfl
                    have hcz42_5 : wc.cell? ⟨gb177, 5, none⟩ = some (.int .i64 a2_5) := (blk_cell BK177.out 5).trans rfl
                    have hcz42_6 : wc.cell? ⟨gb177, 6, none⟩ = some (.int .i64 a2_6) := (blk_cell BK177.out 6).trans rfl
                    have hcz42_7 : wc.cell? ⟨gb177, 7, none⟩ = some (.int .i64 a2_7) := (blk_cell BK177.out 7).trans rfl
                    have hfz42_0 := blk_frozen BK177.out 0
                    have hfz42_1 := blk_frozen BK177.out 1
                    have hfz42_2 := blk_frozen BK177.out 2
                    have hfz42_3 := blk_frozen BK177.out 3
                    have hfz42_4 := blk_frozen BK177.out 4
                    have hfz42_5 := blk_frozen BK177.out 5
                    have hfz42_6 := blk_frozen BK177.out 6
                    have hfz42_7 := blk_frozen BK177.out 7
                    go_wp2
                    go_meet
                    case rel => exact ⟨_, ((t181 == a2_3)), (by first | rfl | (simp; done) | (simp [*]; done)), H', ⟨by have := HJ6.out; have := HJ25.out; first | omega | exact Nat.le_refl _⟩, ⟨by (with_reducible repeat (first | refine blk_drewN ?_ _ | refine blk_drew ?_ | refine blk_alloc ?_ _)); exact BK177.out⟩, ⟨by (with_reducible repeat (first | refine blk_drewN ?_ _ | refine blk_drew ?_ | refine blk_alloc ?_ _)); exact BK187.out⟩, ⟨by repeat (first | (with_reducible first | exact HB.out | apply below_alloc | apply pw_below_drewN | apply below_drew1 | refine below_set ?_ GE177.out | refine below_set ?_ GE187.out) | exact HB.out)⟩⟩
                  · replace c39 := Bool.eq_false_iff.mpr c39
                    subst c39
                    have H1 : (slotmeshref31_Hear.j2 kj25 l0 a1 a3 false false a2_0 a2_1 a2_2 a2_3 a2_4 a2_5 a2_6 a2_7 t180 t181 t182 t183 t184 t185) = some (r1, r2) := by rw [if_neg (show ¬ (false = true) by decide)] at H; exact H
                    clear H
                    have H := H1
                    clear H1
                    have H' := Aside0.mk H
                    clear H
                    go_wp2
                    go_meet
                    case rel => exact ⟨_, (false), (by first | rfl | (simp; done) | (simp [*]; done)), H', ⟨by have := HJ6.out; have := HJ25.out; first | omega | exact Nat.le_refl _⟩, ⟨by (with_reducible repeat (first | refine blk_drewN ?_ _ | refine blk_drew ?_ | refine blk_alloc ?_ _)); exact BK177.out⟩, ⟨by (with_reducible repeat (first | refine blk_drewN ?_ _ | refine blk_drew ?_ | refine blk_alloc ?_ _)); exact BK187.out⟩, ⟨by repeat (first | (with_reducible first | exact HB.out | apply below_alloc | apply pw_below_drewN | apply below_drew1 | refine below_set ?_ GE177.out | refine below_set ?_ GE187.out) | exact HB.out)⟩⟩
                case rest =>
                  clear HC38
                  try clear c1
                  try clear c2
                  try clear p2
                  try clear c3
                  try clear c4
                  try clear c6
                  try clear c12
                  try clear c13
                  try clear c14
                  try clear c14b0
                  try clear c14b1
                  try clear c15
                  try clear c15b0
                  try clear c17
                  try clear c17b0
                  try clear c19
                  try clear c19b0
                  try clear c23
                  try clear c25
                  try clear c25b0
                  try clear c25b1
                  try clear c27
                  try clear c29
                  try clear c30
                  try clear c33
                  try clear c34
                  try clear c37
                  try clear c38
                  try clear c39
                  try clear c40
                  try clear hcz10_0
                  try clear hcz10_1
                  try clear hcz10_2
                  try clear hcz10_3
                  try clear hcz10_4
                  try clear hcz10_5
                  try clear hcz10_6
                  try clear hcz10_7
                  try clear hcz16_0
                  try clear hcz16_1
                  try clear hcz16_2
                  try clear hcz16_3
                  try clear hcz16_4
                  try clear hcz16_5
                  try clear hcz16_6
                  try clear hcz16_7
                  try clear hcz18_0
                  try clear hcz18_1
                  try clear hcz18_2
                  try clear hcz18_3
                  try clear hcz18_4
                  try clear hcz18_5
                  try clear hcz18_6
                  try clear hcz18_7
                  try clear hcz20_0
                  try clear hcz20_1
                  try clear hcz20_2
                  try clear hcz20_3
                  try clear hcz20_4
                  try clear hcz20_5
                  try clear hcz20_6
                  try clear hcz20_7
                  try clear hcz21_0
                  try clear hcz21_1
                  try clear hcz21_2
                  try clear hcz21_3
                  try clear hcz21_4
                  try clear hcz21_5
                  try clear hcz21_6
                  try clear hcz21_7
                  try clear hcz22_0
                  try clear hcz22_1
                  try clear hcz22_2
                  try clear hcz22_3
                  try clear hcz22_4
                  try clear hcz22_5
                  try clear hcz22_6
                  try clear hcz22_7
                  try clear hcz27_0
                  try clear hcz27_1
                  try clear hcz27_2
                  try clear hcz27_3
                  try clear hcz27_4
                  try clear hcz27_5
                  try clear hcz27_6
                  try clear hcz27_7
                  try clear hcz31_0
                  try clear hcz31_1
                  try clear hcz31_2
                  try clear hcz31_3
                  try clear hcz31_4
                  try clear hcz31_5
                  try clear hcz32_0
                  try clear hcz32_1
                  try clear hcz32_2
                  try clear hcz32_3
                  try clear hcz32_4
                  try clear hcz32_5
                  try clear hcz32_6
                  try clear hcz32_7
                  try clear hcz35_0
                  try clear hcz35_1
                  try clear hcz35_2
                  try clear hcz35_3
                  try clear hcz35_4
                  try clear hcz35_5
                  try clear hcz36_0
                  try clear hcz36_1
                  try clear hcz36_2
                  try clear hcz36_3
                  try clear hcz36_4
                  try clear hcz36_5
                  try clear hcz36_6
                  try clear hcz36_7
                  try clear hcz41_0
                  try clear hcz41_1
                  try clear hcz41_2
                  try clear hcz41_3
                  try clear hcz41_4
                  try clear hcz41_5
                  try clear hcz42_0
                  try clear hcz42_1
                  try clear hcz42_2
                  try clear hcz42_3
                  try clear hcz42_4
                  try clear hcz42_5
                  try clear hcz42_6
                  try clear hcz42_7
                  try clear hfz10_0
                  try clear hfz10_1
                  try clear hfz10_2
                  try clear hfz10_3
                  try clear hfz10_4
                  try clear hfz10_5
                  try clear hfz10_6
                  try clear hfz10_7
                  try clear hfz16_0
                  try clear hfz16_1
                  try clear hfz16_2
                  try clear hfz16_3
                  try clear hfz16_4
                  try clear hfz16_5
                  try clear hfz16_6
                  try clear hfz16_7
                  try clear hfz18_0
                  try clear hfz18_1
                  try clear hfz18_2
                  try clear hfz18_3
                  try clear hfz18_4
                  try clear hfz18_5
                  try clear hfz18_6
                  try clear hfz18_7
                  try clear hfz20_0
                  try clear hfz20_1
                  try clear hfz20_2
                  try clear hfz20_3
                  try clear hfz20_4
                  try clear hfz20_5
                  try clear hfz20_6
                  try clear hfz20_7
                  try clear hfz21_0
                  try clear hfz21_1
                  try clear hfz21_2
                  try clear hfz21_3
                  try clear hfz21_4
                  try clear hfz21_5
                  try clear hfz21_6
                  try clear hfz21_7
                  try clear hfz22_0
                  try clear hfz22_1
                  try clear hfz22_2
                  try clear hfz22_3
                  try clear hfz22_4
                  try clear hfz22_5
                  try clear hfz22_6
                  try clear hfz22_7
                  try clear hfz27_0
                  try clear hfz27_1
                  try clear hfz27_2
                  try clear hfz27_3
                  try clear hfz27_4
                  try clear hfz27_5
                  try clear hfz27_6
                  try clear hfz27_7
                  try clear hfz31_0
                  try clear hfz31_1
                  try clear hfz31_2
                  try clear hfz31_3
                  try clear hfz31_4
                  try clear hfz31_5
                  try clear hfz32_0
                  try clear hfz32_1
                  try clear hfz32_2
                  try clear hfz32_3
                  try clear hfz32_4
                  try clear hfz32_5
                  try clear hfz32_6
                  try clear hfz32_7
                  try clear hfz35_0
                  try clear hfz35_1
                  try clear hfz35_2
                  try clear hfz35_3
                  try clear hfz35_4
                  try clear hfz35_5
                  try clear hfz36_0
                  try clear hfz36_1
                  try clear hfz36_2
                  try clear hfz36_3
                  try clear hfz36_4
                  try clear hfz36_5
                  try clear hfz36_6
                  try clear hfz36_7
                  try clear hfz41_0
                  try clear hfz41_1
                  try clear hfz41_2
                  try clear hfz41_3
                  try clear hfz41_4
                  try clear hfz41_5
                  try clear hfz42_0
                  try clear hfz42_1
                  try clear hfz42_2
                  try clear hfz42_3
                  try clear hfz42_4
                  try clear hfz42_5
                  try clear hfz42_6
                  try clear hfz42_7
                  try clear p2
                  obtain ⟨kq, x74_37, rfl, HA, HJ37, BK177, BK187, HB⟩ := hcut
                  cases kq with
                  | zero => exact absurd HA.out (by simp [slotmeshref31_Hear.j2])
                  | succ kj37 =>
                    have H := HA.out
                    clear HA
                    simp only [slotmeshref31_Hear.j2] at H
                    by_cases c43 : x74_37 = true
                    · subst c43
                      have H1 : ((slotmeshref31_With.f kj37 l0 t180 t181 t182 t183 t184 t185).bind fun t188 => (some (t188, 0))) = some (r1, r2) := by rw [if_pos rfl] at H; exact H
                      clear H
                      have H := H1
                      clear H1
                      replace H := Option.bind_eq_some_iff.mp H
                      obtain ⟨t188, A440, H⟩ := H
                      replace H : (some (t188, 0)) = some (r1, r2) := H
                      have A44 := Aside0.mk A440
                      clear A440
                      simp only [Option.some.injEq, Prod.mk.injEq] at H
                      obtain ⟨rfl, rfl⟩ := H
                      have hnb45 := NB187_177.out
                      have hnc45 := NB177_187.out
                      have hcz46_0 : wc.cell? ⟨gb187, 0, none⟩ = some (.int .i64 t180) := (blk_cell BK187.out 0).trans rfl
                      have hcz46_1 : wc.cell? ⟨gb187, 1, none⟩ = some (.int .i64 t181) := (blk_cell BK187.out 1).trans rfl
                      have hcz46_2 : wc.cell? ⟨gb187, 2, none⟩ = some (.int .i64 t182) := (blk_cell BK187.out 2).trans rfl
                      have hcz46_3 : wc.cell? ⟨gb187, 3, none⟩ = some (.int .i64 t183) := (blk_cell BK187.out 3).trans rfl
                      have hcz46_4 : wc.cell? ⟨gb187, 4, none⟩ = some (.bool t184) := (blk_cell BK187.out 4).trans rfl
                      have hcz46_5 : wc.cell? ⟨gb187, 5, none⟩ = some (.int .i64 t185) := (blk_cell BK187.out 5).trans rfl
                      have hfz46_0 := blk_frozen BK187.out 0
                      have hfz46_1 := blk_frozen BK187.out 1
                      have hfz46_2 := blk_frozen BK187.out 2
                      have hfz46_3 := blk_frozen BK187.out 3
                      have hfz46_4 := blk_frozen BK187.out 4
                      have hfz46_5 := blk_frozen BK187.out 5
                      go_wp2_with (first | ((with_reducible refine gate_callee (f := 69) rfl ?_); refine goesL_ (some 77) rfl rfl Tryd.func69 (by kernel_rfl) rfl #[.slice A0 l0.length c0, .agg #[.int .i64 t180, .int .i64 t181, .int .i64 t182, .int .i64 t183, .bool t184, .int .i64 t185]] rfl (by (try simp only [List.map_toArray, List.map_cons, List.map_nil]); first | done | rfl | (simp only [List.length_drop, List.length_take]; rfl)) ?_; (with_reducible refine (slotmeshref31_With.calls kj37 _ _ l0 t180 t181 t182 t183 t184 t185 t188 _ ?side1 ?side2 A44.out).mono ?_); (case side1 => repeat (first | exact (Kd.C_below HR0.out HB.out) | (with_reducible refine Kd.C_alloc ?_ _) | (with_reducible refine Kd.C_drewN ?_ _) | (with_reducible refine Kd.C_drew ?_))); (case side2 => exact HC0.out); rintro e w47 ⟨v189, rfl, ho0, hb⟩; refine ⟨_, rfl, ?_⟩; have n0_ := Aside0.mk (Kd.R_lower (Kd.R_newB ho0 (g := gb187) (o := .cells #[.int .i64 t180, .int .i64 t181, .int .i64 t182, .int .i64 t183, .bool t184, .int .i64 t185] 68 (0, 0)) (by (with_reducible repeat (first | refine blk_drewN ?_ _ | refine blk_drew ?_ | refine blk_alloc ?_ _)); exact BK187.out)) (below_size (by repeat (first | (with_reducible first | exact HB.out | apply below_alloc | apply pw_below_drewN | apply below_drew1 | refine below_set ?_ GE177.out | refine below_set ?_ GE187.out) | exact HB.out)))); have n1_ := Aside0.mk (blk_below (g := gb177) (o := .cells #[.int .i64 a2_0, .int .i64 a2_1, .int .i64 a2_2, .int .i64 a2_3, .int .i64 a2_4, .int .i64 a2_5, .int .i64 a2_6, .int .i64 a2_7] 54 (0, 0)) (by (with_reducible repeat (first | refine blk_drewN ?_ _ | refine blk_drew ?_ | refine blk_alloc ?_ _)); exact BK177.out) hb); have n2_ := Aside0.mk (blk_below (g := gb187) (o := .cells #[.int .i64 t180, .int .i64 t181, .int .i64 t182, .int .i64 t183, .bool t184, .int .i64 t185] 68 (0, 0)) (by (with_reducible repeat (first | refine blk_drewN ?_ _ | refine blk_drew ?_ | refine blk_alloc ?_ _)); exact BK187.out) hb); have n3_ := Aside0.mk (below_step (by repeat (first | (with_reducible first | exact HB.out | apply below_alloc | apply pw_below_drewN | apply below_drew1 | refine below_set ?_ GE177.out | refine below_set ?_ GE187.out) | exact HB.out)) hb); clear BK177; clear BK187; clear HB; have HO190 := n0_; have BK177 := n1_; have BK187 := n2_; have HB := n3_; clear n0_ n1_ n2_ n3_; (try clear hb); (try clear hb2); (try clear hk); (try clear hi); (try clear ho0)))
                      go_ret2
                      exact ⟨_, by first | rfl | (simp [errW_none, errW_some] <;> rfl) | (simp [*, errW_none, errW_some] <;> rfl), by (with_reducible repeat (first | apply Kd.R_alloc | apply Kd.R_drewN | apply Kd.R_drew)); exact Kd.R_mono HO190.out (fun _ hk => trivial), by repeat (first | (with_reducible first | exact HB.out | apply below_alloc | apply pw_below_drewN | apply below_drew1 | refine below_set ?_ GE177.out | refine below_set ?_ GE187.out) | exact HB.out)⟩
                    · replace c43 := Bool.eq_false_iff.mpr c43
                      subst c43
                      have H1 : (if t186 = true then (slotmeshref31_Hear.j3 kj37 l0 a1 a3 false a2_0 a2_1 a2_2 a2_3 a2_4 a2_5 a2_6 a2_7) else (slotmeshref31_Hear.j3 kj37 l0 a1 a3 (decide ((l0.length : Int) ≥ 4)) a2_0 a2_1 a2_2 a2_3 a2_4 a2_5 a2_6 a2_7)) = some (r1, r2) := by rw [if_neg (show ¬ (false = true) by decide)] at H; exact H
                      clear H
                      have H := H1
                      clear H1
                      have HC48 := Aside0.mk H
                      clear H
                      go_upto_region 11 with (fail)
                      go_cut [84] (fun v84 wc => ∃ (kq : Nat) (x84_47 : Bool), v84 = .bool x84_47 ∧ Aside0 (slotmeshref31_Hear.j3 kq l0 a1 a3 x84_47 a2_0 a2_1 a2_2 a2_3 a2_4 a2_5 a2_6 a2_7 = some (r1, r2)) ∧ Aside0 (kq ≤ kj37) ∧ Aside0 (wc.heap[gb177]? = some (.cells #[.int .i64 a2_0, .int .i64 a2_1, .int .i64 a2_2, .int .i64 a2_3, .int .i64 a2_4, .int .i64 a2_5, .int .i64 a2_6, .int .i64 a2_7] 54 (0, 0))) ∧ Aside0 (wc.heap[gb187]? = some (.cells #[.int .i64 t180, .int .i64 t181, .int .i64 t182, .int .i64 t183, .bool t184, .int .i64 t185] 68 (0, 0))) ∧ Aside0 (Below w.heap.size w wc))
                      case first =>
                        have H := HC48.out
                        clear HC48
                        by_cases c49 : t186 = true
                        · subst c49
                          have H1 : (slotmeshref31_Hear.j3 kj37 l0 a1 a3 false a2_0 a2_1 a2_2 a2_3 a2_4 a2_5 a2_6 a2_7) = some (r1, r2) := by rw [if_pos rfl] at H; exact H
                          clear H
                          have H := H1
                          clear H1
                          have H' := Aside0.mk H
                          clear H
                          go_wp2
                          go_meet
                          case rel => exact ⟨_, (false), (by first | rfl | (simp; done) | (simp [*]; done)), H', ⟨by have := HJ6.out; have := HJ25.out; have := HJ37.out; first | omega | exact Nat.le_refl _⟩, ⟨by (with_reducible repeat (first | refine blk_drewN ?_ _ | refine blk_drew ?_ | refine blk_alloc ?_ _)); exact BK177.out⟩, ⟨by (with_reducible repeat (first | refine blk_drewN ?_ _ | refine blk_drew ?_ | refine blk_alloc ?_ _)); exact BK187.out⟩, ⟨by repeat (first | (with_reducible first | exact HB.out | apply below_alloc | apply pw_below_drewN | apply below_drew1 | refine below_set ?_ GE177.out | refine below_set ?_ GE187.out) | exact HB.out)⟩⟩
                        · replace c49 := Bool.eq_false_iff.mpr c49
                          subst c49
                          have H1 : (slotmeshref31_Hear.j3 kj37 l0 a1 a3 (decide ((l0.length : Int) ≥ 4)) a2_0 a2_1 a2_2 a2_3 a2_4 a2_5 a2_6 a2_7) = some (r1, r2) := by rw [if_neg (show ¬ (false = true) by decide)] at H; exact H
                          clear H
                          have H := H1
                          clear H1
                          have H' := Aside0.mk H
                          clear H
                          go_wp2
                          go_meet
                          case rel => exact ⟨_, (decide ((l0.length : Int) ≥ 4)), (by first | rfl | (simp; done) | (simp [*]; done)), H', ⟨by have := HJ6.out; have := HJ25.out; have := HJ37.out; first | omega | exact Nat.le_refl _⟩, ⟨by (with_reducible repeat (first | refine blk_drewN ?_ _ | refine blk_drew ?_ | refine blk_alloc ?_ _)); exact BK177.out⟩, ⟨by (with_reducible repeat (first | refine blk_drewN ?_ _ | refine blk_drew ?_ | refine blk_alloc ?_ _)); exact BK187.out⟩, ⟨by repeat (first | (with_reducible first | exact HB.out | apply below_alloc | apply pw_below_drewN | apply below_drew1 | refine below_set ?_ GE177.out | refine below_set ?_ GE187.out) | exact HB.out)⟩⟩
                      case rest =>
                        clear HC48
                        try clear c1
                        try clear c2
                        try clear p2
                        try clear c3
                        try clear c4
                        try clear c6
                        try clear c12
                        try clear c13
                        try clear c14
                        try clear c14b0
                        try clear c14b1
                        try clear c15
                        try clear c15b0
                        try clear c17
                        try clear c17b0
                        try clear c19
                        try clear c19b0
                        try clear c23
                        try clear c25
                        try clear c25b0
                        try clear c25b1
                        try clear c27
                        try clear c29
                        try clear c30
                        try clear c33
                        try clear c34
                        try clear c37
                        try clear c38
                        try clear c39
                        try clear c40
                        try clear c43
                        try clear c45
                        try clear c49
                        try clear hcz10_0
                        try clear hcz10_1
                        try clear hcz10_2
                        try clear hcz10_3
                        try clear hcz10_4
                        try clear hcz10_5
                        try clear hcz10_6
                        try clear hcz10_7
                        try clear hcz16_0
                        try clear hcz16_1
                        try clear hcz16_2
                        try clear hcz16_3
                        try clear hcz16_4
                        try clear hcz16_5
                        try clear hcz16_6
                        try clear hcz16_7
                        try clear hcz18_0
                        try clear hcz18_1
                        try clear hcz18_2
                        try clear hcz18_3
                        try clear hcz18_4
                        try clear hcz18_5
                        try clear hcz18_6
                        try clear hcz18_7
                        try clear hcz20_0
                        try clear hcz20_1
                        try clear hcz20_2
                        try clear hcz20_3
                        try clear hcz20_4
                        try clear hcz20_5
                        try clear hcz20_6
                        try clear hcz20_7
                        try clear hcz21_0
                        try clear hcz21_1
                        try clear hcz21_2
                        try clear hcz21_3
                        try clear hcz21_4
                        try clear hcz21_5
                        try clear hcz21_6
                        try clear hcz21_7
                        try clear hcz22_0
                        try clear hcz22_1
                        try clear hcz22_2
                        try clear hcz22_3
                        try clear hcz22_4
                        try clear hcz22_5
                        try clear hcz22_6
                        try clear hcz22_7
                        try clear hcz27_0
                        try clear hcz27_1
                        try clear hcz27_2
                        try clear hcz27_3
                        try clear hcz27_4
                        try clear hcz27_5
                        try clear hcz27_6
                        try clear hcz27_7
                        try clear hcz31_0
                        try clear hcz31_1
                        try clear hcz31_2
                        try clear hcz31_3
                        try clear hcz31_4
                        try clear hcz31_5
                        try clear hcz32_0
                        try clear hcz32_1
                        try clear hcz32_2
                        try clear hcz32_3
                        try clear hcz32_4
                        try clear hcz32_5
                        try clear hcz32_6
                        try clear hcz32_7
                        try clear hcz35_0
                        try clear hcz35_1
                        try clear hcz35_2
                        try clear hcz35_3
                        try clear hcz35_4
                        try clear hcz35_5
                        try clear hcz36_0
                        try clear hcz36_1
                        try clear hcz36_2
                        try clear hcz36_3
                        try clear hcz36_4
                        try clear hcz36_5
                        try clear hcz36_6
                        try clear hcz36_7
                        try clear hcz41_0
                        try clear hcz41_1
                        try clear hcz41_2
                        try clear hcz41_3
                        try clear hcz41_4
                        try clear hcz41_5
                        try clear hcz42_0
                        try clear hcz42_1
                        try clear hcz42_2
                        try clear hcz42_3
                        try clear hcz42_4
                        try clear hcz42_5
                        try clear hcz42_6
                        try clear hcz42_7
                        try clear hcz46_0
                        try clear hcz46_1
                        try clear hcz46_2
                        try clear hcz46_3
                        try clear hcz46_4
                        try clear hcz46_5
                        try clear hfz10_0
                        try clear hfz10_1
                        try clear hfz10_2
                        try clear hfz10_3
                        try clear hfz10_4
                        try clear hfz10_5
                        try clear hfz10_6
                        try clear hfz10_7
                        try clear hfz16_0
                        try clear hfz16_1
                        try clear hfz16_2
                        try clear hfz16_3
                        try clear hfz16_4
                        try clear hfz16_5
                        try clear hfz16_6
                        try clear hfz16_7
                        try clear hfz18_0
                        try clear hfz18_1
                        try clear hfz18_2
                        try clear hfz18_3
                        try clear hfz18_4
                        try clear hfz18_5
                        try clear hfz18_6
                        try clear hfz18_7
                        try clear hfz20_0
                        try clear hfz20_1
                        try clear hfz20_2
                        try clear hfz20_3
                        try clear hfz20_4
                        try clear hfz20_5
                        try clear hfz20_6
                        try clear hfz20_7
                        try clear hfz21_0
                        try clear hfz21_1
                        try clear hfz21_2
                        try clear hfz21_3
                        try clear hfz21_4
                        try clear hfz21_5
                        try clear hfz21_6
                        try clear hfz21_7
                        try clear hfz22_0
                        try clear hfz22_1
                        try clear hfz22_2
                        try clear hfz22_3
                        try clear hfz22_4
                        try clear hfz22_5
                        try clear hfz22_6
                        try clear hfz22_7
                        try clear hfz27_0
                        try clear hfz27_1
                        try clear hfz27_2
                        try clear hfz27_3
                        try clear hfz27_4
                        try clear hfz27_5
                        try clear hfz27_6
                        try clear hfz27_7
                        try clear hfz31_0
                        try clear hfz31_1
                        try clear hfz31_2
                        try clear hfz31_3
                        try clear hfz31_4
                        try clear hfz31_5
                        try clear hfz32_0
                        try clear hfz32_1
                        try clear hfz32_2
                        try clear hfz32_3
                        try clear hfz32_4
                        try clear hfz32_5
                        try clear hfz32_6
                        try clear hfz32_7
                        try clear hfz35_0
                        try clear hfz35_1
                        try clear hfz35_2
                        try clear hfz35_3
                        try clear hfz35_4
                        try clear hfz35_5
                        try clear hfz36_0
                        try clear hfz36_1
                        try clear hfz36_2
                        try clear hfz36_3
                        try clear hfz36_4
                        try clear hfz36_5
                        try clear hfz36_6
                        try clear hfz36_7
                        try clear hfz41_0
                        try clear hfz41_1
                        try clear hfz41_2
                        try clear hfz41_3
                        try clear hfz41_4
                        try clear hfz41_5
                        try clear hfz42_0
                        try clear hfz42_1
                        try clear hfz42_2
                        try clear hfz42_3
                        try clear hfz42_4
                        try clear hfz42_5
                        try clear hfz42_6
                        try clear hfz42_7
                        try clear hfz46_0
                        try clear hfz46_1
                        try clear hfz46_2
                        try clear hfz46_3
                        try clear hfz46_4
                        try clear hfz46_5
                        try clear p2
                        obtain ⟨kq, x84_47, rfl, HA, HJ47, BK177, BK187, HB⟩ := hcut
                        cases kq with
                        | zero => exact absurd HA.out (by simp [slotmeshref31_Hear.j3])
                        | succ kj47 =>
                          have H := HA.out
                          clear HA
                          simp only [slotmeshref31_Hear.j3] at H
                          by_cases c50 : x84_47 = true
                          · subst c50
                            have H1 : (some (([] : List (S68)), 10)) = some (r1, r2) := by rw [if_pos rfl] at H; exact H
                            clear H
                            have H := H1
                            clear H1
                            simp only [Option.some.injEq, Prod.mk.injEq] at H
                            obtain ⟨rfl, rfl⟩ := H
                            go_wp2
                            go_ret2
                            exact ⟨_, by first | rfl | (simp [errW_none, errW_some] <;> rfl) | (simp [*, errW_none, errW_some] <;> rfl), by first | exact Kd.R_nil _ _ _ _ _ | exact Kd.N_nil _ _ _ _ _ | exact Kd.V_nil _ _ _ _ _ | exact Kd.Q_nil _ _ _ _ _ | exact Kd.S_nil _ _ _ _ _, by repeat (first | (with_reducible first | exact HB.out | apply below_alloc | apply pw_below_drewN | apply below_drew1 | refine below_set ?_ GE177.out | refine below_set ?_ GE187.out) | exact HB.out)⟩
                          · replace c50 := Bool.eq_false_iff.mpr c50
                            subst c50
                            have H1 : ((slotmeshref31_Challenge.f kj47 a1 a2_1 a2_3 a3).bind fun t191 => ((slotmeshref31_With.f kj47 l0 a2_1 a2_3 t191 (wrap64 (a3 + 12)) false 0).bind fun t192 => (some (t192, 0)))) = some (r1, r2) := by rw [if_neg (show ¬ (false = true) by decide)] at H; exact H
                            clear H
                            have H := H1
                            clear H1
                            replace H := Option.bind_eq_some_iff.mp H
                            obtain ⟨t191, A510, H⟩ := H
                            replace H : ((slotmeshref31_With.f kj47 l0 a2_1 a2_3 t191 (wrap64 (a3 + 12)) false 0).bind fun t192 => (some (t192, 0))) = some (r1, r2) := H
                            have A51 := Aside0.mk A510
                            clear A510
                            replace H := Option.bind_eq_some_iff.mp H
                            obtain ⟨t192, A520, H⟩ := H
                            replace H : (some (t192, 0)) = some (r1, r2) := H
                            have A52 := Aside0.mk A520
                            clear A520
                            simp only [Option.some.injEq, Prod.mk.injEq] at H
                            obtain ⟨rfl, rfl⟩ := H
                            have hnb53 := NB177_187.out
                            have hnc53 := NB187_177.out
                            have hcz54_0 : wc.cell? ⟨gb177, 0, none⟩ = some (.int .i64 a2_0) := (blk_cell BK177.out 0).trans rfl
                            have hcz54_1 : wc.cell? ⟨gb177, 1, none⟩ = some (.int .i64 a2_1) := (blk_cell BK177.out 1).trans rfl
                            have hcz54_2 : wc.cell? ⟨gb177, 2, none⟩ = some (.int .i64 a2_2) := (blk_cell BK177.out 2).trans rfl
                            have hcz54_3 : wc.cell? ⟨gb177, 3, none⟩ = some (.int .i64 a2_3) := (blk_cell BK177.out 3).trans rfl
                            have hcz54_4 : wc.cell? ⟨gb177, 4, none⟩ = some (.int .i64 a2_4) := (blk_cell BK177.out 4).trans rfl
                            have hcz54_5 : wc.cell? ⟨gb177, 5, none⟩ = some (.int .i64 a2_5) := (blk_cell BK177.out 5).trans rfl
                            have hcz54_6 : wc.cell? ⟨gb177, 6, none⟩ = some (.int .i64 a2_6) := (blk_cell BK177.out 6).trans rfl
                            have hcz54_7 : wc.cell? ⟨gb177, 7, none⟩ = some (.int .i64 a2_7) := (blk_cell BK177.out 7).trans rfl
                            have hfz54_0 := blk_frozen BK177.out 0
                            have hfz54_1 := blk_frozen BK177.out 1
                            have hfz54_2 := blk_frozen BK177.out 2
                            have hfz54_3 := blk_frozen BK177.out 3
                            have hfz54_4 := blk_frozen BK177.out 4
                            have hfz54_5 := blk_frozen BK177.out 5
                            have hfz54_6 := blk_frozen BK177.out 6
                            have hfz54_7 := blk_frozen BK177.out 7
                            go_wp2_with (first | ((with_reducible refine gate_callee (f := 70) rfl ?_); refine goesL_ (some 91) rfl rfl Tryd.func70 (by kernel_rfl) rfl #[.int .i64 a1, .int .i64 a2_1, .int .i64 a2_3, .int .i64 a3] rfl (by (try simp only [List.map_toArray, List.map_cons, List.map_nil]); first | done | rfl | (simp only [List.length_drop, List.length_take]; rfl)) ?_; (with_reducible refine (slotmeshref31_Challenge.calls kj47 a1 a2_1 a2_3 a3 t191 _ A51.out).mono ?_); rintro e w' ⟨rfl, ⟨nd, rfl⟩⟩; refine ⟨_, rfl, ?_⟩) | ((with_reducible refine gate_callee (f := 69) rfl ?_); refine goesL_ (some 101) rfl rfl Tryd.func69 (by kernel_rfl) rfl #[.slice A0 l0.length c0, .agg #[.int .i64 a2_1, .int .i64 a2_3, .int .i64 t191, .int .i64 (wrap64 (a3 + 12)), .bool false, .int .i64 0]] rfl (by (try simp only [List.map_toArray, List.map_cons, List.map_nil]); first | done | rfl | (simp only [List.length_drop, List.length_take]; rfl)) ?_; (with_reducible refine (slotmeshref31_With.calls kj47 _ _ l0 a2_1 a2_3 t191 (wrap64 (a3 + 12)) false 0 t192 _ ?side1 ?side2 A52.out).mono ?_); (case side1 => repeat (first | exact (Kd.C_below HR0.out (by repeat (first | (with_reducible first | exact HB.out | apply below_alloc | apply pw_below_drewN | apply below_drew1 | refine below_set ?_ GE177.out | refine below_set ?_ GE187.out) | exact HB.out))) | (with_reducible refine Kd.C_alloc ?_ _) | (with_reducible refine Kd.C_drewN ?_ _) | (with_reducible refine Kd.C_drew ?_))); (case side2 => exact HC0.out); rintro e w55 ⟨v193, rfl, ho0, hb⟩; refine ⟨_, rfl, ?_⟩; have n0_ := Aside0.mk (Kd.R_lower (Kd.R_newB ho0 (g := gb187) (o := .cells #[.int .i64 t180, .int .i64 t181, .int .i64 t182, .int .i64 t183, .bool t184, .int .i64 t185] 68 (0, 0)) (by (with_reducible repeat (first | refine blk_drewN ?_ _ | refine blk_drew ?_ | refine blk_alloc ?_ _)); exact BK187.out)) (below_size (by repeat (first | (with_reducible first | exact HB.out | apply below_alloc | apply pw_below_drewN | apply below_drew1 | refine below_set ?_ GE177.out | refine below_set ?_ GE187.out) | exact HB.out)))); have n1_ := Aside0.mk (blk_below (g := gb177) (o := .cells #[.int .i64 a2_0, .int .i64 a2_1, .int .i64 a2_2, .int .i64 a2_3, .int .i64 a2_4, .int .i64 a2_5, .int .i64 a2_6, .int .i64 a2_7] 54 (0, 0)) (by (with_reducible repeat (first | refine blk_drewN ?_ _ | refine blk_drew ?_ | refine blk_alloc ?_ _)); exact BK177.out) hb); have n2_ := Aside0.mk (blk_below (g := gb187) (o := .cells #[.int .i64 t180, .int .i64 t181, .int .i64 t182, .int .i64 t183, .bool t184, .int .i64 t185] 68 (0, 0)) (by (with_reducible repeat (first | refine blk_drewN ?_ _ | refine blk_drew ?_ | refine blk_alloc ?_ _)); exact BK187.out) hb); have n3_ := Aside0.mk (below_step (by repeat (first | (with_reducible first | exact HB.out | apply below_alloc | apply pw_below_drewN | apply below_drew1 | refine below_set ?_ GE177.out | refine below_set ?_ GE187.out) | exact HB.out)) hb); clear BK177; clear BK187; clear HB; have HO194 := n0_; have BK177 := n1_; have BK187 := n2_; have HB := n3_; clear n0_ n1_ n2_ n3_; (try clear hb); (try clear hb2); (try clear hk); (try clear hi); (try clear ho0)))
                            go_ret2
                            exact ⟨_, by first | rfl | (simp [errW_none, errW_some] <;> rfl) | (simp [*, errW_none, errW_some] <;> rfl), by (with_reducible repeat (first | apply Kd.R_alloc | apply Kd.R_drewN | apply Kd.R_drew)); exact Kd.R_mono HO194.out (fun _ hk => trivial), by repeat (first | (with_reducible first | exact HB.out | apply below_alloc | apply pw_below_drewN | apply below_drew1 | refine below_set ?_ GE177.out | refine below_set ?_ GE187.out) | exact HB.out)⟩
        · rw [if_neg c25] at H
          have c25b0 : (a2_0 == 1) = false := beq_eq_false_iff_ne.mpr c25
          have c25b1 : (a2_0 != 1) = true := bne_iff_ne.mpr c25
          by_cases c56 : a2_0 = 3
          · rw [if_pos c56] at H
            have c56b0 : (a2_0 == 3) = true := beq_iff_eq.mpr c56
            have c56b1 : (a2_0 != 3) = false := bne_eq_false_iff_eq.mpr c56
            clear c56
            have HC57 := Aside0.mk H
            clear H
            have hcz58_0 : wc.cell? ⟨gb177, 0, none⟩ = some (.int .i64 a2_0) := (blk_cell BK177.out 0).trans rfl
            have hcz58_1 : wc.cell? ⟨gb177, 1, none⟩ = some (.int .i64 a2_1) := (blk_cell BK177.out 1).trans rfl
            have hcz58_2 : wc.cell? ⟨gb177, 2, none⟩ = some (.int .i64 a2_2) := (blk_cell BK177.out 2).trans rfl
            have hcz58_3 : wc.cell? ⟨gb177, 3, none⟩ = some (.int .i64 a2_3) := (blk_cell BK177.out 3).trans rfl
            have hcz58_4 : wc.cell? ⟨gb177, 4, none⟩ = some (.int .i64 a2_4) := (blk_cell BK177.out 4).trans rfl
            have hcz58_5 : wc.cell? ⟨gb177, 5, none⟩ = some (.int .i64 a2_5) := (blk_cell BK177.out 5).trans rfl
            have hcz58_6 : wc.cell? ⟨gb177, 6, none⟩ = some (.int .i64 a2_6) := (blk_cell BK177.out 6).trans rfl
            have hcz58_7 : wc.cell? ⟨gb177, 7, none⟩ = some (.int .i64 a2_7) := (blk_cell BK177.out 7).trans rfl
            have hfz58_0 := blk_frozen BK177.out 0
            have hfz58_1 := blk_frozen BK177.out 1
            have hfz58_2 := blk_frozen BK177.out 2
            have hfz58_3 := blk_frozen BK177.out 3
            have hfz58_4 := blk_frozen BK177.out 4
            have hfz58_5 := blk_frozen BK177.out 5
            have hfz58_6 := blk_frozen BK177.out 6
            have hfz58_7 := blk_frozen BK177.out 7
            go_upto_region 17 with (first | ((with_reducible refine gate_callee (f := 38) rfl ?_); refine goesL_ (some 53) rfl rfl Tryd.func38 (by kernel_rfl) rfl #[.slice A0 l0.length c0, .int .i64 a2_1] rfl (by (try simp only [List.map_toArray, List.map_cons, List.map_nil]); first | done | rfl | (simp only [List.length_drop, List.length_take]; rfl)) ?_; (with_reducible refine (slotmeshref31_Of.calls kj6 _ _ l0 a2_1 t180 t181 t182 t183 t184 t185 t186 _ ?side1 ?side2 A24.out).mono ?_); (case side1 => repeat (first | exact (Kd.C_below HR0.out HB.out) | (with_reducible refine Kd.C_alloc ?_ _) | (with_reducible refine Kd.C_drewN ?_ _) | (with_reducible refine Kd.C_drew ?_))); (case side2 => exact HC0.out); rintro e w59 ⟨rfl, hb⟩; refine ⟨_, rfl, ?_⟩; have n0_ := Aside0.mk (blk_below (g := gb177) (o := .cells #[.int .i64 a2_0, .int .i64 a2_1, .int .i64 a2_2, .int .i64 a2_3, .int .i64 a2_4, .int .i64 a2_5, .int .i64 a2_6, .int .i64 a2_7] 54 (0, 0)) (by (with_reducible repeat (first | refine blk_drewN ?_ _ | refine blk_drew ?_ | refine blk_alloc ?_ _)); exact BK177.out) hb); have n1_ := Aside0.mk (below_step (by repeat (first | (with_reducible first | exact HB.out | apply below_alloc | apply pw_below_drewN | apply below_drew1 | refine below_set ?_ GE177.out) | exact HB.out)) hb); clear BK177; clear HB; have BK177 := n0_; have HB := n1_; clear n0_ n1_; (try clear hb); (try clear hb2); (try clear hk); (try clear hi)) | ((with_reducible refine gate_dst (N := 12) rfl ?_); (try (refine gate_guard (by rfl) ?_; dsimp only)); refine box_event ?hg (N := 12) ?hd (cs := #[.int .i64 0, .int .i64 0, .int .i64 0, .int .i64 0, .bool false, .int .i64 0]) (t := 68) ?hr ?_; (case hd => rfl); (case hg => rfl); (case hr => first | (go_simp; done) | (go_simp; rfl)); intro gb187 hg w60 hbox hb; have n0_ := Aside0.mk (blk_below (g := gb177) (o := .cells #[.int .i64 a2_0, .int .i64 a2_1, .int .i64 a2_2, .int .i64 a2_3, .int .i64 a2_4, .int .i64 a2_5, .int .i64 a2_6, .int .i64 a2_7] 54 (0, 0)) (by (with_reducible repeat (first | refine blk_drewN ?_ _ | refine blk_drew ?_ | refine blk_alloc ?_ _)); exact BK177.out) hb); have n1_ := Aside0.mk (below_step (by repeat (first | (with_reducible first | exact HB.out | apply below_alloc | apply pw_below_drewN | apply below_drew1 | refine below_set ?_ GE177.out) | exact HB.out)) hb); have n2_ := Aside0.mk (hbox); have n3_ := Aside0.mk ((by rw [hg]; exact (below_size (by repeat (first | (with_reducible first | exact HB.out | apply below_alloc | apply pw_below_drewN | apply below_drew1 | refine below_set ?_ GE177.out) | exact HB.out))) : w.heap.size ≤ gb187)); have n4_ := Aside0.mk ((by rw [hg]; exact (below_size (by repeat (first | (with_reducible first | exact HB.out | apply below_alloc | apply pw_below_drewN | apply below_drew1 | refine below_set ?_ GE177.out) | exact HB.out))) : w.heap.size ≤ gb187)); have n5_ := Aside0.mk ((by rw [hg]; exact Nat.ne_of_lt (blk_lt (g := gb177) (o := .cells #[.int .i64 a2_0, .int .i64 a2_1, .int .i64 a2_2, .int .i64 a2_3, .int .i64 a2_4, .int .i64 a2_5, .int .i64 a2_6, .int .i64 a2_7] 54 (0, 0)) (by (with_reducible repeat (first | refine blk_drewN ?_ _ | refine blk_drew ?_ | refine blk_alloc ?_ _)); exact BK177.out)) : gb177 ≠ gb187)); have n6_ := Aside0.mk ((by rw [hg]; exact Nat.ne_of_gt (blk_lt (g := gb177) (o := .cells #[.int .i64 a2_0, .int .i64 a2_1, .int .i64 a2_2, .int .i64 a2_3, .int .i64 a2_4, .int .i64 a2_5, .int .i64 a2_6, .int .i64 a2_7] 54 (0, 0)) (by (with_reducible repeat (first | refine blk_drewN ?_ _ | refine blk_drew ?_ | refine blk_alloc ?_ _)); exact BK177.out)) : gb187 ≠ gb177)); clear BK177; clear HB; have BK177 := n0_; have HB := n1_; have BK187 := n2_; have GW187 := n3_; have GE187 := n4_; have NB177_187 := n5_; have NB187_177 := n6_; clear n0_ n1_ n2_ n3_ n4_ n5_ n6_; clear hb hbox hg; have hnb61 := NB187_177.out; have hnc61 := NB177_187.out; have hcz62_0 : w60.cell? ⟨gb187, 0, none⟩ = some (.int .i64 0) := (blk_cell BK187.out 0).trans rfl; have hcz62_1 : w60.cell? ⟨gb187, 1, none⟩ = some (.int .i64 0) := (blk_cell BK187.out 1).trans rfl; have hcz62_2 : w60.cell? ⟨gb187, 2, none⟩ = some (.int .i64 0) := (blk_cell BK187.out 2).trans rfl; have hcz62_3 : w60.cell? ⟨gb187, 3, none⟩ = some (.int .i64 0) := (blk_cell BK187.out 3).trans rfl; have hcz62_4 : w60.cell? ⟨gb187, 4, none⟩ = some (.bool false) := (blk_cell BK187.out 4).trans rfl; have hcz62_5 : w60.cell? ⟨gb187, 5, none⟩ = some (.int .i64 0) := (blk_cell BK187.out 5).trans rfl; have hfz62_0 := blk_frozen BK187.out 0; have hfz62_1 := blk_frozen BK187.out 1; have hfz62_2 := blk_frozen BK187.out 2; have hfz62_3 := blk_frozen BK187.out 3; have hfz62_4 := blk_frozen BK187.out 4; have hfz62_5 := blk_frozen BK187.out 5; have hcz63_0 : w60.cell? ⟨gb177, 0, none⟩ = some (.int .i64 a2_0) := (blk_cell BK177.out 0).trans rfl; have hcz63_1 : w60.cell? ⟨gb177, 1, none⟩ = some (.int .i64 a2_1) := (blk_cell BK177.out 1).trans rfl; have hcz63_2 : w60.cell? ⟨gb177, 2, none⟩ = some (.int .i64 a2_2) := (blk_cell BK177.out 2).trans rfl; have hcz63_3 : w60.cell? ⟨gb177, 3, none⟩ = some (.int .i64 a2_3) := (blk_cell BK177.out 3).trans rfl; have hcz63_4 : w60.cell? ⟨gb177, 4, none⟩ = some (.int .i64 a2_4) := (blk_cell BK177.out 4).trans rfl; have hcz63_5 : w60.cell? ⟨gb177, 5, none⟩ = some (.int .i64 a2_5) := (blk_cell BK177.out 5).trans rfl; have hcz63_6 : w60.cell? ⟨gb177, 6, none⟩ = some (.int .i64 a2_6) := (blk_cell BK177.out 6).trans rfl; have hcz63_7 : w60.cell? ⟨gb177, 7, none⟩ = some (.int .i64 a2_7) := (blk_cell BK177.out 7).trans rfl; have hfz63_0 := blk_frozen BK177.out 0; have hfz63_1 := blk_frozen BK177.out 1; have hfz63_2 := blk_frozen BK177.out 2; have hfz63_3 := blk_frozen BK177.out 3; have hfz63_4 := blk_frozen BK177.out 4; have hfz63_5 := blk_frozen BK177.out 5; have hfz63_6 := blk_frozen BK177.out 6; have hfz63_7 := blk_frozen BK177.out 7))
            (try simp only [Act.put, List.setIfInBounds_toArray, List.set_cons_zero, List.set_cons_succ])
            go_cut [120] (fun v120 wc => ∃ (kq : Nat) (x120_56 : Bool), v120 = .bool x120_56 ∧ Aside0 (slotmeshref31_Hear.j4 kq l0 x120_56 a2_0 a2_1 a2_2 a2_3 a2_4 a2_5 a2_6 a2_7 t180 t181 t182 t183 t184 t185 = some (r1, r2)) ∧ Aside0 (kq ≤ kj6) ∧ Aside0 (wc.heap[gb177]? = some (.cells #[.int .i64 a2_0, .int .i64 a2_1, .int .i64 a2_2, .int .i64 a2_3, .int .i64 a2_4, .int .i64 a2_5, .int .i64 a2_6, .int .i64 a2_7] 54 (0, 0))) ∧ Aside0 (wc.heap[gb187]? = some (.cells #[.int .i64 t180, .int .i64 t181, .int .i64 t182, .int .i64 t183, .bool t184, .int .i64 t185] 68 (0, 0))) ∧ Aside0 (Below w.heap.size w wc))
            case first =>
              have H := HC57.out
              clear HC57
              by_cases c64 : t186 = true
              · subst c64
                have H1 : (if t181 = a2_3 then (slotmeshref31_Hear.j4 kj6 l0 (t182 != a2_4) a2_0 a2_1 a2_2 a2_3 a2_4 a2_5 a2_6 a2_7 t180 t181 t182 t183 t184 t185) else (slotmeshref31_Hear.j4 kj6 l0 true a2_0 a2_1 a2_2 a2_3 a2_4 a2_5 a2_6 a2_7 t180 t181 t182 t183 t184 t185)) = some (r1, r2) := by rw [if_pos rfl] at H; exact H
                clear H
                have H := H1
                clear H1
                by_cases c65 : t181 = a2_3
                · rw [if_pos c65] at H
                  have c65b0 : (t181 == a2_3) = true := beq_iff_eq.mpr c65
                  have c65b1 : (t181 != a2_3) = false := bne_eq_false_iff_eq.mpr c65
                  clear c65
                  (first | rw [c65b0] | (simp only [i64_w, i32_w]; rw [c65b0]) | skip)
                  have H' := Aside0.mk H
                  clear H
                  have hnb66 := NB187_177.out
                  have hnc66 := NB177_187.out
                  have hcz67_0 : w60.cell? ⟨gb187, 0, none⟩ = some (.int .i64 0) := (blk_cell BK187.out 0).trans rfl
                  have hcz67_1 : w60.cell? ⟨gb187, 1, none⟩ = some (.int .i64 0) := (blk_cell BK187.out 1).trans rfl
                  have hcz67_2 : w60.cell? ⟨gb187, 2, none⟩ = some (.int .i64 0) := (blk_cell BK187.out 2).trans rfl
                  have hcz67_3 : w60.cell? ⟨gb187, 3, none⟩ = some (.int .i64 0) := (blk_cell BK187.out 3).trans rfl
                  have hcz67_4 : w60.cell? ⟨gb187, 4, none⟩ = some (.bool false) := (blk_cell BK187.out 4).trans rfl
                  have hcz67_5 : w60.cell? ⟨gb187, 5, none⟩ = some (.int .i64 0) := (blk_cell BK187.out 5).trans rfl
                  have hfz67_0 := blk_frozen BK187.out 0
                  have hfz67_1 := blk_frozen BK187.out 1
                  have hfz67_2 := blk_frozen BK187.out 2
                  have hfz67_3 := blk_frozen BK187.out 3
                  have hfz67_4 := blk_frozen BK187.out 4
                  have hfz67_5 := blk_frozen BK187.out 5
                  have hcz68_0 : w60.cell? ⟨gb177, 0, none⟩ = some (.int .i64 a2_0) := (blk_cell BK177.out 0).trans rfl
                  have hcz68_1 : w60.cell? ⟨gb177, 1, none⟩ = some (.int .i64 a2_1) := (blk_cell BK177.out 1).trans rfl
                  have hcz68_2 : w60.cell? ⟨gb177, 2, none⟩ = some (.int .i64 a2_2) := (blk_cell BK177.out 2).trans rfl
                  have hcz68_3 : w60.cell? ⟨gb177, 3, none⟩ = some (.int .i64 a2_3) := (blk_cell BK177.out 3).trans rfl
                  have hcz68_4 : w60.cell? ⟨gb177, 4, none⟩ = some (.int .i64 a2_4) := (blk_cell BK177.out 4).trans rfl
                  have hcz68_5 : w60.cell? ⟨gb177, 5, none⟩ = some (.int .i64 a2_5) := (blk_cell BK177.out 5).trans rfl
                  have hcz68_6 : w60.cell? ⟨gb177, 6, none⟩ = some (.int .i64 a2_6) := (blk_cell BK177.out 6).trans rfl
                  have hcz68_7 : w60.cell? ⟨gb177, 7, none⟩ = some (.int .i64 a2_7) := (blk_cell BK177.out 7).trans rfl
                  have hfz68_0 := blk_frozen BK177.out 0
                  have hfz68_1 := blk_frozen BK177.out 1
                  have hfz68_2 := blk_frozen BK177.out 2
                  have hfz68_3 := blk_frozen BK177.out 3
                  have hfz68_4 := blk_frozen BK177.out 4
                  have hfz68_5 := blk_frozen BK177.out 5
                  have hfz68_6 := blk_frozen BK177.out 6
                  have hfz68_7 := blk_frozen BK177.out 7
                  go_wp2
                  go_meet
                  case rel => exact ⟨_, ((t182 != a2_4)), (by first | rfl | (simp; done) | (simp [*]; done)), H', ⟨by have := HJ6.out; first | omega | exact Nat.le_refl _⟩, ⟨by (with_reducible repeat (first | refine blk_drewN ?_ _ | refine blk_drew ?_ | refine blk_alloc ?_ _)); refine blk_far ?_ NB177_187.out _; (with_reducible repeat (first | refine blk_drewN ?_ _ | refine blk_drew ?_ | refine blk_alloc ?_ _)); refine blk_far ?_ NB177_187.out _; (with_reducible repeat (first | refine blk_drewN ?_ _ | refine blk_drew ?_ | refine blk_alloc ?_ _)); refine blk_far ?_ NB177_187.out _; (with_reducible repeat (first | refine blk_drewN ?_ _ | refine blk_drew ?_ | refine blk_alloc ?_ _)); refine blk_far ?_ NB177_187.out _; (with_reducible repeat (first | refine blk_drewN ?_ _ | refine blk_drew ?_ | refine blk_alloc ?_ _)); refine blk_far ?_ NB177_187.out _; (with_reducible repeat (first | refine blk_drewN ?_ _ | refine blk_drew ?_ | refine blk_alloc ?_ _)); refine blk_far ?_ NB177_187.out _; (with_reducible repeat (first | refine blk_drewN ?_ _ | refine blk_drew ?_ | refine blk_alloc ?_ _)); exact BK177.out⟩, ⟨by (with_reducible repeat (first | refine blk_drewN ?_ _ | refine blk_drew ?_ | refine blk_alloc ?_ _)); refine blk_put (cs := #[.int .i64 t180, .int .i64 t181, .int .i64 t182, .int .i64 t183, .bool t184, .int .i64 0]) ?_ 5 _ rfl; (with_reducible repeat (first | refine blk_drewN ?_ _ | refine blk_drew ?_ | refine blk_alloc ?_ _)); refine blk_put (cs := #[.int .i64 t180, .int .i64 t181, .int .i64 t182, .int .i64 t183, .bool false, .int .i64 0]) ?_ 4 _ rfl; (with_reducible repeat (first | refine blk_drewN ?_ _ | refine blk_drew ?_ | refine blk_alloc ?_ _)); refine blk_put (cs := #[.int .i64 t180, .int .i64 t181, .int .i64 t182, .int .i64 0, .bool false, .int .i64 0]) ?_ 3 _ rfl; (with_reducible repeat (first | refine blk_drewN ?_ _ | refine blk_drew ?_ | refine blk_alloc ?_ _)); refine blk_put (cs := #[.int .i64 t180, .int .i64 t181, .int .i64 0, .int .i64 0, .bool false, .int .i64 0]) ?_ 2 _ rfl; (with_reducible repeat (first | refine blk_drewN ?_ _ | refine blk_drew ?_ | refine blk_alloc ?_ _)); refine blk_put (cs := #[.int .i64 t180, .int .i64 0, .int .i64 0, .int .i64 0, .bool false, .int .i64 0]) ?_ 1 _ rfl; (with_reducible repeat (first | refine blk_drewN ?_ _ | refine blk_drew ?_ | refine blk_alloc ?_ _)); refine blk_put (cs := #[.int .i64 0, .int .i64 0, .int .i64 0, .int .i64 0, .bool false, .int .i64 0]) ?_ 0 _ rfl; (with_reducible repeat (first | refine blk_drewN ?_ _ | refine blk_drew ?_ | refine blk_alloc ?_ _)); exact BK187.out⟩, ⟨by repeat (first | (with_reducible first | exact HB.out | apply below_alloc | apply pw_below_drewN | apply below_drew1 | refine below_set ?_ GE177.out | refine below_set ?_ GE187.out) | exact HB.out)⟩⟩
                · rw [if_neg c65] at H
                  have c65b0 : (t181 == a2_3) = false := beq_eq_false_iff_ne.mpr c65
                  have c65b1 : (t181 != a2_3) = true := bne_iff_ne.mpr c65
                  (first | rw [c65b0] | (simp only [i64_w, i32_w]; rw [c65b0]) | skip)
                  have H' := Aside0.mk H
                  clear H
                  have hnb69 := NB187_177.out
                  have hnc69 := NB177_187.out
                  have hcz70_0 : w60.cell? ⟨gb187, 0, none⟩ = some (.int .i64 0) := (blk_cell BK187.out 0).trans rfl
                  have hcz70_1 : w60.cell? ⟨gb187, 1, none⟩ = some (.int .i64 0) := (blk_cell BK187.out 1).trans rfl
                  have hcz70_2 : w60.cell? ⟨gb187, 2, none⟩ = some (.int .i64 0) := (blk_cell BK187.out 2).trans rfl
                  have hcz70_3 : w60.cell? ⟨gb187, 3, none⟩ = some (.int .i64 0) := (blk_cell BK187.out 3).trans rfl
                  have hcz70_4 : w60.cell? ⟨gb187, 4, none⟩ = some (.bool false) := (blk_cell BK187.out 4).trans rfl
                  have hcz70_5 : w60.cell? ⟨gb187, 5, none⟩ = some (.int .i64 0) := (blk_cell BK187.out 5).trans rfl
                  have hfz70_0 := blk_frozen BK187.out 0
                  have hfz70_1 := blk_frozen BK187.out 1
                  have hfz70_2 := blk_frozen BK187.out 2
                  have hfz70_3 := blk_frozen BK187.out 3
                  have hfz70_4 := blk_frozen BK187.out 4
                  have hfz70_5 := blk_frozen BK187.out 5
                  have hcz71_0 : w60.cell? ⟨gb177, 0, none⟩ = some (.int .i64 a2_0) := (blk_cell BK177.out 0).trans rfl
                  have hcz71_1 : w60.cell? ⟨gb177, 1, none⟩ = some (.int .i64 a2_1) := (blk_cell BK177.out 1).trans rfl
                  have hcz71_2 : w60.cell? ⟨gb177, 2, none⟩ = some (.int .i64 a2_2) := (blk_cell BK177.out 2).trans rfl
                  have hcz71_3 : w60.cell? ⟨gb177, 3, none⟩ = some (.int .i64 a2_3) := (blk_cell BK177.out 3).trans rfl
                  have hcz71_4 : w60.cell? ⟨gb177, 4, none⟩ = some (.int .i64 a2_4) := (blk_cell BK177.out 4).trans rfl
                  have hcz71_5 : w60.cell? ⟨gb177, 5, none⟩ = some (.int .i64 a2_5) := (blk_cell BK177.out 5).trans rfl
                  have hcz71_6 : w60.cell? ⟨gb177, 6, none⟩ = some (.int .i64 a2_6) := (blk_cell BK177.out 6).trans rfl
                  have hcz71_7 : w60.cell? ⟨gb177, 7, none⟩ = some (.int .i64 a2_7) := (blk_cell BK177.out 7).trans rfl
                  have hfz71_0 := blk_frozen BK177.out 0
                  have hfz71_1 := blk_frozen BK177.out 1
                  have hfz71_2 := blk_frozen BK177.out 2
                  have hfz71_3 := blk_frozen BK177.out 3
                  have hfz71_4 := blk_frozen BK177.out 4
                  have hfz71_5 := blk_frozen BK177.out 5
                  have hfz71_6 := blk_frozen BK177.out 6
                  have hfz71_7 := blk_frozen BK177.out 7
                  go_wp2
                  go_meet
                  case rel => exact ⟨_, (true), (by first | rfl | (simp; done) | (simp [*]; done)), H', ⟨by have := HJ6.out; first | omega | exact Nat.le_refl _⟩, ⟨by (with_reducible repeat (first | refine blk_drewN ?_ _ | refine blk_drew ?_ | refine blk_alloc ?_ _)); refine blk_far ?_ NB177_187.out _; (with_reducible repeat (first | refine blk_drewN ?_ _ | refine blk_drew ?_ | refine blk_alloc ?_ _)); refine blk_far ?_ NB177_187.out _; (with_reducible repeat (first | refine blk_drewN ?_ _ | refine blk_drew ?_ | refine blk_alloc ?_ _)); refine blk_far ?_ NB177_187.out _; (with_reducible repeat (first | refine blk_drewN ?_ _ | refine blk_drew ?_ | refine blk_alloc ?_ _)); refine blk_far ?_ NB177_187.out _; (with_reducible repeat (first | refine blk_drewN ?_ _ | refine blk_drew ?_ | refine blk_alloc ?_ _)); refine blk_far ?_ NB177_187.out _; (with_reducible repeat (first | refine blk_drewN ?_ _ | refine blk_drew ?_ | refine blk_alloc ?_ _)); refine blk_far ?_ NB177_187.out _; (with_reducible repeat (first | refine blk_drewN ?_ _ | refine blk_drew ?_ | refine blk_alloc ?_ _)); exact BK177.out⟩, ⟨by (with_reducible repeat (first | refine blk_drewN ?_ _ | refine blk_drew ?_ | refine blk_alloc ?_ _)); refine blk_put (cs := #[.int .i64 t180, .int .i64 t181, .int .i64 t182, .int .i64 t183, .bool t184, .int .i64 0]) ?_ 5 _ rfl; (with_reducible repeat (first | refine blk_drewN ?_ _ | refine blk_drew ?_ | refine blk_alloc ?_ _)); refine blk_put (cs := #[.int .i64 t180, .int .i64 t181, .int .i64 t182, .int .i64 t183, .bool false, .int .i64 0]) ?_ 4 _ rfl; (with_reducible repeat (first | refine blk_drewN ?_ _ | refine blk_drew ?_ | refine blk_alloc ?_ _)); refine blk_put (cs := #[.int .i64 t180, .int .i64 t181, .int .i64 t182, .int .i64 0, .bool false, .int .i64 0]) ?_ 3 _ rfl; (with_reducible repeat (first | refine blk_drewN ?_ _ | refine blk_drew ?_ | refine blk_alloc ?_ _)); refine blk_put (cs := #[.int .i64 t180, .int .i64 t181, .int .i64 0, .int .i64 0, .bool false, .int .i64 0]) ?_ 2 _ rfl; (with_reducible repeat (first | refine blk_drewN ?_ _ | refine blk_drew ?_ | refine blk_alloc ?_ _)); refine blk_put (cs := #[.int .i64 t180, .int .i64 0, .int .i64 0, .int .i64 0, .bool false, .int .i64 0]) ?_ 1 _ rfl; (with_reducible repeat (first | refine blk_drewN ?_ _ | refine blk_drew ?_ | refine blk_alloc ?_ _)); refine blk_put (cs := #[.int .i64 0, .int .i64 0, .int .i64 0, .int .i64 0, .bool false, .int .i64 0]) ?_ 0 _ rfl; (with_reducible repeat (first | refine blk_drewN ?_ _ | refine blk_drew ?_ | refine blk_alloc ?_ _)); exact BK187.out⟩, ⟨by repeat (first | (with_reducible first | exact HB.out | apply below_alloc | apply pw_below_drewN | apply below_drew1 | refine below_set ?_ GE177.out | refine below_set ?_ GE187.out) | exact HB.out)⟩⟩
              · replace c64 := Bool.eq_false_iff.mpr c64
                subst c64
                have H1 : (slotmeshref31_Hear.j4 kj6 l0 true a2_0 a2_1 a2_2 a2_3 a2_4 a2_5 a2_6 a2_7 t180 t181 t182 t183 t184 t185) = some (r1, r2) := by rw [if_neg (show ¬ (false = true) by decide)] at H; exact H
                clear H
                have H := H1
                clear H1
                have H' := Aside0.mk H
                clear H
                go_wp2
                go_meet
                case rel => exact ⟨_, (true), (by first | rfl | (simp; done) | (simp [*]; done)), H', ⟨by have := HJ6.out; first | omega | exact Nat.le_refl _⟩, ⟨by (with_reducible repeat (first | refine blk_drewN ?_ _ | refine blk_drew ?_ | refine blk_alloc ?_ _)); refine blk_far ?_ NB177_187.out _; (with_reducible repeat (first | refine blk_drewN ?_ _ | refine blk_drew ?_ | refine blk_alloc ?_ _)); refine blk_far ?_ NB177_187.out _; (with_reducible repeat (first | refine blk_drewN ?_ _ | refine blk_drew ?_ | refine blk_alloc ?_ _)); refine blk_far ?_ NB177_187.out _; (with_reducible repeat (first | refine blk_drewN ?_ _ | refine blk_drew ?_ | refine blk_alloc ?_ _)); refine blk_far ?_ NB177_187.out _; (with_reducible repeat (first | refine blk_drewN ?_ _ | refine blk_drew ?_ | refine blk_alloc ?_ _)); refine blk_far ?_ NB177_187.out _; (with_reducible repeat (first | refine blk_drewN ?_ _ | refine blk_drew ?_ | refine blk_alloc ?_ _)); refine blk_far ?_ NB177_187.out _; (with_reducible repeat (first | refine blk_drewN ?_ _ | refine blk_drew ?_ | refine blk_alloc ?_ _)); exact BK177.out⟩, ⟨by (with_reducible repeat (first | refine blk_drewN ?_ _ | refine blk_drew ?_ | refine blk_alloc ?_ _)); refine blk_put (cs := #[.int .i64 t180, .int .i64 t181, .int .i64 t182, .int .i64 t183, .bool t184, .int .i64 0]) ?_ 5 _ rfl; (with_reducible repeat (first | refine blk_drewN ?_ _ | refine blk_drew ?_ | refine blk_alloc ?_ _)); refine blk_put (cs := #[.int .i64 t180, .int .i64 t181, .int .i64 t182, .int .i64 t183, .bool false, .int .i64 0]) ?_ 4 _ rfl; (with_reducible repeat (first | refine blk_drewN ?_ _ | refine blk_drew ?_ | refine blk_alloc ?_ _)); refine blk_put (cs := #[.int .i64 t180, .int .i64 t181, .int .i64 t182, .int .i64 0, .bool false, .int .i64 0]) ?_ 3 _ rfl; (with_reducible repeat (first | refine blk_drewN ?_ _ | refine blk_drew ?_ | refine blk_alloc ?_ _)); refine blk_put (cs := #[.int .i64 t180, .int .i64 t181, .int .i64 0, .int .i64 0, .bool false, .int .i64 0]) ?_ 2 _ rfl; (with_reducible repeat (first | refine blk_drewN ?_ _ | refine blk_drew ?_ | refine blk_alloc ?_ _)); refine blk_put (cs := #[.int .i64 t180, .int .i64 0, .int .i64 0, .int .i64 0, .bool false, .int .i64 0]) ?_ 1 _ rfl; (with_reducible repeat (first | refine blk_drewN ?_ _ | refine blk_drew ?_ | refine blk_alloc ?_ _)); refine blk_put (cs := #[.int .i64 0, .int .i64 0, .int .i64 0, .int .i64 0, .bool false, .int .i64 0]) ?_ 0 _ rfl; (with_reducible repeat (first | refine blk_drewN ?_ _ | refine blk_drew ?_ | refine blk_alloc ?_ _)); exact BK187.out⟩, ⟨by repeat (first | (with_reducible first | exact HB.out | apply below_alloc | apply pw_below_drewN | apply below_drew1 | refine below_set ?_ GE177.out | refine below_set ?_ GE187.out) | exact HB.out)⟩⟩
            case rest =>
              clear HC57
              try clear c1
              try clear c2
              try clear p2
              try clear c3
              try clear c4
              try clear c5
              try clear c6
              try clear p6
              try clear c7
              try clear c12
              try clear c13
              try clear c14
              try clear c14b0
              try clear c14b1
              try clear c15
              try clear c15b0
              try clear c17
              try clear c17b0
              try clear c19
              try clear c19b0
              try clear c23
              try clear c25
              try clear c25b0
              try clear c25b1
              try clear c27
              try clear c29
              try clear c30
              try clear c33
              try clear c34
              try clear c37
              try clear c38
              try clear c39
              try clear c40
              try clear c43
              try clear c45
              try clear c49
              try clear c50
              try clear c53
              try clear c56
              try clear c56b0
              try clear c56b1
              try clear c61
              try clear c64
              try clear p64
              try clear c65
              try clear c65b0
              try clear c65b1
              try clear c66
              try clear c69
              try clear c70
              try clear hcz10_0
              try clear hcz10_1
              try clear hcz10_2
              try clear hcz10_3
              try clear hcz10_4
              try clear hcz10_5
              try clear hcz10_6
              try clear hcz10_7
              try clear hcz16_0
              try clear hcz16_1
              try clear hcz16_2
              try clear hcz16_3
              try clear hcz16_4
              try clear hcz16_5
              try clear hcz16_6
              try clear hcz16_7
              try clear hcz18_0
              try clear hcz18_1
              try clear hcz18_2
              try clear hcz18_3
              try clear hcz18_4
              try clear hcz18_5
              try clear hcz18_6
              try clear hcz18_7
              try clear hcz20_0
              try clear hcz20_1
              try clear hcz20_2
              try clear hcz20_3
              try clear hcz20_4
              try clear hcz20_5
              try clear hcz20_6
              try clear hcz20_7
              try clear hcz21_0
              try clear hcz21_1
              try clear hcz21_2
              try clear hcz21_3
              try clear hcz21_4
              try clear hcz21_5
              try clear hcz21_6
              try clear hcz21_7
              try clear hcz22_0
              try clear hcz22_1
              try clear hcz22_2
              try clear hcz22_3
              try clear hcz22_4
              try clear hcz22_5
              try clear hcz22_6
              try clear hcz22_7
              try clear hcz27_0
              try clear hcz27_1
              try clear hcz27_2
              try clear hcz27_3
              try clear hcz27_4
              try clear hcz27_5
              try clear hcz27_6
              try clear hcz27_7
              try clear hcz31_0
              try clear hcz31_1
              try clear hcz31_2
              try clear hcz31_3
              try clear hcz31_4
              try clear hcz31_5
              try clear hcz32_0
              try clear hcz32_1
              try clear hcz32_2
              try clear hcz32_3
              try clear hcz32_4
              try clear hcz32_5
              try clear hcz32_6
              try clear hcz32_7
              try clear hcz35_0
              try clear hcz35_1
              try clear hcz35_2
              try clear hcz35_3
              try clear hcz35_4
              try clear hcz35_5
              try clear hcz36_0
              try clear hcz36_1
              try clear hcz36_2
              try clear hcz36_3
              try clear hcz36_4
              try clear hcz36_5
              try clear hcz36_6
              try clear hcz36_7
              try clear hcz41_0
              try clear hcz41_1
              try clear hcz41_2
              try clear hcz41_3
              try clear hcz41_4
              try clear hcz41_5
              try clear hcz42_0
              try clear hcz42_1
              try clear hcz42_2
              try clear hcz42_3
              try clear hcz42_4
              try clear hcz42_5
              try clear hcz42_6
              try clear hcz42_7
              try clear hcz46_0
              try clear hcz46_1
              try clear hcz46_2
              try clear hcz46_3
              try clear hcz46_4
              try clear hcz46_5
              try clear hcz54_0
              try clear hcz54_1
              try clear hcz54_2
              try clear hcz54_3
              try clear hcz54_4
              try clear hcz54_5
              try clear hcz54_6
              try clear hcz54_7
              try clear hcz58_0
              try clear hcz58_1
              try clear hcz58_2
              try clear hcz58_3
              try clear hcz58_4
              try clear hcz58_5
              try clear hcz58_6
              try clear hcz58_7
              try clear hcz62_0
              try clear hcz62_1
              try clear hcz62_2
              try clear hcz62_3
              try clear hcz62_4
              try clear hcz62_5
              try clear hcz63_0
              try clear hcz63_1
              try clear hcz63_2
              try clear hcz63_3
              try clear hcz63_4
              try clear hcz63_5
              try clear hcz63_6
              try clear hcz63_7
              try clear hcz67_0
              try clear hcz67_1
              try clear hcz67_2
              try clear hcz67_3
              try clear hcz67_4
              try clear hcz67_5
              try clear hcz68_0
              try clear hcz68_1
              try clear hcz68_2
              try clear hcz68_3
              try clear hcz68_4
              try clear hcz68_5
              try clear hcz68_6
              try clear hcz68_7
              try clear hcz70_0
              try clear hcz70_1
              try clear hcz70_2
              try clear hcz70_3
              try clear hcz70_4
              try clear hcz70_5
              try clear hcz71_0
              try clear hcz71_1
              try clear hcz71_2
              try clear hcz71_3
              try clear hcz71_4
              try clear hcz71_5
              try clear hcz71_6
              try clear hcz71_7
              try clear hfz10_0
              try clear hfz10_1
              try clear hfz10_2
              try clear hfz10_3
              try clear hfz10_4
              try clear hfz10_5
              try clear hfz10_6
              try clear hfz10_7
              try clear hfz16_0
              try clear hfz16_1
              try clear hfz16_2
              try clear hfz16_3
              try clear hfz16_4
              try clear hfz16_5
              try clear hfz16_6
              try clear hfz16_7
              try clear hfz18_0
              try clear hfz18_1
              try clear hfz18_2
              try clear hfz18_3
              try clear hfz18_4
              try clear hfz18_5
              try clear hfz18_6
              try clear hfz18_7
              try clear hfz20_0
              try clear hfz20_1
              try clear hfz20_2
              try clear hfz20_3
              try clear hfz20_4
              try clear hfz20_5
              try clear hfz20_6
              try clear hfz20_7
              try clear hfz21_0
              try clear hfz21_1
              try clear hfz21_2
              try clear hfz21_3
              try clear hfz21_4
              try clear hfz21_5
              try clear hfz21_6
              try clear hfz21_7
              try clear hfz22_0
              try clear hfz22_1
              try clear hfz22_2
              try clear hfz22_3
              try clear hfz22_4
              try clear hfz22_5
              try clear hfz22_6
              try clear hfz22_7
              try clear hfz27_0
              try clear hfz27_1
              try clear hfz27_2
              try clear hfz27_3
              try clear hfz27_4
              try clear hfz27_5
              try clear hfz27_6
              try clear hfz27_7
              try clear hfz31_0
              try clear hfz31_1
              try clear hfz31_2
              try clear hfz31_3
              try clear hfz31_4
              try clear hfz31_5
              try clear hfz32_0
              try clear hfz32_1
              try clear hfz32_2
              try clear hfz32_3
              try clear hfz32_4
              try clear hfz32_5
              try clear hfz32_6
              try clear hfz32_7
              try clear hfz35_0
              try clear hfz35_1
              try clear hfz35_2
              try clear hfz35_3
              try clear hfz35_4
              try clear hfz35_5
              try clear hfz36_0
              try clear hfz36_1
              try clear hfz36_2
              try clear hfz36_3
              try clear hfz36_4
              try clear hfz36_5
              try clear hfz36_6
              try clear hfz36_7
              try clear hfz41_0
              try clear hfz41_1
              try clear hfz41_2
              try clear hfz41_3
              try clear hfz41_4
              try clear hfz41_5
              try clear hfz42_0
              try clear hfz42_1
              try clear hfz42_2
              try clear hfz42_3
              try clear hfz42_4
              try clear hfz42_5
              try clear hfz42_6
              try clear hfz42_7
              try clear hfz46_0
              try clear hfz46_1
              try clear hfz46_2
              try clear hfz46_3
              try clear hfz46_4
              try clear hfz46_5
              try clear hfz54_0
              try clear hfz54_1
              try clear hfz54_2
              try clear hfz54_3
              try clear hfz54_4
              try clear hfz54_5
              try clear hfz54_6
              try clear hfz54_7
              try clear hfz58_0
              try clear hfz58_1
              try clear hfz58_2
              try clear hfz58_3
              try clear hfz58_4
              try clear hfz58_5
              try clear hfz58_6
              try clear hfz58_7
              try clear hfz62_0
              try clear hfz62_1
              try clear hfz62_2
              try clear hfz62_3
              try clear hfz62_4
              try clear hfz62_5
              try clear hfz63_0
              try clear hfz63_1
              try clear hfz63_2
              try clear hfz63_3
              try clear hfz63_4
              try clear hfz63_5
              try clear hfz63_6
              try clear hfz63_7
              try clear hfz67_0
              try clear hfz67_1
              try clear hfz67_2
              try clear hfz67_3
              try clear hfz67_4
              try clear hfz67_5
              try clear hfz68_0
              try clear hfz68_1
              try clear hfz68_2
              try clear hfz68_3
              try clear hfz68_4
              try clear hfz68_5
              try clear hfz68_6
              try clear hfz68_7
              try clear hfz70_0
              try clear hfz70_1
              try clear hfz70_2
              try clear hfz70_3
              try clear hfz70_4
              try clear hfz70_5
              try clear hfz71_0
              try clear hfz71_1
              try clear hfz71_2
              try clear hfz71_3
              try clear hfz71_4
              try clear hfz71_5
              try clear hfz71_6
              try clear hfz71_7
              try clear p2
              obtain ⟨kq, x120_56, rfl, HA, HJ56, BK177, BK187, HB⟩ := hcut
              cases kq with
              | zero => exact absurd HA.out (by simp [slotmeshref31_Hear.j4])
              | succ kj56 =>
                have H := HA.out
                clear HA
                simp only [slotmeshref31_Hear.j4] at H
                by_cases c72 : x120_56 = true
                · subst c72
                  have H1 : (some (([] : List (S68)), 4)) = some (r1, r2) := by rw [if_pos rfl] at H; exact H
                  clear H
                  have H := H1
                  clear H1
                  simp only [Option.some.injEq, Prod.mk.injEq] at H
                  obtain ⟨rfl, rfl⟩ := H
                  go_wp2
                  go_ret2
                  exact ⟨_, by first | rfl | (simp [errW_none, errW_some] <;> rfl) | (simp [*, errW_none, errW_some] <;> rfl), by first | exact Kd.R_nil _ _ _ _ _ | exact Kd.N_nil _ _ _ _ _ | exact Kd.V_nil _ _ _ _ _ | exact Kd.Q_nil _ _ _ _ _ | exact Kd.S_nil _ _ _ _ _, by repeat (first | (with_reducible first | exact HB.out | apply below_alloc | apply pw_below_drewN | apply below_drew1 | refine below_set ?_ GE177.out | refine below_set ?_ GE187.out) | exact HB.out)⟩
                · replace c72 := Bool.eq_false_iff.mpr c72
                  subst c72
                  have H1 : ((slotmeshref31_With.f kj56 l0 t180 t181 t182 t183 true a2_5).bind fun t195 => (some (t195, 0))) = some (r1, r2) := by rw [if_neg (show ¬ (false = true) by decide)] at H; exact H
                  clear H
                  have H := H1
                  clear H1
                  replace H := Option.bind_eq_some_iff.mp H
                  obtain ⟨t195, A730, H⟩ := H
                  replace H : (some (t195, 0)) = some (r1, r2) := H
                  have A73 := Aside0.mk A730
                  clear A730
                  simp only [Option.some.injEq, Prod.mk.injEq] at H
                  obtain ⟨rfl, rfl⟩ := H
                  have hnb74 := NB187_177.out
                  have hnc74 := NB177_187.out
                  have hcz75_0 : wc.cell? ⟨gb187, 0, none⟩ = some (.int .i64 t180) := (blk_cell BK187.out 0).trans rfl
                  have hcz75_1 : wc.cell? ⟨gb187, 1, none⟩ = some (.int .i64 t181) := (blk_cell BK187.out 1).trans rfl
                  have hcz75_2 : wc.cell? ⟨gb187, 2, none⟩ = some (.int .i64 t182) := (blk_cell BK187.out 2).trans rfl
                  have hcz75_3 : wc.cell? ⟨gb187, 3, none⟩ = some (.int .i64 t183) := (blk_cell BK187.out 3).trans rfl
                  have hcz75_4 : wc.cell? ⟨gb187, 4, none⟩ = some (.bool t184) := (blk_cell BK187.out 4).trans rfl
                  have hcz75_5 : wc.cell? ⟨gb187, 5, none⟩ = some (.int .i64 t185) := (blk_cell BK187.out 5).trans rfl
                  have hfz75_0 := blk_frozen BK187.out 0
                  have hfz75_1 := blk_frozen BK187.out 1
                  have hfz75_2 := blk_frozen BK187.out 2
                  have hfz75_3 := blk_frozen BK187.out 3
                  have hfz75_4 := blk_frozen BK187.out 4
                  have hfz75_5 := blk_frozen BK187.out 5
                  have hcz76_0 : wc.cell? ⟨gb177, 0, none⟩ = some (.int .i64 a2_0) := (blk_cell BK177.out 0).trans rfl
                  have hcz76_1 : wc.cell? ⟨gb177, 1, none⟩ = some (.int .i64 a2_1) := (blk_cell BK177.out 1).trans rfl
                  have hcz76_2 : wc.cell? ⟨gb177, 2, none⟩ = some (.int .i64 a2_2) := (blk_cell BK177.out 2).trans rfl
                  have hcz76_3 : wc.cell? ⟨gb177, 3, none⟩ = some (.int .i64 a2_3) := (blk_cell BK177.out 3).trans rfl
                  have hcz76_4 : wc.cell? ⟨gb177, 4, none⟩ = some (.int .i64 a2_4) := (blk_cell BK177.out 4).trans rfl
                  have hcz76_5 : wc.cell? ⟨gb177, 5, none⟩ = some (.int .i64 a2_5) := (blk_cell BK177.out 5).trans rfl
                  have hcz76_6 : wc.cell? ⟨gb177, 6, none⟩ = some (.int .i64 a2_6) := (blk_cell BK177.out 6).trans rfl
                  have hcz76_7 : wc.cell? ⟨gb177, 7, none⟩ = some (.int .i64 a2_7) := (blk_cell BK177.out 7).trans rfl
                  have hfz76_0 := blk_frozen BK177.out 0
                  have hfz76_1 := blk_frozen BK177.out 1
                  have hfz76_2 := blk_frozen BK177.out 2
                  have hfz76_3 := blk_frozen BK177.out 3
                  have hfz76_4 := blk_frozen BK177.out 4
                  have hfz76_5 := blk_frozen BK177.out 5
                  have hfz76_6 := blk_frozen BK177.out 6
                  have hfz76_7 := blk_frozen BK177.out 7
                  go_wp2_with (first | ((with_reducible refine gate_callee (f := 69) rfl ?_); refine goesL_ (some 127) rfl rfl Tryd.func69 (by kernel_rfl) rfl #[.slice A0 l0.length c0, .agg #[.int .i64 t180, .int .i64 t181, .int .i64 t182, .int .i64 t183, .bool true, .int .i64 a2_5]] rfl (by (try simp only [List.map_toArray, List.map_cons, List.map_nil]); first | done | rfl | (simp only [List.length_drop, List.length_take]; rfl)) ?_; (with_reducible refine (slotmeshref31_With.calls kj56 _ _ l0 t180 t181 t182 t183 true a2_5 t195 _ ?side1 ?side2 A73.out).mono ?_); (case side1 => exact Kd.C_below HR0.out (by repeat (first | (with_reducible first | exact HB.out | apply below_alloc | apply pw_below_drewN | apply below_drew1 | refine below_set ?_ GE177.out | refine below_set ?_ GE187.out) | exact HB.out))); (case side2 => exact HC0.out); rintro e w77 ⟨v196, rfl, ho0, hb⟩; refine ⟨_, rfl, ?_⟩; have n0_ := Aside0.mk (Kd.R_lower (Kd.R_newB ho0 (g := gb187) (o := .cells #[.int .i64 t180, .int .i64 t181, .int .i64 t182, .int .i64 t183, .bool true, .int .i64 a2_5] 68 (0, 0)) (by (with_reducible repeat (first | refine blk_drewN ?_ _ | refine blk_drew ?_ | refine blk_alloc ?_ _)); refine blk_put (cs := #[.int .i64 t180, .int .i64 t181, .int .i64 t182, .int .i64 t183, .bool true, .int .i64 t185]) ?_ 5 _ rfl; (with_reducible repeat (first | refine blk_drewN ?_ _ | refine blk_drew ?_ | refine blk_alloc ?_ _)); refine blk_put (cs := #[.int .i64 t180, .int .i64 t181, .int .i64 t182, .int .i64 t183, .bool t184, .int .i64 t185]) ?_ 4 _ rfl; (with_reducible repeat (first | refine blk_drewN ?_ _ | refine blk_drew ?_ | refine blk_alloc ?_ _)); exact BK187.out)) (below_size (by repeat (first | (with_reducible first | exact HB.out | apply below_alloc | apply pw_below_drewN | apply below_drew1 | refine below_set ?_ GE177.out | refine below_set ?_ GE187.out) | exact HB.out)))); have n1_ := Aside0.mk (blk_below (g := gb177) (o := .cells #[.int .i64 a2_0, .int .i64 a2_1, .int .i64 a2_2, .int .i64 a2_3, .int .i64 a2_4, .int .i64 a2_5, .int .i64 a2_6, .int .i64 a2_7] 54 (0, 0)) (by (with_reducible repeat (first | refine blk_drewN ?_ _ | refine blk_drew ?_ | refine blk_alloc ?_ _)); refine blk_far ?_ NB177_187.out _; (with_reducible repeat (first | refine blk_drewN ?_ _ | refine blk_drew ?_ | refine blk_alloc ?_ _)); refine blk_far ?_ NB177_187.out _; (with_reducible repeat (first | refine blk_drewN ?_ _ | refine blk_drew ?_ | refine blk_alloc ?_ _)); exact BK177.out) hb); have n2_ := Aside0.mk (blk_below (g := gb187) (o := .cells #[.int .i64 t180, .int .i64 t181, .int .i64 t182, .int .i64 t183, .bool true, .int .i64 a2_5] 68 (0, 0)) (by (with_reducible repeat (first | refine blk_drewN ?_ _ | refine blk_drew ?_ | refine blk_alloc ?_ _)); refine blk_put (cs := #[.int .i64 t180, .int .i64 t181, .int .i64 t182, .int .i64 t183, .bool true, .int .i64 t185]) ?_ 5 _ rfl; (with_reducible repeat (first | refine blk_drewN ?_ _ | refine blk_drew ?_ | refine blk_alloc ?_ _)); refine blk_put (cs := #[.int .i64 t180, .int .i64 t181, .int .i64 t182, .int .i64 t183, .bool t184, .int .i64 t185]) ?_ 4 _ rfl; (with_reducible repeat (first | refine blk_drewN ?_ _ | refine blk_drew ?_ | refine blk_alloc ?_ _)); exact BK187.out) hb); have n3_ := Aside0.mk (below_step (by repeat (first | (with_reducible first | exact HB.out | apply below_alloc | apply pw_below_drewN | apply below_drew1 | refine below_set ?_ GE177.out | refine below_set ?_ GE187.out) | exact HB.out)) hb); clear BK177; clear BK187; clear HB; have HO197 := n0_; have BK177 := n1_; have BK187 := n2_; have HB := n3_; clear n0_ n1_ n2_ n3_; (try clear hb); (try clear hb2); (try clear hk); (try clear hi); (try clear ho0)))
                  go_ret2
                  exact ⟨_, by first | rfl | (simp [errW_none, errW_some] <;> rfl) | (simp [*, errW_none, errW_some] <;> rfl), by (with_reducible repeat (first | apply Kd.R_alloc | apply Kd.R_drewN | apply Kd.R_drew)); exact Kd.R_mono HO197.out (fun _ hk => trivial), by repeat (first | (with_reducible first | exact HB.out | apply below_alloc | apply pw_below_drewN | apply below_drew1 | refine below_set ?_ GE177.out | refine below_set ?_ GE187.out) | exact HB.out)⟩
          · rw [if_neg c56] at H
            have c56b0 : (a2_0 == 3) = false := beq_eq_false_iff_ne.mpr c56
            have c56b1 : (a2_0 != 3) = true := bne_iff_ne.mpr c56
            simp only [Option.some.injEq, Prod.mk.injEq] at H
            obtain ⟨rfl, rfl⟩ := H
            have hcz78_0 : wc.cell? ⟨gb177, 0, none⟩ = some (.int .i64 a2_0) := (blk_cell BK177.out 0).trans rfl
            have hcz78_1 : wc.cell? ⟨gb177, 1, none⟩ = some (.int .i64 a2_1) := (blk_cell BK177.out 1).trans rfl
            have hcz78_2 : wc.cell? ⟨gb177, 2, none⟩ = some (.int .i64 a2_2) := (blk_cell BK177.out 2).trans rfl
            have hcz78_3 : wc.cell? ⟨gb177, 3, none⟩ = some (.int .i64 a2_3) := (blk_cell BK177.out 3).trans rfl
            have hcz78_4 : wc.cell? ⟨gb177, 4, none⟩ = some (.int .i64 a2_4) := (blk_cell BK177.out 4).trans rfl
            have hcz78_5 : wc.cell? ⟨gb177, 5, none⟩ = some (.int .i64 a2_5) := (blk_cell BK177.out 5).trans rfl
            have hcz78_6 : wc.cell? ⟨gb177, 6, none⟩ = some (.int .i64 a2_6) := (blk_cell BK177.out 6).trans rfl
            have hcz78_7 : wc.cell? ⟨gb177, 7, none⟩ = some (.int .i64 a2_7) := (blk_cell BK177.out 7).trans rfl
            have hfz78_0 := blk_frozen BK177.out 0
            have hfz78_1 := blk_frozen BK177.out 1
            have hfz78_2 := blk_frozen BK177.out 2
            have hfz78_3 := blk_frozen BK177.out 3
            have hfz78_4 := blk_frozen BK177.out 4
            have hfz78_5 := blk_frozen BK177.out 5
            have hfz78_6 := blk_frozen BK177.out 6
            have hfz78_7 := blk_frozen BK177.out 7
            go_wp2_with (first | ((with_reducible refine gate_callee (f := 38) rfl ?_); refine goesL_ (some 53) rfl rfl Tryd.func38 (by kernel_rfl) rfl #[.slice A0 l0.length c0, .int .i64 a2_1] rfl (by (try simp only [List.map_toArray, List.map_cons, List.map_nil]); first | done | rfl | (simp only [List.length_drop, List.length_take]; rfl)) ?_; (with_reducible refine (slotmeshref31_Of.calls kj6 _ _ l0 a2_1 t180 t181 t182 t183 t184 t185 t186 _ ?side1 ?side2 A24.out).mono ?_); (case side1 => repeat (first | exact (Kd.C_below HR0.out HB.out) | (with_reducible refine Kd.C_alloc ?_ _) | (with_reducible refine Kd.C_drewN ?_ _) | (with_reducible refine Kd.C_drew ?_))); (case side2 => exact HC0.out); rintro e w79 ⟨rfl, hb⟩; refine ⟨_, rfl, ?_⟩; have n0_ := Aside0.mk (blk_below (g := gb177) (o := .cells #[.int .i64 a2_0, .int .i64 a2_1, .int .i64 a2_2, .int .i64 a2_3, .int .i64 a2_4, .int .i64 a2_5, .int .i64 a2_6, .int .i64 a2_7] 54 (0, 0)) (by (with_reducible repeat (first | refine blk_drewN ?_ _ | refine blk_drew ?_ | refine blk_alloc ?_ _)); exact BK177.out) hb); have n1_ := Aside0.mk (below_step (by repeat (first | (with_reducible first | exact HB.out | apply below_alloc | apply pw_below_drewN | apply below_drew1 | refine below_set ?_ GE177.out) | exact HB.out)) hb); clear BK177; clear HB; have BK177 := n0_; have HB := n1_; clear n0_ n1_; (try clear hb); (try clear hb2); (try clear hk); (try clear hi)) | ((with_reducible refine gate_dst (N := 12) rfl ?_); (try (refine gate_guard (by rfl) ?_; dsimp only)); refine box_event ?hg (N := 12) ?hd (cs := #[.int .i64 0, .int .i64 0, .int .i64 0, .int .i64 0, .bool false, .int .i64 0]) (t := 68) ?hr ?_; (case hd => rfl); (case hg => rfl); (case hr => first | (go_simp; done) | (go_simp; rfl)); intro gb187 hg w80 hbox hb; have n0_ := Aside0.mk (blk_below (g := gb177) (o := .cells #[.int .i64 a2_0, .int .i64 a2_1, .int .i64 a2_2, .int .i64 a2_3, .int .i64 a2_4, .int .i64 a2_5, .int .i64 a2_6, .int .i64 a2_7] 54 (0, 0)) (by (with_reducible repeat (first | refine blk_drewN ?_ _ | refine blk_drew ?_ | refine blk_alloc ?_ _)); exact BK177.out) hb); have n1_ := Aside0.mk (below_step (by repeat (first | (with_reducible first | exact HB.out | apply below_alloc | apply pw_below_drewN | apply below_drew1 | refine below_set ?_ GE177.out) | exact HB.out)) hb); have n2_ := Aside0.mk (hbox); have n3_ := Aside0.mk ((by rw [hg]; exact (below_size (by repeat (first | (with_reducible first | exact HB.out | apply below_alloc | apply pw_below_drewN | apply below_drew1 | refine below_set ?_ GE177.out) | exact HB.out))) : w.heap.size ≤ gb187)); have n4_ := Aside0.mk ((by rw [hg]; exact (below_size (by repeat (first | (with_reducible first | exact HB.out | apply below_alloc | apply pw_below_drewN | apply below_drew1 | refine below_set ?_ GE177.out) | exact HB.out))) : w.heap.size ≤ gb187)); have n5_ := Aside0.mk ((by rw [hg]; exact Nat.ne_of_lt (blk_lt (g := gb177) (o := .cells #[.int .i64 a2_0, .int .i64 a2_1, .int .i64 a2_2, .int .i64 a2_3, .int .i64 a2_4, .int .i64 a2_5, .int .i64 a2_6, .int .i64 a2_7] 54 (0, 0)) (by (with_reducible repeat (first | refine blk_drewN ?_ _ | refine blk_drew ?_ | refine blk_alloc ?_ _)); exact BK177.out)) : gb177 ≠ gb187)); have n6_ := Aside0.mk ((by rw [hg]; exact Nat.ne_of_gt (blk_lt (g := gb177) (o := .cells #[.int .i64 a2_0, .int .i64 a2_1, .int .i64 a2_2, .int .i64 a2_3, .int .i64 a2_4, .int .i64 a2_5, .int .i64 a2_6, .int .i64 a2_7] 54 (0, 0)) (by (with_reducible repeat (first | refine blk_drewN ?_ _ | refine blk_drew ?_ | refine blk_alloc ?_ _)); exact BK177.out)) : gb187 ≠ gb177)); clear BK177; clear HB; have BK177 := n0_; have HB := n1_; have BK187 := n2_; have GW187 := n3_; have GE187 := n4_; have NB177_187 := n5_; have NB187_177 := n6_; clear n0_ n1_ n2_ n3_ n4_ n5_ n6_; clear hb hbox hg; have hnb81 := NB187_177.out; have hnc81 := NB177_187.out; have hcz82_0 : w80.cell? ⟨gb187, 0, none⟩ = some (.int .i64 0) := (blk_cell BK187.out 0).trans rfl; have hcz82_1 : w80.cell? ⟨gb187, 1, none⟩ = some (.int .i64 0) := (blk_cell BK187.out 1).trans rfl; have hcz82_2 : w80.cell? ⟨gb187, 2, none⟩ = some (.int .i64 0) := (blk_cell BK187.out 2).trans rfl; have hcz82_3 : w80.cell? ⟨gb187, 3, none⟩ = some (.int .i64 0) := (blk_cell BK187.out 3).trans rfl; have hcz82_4 : w80.cell? ⟨gb187, 4, none⟩ = some (.bool false) := (blk_cell BK187.out 4).trans rfl; have hcz82_5 : w80.cell? ⟨gb187, 5, none⟩ = some (.int .i64 0) := (blk_cell BK187.out 5).trans rfl; have hfz82_0 := blk_frozen BK187.out 0; have hfz82_1 := blk_frozen BK187.out 1; have hfz82_2 := blk_frozen BK187.out 2; have hfz82_3 := blk_frozen BK187.out 3; have hfz82_4 := blk_frozen BK187.out 4; have hfz82_5 := blk_frozen BK187.out 5; have hcz83_0 : w80.cell? ⟨gb177, 0, none⟩ = some (.int .i64 a2_0) := (blk_cell BK177.out 0).trans rfl; have hcz83_1 : w80.cell? ⟨gb177, 1, none⟩ = some (.int .i64 a2_1) := (blk_cell BK177.out 1).trans rfl; have hcz83_2 : w80.cell? ⟨gb177, 2, none⟩ = some (.int .i64 a2_2) := (blk_cell BK177.out 2).trans rfl; have hcz83_3 : w80.cell? ⟨gb177, 3, none⟩ = some (.int .i64 a2_3) := (blk_cell BK177.out 3).trans rfl; have hcz83_4 : w80.cell? ⟨gb177, 4, none⟩ = some (.int .i64 a2_4) := (blk_cell BK177.out 4).trans rfl; have hcz83_5 : w80.cell? ⟨gb177, 5, none⟩ = some (.int .i64 a2_5) := (blk_cell BK177.out 5).trans rfl; have hcz83_6 : w80.cell? ⟨gb177, 6, none⟩ = some (.int .i64 a2_6) := (blk_cell BK177.out 6).trans rfl; have hcz83_7 : w80.cell? ⟨gb177, 7, none⟩ = some (.int .i64 a2_7) := (blk_cell BK177.out 7).trans rfl; have hfz83_0 := blk_frozen BK177.out 0; have hfz83_1 := blk_frozen BK177.out 1; have hfz83_2 := blk_frozen BK177.out 2; have hfz83_3 := blk_frozen BK177.out 3; have hfz83_4 := blk_frozen BK177.out 4; have hfz83_5 := blk_frozen BK177.out 5; have hfz83_6 := blk_frozen BK177.out 6; have hfz83_7 := blk_frozen BK177.out 7))
            go_ret2
            exact ⟨_, by first | rfl | (simp [errW_none, errW_some] <;> rfl) | (simp [*, errW_none, errW_some] <;> rfl), by first | exact Kd.R_nil _ _ _ _ _ | exact Kd.N_nil _ _ _ _ _ | exact Kd.V_nil _ _ _ _ _ | exact Kd.Q_nil _ _ _ _ _ | exact Kd.S_nil _ _ _ _ _, by repeat (first | (with_reducible first | exact HB.out | apply below_alloc | apply pw_below_drewN | apply below_drew1 | refine below_set ?_ GE177.out | refine below_set ?_ GE187.out) | exact HB.out)⟩

end Go.Proofs.YtncgeclkgmfppaaDoor.H
