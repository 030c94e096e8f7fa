/-
  keyring.Learn where both rings know the epoch: the union of the two.
-/
import Derived.Test.YtncgeclkgmfppaaDoorKeysP
import Derived.Test.YtncgeclkgmfppaaDoorStranger
import Derived.IntWalk
namespace Go.Proofs.YtncgeclkgmfppaaDoor.H
open Go.RowKit Go.Proofs.YtncgeclkgmfppaaDoorW.PrintWords Go.Proofs.YtncgeclkgmfppaaDoorW.PrintLast Go.Proofs.YtncgeclkgmfppaaDoorW.PrintMore
attribute [local go_sem] max2_int min2_int max_two min_two
set_option linter.unusedVariables false
set_option linter.unusedSimpArgs false
set_option maxRecDepth 100000
def K6 (p q r : Nat) (x0 x1 x2 x3 x4 x5 : Int) (w : World) : Prop := w.cell? ⟨p, 0, none⟩ = some (.int .i64 x0) ∧ w.cell? ⟨p, 1, none⟩ = some (.int .i64 x1) ∧ w.cell? ⟨q, 0, none⟩ = some (.int .i64 x2) ∧ w.cell? ⟨q, 1, none⟩ = some (.int .i64 x3) ∧ w.cell? ⟨r, 0, none⟩ = some (.int .i64 x4) ∧ w.cell? ⟨r, 1, none⟩ = some (.int .i64 x5)
theorem K6.alloc {p q r : Nat} {x0 x1 x2 x3 x4 x5 : Int} {w : World} (o : Obj) (h : K6 p q r x0 x1 x2 x3 x4 x5 w) : K6 p q r x0 x1 x2 x3 x4 x5 (w.alloc o) := by
  obtain ⟨h0, h1, h2, h3, h4, h5⟩ := h
  exact ⟨cell_more h0, cell_more h1, cell_more h2, cell_more h3, cell_more h4, cell_more h5⟩
theorem K6.drew {p q r : Nat} {x0 x1 x2 x3 x4 x5 : Int} {w : World} (h : K6 p q r x0 x1 x2 x3 x4 x5 w) : K6 p q r x0 x1 x2 x3 x4 x5 w.drew := by
  obtain ⟨h0, h1, h2, h3, h4, h5⟩ := h
  exact ⟨(World.cell?_drew _ _).trans h0, (World.cell?_drew _ _).trans h1, (World.cell?_drew _ _).trans h2, (World.cell?_drew _ _).trans h3, (World.cell?_drew _ _).trans h4, (World.cell?_drew _ _).trans h5⟩
theorem K6.call {p q r : Nat} {x0 x1 x2 x3 x4 x5 : Int} {w w1 : World} (hb : Below w.heap.size w w1) (h : K6 p q r x0 x1 x2 x3 x4 x5 w) : K6 p q r x0 x1 x2 x3 x4 x5 w1 := by
  obtain ⟨h0, h1, h2, h3, h4, h5⟩ := h
  exact ⟨cell_later hb h0, cell_later hb h1, cell_later hb h2, cell_later hb h3, cell_later hb h4, cell_later hb h5⟩
theorem K6.set {p q r : Nat} {x0 x1 x2 x3 x4 x5 : Int} {w : World} {bb i : Nat} {v : Value} (hn : p ≠ bb ∧ q ≠ bb ∧ r ≠ bb) (h : K6 p q r x0 x1 x2 x3 x4 x5 w) : K6 p q r x0 x1 x2 x3 x4 x5 (w.setCell ⟨bb, i, none⟩ v) := by
  obtain ⟨n0, n1, n2⟩ := hn
  obtain ⟨h0, h1, h2, h3, h4, h5⟩ := h
  exact ⟨cell_off h0 n0, cell_off h1 n0, cell_off h2 n1, cell_off h3 n1, cell_off h4 n2, cell_off h5 n2⟩
theorem K6.ne {p q r : Nat} {x0 x1 x2 x3 x4 x5 : Int} {w : World} (h : K6 p q r x0 x1 x2 x3 x4 x5 w) : p ≠ w.heap.size ∧ q ≠ w.heap.size ∧ r ≠ w.heap.size := by
  obtain ⟨h0, h1, h2, h3, h4, h5⟩ := h
  exact ⟨Nat.ne_of_lt (World.block_lt_of_cell? _ _ h0), Nat.ne_of_lt (World.block_lt_of_cell? _ _ h2), Nat.ne_of_lt (World.block_lt_of_cell? _ _ h4)⟩
theorem K6.ne1 {p q r : Nat} {x0 x1 x2 x3 x4 x5 : Int} {w : World} (h : K6 p q r x0 x1 x2 x3 x4 x5 w) : p ≠ w.heap.size + 1 ∧ q ≠ w.heap.size + 1 ∧ r ≠ w.heap.size + 1 := by
  obtain ⟨h0, h1, h2, h3, h4, h5⟩ := h
  have a0 := World.block_lt_of_cell? _ _ h0
  dsimp only at a0
  have a1 := World.block_lt_of_cell? _ _ h2
  dsimp only at a1
  have a2 := World.block_lt_of_cell? _ _ h4
  dsimp only at a2
  exact ⟨by omega, by omega, by omega⟩
theorem K6.mk {p q r : Nat} {x0 x1 x2 x3 x4 x5 : Int} {w : World} (h0 : w.cell? ⟨p, 0, none⟩ = some (.int .i64 x0)) (h1 : w.cell? ⟨p, 1, none⟩ = some (.int .i64 x1)) (h2 : w.cell? ⟨q, 0, none⟩ = some (.int .i64 x2)) (h3 : w.cell? ⟨q, 1, none⟩ = some (.int .i64 x3)) (h4 : w.cell? ⟨r, 0, none⟩ = some (.int .i64 x4)) (h5 : w.cell? ⟨r, 1, none⟩ = some (.int .i64 x5)) : K6 p q r x0 x1 x2 x3 x4 x5 w := ⟨h0, h1, h2, h3, h4, h5⟩
theorem K6.cells {p q r : Nat} {x0 x1 x2 x3 x4 x5 : Int} {w : World} (h : K6 p q r x0 x1 x2 x3 x4 x5 w) : w.cell? ⟨p, 0, none⟩ = some (.int .i64 x0) ∧ w.cell? ⟨p, 1, none⟩ = some (.int .i64 x1) ∧ w.cell? ⟨q, 0, none⟩ = some (.int .i64 x2) ∧ w.cell? ⟨q, 1, none⟩ = some (.int .i64 x3) ∧ w.cell? ⟨r, 0, none⟩ = some (.int .i64 x4) ∧ w.cell? ⟨r, 1, none⟩ = some (.int .i64 x5) := h
set_option maxHeartbeats 40000000 in
theorem learn_yes (e y a : Int) (w : World) (h0 : 0 ≤ a) (h1 : a ≤ 1000000000) (he : a / 2000 = e) (hy0 : e < y) (hy1 : y ≤ e + 2) :
    Calls Tryd.prog 17 #[.agg #[.int .i64 e, .int .i64 y], .agg #[.int .i64 e, .int .i64 (e + 2)], .int .i64 a] w fun en w' => en = .returned (.agg #[.int .i64 e, .int .i64 (e + 2)]) ∧ Below w.heap.size w w' := by
  have hE := epoch_f a h0 h1
  rw [he] at hE
  have hE := Aside0.mk hE
  have hK1 := Aside0.mk (knowsC_f e y e (by omega) (by omega) (by omega) (by omega) hy0)
  have hK2 := Aside0.mk (knowsC_f e (e + 2) e (by omega) (by omega) (by omega) (by omega) (by omega))
  have d1 : IntKind.i64.wrap (e + 2) = e + 2 := IntWalk.i64_in _ (by omega)
  have d2 : decide (e + 2 ≤ e + 2) = true := decide_eq_true (by omega)
  clear h0 h1 he
  have hu25 := Tryd.underlying25
  go_enter Tryd.func17, Tryd.ntmps17
  have hu3 := Tryd.underlying3
  have hm : (if y < e + 2 then e + 2 else y) = e + 2 := by split <;> omega
  go_upto_region 0 with (fail)
  go_cut [3, 4, 6] (fun v3 v4 v6 wa => ∃ p q o : Nat, v3 = .pointer (some ⟨p, 0, none⟩) ∧ v4 = .pointer (some ⟨q, 0, none⟩) ∧ v6 = .pointer (some ⟨o, 0, none⟩) ∧ K6 p q o e y e (e + 2) 0 0 wa ∧ (∀ i, wa.frozen? ⟨p, i, none⟩ = false) ∧ (∀ i, wa.frozen? ⟨o, i, none⟩ = false) ∧ w.heap.size ≤ p ∧ p < o ∧ p < q ∧ q ≠ o ∧ Aside0 (Below w.heap.size w wa))
  case first =>
    go_wp2
    go_meet
    exact ⟨_, _, _, rfl, rfl, rfl, K6.mk (by simp [go_sem]) (by simp [go_sem]) (by simp [go_sem]) (by simp [go_sem]) (by simp [go_sem]) (by simp [go_sem]), fun i => by simp [go_sem], fun i => by simp [go_sem], Nat.le_refl _, by omega, by omega, by omega, ⟨(by repeat (first | with_reducible (first | exact Below.refl _ _ | assumption | refine ra_drewN ?_ _ | refine ra_drew ?_ | refine ra_alloc ?_ _) | with_reducible refine ra_set ?_ _ (by (first | omega | (simp; omega)))))⟩⟩
  case rest =>
   obtain ⟨p, q, o, rfl, rfl, rfl, hk, zp, zo, hwp, hpo, hpq, hqo, B1⟩ := hcut
   obtain ⟨wa, hwa⟩ : ∃ wa : World, wa = wc := ⟨_, rfl⟩
   subst hwa
   have hol : o < wa.heap.size := World.block_lt_of_cell? _ _ hk.2.2.2.2.1
   have K1 := Aside0.mk hk
   have ZP := Lib.hid zp
   have ZO := Lib.hid zo
   clear hk zp zo
   go_wp2_with (first
     | (go_at_call 42; (with_reducible refine (keyring_Epoch.calls 300 _ _ _ _ hE.out).mono ?_); rintro en w1 ⟨rfl, hb⟩; have K2 := Aside0.mk (K6.call hb K1.out); have ZPw1 := Lib.hid (fun i => (hb.frozen (p := ⟨p, i, none⟩) (by dsimp only; omega)).trans (ZP.out i)); have ZOw1 := Lib.hid (fun i => (hb.frozen (p := ⟨o, i, none⟩) (by dsimp only; omega)).trans (ZO.out i)); have B2 := Aside0.mk (ra_step B1.out hb); have hsw1 : wa.heap.size ≤ w1.heap.size := hb.size; obtain ⟨x0w1, x1w1, x2w1, x3w1, x4w1, x5w1⟩ := K2.out.cells; clear hb)
     | (go_at_call 52; (with_reducible refine (keyring_Knows.calls 300 e y e true _ hK1.out).mono ?_); rintro en w2 ⟨rfl, hb⟩; have K3 := Aside0.mk (K6.call hb K2.out); have ZPw2 := Lib.hid (fun i => (hb.frozen (p := ⟨p, i, none⟩) (by dsimp only; omega)).trans (ZPw1.out i)); have ZOw2 := Lib.hid (fun i => (hb.frozen (p := ⟨o, i, none⟩) (by dsimp only; omega)).trans (ZOw1.out i)); have B3 := Aside0.mk (ra_step B2.out hb); have hsw2 : w1.heap.size ≤ w2.heap.size := hb.size; obtain ⟨x0w2, x1w2, x2w2, x3w2, x4w2, x5w2⟩ := K3.out.cells; clear hb)
     | (go_at_call 52; (with_reducible refine (keyring_Knows.calls 300 e (e + 2) e true _ hK2.out).mono ?_); rintro en w3 ⟨rfl, hb⟩; have K4 := Aside0.mk (K6.call hb K3.out); have ZPw3 := Lib.hid (fun i => (hb.frozen (p := ⟨p, i, none⟩) (by dsimp only; omega)).trans (ZPw2.out i)); have ZOw3 := Lib.hid (fun i => (hb.frozen (p := ⟨o, i, none⟩) (by dsimp only; omega)).trans (ZOw2.out i)); have B4 := Aside0.mk (ra_step B3.out hb); have hsw3 : w2.heap.size ≤ w3.heap.size := hb.size; obtain ⟨x0w3, x1w3, x2w3, x3w3, x4w3, x5w3⟩ := K4.out.cells; clear hb))
   have zp := ZPw3.out
   have zo := ZOw3.out
   have npq : p ≠ q := by omega
   have npo : p ≠ o := by omega
   have nqp : q ≠ p := by omega
   have nop : o ≠ p := by omega
   have noq : o ≠ q := by omega
   clear x0w1 x1w1 x2w1 x3w1 x4w1 x5w1 x0w2 x1w2 x2w2 x3w2 x4w2 x5w2 hE hK1 hK2 K1 K2 K3 ZP ZO ZPw1 ZOw1 ZPw2 ZOw2
   go_region
   all_goals
    go_wp2_with (fail)
    refine bodyPost_ret (v := .agg #[.int .i64 e, .int .i64 (e + 2)]) (by simp [results, Tryd.f17, go_sem, *]) rfl ⟨rfl, ?_⟩
    repeat (first | (with_reducible refine ra_drew ?_) | (with_reducible refine ra_drewN ?_ _) | (with_reducible refine ra_set ?_ _ (by dsimp only; omega)) | exact B4.out)
end Go.Proofs.YtncgeclkgmfppaaDoor.H
