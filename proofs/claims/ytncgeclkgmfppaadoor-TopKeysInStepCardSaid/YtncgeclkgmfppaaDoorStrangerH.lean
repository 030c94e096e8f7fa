/-
  The stranger's methods (package slotmeshtop): asking, answering a challenge, hearing a welcome, where the sponsor has no other join.
-/
import Derived.Test.YtncgeclkgmfppaaDoorStranger
import Derived.Test.YtncgeclkgmfppaaDoorJoinR
import Derived.Test.YtncgeclkgmfppaaDoorH7
import Derived.Test.YtncgeclkgmfppaaDoorH10
import Derived.Outline
import Derived.IntWalk
import Derived.Lib.Hide
import Derived.Deep.RegionHeld3
import Derived.Deep.QuietTactic
import Derived.BigQuiet
namespace Go.Proofs.YtncgeclkgmfppaaDoor.H
open Go.RowKit Go.Proofs.YtncgeclkgmfppaaDoorW.PrintWords Go.Proofs.YtncgeclkgmfppaaDoorW.PrintLast Go.Proofs.YtncgeclkgmfppaaDoorW.PrintMore
set_option linter.unusedVariables false
set_option linter.unusedSimpArgs false
set_option maxRecDepth 100000
def SR (g b : Nat) (me no fr0 t1 F n : Int) (w : World) : Prop := w.cell? ⟨g, 0, none⟩ = some (.int .i64 3) ∧ w.cell? ⟨g, 1, none⟩ = some (.int .i64 me) ∧ w.cell? ⟨g, 2, none⟩ = some (.int .i64 no) ∧ w.cell? ⟨g, 3, none⟩ = some (.int .i64 fr0) ∧ w.cell? ⟨g, 4, none⟩ = some (.int .i64 t1) ∧ w.cell? ⟨b, 6, none⟩ = some (.int .i64 F) ∧ w.cell? ⟨b, 7, none⟩ = some (.int .i64 n)
theorem SR.alloc {g b : Nat} {me no fr0 t1 F n : Int} {w : World} (o : Obj) (h : SR g b me no fr0 t1 F n w) : SR g b me no fr0 t1 F n (w.alloc o) := by
  obtain ⟨h0, h1, h2, h3, h4, h5, h6⟩ := h
  exact ⟨cell_more h0, cell_more h1, cell_more h2, cell_more h3, cell_more h4, cell_more h5, cell_more h6⟩
theorem SR.drew {g b : Nat} {me no fr0 t1 F n : Int} {w : World} (h : SR g b me no fr0 t1 F n w) : SR g b me no fr0 t1 F n w.drew := by
  obtain ⟨h0, h1, h2, h3, h4, h5, h6⟩ := h
  exact ⟨(World.cell?_drew _ _).trans h0, (World.cell?_drew _ _).trans h1, (World.cell?_drew _ _).trans h2, (World.cell?_drew _ _).trans h3, (World.cell?_drew _ _).trans h4, (World.cell?_drew _ _).trans h5, (World.cell?_drew _ _).trans h6⟩
theorem SR.call {g b : Nat} {me no fr0 t1 F n : Int} {w w1 : World} (hb : Below w.heap.size w w1) (h : SR g b me no fr0 t1 F n w) : SR g b me no fr0 t1 F n w1 := by
  obtain ⟨h0, h1, h2, h3, h4, h5, h6⟩ := h
  exact ⟨cell_later hb h0, cell_later hb h1, cell_later hb h2, cell_later hb h3, cell_later hb h4, cell_later hb h5, cell_later hb h6⟩
theorem SR.set {g b : Nat} {me no fr0 t1 F n : Int} {w : World} {bb i : Nat} {v : Value} (hn : g ≠ bb ∧ b ≠ bb) (h : SR g b me no fr0 t1 F n w) : SR g b me no fr0 t1 F n (w.setCell ⟨bb, i, none⟩ v) := by
  obtain ⟨n0, n1⟩ := hn
  obtain ⟨h0, h1, h2, h3, h4, h5, h6⟩ := h
  exact ⟨cell_off h0 n0, cell_off h1 n0, cell_off h2 n0, cell_off h3 n0, cell_off h4 n0, cell_off h5 n1, cell_off h6 n1⟩
theorem SR.ne {g b : Nat} {me no fr0 t1 F n : Int} {w : World} (h : SR g b me no fr0 t1 F n w) : g ≠ w.heap.size ∧ b ≠ w.heap.size := by
  obtain ⟨h0, h1, h2, h3, h4, h5, h6⟩ := h
  exact ⟨Nat.ne_of_lt (World.block_lt_of_cell? _ _ h0), Nat.ne_of_lt (World.block_lt_of_cell? _ _ h5)⟩
theorem SR.ne1 {g b : Nat} {me no fr0 t1 F n : Int} {w : World} (h : SR g b me no fr0 t1 F n w) : g ≠ w.heap.size + 1 ∧ b ≠ w.heap.size + 1 := by
  obtain ⟨h0, h1, h2, h3, h4, h5, h6⟩ := h
  have a0 := World.block_lt_of_cell? _ _ h0
  dsimp only at a0
  have a1 := World.block_lt_of_cell? _ _ h5
  dsimp only at a1
  exact ⟨by omega, by omega⟩
theorem SR.mk {g b : Nat} {me no fr0 t1 F n : Int} {w : World} (h0 : w.cell? ⟨g, 0, none⟩ = some (.int .i64 3)) (h1 : w.cell? ⟨g, 1, none⟩ = some (.int .i64 me)) (h2 : w.cell? ⟨g, 2, none⟩ = some (.int .i64 no)) (h3 : w.cell? ⟨g, 3, none⟩ = some (.int .i64 fr0)) (h4 : w.cell? ⟨g, 4, none⟩ = some (.int .i64 t1)) (h5 : w.cell? ⟨b, 6, none⟩ = some (.int .i64 F)) (h6 : w.cell? ⟨b, 7, none⟩ = some (.int .i64 n)) : SR g b me no fr0 t1 F n w := ⟨h0, h1, h2, h3, h4, h5, h6⟩
theorem SR.cells {g b : Nat} {me no fr0 t1 F n : Int} {w : World} (h : SR g b me no fr0 t1 F n w) : w.cell? ⟨g, 0, none⟩ = some (.int .i64 3) ∧ w.cell? ⟨g, 1, none⟩ = some (.int .i64 me) ∧ w.cell? ⟨g, 2, none⟩ = some (.int .i64 no) ∧ w.cell? ⟨g, 3, none⟩ = some (.int .i64 fr0) ∧ w.cell? ⟨g, 4, none⟩ = some (.int .i64 t1) ∧ w.cell? ⟨b, 6, none⟩ = some (.int .i64 F) ∧ w.cell? ⟨b, 7, none⟩ = some (.int .i64 n) := h
set_option maxHeartbeats 40000000 in
theorem hear14 (g b0 c : Nat) (id me no ch key F n fr fr0 t1 : Int) (w : World) (hs : SG g id 2 me no fr0 t1 w) (hz : ∀ o, w.frozen? ⟨g, o, none⟩ = false)
    (hr : Kd.C k54 w (some ⟨b0, 0, none⟩) 1 [⟨4, id, me, no, ch, key, ⟨F, n⟩⟩]) (hc : 1 ≤ c)
    (hJ : ∀ w : World, Calls Tryd.prog 40 #[.agg #[.int .i64 2, .int .i64 me, .int .i64 no, .int .i64 fr0, .int .i64 t1], .int .i64 id, .agg #[.int .i64 4, .int .i64 id, .int .i64 me, .int .i64 no, .int .i64 ch, .int .i64 key, .int .i64 F, .int .i64 n], .int .i64 fr] w fun e w' => e = .returned (.tuple #[.agg #[.int .i64 3, .int .i64 me, .int .i64 no, .int .i64 fr0, .int .i64 t1], .agg #[.int .i64 0, .int .i64 0, .int .i64 0, .int .i64 0, .int .i64 0, .int .i64 0, .int .i64 0, .int .i64 0], .bool true]) ∧ Below w.heap.size w w') :
    Calls Tryd.prog 24 #[.pointer (some ⟨g, 0, none⟩), .slice (some ⟨b0, 0, none⟩) 1 c, .int .i64 fr] w fun e w' => e = .returned (.agg #[.int .i64 F, .int .i64 n]) ∧ Gr g w w' ∧ SG g id 3 me no fr0 t1 w' := by
  have HJ := Aside0.mk hJ
  obtain ⟨z0, z1, z2, z3, z4, z5⟩ := hs.cells
  obtain ⟨ad, ea, r0, r1, r2, r3, r4, r5, r6, r7⟩ := at_T54 hr 0 (by omega) (by simp)
  injection ea with ea
  subst ea
  have r0 : w.cell? ⟨b0, 0, none⟩ = some (.int .i64 4) := r0
  have r1 : w.cell? ⟨b0, 1, none⟩ = some (.int .i64 id) := r1
  have r2 : w.cell? ⟨b0, 2, none⟩ = some (.int .i64 me) := r2
  have r3 : w.cell? ⟨b0, 3, none⟩ = some (.int .i64 no) := r3
  have r4 : w.cell? ⟨b0, 4, none⟩ = some (.int .i64 ch) := r4
  have r5 : w.cell? ⟨b0, 5, none⟩ = some (.int .i64 key) := r5
  have r6 : w.cell? ⟨b0, 6, none⟩ = some (.int .i64 F) := r6
  have r7 : w.cell? ⟨b0, 7, none⟩ = some (.int .i64 n) := r7
  have HZ := Lib.hid hz
  have hgl : g < w.heap.size := World.block_lt_of_cell? _ _ z0
  have hbl : b0 < w.heap.size := World.block_lt_of_cell? _ _ r0
  have hu54 := Tryd.underlying54
  clear hJ hs hz hr
  go_enter Tryd.func24, Tryd.ntmps24
  go_upto_region 0 with (fail)
  go_cut [6] (fun v6 wa => ∃ p : Nat, v6 = .pointer (some ⟨p, 0, none⟩) ∧ w.heap.size ≤ p ∧ p < wa.heap.size ∧ (wa.cell? ⟨p, 0, none⟩ = some (.int .i64 0) ∧ wa.cell? ⟨p, 1, none⟩ = some (.int .i64 0)) ∧ (∀ o, wa.frozen? ⟨p, o, none⟩ = false) ∧ Aside0 (Below w.heap.size w wa))
  case first =>
    go_wp2
    go_meet
    exact ⟨_, rfl, Nat.le_refl _, by simp [go_sem], ⟨by simp [go_sem], by simp [go_sem]⟩, fun o => by simp [go_sem], ⟨(by repeat (first | with_reducible (first | exact Below.refl _ _ | assumption | refine ra_drewN ?_ _ | refine ra_drew ?_ | refine ra_alloc ?_ _) | with_reducible refine ra_set ?_ _ (by (first | omega | (simp; omega)))))⟩⟩
  case rest =>
   obtain ⟨p, rfl, hwp, hpa, ⟨p0, p1⟩, pz, B1⟩ := hcut
   obtain ⟨wx, hwx⟩ : ∃ wx : World, wx = wc := ⟨_, rfl⟩
   subst hwx
   go_upto_region 1 with (fail)
   go_cut [7] (fun v7 wb => ∃ q : Nat, v7 = .pointer (some ⟨q, 0, none⟩) ∧ wx.heap.size ≤ q ∧ q < wb.heap.size ∧ (wb.cell? ⟨q, 0, none⟩ = some (.int .i64 0) ∧ wb.cell? ⟨q, 1, none⟩ = some (.int .i64 0)) ∧ (∀ o, wb.frozen? ⟨q, o, none⟩ = false) ∧ Aside0 (Below wx.heap.size wx wb))
   case first =>
    go_wp2
    go_meet
    exact ⟨_, rfl, Nat.le_refl _, by simp [go_sem], ⟨by simp [go_sem], by simp [go_sem]⟩, fun o => by simp [go_sem], ⟨(by repeat (first | with_reducible (first | exact Below.refl _ _ | assumption | refine ra_drewN ?_ _ | refine ra_drew ?_ | refine ra_alloc ?_ _) | with_reducible refine ra_set ?_ _ (by (first | omega | (simp; omega)))))⟩⟩
   case rest =>
    obtain ⟨q, rfl, hwq, hqb, ⟨q0, q1⟩, qz, B2⟩ := hcut
    obtain ⟨w3, hw3⟩ : ∃ w3 : World, w3 = wc := ⟨_, rfl⟩
    subst hw3
    have B3 := Aside0.mk (ra_step B1.out B2.out)
    have hs1 := B1.out.size
    have hs2 := B2.out.size
    have y0 := (B3.out.cell (p := ⟨g, 0, none⟩) hgl).trans z0
    have y1 := (B3.out.cell (p := ⟨g, 1, none⟩) hgl).trans z1
    have y2 := (B3.out.cell (p := ⟨g, 2, none⟩) hgl).trans z2
    have y3 := (B3.out.cell (p := ⟨g, 3, none⟩) hgl).trans z3
    have y4 := (B3.out.cell (p := ⟨g, 4, none⟩) hgl).trans z4
    have y5 := (B3.out.cell (p := ⟨g, 5, none⟩) hgl).trans z5
    have x0 := (B3.out.cell (p := ⟨b0, 0, none⟩) hbl).trans r0
    have x1 := (B3.out.cell (p := ⟨b0, 1, none⟩) hbl).trans r1
    have x2 := (B3.out.cell (p := ⟨b0, 2, none⟩) hbl).trans r2
    have x3 := (B3.out.cell (p := ⟨b0, 3, none⟩) hbl).trans r3
    have x4 := (B3.out.cell (p := ⟨b0, 4, none⟩) hbl).trans r4
    have x5 := (B3.out.cell (p := ⟨b0, 5, none⟩) hbl).trans r5
    have x6 := (B3.out.cell (p := ⟨b0, 6, none⟩) hbl).trans r6
    have x7 := (B3.out.cell (p := ⟨b0, 7, none⟩) hbl).trans r7
    clear z0 z1 z2 z3 z4 z5 r0 r1 r2 r3 r4 r5 r6 r7
    have P0 := (B2.out.cell (p := ⟨p, 0, none⟩) hpa).trans p0
    have P1 := (B2.out.cell (p := ⟨p, 1, none⟩) hpa).trans p1
    have PZ := fun o => (B2.out.frozen (p := ⟨p, o, none⟩) hpa).trans (pz o)
    have QZ := Lib.hid qz
    have PZ := Lib.hid PZ
    have P0 := Aside0.mk P0
    have P1 := Aside0.mk P1
    have Q0 := Aside0.mk q0
    have Q1 := Aside0.mk q1
    clear p0 p1 pz q0 q1 qz
    have hg3 : g < w3.heap.size := by omega
    go_wp2_with (fail)
    refine wp_loop_rounds 3 ?_
    rw [rounds_succ]
    go_upto_region 4 with (fail)
    go_cut [9] (fun v9 wd => ∃ b : Nat, v9 = .pointer (some ⟨b, 0, none⟩) ∧ SGW g b id 2 me no fr0 t1 4 id me no ch key F n wd ∧ w3.heap.size ≤ b ∧ Aside0 (Below w3.heap.size w3 wd))
    case first =>
     have a0 := fun o => Lib.cell?_alloc_some (W := w3) o y0
     have a1 := fun o => Lib.cell?_alloc_some (W := w3) o y1
     have a2 := fun o => Lib.cell?_alloc_some (W := w3) o y2
     have a3 := fun o => Lib.cell?_alloc_some (W := w3) o y3
     have a4 := fun o => Lib.cell?_alloc_some (W := w3) o y4
     have a5 := fun o => Lib.cell?_alloc_some (W := w3) o y5
     go_wp2
     go_meet
     exact ⟨_, rfl, SGW.mk (a0 _) (a1 _) (a2 _) (a3 _) (a4 _) (a5 _) (by simp [go_sem]) (by simp [go_sem]) (by simp [go_sem]) (by simp [go_sem]) (by simp [go_sem]) (by simp [go_sem]) (by simp [go_sem]) (by simp [go_sem]), Nat.le_refl _, ⟨(by repeat (first | with_reducible (first | exact Below.refl _ _ | assumption | refine ra_drewN ?_ _ | refine ra_drew ?_ | refine ra_alloc ?_ _) | with_reducible refine ra_set ?_ _ (by (first | omega | (simp; omega)))))⟩⟩
    case rest =>
     obtain ⟨wo, hwo⟩ : ∃ wo : World, wo = wc := ⟨_, rfl⟩
     subst hwo
     obtain ⟨b, rfl, q0, hbb, B4⟩ := hcut
     have n0 := q0.ne
     have m0 := q0.ne1
     obtain ⟨p0, p1, p2, p3, p4, p5, l0, l1, l2, l3, l4, l5, l6, l7⟩ := q0.cells
     clear x0 x1 x2 x3 x4 x5 x6 x7
     go_upto_region 5 with (fail)
     go_cut [10, 11, 12] (fun v11 v12 v13 we => ∃ g1 g2 : Nat, v11 = .pointer (some ⟨g1, 0, none⟩) ∧ v12 = .pointer (some ⟨g2, 0, none⟩) ∧ v13 = .bool true ∧ (we.cell? ⟨g1, 0, none⟩ = some (.int .i64 3) ∧ we.cell? ⟨g1, 1, none⟩ = some (.int .i64 me) ∧ we.cell? ⟨g1, 2, none⟩ = some (.int .i64 no) ∧ we.cell? ⟨g1, 3, none⟩ = some (.int .i64 fr0) ∧ we.cell? ⟨g1, 4, none⟩ = some (.int .i64 t1)) ∧ wo.heap.size ≤ g1 ∧ Aside0 (Below wo.heap.size wo we))
     case first =>
      go_region_held3 (fun w' => w'.cell? ⟨g, 0, none⟩ = some (.int .i64 id) ∧ w'.cell? ⟨g, 1, none⟩ = some (.int .i64 2) ∧ w'.cell? ⟨g, 2, none⟩ = some (.int .i64 me) ∧ w'.cell? ⟨g, 3, none⟩ = some (.int .i64 no) ∧ w'.cell? ⟨g, 4, none⟩ = some (.int .i64 fr0) ∧ w'.cell? ⟨g, 5, none⟩ = some (.int .i64 t1) ∧ w'.cell? ⟨b, 0, none⟩ = some (.int .i64 4) ∧ w'.cell? ⟨b, 1, none⟩ = some (.int .i64 id) ∧ w'.cell? ⟨b, 2, none⟩ = some (.int .i64 me) ∧ w'.cell? ⟨b, 3, none⟩ = some (.int .i64 no) ∧ w'.cell? ⟨b, 4, none⟩ = some (.int .i64 ch) ∧ w'.cell? ⟨b, 5, none⟩ = some (.int .i64 key) ∧ w'.cell? ⟨b, 6, none⟩ = some (.int .i64 F) ∧ w'.cell? ⟨b, 7, none⟩ = some (.int .i64 n)) ((show SGW g b id 2 me no fr0 t1 4 id me no ch key F n _; repeat' (first | (with_reducible assumption) | (with_reducible refine SGW.alloc _ ?_) | (with_reducible refine SGW.drew ?_) | (with_reducible refine SGW.set ?_ ?_)))) (first | (go_at_call 40; refine (HJ.out _).mono ?_; rintro e w7 ⟨rfl, hb⟩; have hb7 := hb; (try (first | ((with_reducible have hx_ := seen2d hb); obtain ⟨⟨sc60, sf60, sz60⟩, ⟨sc61, sf61, sz61⟩⟩ := hx_) | ((with_reducible have hx_ := seen1d hb); obtain ⟨sc60, sf60, sz60⟩ := hx_) | ((with_reducible have hx_ := seen2 hb); obtain ⟨⟨sc60, sf60, sz60⟩, ⟨sc61, sf61, sz61⟩⟩ := hx_) | ((with_reducible have hx_ := seen1 hb); obtain ⟨sc60, sf60, sz60⟩ := hx_))); have qq7 : SGW g b id 2 me no fr0 t1 4 id me no ch key F n _ := SGW.call hb (by assumption); have n7 := qq7.ne; have m7 := qq7.ne1))
      all_goals
       have hb7s := hb7.size
       simp at hb7s
       try go_wp2_with (fail)
       go_meet
       refine ⟨_, _, rfl, rfl, rfl, ⟨?_, ?_, ?_, ?_, ?_⟩, ?_, ⟨?_⟩⟩
       rotate_right
       · repeat (first | (with_reducible exact Below.refl _ _) | (with_reducible refine ra_drewN ?_ _) | (with_reducible refine ra_drew ?_) | (with_reducible refine ra_alloc ?_ _) | (with_reducible refine ra_set ?_ _ (by first | (simp; done) | (simp; omega) | omega)) | (with_reducible refine ra_step ?_ hb7))
       all_goals clear HJ B1 B2 B3 B4 P0 P1 Q0 Q1 QZ PZ HZ q0 y0 y1 y2 y3 y4 y5 p0 p1 p2 p3 p4 p5 l0 l1 l2 l3 l4 l5 l6 l7
       any_goals (first | (simp [go_sem]; done) | (simp [go_sem, *]; done))
       all_goals (first | omega | (simp; omega))
     case rest =>
      obtain ⟨g1, g2, rfl, rfl, rfl, ⟨j0, j1, j2, j3, j4⟩, hg1, B5⟩ := hcut
      obtain ⟨w6, hw6⟩ : ∃ w6 : World, w6 = wc := ⟨_, rfl⟩
      subst hw6
      clear n0 m0 q0
      have h4s := B4.out.size
      have h5s := B5.out.size
      have B6 := Aside0.mk (ra_step B4.out B5.out)
      have B7 := Aside0.mk (ra_step B3.out B6.out)
      have hbo : b < wo.heap.size := World.block_lt_of_cell? _ _ l0
      have f0 := (B6.out.cell (p := ⟨g, 0, none⟩) hg3).trans y0
      have f1 := (B6.out.cell (p := ⟨g, 1, none⟩) hg3).trans y1
      have f2 := (B6.out.cell (p := ⟨g, 2, none⟩) hg3).trans y2
      have f3 := (B6.out.cell (p := ⟨g, 3, none⟩) hg3).trans y3
      have f4 := (B6.out.cell (p := ⟨g, 4, none⟩) hg3).trans y4
      have f5 := (B6.out.cell (p := ⟨g, 5, none⟩) hg3).trans y5
      have fz := fun o => (B7.out.frozen (p := ⟨g, o, none⟩) hgl).trans (HZ.out o)
      have e6 := (B5.out.cell (p := ⟨b, 6, none⟩) hbo).trans l6
      have e7 := (B5.out.cell (p := ⟨b, 7, none⟩) hbo).trans l7
      have hp3 : p < w3.heap.size := by omega
      have P0 := (B6.out.cell (p := ⟨p, 0, none⟩) hp3).trans P0.out
      have P1 := (B6.out.cell (p := ⟨p, 1, none⟩) hp3).trans P1.out
      have Q0 := (B6.out.cell (p := ⟨q, 0, none⟩) hqb).trans Q0.out
      have Q1 := (B6.out.cell (p := ⟨q, 1, none⟩) hqb).trans Q1.out
      have PZ := fun o => (B6.out.frozen (p := ⟨p, o, none⟩) hp3).trans (PZ.out o)
      have QZ := fun o => (B6.out.frozen (p := ⟨q, o, none⟩) hqb).trans (QZ.out o)
      clear p0 p1 p2 p3 p4 p5 l0 l1 l2 l3 l4 l5 l6 l7 y0 y1 y2 y3 y4 y5
      have u1 : g1 ≠ g ∧ b ≠ g := ⟨by omega, by omega⟩
      have u2 : g1 ≠ q ∧ b ≠ q := ⟨by omega, by omega⟩
      have u3 : q ≠ g := by omega
      have u4 : g ≠ q := by omega
      have u5 : p ≠ g := by omega
      have u6 : p ≠ q := by omega
      have u7 : q ≠ p := by omega
      have u8 : g ≠ p := by omega
      have q9 : SR g1 b me no fr0 t1 F n w6 := SR.mk j0 j1 j2 j3 j4 e6 e7
      go_upto_region 7 with (fail)
      go_region_held3 (fun w' => w'.cell? ⟨g1, 0, none⟩ = some (.int .i64 3) ∧ w'.cell? ⟨g1, 1, none⟩ = some (.int .i64 me) ∧ w'.cell? ⟨g1, 2, none⟩ = some (.int .i64 no) ∧ w'.cell? ⟨g1, 3, none⟩ = some (.int .i64 fr0) ∧ w'.cell? ⟨g1, 4, none⟩ = some (.int .i64 t1) ∧ w'.cell? ⟨b, 6, none⟩ = some (.int .i64 F) ∧ w'.cell? ⟨b, 7, none⟩ = some (.int .i64 n)) ((show SR g1 b me no fr0 t1 F n _; repeat' (first | (with_reducible assumption) | (with_reducible refine SR.alloc _ ?_) | (with_reducible refine SR.drew ?_) | (with_reducible refine SR.set ?_ ?_)))) (fail)
      all_goals
        clear HJ B1 B2 B3 j0 j1 j2 j3 j4 q9 e6 e7 r0 r1 r2 r3 r4 r5 r6 r7
        go_wp2_with (fail)
        rw [rounds_succ]
        go_wp2_with (fail)
        refine bodyPost_ret (v := .agg #[.int .i64 F, .int .i64 n]) (by first | (simp [results, Tryd.results24, go_sem, *]; done) | (simp [results, Tryd.f24, go_sem, *]; done)) rfl ⟨rfl, ?_, ?_⟩
        · have hpw : w.heap.size ≤ p := hwp
          have hqw : w.heap.size ≤ q := by omega
          exact Gr.drew (Gr.new (Gr.new (Gr.new (Gr.new (Gr.own (Gr.own (Gr.own (Gr.own (Gr.own (Gr.of_below B7.out) _) _) _) _) _) _ hqw) _ hqw) _ hpw) _ hpw)
        · exact SG.mk (by simp [go_sem, *]) (by simp [go_sem, *]) (by simp [go_sem, *]) (by simp [go_sem, *]) (by simp [go_sem, *]) (by simp [go_sem, *])
end Go.Proofs.YtncgeclkgmfppaaDoor.H
