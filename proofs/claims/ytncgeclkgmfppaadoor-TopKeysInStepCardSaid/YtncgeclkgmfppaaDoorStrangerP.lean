/-
  The stranger's methods (package slotmeshtop): asking, answering a challenge, hearing a welcome, where the sponsor has no other join.
-/
import Derived.Test.YtncgeclkgmfppaaDoorStranger
import Derived.Test.YtncgeclkgmfppaaDoorJoinR
import Derived.Test.YtncgeclkgmfppaaDoorH7
import Derived.Test.YtncgeclkgmfppaaDoorH10
import Derived.Outline
import Derived.IntWalk
import Derived.Lib.Hide
import Derived.Deep.RegionHeld3
import Derived.Deep.QuietTactic
import Derived.BigQuiet
namespace Go.Proofs.YtncgeclkgmfppaaDoor.H
open Go.RowKit Go.Proofs.YtncgeclkgmfppaaDoorW.PrintWords Go.Proofs.YtncgeclkgmfppaaDoorW.PrintLast Go.Proofs.YtncgeclkgmfppaaDoorW.PrintMore
set_option linter.unusedVariables false
set_option linter.unusedSimpArgs false
set_option maxRecDepth 100000
set_option maxHeartbeats 40000000 in
theorem prove14 (g : Nat) (id me no ch fr fr0 t1 key : Int) (r r2 : List S68) (A : Option Addr) (c : Nat) (w : World) (hG : Laid w) (hg0 : g ≠ 0) (hs : SG g id 1 me no fr0 t1 w) (hz : ∀ o, w.frozen? ⟨g, o, none⟩ = false)
    (hr : Kd.C k68 w A r.length r) (hc : r.length ≤ c) (hrA : ∀ ad, A = some ad → ad.block ≠ g)
    (hW : sponsor_Words.f 30 r me = some [⟨2, id, me, no, ch, 0, ⟨0, 0⟩⟩])
    (hJ : ∀ w : World, Calls Tryd.prog 40 #[.agg #[.int .i64 1, .int .i64 me, .int .i64 no, .int .i64 fr0, .int .i64 t1], .int .i64 id, .agg #[.int .i64 2, .int .i64 id, .int .i64 me, .int .i64 no, .int .i64 ch, .int .i64 0, .int .i64 0, .int .i64 0], .int .i64 fr] w fun e w' => e = .returned (.tuple #[.agg #[.int .i64 2, .int .i64 me, .int .i64 no, .int .i64 fr0, .int .i64 t1], .agg #[.int .i64 3, .int .i64 id, .int .i64 me, .int .i64 no, .int .i64 ch, .int .i64 key, .int .i64 0, .int .i64 0], .bool true]) ∧ Below w.heap.size w w')
    (hh : sponsor_Hear.f r me 3 id me no ch key 0 0 fr = some (r2, 0)) :
    Calls Tryd.prog 21 #[.pointer (some ⟨g, 0, none⟩), .slice A r.length c, .int .i64 me, .int .i64 fr] w fun e w' => ∃ A c, e = .returned (.slice A r2.length c) ∧ r2.length ≤ c ∧ Kd.C k68 w' A r2.length r2 ∧ (∀ ad, A = some ad → w.heap.size ≤ ad.block) ∧ Gr g w w' ∧ SG g id 2 me no fr0 t1 w' ∧ (∀ o, w'.frozen? ⟨g, o, none⟩ = false) := by
  have HG := Aside0.mk hG
  have HJ := Aside0.mk hJ
  have HW := Aside0.mk hW
  have HH := Aside0.mk hh
  have HR := Aside0.mk hr
  have HC := Aside0.mk hc
  have HA := Aside0.mk hrA
  obtain ⟨z0, z1, z2, z3, z4, z5⟩ := hs.cells
  have HZ := Lib.hid hz
  have hgl := World.block_lt_of_cell? _ _ z0
  have hu54 := Tryd.underlying54
  clear hG hJ hW hh hz hs hr hc hrA
  go_enter Tryd.func21, Tryd.ntmps21
  go_wp2_with (first
    | (go_at_call 34; refine (sponsor_Words.calls 30 _ _ r me _ _ HR.out HC.out HW.out).mono ?_; rintro e w3 hh; obtain ⟨b3, c3, rfl, hc3, hC3, hb3, ⟨x0, x1, x2, x3, x4, x5, x6, x7⟩, hb⟩ := one_word hh; clear hh; have y0 := (hb.cell (p := ⟨g, 0, none⟩) hgl).trans z0; have y1 := (hb.cell (p := ⟨g, 1, none⟩) hgl).trans z1; have y2 := (hb.cell (p := ⟨g, 2, none⟩) hgl).trans z2; have y3 := (hb.cell (p := ⟨g, 3, none⟩) hgl).trans z3; have y4 := (hb.cell (p := ⟨g, 4, none⟩) hgl).trans z4; have y5 := (hb.cell (p := ⟨g, 5, none⟩) hgl).trans z5; have B3 := Aside0.mk hb; have hs3 : w.heap.size ≤ w3.heap.size := hb.size; clear hb hC3 hc3))
  try dsimp only at x0 x1 x2 x3 x4 x5 x6 x7
  have hg3 : g < w3.heap.size := Nat.lt_of_lt_of_le hgl hs3
  refine wp_loop_rounds 3 ?_
  rw [rounds_succ]
  go_upto_region 3 with (fail)
  go_cut [10] (fun v10 wd => ∃ b : Nat, v10 = .pointer (some ⟨b, 0, none⟩) ∧ SGW g b id 1 me no fr0 t1 2 id me no ch 0 0 0 wd ∧ w3.heap.size ≤ b ∧ Aside0 (Below w3.heap.size w3 wd))
  case first =>
    have a0 := fun o => Lib.cell?_alloc_some (W := w3) o y0
    have a1 := fun o => Lib.cell?_alloc_some (W := w3) o y1
    have a2 := fun o => Lib.cell?_alloc_some (W := w3) o y2
    have a3 := fun o => Lib.cell?_alloc_some (W := w3) o y3
    have a4 := fun o => Lib.cell?_alloc_some (W := w3) o y4
    have a5 := fun o => Lib.cell?_alloc_some (W := w3) o y5
    go_wp2
    go_meet
    exact ⟨_, rfl, SGW.mk (a0 _) (a1 _) (a2 _) (a3 _) (a4 _) (a5 _) (by simp [go_sem]) (by simp [go_sem]) (by simp [go_sem]) (by simp [go_sem]) (by simp [go_sem]) (by simp [go_sem]) (by simp [go_sem]) (by simp [go_sem]), Nat.le_refl _, ⟨(by repeat (first | with_reducible (first | exact Below.refl _ _ | assumption | refine ra_drewN ?_ _ | refine ra_drew ?_ | refine ra_alloc ?_ _) | with_reducible refine ra_set ?_ _ (by (first | omega | (simp; omega)))))⟩⟩
  case rest =>
   obtain ⟨wo, hwo⟩ : ∃ wo : World, wo = wc := ⟨_, rfl⟩
   subst hwo
   obtain ⟨b, rfl, q0, hbb, B4⟩ := hcut
   have n0 := q0.ne
   have m0 := q0.ne1
   obtain ⟨p0, p1, p2, p3, p4, p5, l0, l1, l2, l3, l4, l5, l6, l7⟩ := q0.cells
   clear x0 x1 x2 x3 x4 x5 x6 x7
   go_upto_region 4 with (fail)
   go_cut [11, 12, 13] (fun v11 v12 v13 we => ∃ g1 g2 : Nat, v11 = .pointer (some ⟨g1, 0, none⟩) ∧ v12 = .pointer (some ⟨g2, 0, none⟩) ∧ v13 = .bool true ∧ (we.cell? ⟨g1, 0, none⟩ = some (.int .i64 2) ∧ we.cell? ⟨g1, 1, none⟩ = some (.int .i64 me) ∧ we.cell? ⟨g1, 2, none⟩ = some (.int .i64 no) ∧ we.cell? ⟨g1, 3, none⟩ = some (.int .i64 fr0) ∧ we.cell? ⟨g1, 4, none⟩ = some (.int .i64 t1)) ∧ (we.cell? ⟨g2, 0, none⟩ = some (.int .i64 3) ∧ we.cell? ⟨g2, 1, none⟩ = some (.int .i64 id) ∧ we.cell? ⟨g2, 2, none⟩ = some (.int .i64 me) ∧ we.cell? ⟨g2, 3, none⟩ = some (.int .i64 no) ∧ we.cell? ⟨g2, 4, none⟩ = some (.int .i64 ch) ∧ we.cell? ⟨g2, 5, none⟩ = some (.int .i64 key) ∧ we.cell? ⟨g2, 6, none⟩ = some (.int .i64 0) ∧ we.cell? ⟨g2, 7, none⟩ = some (.int .i64 0)) ∧ wo.heap.size ≤ g1 ∧ wo.heap.size ≤ g2 ∧ Aside0 (Below wo.heap.size wo we))
   case first =>
    go_region_held3 (fun w' => w'.cell? ⟨g, 0, none⟩ = some (.int .i64 id) ∧ w'.cell? ⟨g, 1, none⟩ = some (.int .i64 1) ∧ w'.cell? ⟨g, 2, none⟩ = some (.int .i64 me) ∧ w'.cell? ⟨g, 3, none⟩ = some (.int .i64 no) ∧ w'.cell? ⟨g, 4, none⟩ = some (.int .i64 fr0) ∧ w'.cell? ⟨g, 5, none⟩ = some (.int .i64 t1) ∧ w'.cell? ⟨b, 0, none⟩ = some (.int .i64 2) ∧ w'.cell? ⟨b, 1, none⟩ = some (.int .i64 id) ∧ w'.cell? ⟨b, 2, none⟩ = some (.int .i64 me) ∧ w'.cell? ⟨b, 3, none⟩ = some (.int .i64 no) ∧ w'.cell? ⟨b, 4, none⟩ = some (.int .i64 ch) ∧ w'.cell? ⟨b, 5, none⟩ = some (.int .i64 0) ∧ w'.cell? ⟨b, 6, none⟩ = some (.int .i64 0) ∧ w'.cell? ⟨b, 7, none⟩ = some (.int .i64 0)) ((show SGW g b id 1 me no fr0 t1 2 id me no ch 0 0 0 _; repeat' (first | (with_reducible assumption) | (with_reducible refine SGW.alloc _ ?_) | (with_reducible refine SGW.drew ?_) | (with_reducible refine SGW.set ?_ ?_)))) (first | (go_at_call 40; refine (HJ.out _).mono ?_; rintro e w7 ⟨rfl, hb⟩; have hb7 := hb; (try (first | ((with_reducible have hx_ := seen2d hb); obtain ⟨⟨sc60, sf60, sz60⟩, ⟨sc61, sf61, sz61⟩⟩ := hx_) | ((with_reducible have hx_ := seen1d hb); obtain ⟨sc60, sf60, sz60⟩ := hx_) | ((with_reducible have hx_ := seen2 hb); obtain ⟨⟨sc60, sf60, sz60⟩, ⟨sc61, sf61, sz61⟩⟩ := hx_) | ((with_reducible have hx_ := seen1 hb); obtain ⟨sc60, sf60, sz60⟩ := hx_))); have qq7 : SGW g b id 1 me no fr0 t1 2 id me no ch 0 0 0 _ := SGW.call hb (by assumption); have n7 := qq7.ne; have m7 := qq7.ne1))
    all_goals
      have hb7s := hb7.size
      simp at hb7s
      try go_wp2_with (fail)
      go_meet
      refine ⟨_, _, rfl, rfl, rfl, ⟨?_, ?_, ?_, ?_, ?_⟩, ⟨?_, ?_, ?_, ?_, ?_, ?_, ?_, ?_⟩, ?_, ?_, ⟨?_⟩⟩
      rotate_right
      · repeat (first | (with_reducible exact Below.refl _ _) | (with_reducible refine ra_drewN ?_ _) | (with_reducible refine ra_drew ?_) | (with_reducible refine ra_alloc ?_ _) | (with_reducible refine ra_set ?_ _ (by first | (simp; done) | (simp; omega) | omega)) | (with_reducible refine ra_step ?_ hb7))
      all_goals clear HG HJ HW HH HR HC HA q0 z0 z1 z2 z3 z4 z5 y0 y1 y2 y3 y4 y5 p0 p1 p2 p3 p4 p5 l0 l1 l2 l3 l4 l5 l6 l7
      any_goals (first | (simp [go_sem]; done) | (simp [go_sem, *]; done))
      all_goals (first | omega | (simp; omega))
   case rest =>
    obtain ⟨g1, g2, rfl, rfl, rfl, ⟨j0, j1, j2, j3, j4⟩, ⟨k0, k1, k2, k3, k4, k5, k6, k7⟩, hg1, hg2, B5⟩ := hcut
    have B1 := Aside0.mk (ra_step B4.out B5.out)
    have h4s := B4.out.size
    have hne2 : g2 ≠ g := by omega
    have hBw := Aside0.mk (ra_step B3.out B1.out)
    have gS : Gr g wc (((((wc.setCell ⟨g, 1, none⟩ (.int .i64 2)).setCell ⟨g, 2, none⟩ (.int .i64 me)).setCell ⟨g, 3, none⟩ (.int .i64 no)).setCell ⟨g, 4, none⟩ (.int .i64 fr0)).setCell ⟨g, 5, none⟩ (.int .i64 t1)) := Gr.own (Gr.own (Gr.own (Gr.own (Gr.own (Gr.refl g wc) _) _) _) _) _
    have GS := Aside0.mk (Gr.trans (Gr.of_below (g := g) hBw.out) gS)
    have e0 := cell_off (c := g) (i := 5) (v := .int .i64 t1) (cell_off (c := g) (i := 4) (v := .int .i64 fr0) (cell_off (c := g) (i := 3) (v := .int .i64 no) (cell_off (c := g) (i := 2) (v := .int .i64 me) (cell_off (c := g) (i := 1) (v := .int .i64 2) k0 hne2) hne2) hne2) hne2) hne2
    have e1 := cell_off (c := g) (i := 5) (v := .int .i64 t1) (cell_off (c := g) (i := 4) (v := .int .i64 fr0) (cell_off (c := g) (i := 3) (v := .int .i64 no) (cell_off (c := g) (i := 2) (v := .int .i64 me) (cell_off (c := g) (i := 1) (v := .int .i64 2) k1 hne2) hne2) hne2) hne2) hne2
    have e2 := cell_off (c := g) (i := 5) (v := .int .i64 t1) (cell_off (c := g) (i := 4) (v := .int .i64 fr0) (cell_off (c := g) (i := 3) (v := .int .i64 no) (cell_off (c := g) (i := 2) (v := .int .i64 me) (cell_off (c := g) (i := 1) (v := .int .i64 2) k2 hne2) hne2) hne2) hne2) hne2
    have e3 := cell_off (c := g) (i := 5) (v := .int .i64 t1) (cell_off (c := g) (i := 4) (v := .int .i64 fr0) (cell_off (c := g) (i := 3) (v := .int .i64 no) (cell_off (c := g) (i := 2) (v := .int .i64 me) (cell_off (c := g) (i := 1) (v := .int .i64 2) k3 hne2) hne2) hne2) hne2) hne2
    have e4 := cell_off (c := g) (i := 5) (v := .int .i64 t1) (cell_off (c := g) (i := 4) (v := .int .i64 fr0) (cell_off (c := g) (i := 3) (v := .int .i64 no) (cell_off (c := g) (i := 2) (v := .int .i64 me) (cell_off (c := g) (i := 1) (v := .int .i64 2) k4 hne2) hne2) hne2) hne2) hne2
    have e5 := cell_off (c := g) (i := 5) (v := .int .i64 t1) (cell_off (c := g) (i := 4) (v := .int .i64 fr0) (cell_off (c := g) (i := 3) (v := .int .i64 no) (cell_off (c := g) (i := 2) (v := .int .i64 me) (cell_off (c := g) (i := 1) (v := .int .i64 2) k5 hne2) hne2) hne2) hne2) hne2
    have e6 := cell_off (c := g) (i := 5) (v := .int .i64 t1) (cell_off (c := g) (i := 4) (v := .int .i64 fr0) (cell_off (c := g) (i := 3) (v := .int .i64 no) (cell_off (c := g) (i := 2) (v := .int .i64 me) (cell_off (c := g) (i := 1) (v := .int .i64 2) k6 hne2) hne2) hne2) hne2) hne2
    have e7 := cell_off (c := g) (i := 5) (v := .int .i64 t1) (cell_off (c := g) (i := 4) (v := .int .i64 fr0) (cell_off (c := g) (i := 3) (v := .int .i64 no) (cell_off (c := g) (i := 2) (v := .int .i64 me) (cell_off (c := g) (i := 1) (v := .int .i64 2) k7 hne2) hne2) hne2) hne2) hne2
    have f0 := (B1.out.cell (p := ⟨g, 0, none⟩) hg3).trans y0
    have f1 := (B1.out.cell (p := ⟨g, 1, none⟩) hg3).trans y1
    have f2 := (B1.out.cell (p := ⟨g, 2, none⟩) hg3).trans y2
    have f3 := (B1.out.cell (p := ⟨g, 3, none⟩) hg3).trans y3
    have f4 := (B1.out.cell (p := ⟨g, 4, none⟩) hg3).trans y4
    have f5 := (B1.out.cell (p := ⟨g, 5, none⟩) hg3).trans y5
    have fz := fun o => (hBw.out.frozen (p := ⟨g, o, none⟩) hgl).trans (HZ.out o)
    have hgc : g < wc.heap.size := World.block_lt_of_cell? _ _ f0
    clear y0 y1 y2 y3 y4 y5 gS
    go_wp2_with (first
      | (go_at_call 26; refine (sponsor_Hear.calls _ _ r me 3 id me no ch key 0 0 fr r2 0 _ (HG.out.gr GS.out hg0) (Gr.C68 GS.out HR.out HA.out) HC.out HH.out).mono ?_; rintro e w8 hh; obtain ⟨A8, c8, rfl, hc8, hC8, hA8, hb⟩ := hear_rowE hh; clear hh; have HB8 := Aside0.mk hb; have HC8 := Aside0.mk hC8; have HA8 := Aside0.mk hA8; have H8 := Aside0.mk hc8; clear hb hC8 hA8 hc8))
    rw [rounds_succ]
    go_wp2_with (fail)
    go_ret
    have hst : ((((((wc.setCell ⟨g, 1, none⟩ (.int .i64 2)).setCell ⟨g, 2, none⟩ (.int .i64 me)).setCell ⟨g, 3, none⟩ (.int .i64 no)).setCell ⟨g, 4, none⟩ (.int .i64 fr0)).setCell ⟨g, 5, none⟩ (.int .i64 t1))).heap.size = wc.heap.size := by simp [go_sem]
    have hgs : g < ((((((wc.setCell ⟨g, 1, none⟩ (.int .i64 2)).setCell ⟨g, 2, none⟩ (.int .i64 me)).setCell ⟨g, 3, none⟩ (.int .i64 no)).setCell ⟨g, 4, none⟩ (.int .i64 fr0)).setCell ⟨g, 5, none⟩ (.int .i64 t1))).heap.size := by rw [hst]; exact hgc
    have c0 := (HB8.out.cell (p := ⟨g, 0, none⟩) hgs).trans (show _ = some (.int .i64 id) by simp [go_sem, f0, f1, f2, f3, f4, f5])
    have c1 := (HB8.out.cell (p := ⟨g, 1, none⟩) hgs).trans (show _ = some (.int .i64 2) by simp [go_sem, f0, f1, f2, f3, f4, f5])
    have c2 := (HB8.out.cell (p := ⟨g, 2, none⟩) hgs).trans (show _ = some (.int .i64 me) by simp [go_sem, f0, f1, f2, f3, f4, f5])
    have c3 := (HB8.out.cell (p := ⟨g, 3, none⟩) hgs).trans (show _ = some (.int .i64 no) by simp [go_sem, f0, f1, f2, f3, f4, f5])
    have c4 := (HB8.out.cell (p := ⟨g, 4, none⟩) hgs).trans (show _ = some (.int .i64 fr0) by simp [go_sem, f0, f1, f2, f3, f4, f5])
    have c5 := (HB8.out.cell (p := ⟨g, 5, none⟩) hgs).trans (show _ = some (.int .i64 t1) by simp [go_sem, f0, f1, f2, f3, f4, f5])
    have fy := fun o => (HB8.out.frozen (p := ⟨g, o, none⟩) hgs).trans (show _ = false by simp [go_sem, fz])
    have hw := hBw.out.size
    exact ⟨_, _, rfl, H8.out, HC8.out, fun ad e => by have := HA8.out ad e; rw [hst] at this; omega, Gr.trans GS.out (Gr.of_below HB8.out), SG.mk c0 c1 c2 c3 c4 c5, fy⟩
end Go.Proofs.YtncgeclkgmfppaaDoor.H
