/-
  head32R14 (package slotmeshtop): the stranger joins; the call answers true.
-/
import Derived.Test.YtncgeclkgmfppaaDoorStrangerP
import Derived.Test.YtncgeclkgmfppaaDoorStrangerH
import Derived.Test.YtncgeclkgmfppaaDoorH23
namespace Go.Proofs.YtncgeclkgmfppaaDoor.H
open Go.RowKit Go.Proofs.YtncgeclkgmfppaaDoorW.PrintWords Go.Proofs.YtncgeclkgmfppaaDoorW.PrintLast Go.Proofs.YtncgeclkgmfppaaDoorW.PrintMore
set_option linter.unusedVariables false
set_option linter.unusedSimpArgs false
set_option maxRecDepth 100000
theorem strange1 : sponsor_Hear.f [] 3 1 5 3 513 0 0 0 0 10 = some ([⟨5, 513, 600217541, 22, false, 0⟩], 0) := by kernel_rfl
theorem strange2 : sponsor_Words.f 30 [⟨5, 513, 600217541, 22, false, 0⟩] 3 = some [⟨2, 5, 3, 513, 600217541, 0, ⟨0, 0⟩⟩] := by kernel_rfl
theorem strange3 : sponsor_Hear.f [⟨5, 513, 600217541, 22, false, 0⟩] 3 3 5 3 513 600217541 1000005 0 0 11 = some ([⟨5, 513, 600217541, 22, true, 1000005⟩], 0) := by kernel_rfl
theorem strange4 : keyring_Root.f 300 4100 = some (2, 4) := by kernel_rfl
theorem strange5 : slotmeshtop_welcomesR14.f 30 [⟨5, 513, 600217541, 22, true, 1000005⟩] 3 2 4 = some [⟨4, 5, 3, 513, 0, 1000005, ⟨2, 4⟩⟩] := by kernel_rfl
theorem strange_ask (w : World) : Calls Tryd.prog 39 #[.agg #[.int .i64 0, .int .i64 (-1), .int .i64 0, .int .i64 0, .int .i64 0], .int .i64 5, .int .i64 2, .int .i64 3, .int .i64 10] w fun e w' => e = .returned (.tuple #[.agg #[.int .i64 1, .int .i64 3, .int .i64 513, .int .i64 10, .int .i64 1], .agg #[.int .i64 1, .int .i64 5, .int .i64 3, .int .i64 513, .int .i64 0, .int .i64 0, .int .i64 0, .int .i64 0], .int .i64 0]) ∧ Below w.heap.size w w' :=
  ask_o 0 (-1) 0 0 0 5 2 3 10 w (by unfold askP; decide) rfl (by decide)
theorem strange_prove (w : World) : Calls Tryd.prog 40 #[.agg #[.int .i64 1, .int .i64 3, .int .i64 513, .int .i64 10, .int .i64 1], .int .i64 5, .agg #[.int .i64 2, .int .i64 5, .int .i64 3, .int .i64 513, .int .i64 600217541, .int .i64 0, .int .i64 0, .int .i64 0], .int .i64 11] w fun e w' => e = .returned (.tuple #[.agg #[.int .i64 2, .int .i64 3, .int .i64 513, .int .i64 10, .int .i64 1], .agg #[.int .i64 3, .int .i64 5, .int .i64 3, .int .i64 513, .int .i64 600217541, .int .i64 1000005, .int .i64 0, .int .i64 0], .bool true]) ∧ Below w.heap.size w w' :=
  hear_c1 3 513 10 1 600217541 0 0 0 11 5 w (by kernel_rfl) (by kernel_rfl) (by decide) (by decide)
theorem strange_wel (w : World) : Calls Tryd.prog 40 #[.agg #[.int .i64 2, .int .i64 3, .int .i64 513, .int .i64 10, .int .i64 1], .int .i64 5, .agg #[.int .i64 4, .int .i64 5, .int .i64 3, .int .i64 513, .int .i64 0, .int .i64 1000005, .int .i64 2, .int .i64 4], .int .i64 12] w fun e w' => e = .returned (.tuple #[.agg #[.int .i64 3, .int .i64 3, .int .i64 513, .int .i64 10, .int .i64 1], .agg #[.int .i64 0, .int .i64 0, .int .i64 0, .int .i64 0, .int .i64 0, .int .i64 0, .int .i64 0, .int .i64 0], .bool true]) ∧ Below w.heap.size w w' :=
  hear_wy 3 513 10 1 0 2 4 12 5 w (by kernel_rfl) (by kernel_rfl) (by decide) (by decide)
set_option maxHeartbeats 40000000 in
theorem head32 (w : World) (hG : Laid w) : Calls Tryd.prog 12 #[] w fun e w' => e = .returned (.bool true) ∧ Below w.heap.size w w' := by
  have HG := Aside0.mk hG
  have hw0 : 0 < w.heap.size := by have h := World.block_lt_of_cell? _ _ hG.c0; dsimp only at h; omega
  clear hG
  go_enter Tryd.func12, Tryd.ntmps12
  go_upto_region 1 with (fail)
  go_cut [1] (fun v1 wa => ∃ g : Nat, v1 = .pointer (some ⟨g, 0, none⟩) ∧ w.heap.size ≤ g ∧ SG g 5 0 (-1) 0 0 0 wa ∧ (∀ o, wa.frozen? ⟨g, o, none⟩ = false) ∧ Aside0 (Below w.heap.size w wa))
  case first =>
    go_wp2
    go_meet
    exact ⟨_, rfl, Nat.le_refl _, SG.mk (by simp [go_sem]) (by simp [go_sem]) (by simp [go_sem]) (by simp [go_sem]) (by simp [go_sem]) (by simp [go_sem]), fun o => by simp [go_sem], ⟨(by repeat (first | with_reducible (first | exact Below.refl _ _ | assumption | refine ra_drewN ?_ _ | refine ra_drew ?_ | refine ra_alloc ?_ _) | with_reducible refine ra_set ?_ _ (by (first | omega | (simp; omega)))))⟩⟩
  case rest =>
   obtain ⟨g, rfl, hwg, hs, hz, B1⟩ := hcut
   obtain ⟨wa, hwa⟩ : ∃ wa : World, wa = wc := ⟨_, rfl⟩
   subst hwa
   have hg0 : g ≠ 0 := by omega
   have hga : g < wa.heap.size := World.block_lt_of_cell? _ _ hs.1
   have HS := Aside0.mk hs
   have HZ := Lib.hid hz
   have HGa := Aside0.mk (HG.out.later B1.out)
   clear hs hz
   go_wp2_with (first
     | (go_at_call 20; refine (ask14 g 5 2 3 10 513 1 [⟨5, 513, 600217541, 22, false, 0⟩] _ HGa.out HS.out HZ.out strange_ask strange1).mono ?_; rintro e w3 ⟨A3, c3, rfl, hc, hC, hA, hgr, hs, hz⟩; have H3 := Aside0.mk hc; have C3 := Aside0.mk hC; have N3 : Aside0 (∀ ad, A3 = some ad → ad.block ≠ g) := Aside0.mk (fun ad e => by have := hA ad e; omega); have G3 := Aside0.mk hgr; have S3 := Aside0.mk hs; have Z3 := Lib.hid hz; have h3s : wa.heap.size ≤ w3.heap.size := hgr.size; have HG3 := Aside0.mk (Laid.gr HGa.out hgr hg0); clear hc hC hA hgr hs hz)
     | (go_at_call 21; refine (prove14 g 5 3 513 600217541 11 10 1 1000005 [⟨5, 513, 600217541, 22, false, 0⟩] [⟨5, 513, 600217541, 22, true, 1000005⟩] A3 c3 _ HG3.out hg0 S3.out Z3.out C3.out H3.out N3.out strange2 strange_prove strange3).mono ?_; rintro e w4 ⟨A4, c4, rfl, hc, hC, hA, hgr, hs, hz⟩; have H4 := Aside0.mk hc; have C4 := Aside0.mk hC; have N4 : Aside0 (∀ ad, A4 = some ad → ad.block ≠ g) := Aside0.mk (fun ad e => by have := hA ad e; omega); have G4 := Aside0.mk (Gr.trans G3.out hgr); have S4 := Aside0.mk hs; have Z4 := Lib.hid hz; have h4s : w3.heap.size ≤ w4.heap.size := hgr.size; clear hc hC hA hgr hs hz)
     | (go_at_call 13; refine (keyring_Root.calls 300 4100 2 4 _ strange4).mono ?_; rintro e w5 ⟨rfl, hb⟩; have C5 := Aside0.mk (Gr.C68 (Gr.of_below (g := g) hb) C4.out N4.out); have G5 := Aside0.mk (Gr.trans G4.out (Gr.of_below (g := g) hb)); have S5 := Aside0.mk (SG.call hb S4.out); have hg4 : g < w4.heap.size := (by omega); have Z5 := Lib.hid (fun o => (hb.frozen (p := ⟨g, o, none⟩) hg4).trans (Z4.out o)); have h5s : w4.heap.size ≤ w5.heap.size := hb.size; clear hb)
     | (go_at_call 22; refine (slotmeshtop_welcomesR14.calls 30 _ _ [⟨5, 513, 600217541, 22, true, 1000005⟩] 3 2 4 _ _ C5.out H4.out strange5).mono ?_; rintro e w6 hh; obtain ⟨b6, c6, rfl, hc6, hC6, hb6, hx6, hb⟩ := one_word hh; clear hh hx6; have H6 := Aside0.mk hc6; have C6 := Aside0.mk hC6; have G6 := Aside0.mk (Gr.trans G5.out (Gr.of_below (g := g) hb)); have S6 := Aside0.mk (SG.call hb S5.out); have hg5 : g < w5.heap.size := (by omega); have Z6 := Lib.hid (fun o => (hb.frozen (p := ⟨g, o, none⟩) hg5).trans (Z5.out o)); clear hb hc6 hC6)
     | (go_at_call 24; refine (hear14 g b6 c6 5 3 513 0 1000005 2 4 12 10 1 _ S6.out Z6.out C6.out H6.out strange_wel).mono ?_; rintro e w7 ⟨rfl, hgr, hs⟩; obtain ⟨s0, s1, s2, s3, s4, s5⟩ := hs.cells; have G7 := Aside0.mk (Gr.trans G6.out hgr); have s1a := fun o => Lib.cell?_alloc_some (W := w7) o s1; clear hgr hs))
   go_ret
   exact ⟨rfl, Gr.shut B1.out (Gr.alloc G7.out _) hwg⟩
end Go.Proofs.YtncgeclkgmfppaaDoor.H
