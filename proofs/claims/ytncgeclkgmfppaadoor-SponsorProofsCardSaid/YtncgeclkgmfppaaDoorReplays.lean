/-
  SponsorReplays: its walk.
-/
import Derived.Test.YtncgeclkgmfppaaDoorPlainOf
import Derived.Test.YtncgeclkgmfppaaDoorH11
import Derived.Outline
namespace Go.Proofs.YtncgeclkgmfppaaDoor.H
open Go.RowKit Go.Proofs.YtncgeclkgmfppaaDoorW.PrintWords Go.Proofs.YtncgeclkgmfppaaDoorW.PrintLast Go.Proofs.YtncgeclkgmfppaaDoorW.PrintMore
set_option linter.unusedVariables false
set_option linter.unusedSimpArgs false
set_option maxRecDepth 100000
/-- What Hear hands back: a row that can be read. -/
theorem hear_row {W : World} {r : List S68} {code : Int} {e : Ending} {w' : World} (hh : ∃ v0_ : Value, e = .returned (.tuple #[v0_, .int .i64 code]) ∧ Kd.R k68 68 w' W.heap.size (fun _ => True) v0_ r ∧ Below W.heap.size W w') :
    ∃ A c, e = .returned (.tuple #[.slice A r.length c, .int .i64 code]) ∧ r.length ≤ c ∧ Kd.C k68 w' A r.length r ∧ Below W.heap.size W w' := by
  obtain ⟨v, rfl, hR, hb⟩ := hh
  obtain ⟨A, c, rfl⟩ := Kd.R_slice hR
  obtain ⟨_, hc, hC⟩ := Kd.R_reads' hR
  exact ⟨A, c, rfl, hc, hC, hb⟩
set_option maxHeartbeats 4000000 in
theorem replays_main (A0 : Option Addr) (c0 : Nat) (l : List S68) (a1 x0 x1 x2 x3 x4 x5 x6 x7 fr la : Int) (r : List S68) (c2 : Int) (w : World) (hG : Laid w) (hr0 : Kd.C k68 w A0 l.length l) (hc0 : l.length ≤ c0)
    (hp : sponsor_Hear.f l a1 x0 x1 x2 x3 x4 x5 x6 x7 fr = some (r, 0)) (ha : sponsor_Hear.f r a1 x0 x1 x2 x3 x4 x5 x6 x7 la = some (r, 0)) (hl : sponsor_Hear.f r a1 1 x1 x2 (x3 - 1) x4 x5 x6 x7 la = some ([], c2))
    (hs : slotmeshref31_Same.f 30 r r = some true) (h20 : decide (20 < (l.length : Int)) = false) (h20' : decide (20 < l.length) = false) (h1 : decide (la < fr) = false) (h2 : decide (999999988 < la) = false)
    (b3 : 0 ≤ x3) (b3' : x3 ≤ 1000000000) (hx : (decide (x3 - 1 < 0) = true ∧ (c2 == 1) = true) ∨ (decide (x3 - 1 < 0) = true ∧ (c2 == 1) = false ∧ (c2 == 14) = true) ∨ (decide (x3 - 1 < 0) = false ∧ (c2 == 14) = true)) :
    Calls Tryd.prog 9 #[.slice A0 l.length c0, .int .i64 a1, .agg #[.int .i64 x0, .int .i64 x1, .int .i64 x2, .int .i64 x3, .int .i64 x4, .int .i64 x5, .int .i64 x6, .int .i64 x7], .int .i64 fr, .int .i64 la] w fun e w' => e = .returned (.bool true) ∧ Below w.heap.size w w' := by
  have HG := Aside0.mk hG
  have HP := Aside0.mk hp
  have HA := Aside0.mk ha
  have HL := Aside0.mk hl
  have HS := Aside0.mk hs
  have HR := Aside0.mk hr0
  have HC := Aside0.mk hc0
  clear hG hp ha hl hs hr0 hc0
  have T0 : Aside0 True := ⟨trivial⟩
  have T1 : Aside0 True := ⟨trivial⟩
  have T2 : Aside0 True := ⟨trivial⟩
  have T3 : Aside0 True := ⟨trivial⟩
  have hu54 := Tryd.underlying54
  rcases hx with ⟨y1, y2⟩ | ⟨y1, y2, y3⟩ | ⟨y1, y2⟩
  all_goals
   go_enter Tryd.func9, Tryd.ntmps9
   go_wp2_with (first
    | (go_at_call 25; clear T0; refine (slotmeshlaw31_head.calls true _ (HG.out.later (by repeat (first | (with_reducible exact Below.refl _ _) | (with_reducible assumption) | (with_reducible refine ra_drewN ?_ _) | (with_reducible refine ra_drew ?_) | (with_reducible refine ra_alloc ?_ _) | (with_reducible refine ra_set ?_ _ (by (first | omega | (simp; omega))))))) rfl).mono ?_; rintro e w1 ⟨rfl, hb⟩; have hb1 := ra_step (w := w) (by repeat (first | (with_reducible exact Below.refl _ _) | (with_reducible assumption) | (with_reducible refine ra_drewN ?_ _) | (with_reducible refine ra_drew ?_) | (with_reducible refine ra_alloc ?_ _) | (with_reducible refine ra_set ?_ _ (by (first | omega | (simp; omega)))))) hb; have hx1 := fun o => hb.cell (p := ⟨w.heap.size, o, none⟩) (by simp); have hf1 := fun o => hb.frozen (p := ⟨w.heap.size, o, none⟩) (by simp); have hs1 : w.heap.size + 1 ≤ w1.heap.size := (by have := hb.size; simpa using this); clear hb)
    | (go_at_call 26; clear T1; refine (sponsor_Hear.calls _ _ l a1 x0 x1 x2 x3 x4 x5 x6 x7 fr r 0 _ (HG.out.later (by repeat (first | (with_reducible exact Below.refl _ _) | (with_reducible assumption) | (with_reducible refine ra_drewN ?_ _) | (with_reducible refine ra_drew ?_) | (with_reducible refine ra_alloc ?_ _) | (with_reducible refine ra_set ?_ _ (by (first | omega | (simp; omega))))))) (Kd.C_below HR.out (by repeat (first | (with_reducible exact Below.refl _ _) | (with_reducible assumption) | (with_reducible refine ra_drewN ?_ _) | (with_reducible refine ra_drew ?_) | (with_reducible refine ra_alloc ?_ _) | (with_reducible refine ra_set ?_ _ (by (first | omega | (simp; omega))))))) HC.out HP.out).mono ?_; rintro e w2 hh; obtain ⟨A2, n2, rfl, hn2, hC2, hb⟩ := hear_row hh; clear hh; replace hb1 := ra_step (w := w) (by repeat (first | (with_reducible exact Below.refl _ _) | (with_reducible assumption) | (with_reducible refine ra_drewN ?_ _) | (with_reducible refine ra_drew ?_) | (with_reducible refine ra_alloc ?_ _) | (with_reducible refine ra_set ?_ _ (by (first | omega | (simp; omega)))))) hb; have hx2 := fun o => hb.cell (p := ⟨w.heap.size, o, none⟩) (by simp; omega); have hf2 := fun o => hb.frozen (p := ⟨w.heap.size, o, none⟩) (by simp; omega); have hs2 : w.heap.size + 1 ≤ w2.heap.size := (by have := hb.size; omega); have HC2 := Aside0.mk hC2; have HN2 := Aside0.mk hn2; have hb2 := Below.refl w2.heap.size w2; clear hb hC2 hn2)
    | (go_at_call 26; clear T2; refine (sponsor_Hear.calls _ _ r a1 x0 x1 x2 x3 x4 x5 x6 x7 la r 0 _ (HG.out.later (by repeat (first | (with_reducible exact Below.refl _ _) | (with_reducible assumption) | (with_reducible refine ra_drewN ?_ _) | (with_reducible refine ra_drew ?_) | (with_reducible refine ra_alloc ?_ _) | (with_reducible refine ra_set ?_ _ (by (first | omega | (simp; omega))))))) (Kd.C_below HC2.out (by repeat (first | (with_reducible exact Below.refl _ _) | (with_reducible assumption) | (with_reducible refine ra_drewN ?_ _) | (with_reducible refine ra_drew ?_) | (with_reducible refine ra_alloc ?_ _) | (with_reducible refine ra_set ?_ _ (by (first | omega | (simp; omega))))))) HN2.out HA.out).mono ?_; rintro e w3 hh; obtain ⟨A3, n3, rfl, hn3, hC3, hb⟩ := hear_row hh; clear hh; replace hb1 := ra_step (w := w) (by repeat (first | (with_reducible exact Below.refl _ _) | (with_reducible assumption) | (with_reducible refine ra_drewN ?_ _) | (with_reducible refine ra_drew ?_) | (with_reducible refine ra_alloc ?_ _) | (with_reducible refine ra_set ?_ _ (by (first | omega | (simp; omega)))))) hb; replace hb2 := ra_step (w := w2) (by repeat (first | (with_reducible exact Below.refl _ _) | (with_reducible assumption) | (with_reducible refine ra_drewN ?_ _) | (with_reducible refine ra_drew ?_) | (with_reducible refine ra_alloc ?_ _) | (with_reducible refine ra_set ?_ _ (by (first | omega | (simp; omega)))))) hb; have hx3 := fun o => hb.cell (p := ⟨w.heap.size, o, none⟩) (by simp; omega); have hf3 := fun o => hb.frozen (p := ⟨w.heap.size, o, none⟩) (by simp; omega); have hs3 : w.heap.size + 1 ≤ w3.heap.size := (by have := hb.size; omega); have hs23 : w2.heap.size ≤ w3.heap.size := (by have := hb.size; omega); have HC3 := Aside0.mk hC3; have HN3 := Aside0.mk hn3; have hb3 := Below.refl w3.heap.size w3; have e0 : w3.cell? ⟨w.heap.size, 0, none⟩ = some (.int .i64 x0) := (hx3 0).trans (by rw [hx2, hx1]; simp [go_sem]); have e1 : w3.cell? ⟨w.heap.size, 1, none⟩ = some (.int .i64 x1) := (hx3 1).trans (by rw [hx2, hx1]; simp [go_sem]); have e2 : w3.cell? ⟨w.heap.size, 2, none⟩ = some (.int .i64 x2) := (hx3 2).trans (by rw [hx2, hx1]; simp [go_sem]); have e3 : w3.cell? ⟨w.heap.size, 3, none⟩ = some (.int .i64 x3) := (hx3 3).trans (by rw [hx2, hx1]; simp [go_sem]); have e4 : w3.cell? ⟨w.heap.size, 4, none⟩ = some (.int .i64 x4) := (hx3 4).trans (by rw [hx2, hx1]; simp [go_sem]); have e5 : w3.cell? ⟨w.heap.size, 5, none⟩ = some (.int .i64 x5) := (hx3 5).trans (by rw [hx2, hx1]; simp [go_sem]); have e6 : w3.cell? ⟨w.heap.size, 6, none⟩ = some (.int .i64 x6) := (hx3 6).trans (by rw [hx2, hx1]; simp [go_sem]); have e7 : w3.cell? ⟨w.heap.size, 7, none⟩ = some (.int .i64 x7) := (hx3 7).trans (by rw [hx2, hx1]; simp [go_sem]); have ea0 := fun o => Lib.cell?_alloc_some (W := w3) o e0; have ea1 := fun o => Lib.cell?_alloc_some (W := w3) o e1; have ea2 := fun o => Lib.cell?_alloc_some (W := w3) o e2; have ea3 := fun o => Lib.cell?_alloc_some (W := w3) o e3; have ea4 := fun o => Lib.cell?_alloc_some (W := w3) o e4; have ea5 := fun o => Lib.cell?_alloc_some (W := w3) o e5; have ea6 := fun o => Lib.cell?_alloc_some (W := w3) o e6; have ea7 := fun o => Lib.cell?_alloc_some (W := w3) o e7; clear hb hC3 hn3)
    | (go_at_call 26; clear T3; refine (sponsor_Hear.calls _ _ r a1 1 x1 x2 (x3 - 1) x4 x5 x6 x7 la [] c2 _ (HG.out.later (by repeat (first | (with_reducible exact Below.refl _ _) | (with_reducible assumption) | (with_reducible refine ra_drewN ?_ _) | (with_reducible refine ra_drew ?_) | (with_reducible refine ra_alloc ?_ _) | (with_reducible refine ra_set ?_ _ (by (first | omega | (simp; omega))))))) (Kd.C_below HC2.out (by repeat (first | (with_reducible exact Below.refl _ _) | (with_reducible assumption) | (with_reducible refine ra_drewN ?_ _) | (with_reducible refine ra_drew ?_) | (with_reducible refine ra_alloc ?_ _) | (with_reducible refine ra_set ?_ _ (by (first | omega | (simp; omega))))))) HN2.out HL.out).mono ?_; rintro e w4 hh; obtain ⟨A4, n4, rfl, hn4, hC4, hb⟩ := hear_row hh; clear hh; replace hb1 := ra_step (w := w) (by repeat (first | (with_reducible exact Below.refl _ _) | (with_reducible assumption) | (with_reducible refine ra_drewN ?_ _) | (with_reducible refine ra_drew ?_) | (with_reducible refine ra_alloc ?_ _) | (with_reducible refine ra_set ?_ _ (by (first | omega | (simp; omega)))))) hb; replace hb2 := ra_step (w := w2) (by repeat (first | (with_reducible exact Below.refl _ _) | (with_reducible assumption) | (with_reducible refine ra_drewN ?_ _) | (with_reducible refine ra_drew ?_) | (with_reducible refine ra_alloc ?_ _) | (with_reducible refine ra_set ?_ _ (by (first | omega | (simp; omega)))))) hb; replace hb3 := ra_step (w := w3) (by repeat (first | (with_reducible exact Below.refl _ _) | (with_reducible assumption) | (with_reducible refine ra_drewN ?_ _) | (with_reducible refine ra_drew ?_) | (with_reducible refine ra_alloc ?_ _) | (with_reducible refine ra_set ?_ _ (by (first | omega | (simp; omega)))))) hb; have hx4 := fun o => hb.cell (p := ⟨w3.heap.size, o, none⟩) (by simp); have hf4 := fun o => hb.frozen (p := ⟨w3.heap.size, o, none⟩) (by simp); have hs4 : w3.heap.size + 1 ≤ w4.heap.size := (by have := hb.size; simpa using this); clear hb hC4 hn4)
    | (go_at_call 30; refine (slotmeshref31_Same.calls 30 _ _ r _ _ r true _ (Kd.C_below HC2.out (by repeat (first | (with_reducible exact Below.refl _ _) | (with_reducible assumption) | (with_reducible refine ra_drewN ?_ _) | (with_reducible refine ra_drew ?_) | (with_reducible refine ra_alloc ?_ _) | (with_reducible refine ra_set ?_ _ (by (first | omega | (simp; omega))))))) HN2.out (Kd.C_below HC3.out (by repeat (first | (with_reducible exact Below.refl _ _) | (with_reducible assumption) | (with_reducible refine ra_drewN ?_ _) | (with_reducible refine ra_drew ?_) | (with_reducible refine ra_alloc ?_ _) | (with_reducible refine ra_set ?_ _ (by (first | omega | (simp; omega))))))) HN3.out HS.out).mono ?_; rintro e w5 ⟨rfl, hd⟩; have hb := hd.below; replace hb1 := ra_step (w := w) (by repeat (first | (with_reducible exact Below.refl _ _) | (with_reducible assumption) | (with_reducible refine ra_drewN ?_ _) | (with_reducible refine ra_drew ?_) | (with_reducible refine ra_alloc ?_ _) | (with_reducible refine ra_set ?_ _ (by (first | omega | (simp; omega)))))) hb; have hx5 := fun o => hb.cell (p := ⟨w3.heap.size, o, none⟩) (by simp; omega); have hf5 := fun o => hb.frozen (p := ⟨w3.heap.size, o, none⟩) (by simp; omega); clear hb hd))
   go_ret
   exact ⟨rfl, hb1⟩
set_option maxHeartbeats 4000000 in
theorem replays_up (A0 : Option Addr) (c0 : Nat) (l : List S68) (a1 x0 x1 x2 x3 x4 x5 x6 x7 fr la : Int) (r : List S68) (c : Int) (w : World) (hG : Laid w) (hr0 : Kd.C k68 w A0 l.length l) (hc0 : l.length ≤ c0)
    (hp : sponsor_Hear.f l a1 x0 x1 x2 x3 x4 x5 x6 x7 fr = some (r, c))
    (hx : (c == 0) = false ∨ ((c == 0) = true ∧ decide (20 < (l.length : Int)) = true ∧ decide (20 < l.length) = true) ∨ ((c == 0) = true ∧ decide (20 < (l.length : Int)) = false ∧ decide (20 < l.length) = false ∧ decide (la < fr) = true) ∨ ((c == 0) = true ∧ decide (20 < (l.length : Int)) = false ∧ decide (20 < l.length) = false ∧ decide (la < fr) = false ∧ decide (999999988 < la) = true)) :
    Calls Tryd.prog 9 #[.slice A0 l.length c0, .int .i64 a1, .agg #[.int .i64 x0, .int .i64 x1, .int .i64 x2, .int .i64 x3, .int .i64 x4, .int .i64 x5, .int .i64 x6, .int .i64 x7], .int .i64 fr, .int .i64 la] w fun e w' => e = .returned (.bool true) ∧ Below w.heap.size w w' := by
  have HG := Aside0.mk hG
  have HP := Aside0.mk hp
  have HR := Aside0.mk hr0
  have HC := Aside0.mk hc0
  clear hG hp hr0 hc0
  have T0 : Aside0 True := ⟨trivial⟩
  have T1 : Aside0 True := ⟨trivial⟩
  have hu54 := Tryd.underlying54
  have hne : (c == 0) = false → (c != 0) = true := fun h => by rw [bne, h]; rfl
  have heq : (c == 0) = true → (c != 0) = false := fun h => by rw [bne, h]; rfl
  rcases hx with y1 | ⟨y1, y2, y3⟩ | ⟨y1, y2, y3, y4⟩ | ⟨y1, y2, y3, y4, y5⟩
  · have yn := hne y1
    clear hne heq
    go_enter Tryd.func9, Tryd.ntmps9
    go_wp2_with (first
      | (go_at_call 25; clear T0; refine (slotmeshlaw31_head.calls true _ (HG.out.later (by repeat (first | (with_reducible exact Below.refl _ _) | (with_reducible assumption) | (with_reducible refine ra_drewN ?_ _) | (with_reducible refine ra_drew ?_) | (with_reducible refine ra_alloc ?_ _) | (with_reducible refine ra_set ?_ _ (by (first | omega | (simp; omega))))))) rfl).mono ?_; rintro e w1 ⟨rfl, hb⟩; have hb1 := ra_step (w := w) (by repeat (first | (with_reducible exact Below.refl _ _) | (with_reducible assumption) | (with_reducible refine ra_drewN ?_ _) | (with_reducible refine ra_drew ?_) | (with_reducible refine ra_alloc ?_ _) | (with_reducible refine ra_set ?_ _ (by (first | omega | (simp; omega)))))) hb; have hx1 := fun o => hb.cell (p := ⟨w.heap.size, o, none⟩) (by simp); have hf1 := fun o => hb.frozen (p := ⟨w.heap.size, o, none⟩) (by simp); have hs1 : w.heap.size + 1 ≤ w1.heap.size := (by have := hb.size; simpa using this); clear hb)
      | (go_at_call 26; clear T1; refine (sponsor_Hear.calls _ _ l a1 x0 x1 x2 x3 x4 x5 x6 x7 fr r c _ (HG.out.later (by repeat (first | (with_reducible exact Below.refl _ _) | (with_reducible assumption) | (with_reducible refine ra_drewN ?_ _) | (with_reducible refine ra_drew ?_) | (with_reducible refine ra_alloc ?_ _) | (with_reducible refine ra_set ?_ _ (by (first | omega | (simp; omega))))))) (Kd.C_below HR.out (by repeat (first | (with_reducible exact Below.refl _ _) | (with_reducible assumption) | (with_reducible refine ra_drewN ?_ _) | (with_reducible refine ra_drew ?_) | (with_reducible refine ra_alloc ?_ _) | (with_reducible refine ra_set ?_ _ (by (first | omega | (simp; omega))))))) HC.out HP.out).mono ?_; rintro e w2 hh; obtain ⟨A2, n2, rfl, hn2, hC2, hb⟩ := hear_row hh; clear hh; replace hb1 := ra_step (w := w) (by repeat (first | (with_reducible exact Below.refl _ _) | (with_reducible assumption) | (with_reducible refine ra_drewN ?_ _) | (with_reducible refine ra_drew ?_) | (with_reducible refine ra_alloc ?_ _) | (with_reducible refine ra_set ?_ _ (by (first | omega | (simp; omega)))))) hb; clear hb hC2 hn2))
    go_ret
    exact ⟨rfl, hb1⟩
  all_goals
    have yn := heq y1
    clear hne heq
    go_enter Tryd.func9, Tryd.ntmps9
    go_wp2_with (first
      | (go_at_call 25; clear T0; refine (slotmeshlaw31_head.calls true _ (HG.out.later (by repeat (first | (with_reducible exact Below.refl _ _) | (with_reducible assumption) | (with_reducible refine ra_drewN ?_ _) | (with_reducible refine ra_drew ?_) | (with_reducible refine ra_alloc ?_ _) | (with_reducible refine ra_set ?_ _ (by (first | omega | (simp; omega))))))) rfl).mono ?_; rintro e w1 ⟨rfl, hb⟩; have hb1 := ra_step (w := w) (by repeat (first | (with_reducible exact Below.refl _ _) | (with_reducible assumption) | (with_reducible refine ra_drewN ?_ _) | (with_reducible refine ra_drew ?_) | (with_reducible refine ra_alloc ?_ _) | (with_reducible refine ra_set ?_ _ (by (first | omega | (simp; omega)))))) hb; have hx1 := fun o => hb.cell (p := ⟨w.heap.size, o, none⟩) (by simp); have hf1 := fun o => hb.frozen (p := ⟨w.heap.size, o, none⟩) (by simp); have hs1 : w.heap.size + 1 ≤ w1.heap.size := (by have := hb.size; simpa using this); clear hb)
      | (go_at_call 26; clear T1; refine (sponsor_Hear.calls _ _ l a1 x0 x1 x2 x3 x4 x5 x6 x7 fr r c _ (HG.out.later (by repeat (first | (with_reducible exact Below.refl _ _) | (with_reducible assumption) | (with_reducible refine ra_drewN ?_ _) | (with_reducible refine ra_drew ?_) | (with_reducible refine ra_alloc ?_ _) | (with_reducible refine ra_set ?_ _ (by (first | omega | (simp; omega))))))) (Kd.C_below HR.out (by repeat (first | (with_reducible exact Below.refl _ _) | (with_reducible assumption) | (with_reducible refine ra_drewN ?_ _) | (with_reducible refine ra_drew ?_) | (with_reducible refine ra_alloc ?_ _) | (with_reducible refine ra_set ?_ _ (by (first | omega | (simp; omega))))))) HC.out HP.out).mono ?_; rintro e w2 hh; obtain ⟨A2, n2, rfl, hn2, hC2, hb⟩ := hear_row hh; clear hh; replace hb1 := ra_step (w := w) (by repeat (first | (with_reducible exact Below.refl _ _) | (with_reducible assumption) | (with_reducible refine ra_drewN ?_ _) | (with_reducible refine ra_drew ?_) | (with_reducible refine ra_alloc ?_ _) | (with_reducible refine ra_set ?_ _ (by (first | omega | (simp; omega)))))) hb; clear hb hC2 hn2))
    go_ret
    exact ⟨rfl, hb1⟩
theorem sponsorReplays_walk (A0 : Option Addr) (c0 : Nat) (l : List S68) (a1 x0 x1 x2 x3 x4 x5 x6 x7 fr la : Int) (w : World) (hG : Laid w) (hr0 : Kd.C k68 w A0 l.length l) (hc0 : l.length ≤ c0) (hb : l.length * 48 ≤ 140737488351232)
    (_ : -9223372036854775808 ≤ a1 ∧ a1 ≤ 9223372036854775807) (_ : -9223372036854775808 ≤ fr ∧ fr ≤ 9223372036854775807) (_ : -9223372036854775808 ≤ la ∧ la ≤ 9223372036854775807) :
    Calls Tryd.prog 9 #[.slice A0 l.length c0, .int .i64 a1, .agg #[.int .i64 x0, .int .i64 x1, .int .i64 x2, .int .i64 x3, .int .i64 x4, .int .i64 x5, .int .i64 x6, .int .i64 x7], .int .i64 fr, .int .i64 la] w fun e w' => e = .returned (.bool true) ∧ Below w.heap.size w w' := by
  obtain ⟨⟨r, c⟩, hp⟩ := hear_total l a1 x0 x1 x2 x3 x4 x5 x6 x7 fr (by omega)
  by_cases hc : c = 0
  · subst hc
    by_cases h20 : 20 < l.length
    · exact replays_up A0 c0 l a1 x0 x1 x2 x3 x4 x5 x6 x7 fr la r 0 w hG hr0 hc0 hp (.inr (.inl ⟨rfl, decide_eq_true (by omega), decide_eq_true h20⟩))
    · by_cases h1 : la < fr
      · exact replays_up A0 c0 l a1 x0 x1 x2 x3 x4 x5 x6 x7 fr la r 0 w hG hr0 hc0 hp (.inr (.inr (.inl ⟨rfl, decide_eq_false (by omega), decide_eq_false h20, decide_eq_true h1⟩)))
      · by_cases h2 : 999999988 < la
        · exact replays_up A0 c0 l a1 x0 x1 x2 x3 x4 x5 x6 x7 fr la r 0 w hG hr0 hc0 hp (.inr (.inr (.inr ⟨rfl, decide_eq_false (by omega), decide_eq_false h20, decide_eq_false h1, decide_eq_true h2⟩)))
        · obtain ⟨hv, hvr, _⟩ := hear_does hp
          have h4' := valid_short hvr
          obtain ⟨hf, _⟩ := hear_taken hp
          obtain ⟨_, hw, _⟩ := fit_parts hf
          obtain ⟨_, _, hw3⟩ := word_parts hw
          have hs := same_self 30 r (by omega) (by omega)
          have ha := hear_again hp (fr' := la) (by omega) (by omega)
          have go : ∀ c2 : Int, sponsor_Hear.f r a1 1 x1 x2 (x3 - 1) x4 x5 x6 x7 la = some ([], c2) → ((decide (x3 - 1 < 0) = true ∧ (c2 == 1) = true) ∨ (decide (x3 - 1 < 0) = true ∧ (c2 == 1) = false ∧ (c2 == 14) = true) ∨ (decide (x3 - 1 < 0) = false ∧ (c2 == 14) = true)) → _ := fun c2 hl hx =>
            replays_main A0 c0 l a1 x0 x1 x2 x3 x4 x5 x6 x7 fr la r c2 w hG hr0 hc0 hp ha hl hs (decide_eq_false (by omega)) (decide_eq_false h20) (decide_eq_false h1) (decide_eq_false h2) hw3.1 hw3.2 hx
          rcases hear_lesser (fr' := la) hp (by omega) (by omega) with ⟨hn, hg⟩ | hg
          · exact go 1 hg (.inl ⟨decide_eq_true hn, rfl⟩)
          · by_cases hn : x3 - 1 < 0
            · exact go 14 hg (.inr (.inl ⟨decide_eq_true hn, rfl, rfl⟩))
            · exact go 14 hg (.inr (.inr ⟨decide_eq_false hn, rfl⟩))
  · exact replays_up A0 c0 l a1 x0 x1 x2 x3 x4 x5 x6 x7 fr la r c w hG hr0 hc0 hp (.inl (by simpa using hc))
end Go.Proofs.YtncgeclkgmfppaaDoor.H
