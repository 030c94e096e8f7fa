/-
  SponsorOthers: its walk, true whatever the list and the word.
-/
import Derived.Test.YtncgeclkgmfppaaDoorPlainOf
import Derived.Test.YtncgeclkgmfppaaDoorReplays
import Derived.Test.YtncgeclkgmfppaaDoorH2
import Derived.Test.YtncgeclkgmfppaaDoorH11
import Derived.Outline
namespace Go.Proofs.YtncgeclkgmfppaaDoor.H
open Go.RowKit Go.Proofs.YtncgeclkgmfppaaDoorW.PrintWords Go.Proofs.YtncgeclkgmfppaaDoorW.PrintLast Go.Proofs.YtncgeclkgmfppaaDoorW.PrintMore
set_option linter.unusedVariables false
set_option linter.unusedSimpArgs false
set_option maxRecDepth 100000
attribute [local go_sem high] eqA68
set_option maxHeartbeats 4000000 in
theorem others_main (A0 : Option Addr) (c0 : Nat) (l : List S68) (a1 x0 x1 x2 x3 x4 x5 x6 x7 fr s : Int) (r : List S68) (t1 t2 t3 t4 t6 : Int) (t5 t7 : Bool) (w : World) (hG : Laid w) (hr0 : Kd.C k68 w A0 l.length l) (hc0 : l.length ≤ c0)
    (hp : sponsor_Hear.f l a1 x0 x1 x2 x3 x4 x5 x6 x7 fr = some (r, 0)) (ho : slotmeshref31_Of.f 30 l s = some (t1, t2, t3, t4, t5, t6, t7)) (ho' : slotmeshref31_Of.f 30 r s = some (t1, t2, t3, t4, t5, t6, t7))
    (h20 : decide (20 < (l.length : Int)) = false) (h20' : decide (20 < l.length) = false) (h1 : (s == x1) = false) (h4 : l.length ≤ 4) (h5 : r.length ≤ l.length + 1) :
    Calls Tryd.prog 8 #[.slice A0 l.length c0, .int .i64 a1, .agg #[.int .i64 x0, .int .i64 x1, .int .i64 x2, .int .i64 x3, .int .i64 x4, .int .i64 x5, .int .i64 x6, .int .i64 x7], .int .i64 fr, .int .i64 s] w fun e w' => e = .returned (.bool true) ∧ Below w.heap.size w w' := by
  have HG := Aside0.mk hG
  have HP := Aside0.mk hp
  have HO := Aside0.mk ho
  have HO2 := Aside0.mk ho'
  have HR := Aside0.mk hr0
  have HC := Aside0.mk hc0
  clear hG hp ho ho' hr0 hc0
  have T0 : Aside0 True := ⟨trivial⟩
  have T1 : Aside0 True := ⟨trivial⟩
  have T2 : Aside0 True := ⟨trivial⟩
  have T3 : Aside0 True := ⟨trivial⟩
  have hu54 := Tryd.underlying54
  have hu68 := Tryd.underlying68
  have hle : decide ((r.length : Int) ≤ (l.length : Int) + 1) = true := decide_eq_true (by omega)
  have hle2 : decide (r.length ≤ l.length + 1) = true := decide_eq_true (by omega)
  go_enter Tryd.func8, Tryd.ntmps8
  go_wp2_with (first
    | (go_at_call 25; clear T0; refine (slotmeshlaw31_head.calls true _ (HG.out.later (by repeat (first | (with_reducible exact Below.refl _ _) | (with_reducible assumption) | (with_reducible refine ra_drewN ?_ _) | (with_reducible refine ra_drew ?_) | (with_reducible refine ra_alloc ?_ _) | (with_reducible refine ra_set ?_ _ (by (first | omega | (simp; omega))))))) rfl).mono ?_; rintro e w1 ⟨rfl, hb⟩; have hb1 := ra_step (w := w) (by repeat (first | (with_reducible exact Below.refl _ _) | (with_reducible assumption) | (with_reducible refine ra_drewN ?_ _) | (with_reducible refine ra_drew ?_) | (with_reducible refine ra_alloc ?_ _) | (with_reducible refine ra_set ?_ _ (by (first | omega | (simp; omega)))))) hb; have hx1 := fun o => hb.cell (p := ⟨w.heap.size, o, none⟩) (by simp); have hf1 := fun o => hb.frozen (p := ⟨w.heap.size, o, none⟩) (by simp); have hs1 : w.heap.size + 1 ≤ w1.heap.size := (by have := hb.size; simpa using this); clear hb)
    | (go_at_call 26; clear T1; refine (sponsor_Hear.calls _ _ l a1 x0 x1 x2 x3 x4 x5 x6 x7 fr r 0 _ (HG.out.later (by repeat (first | (with_reducible exact Below.refl _ _) | (with_reducible assumption) | (with_reducible refine ra_drewN ?_ _) | (with_reducible refine ra_drew ?_) | (with_reducible refine ra_alloc ?_ _) | (with_reducible refine ra_set ?_ _ (by (first | omega | (simp; omega))))))) (Kd.C_below HR.out (by repeat (first | (with_reducible exact Below.refl _ _) | (with_reducible assumption) | (with_reducible refine ra_drewN ?_ _) | (with_reducible refine ra_drew ?_) | (with_reducible refine ra_alloc ?_ _) | (with_reducible refine ra_set ?_ _ (by (first | omega | (simp; omega))))))) HC.out HP.out).mono ?_; rintro e w2 hh; obtain ⟨A2, n2, rfl, hn2, hC2, hb⟩ := hear_row hh; clear hh; replace hb1 := ra_step (w := w) (by repeat (first | (with_reducible exact Below.refl _ _) | (with_reducible assumption) | (with_reducible refine ra_drewN ?_ _) | (with_reducible refine ra_drew ?_) | (with_reducible refine ra_alloc ?_ _) | (with_reducible refine ra_set ?_ _ (by (first | omega | (simp; omega)))))) hb; have hx2 := fun o => hb.cell (p := ⟨w.heap.size, o, none⟩) (by simp; omega); have hf2 := fun o => hb.frozen (p := ⟨w.heap.size, o, none⟩) (by simp; omega); have hs2 : w.heap.size + 1 ≤ w2.heap.size := (by have := hb.size; omega); have e0 : w2.cell? ⟨w.heap.size, 0, none⟩ = some (.int .i64 x0) := (hx2 0).trans (by rw [hx1]; simp [go_sem]); have e1 : w2.cell? ⟨w.heap.size, 1, none⟩ = some (.int .i64 x1) := (hx2 1).trans (by rw [hx1]; simp [go_sem]); have e2 : w2.cell? ⟨w.heap.size, 2, none⟩ = some (.int .i64 x2) := (hx2 2).trans (by rw [hx1]; simp [go_sem]); have e3 : w2.cell? ⟨w.heap.size, 3, none⟩ = some (.int .i64 x3) := (hx2 3).trans (by rw [hx1]; simp [go_sem]); have e4 : w2.cell? ⟨w.heap.size, 4, none⟩ = some (.int .i64 x4) := (hx2 4).trans (by rw [hx1]; simp [go_sem]); have e5 : w2.cell? ⟨w.heap.size, 5, none⟩ = some (.int .i64 x5) := (hx2 5).trans (by rw [hx1]; simp [go_sem]); have e6 : w2.cell? ⟨w.heap.size, 6, none⟩ = some (.int .i64 x6) := (hx2 6).trans (by rw [hx1]; simp [go_sem]); have e7 : w2.cell? ⟨w.heap.size, 7, none⟩ = some (.int .i64 x7) := (hx2 7).trans (by rw [hx1]; simp [go_sem]); have HC2 := Aside0.mk hC2; have HN2 := Aside0.mk hn2; have hb2 := Below.refl w2.heap.size w2; clear hb hC2 hn2)
    | (go_at_call 38; clear T2; refine (slotmeshref31_Of.calls 30 _ _ l s t1 t2 t3 t4 t5 t6 t7 _ (Kd.C_below HR.out (by repeat (first | (with_reducible exact Below.refl _ _) | (with_reducible assumption) | (with_reducible refine ra_drewN ?_ _) | (with_reducible refine ra_drew ?_) | (with_reducible refine ra_alloc ?_ _) | (with_reducible refine ra_set ?_ _ (by (first | omega | (simp; omega))))))) HC.out HO.out).mono ?_; rintro e w3 ⟨rfl, hb⟩; replace hb1 := ra_step (w := w) (by repeat (first | (with_reducible exact Below.refl _ _) | (with_reducible assumption) | (with_reducible refine ra_drewN ?_ _) | (with_reducible refine ra_drew ?_) | (with_reducible refine ra_alloc ?_ _) | (with_reducible refine ra_set ?_ _ (by (first | omega | (simp; omega)))))) hb; replace hb2 := ra_step (w := w2) (by repeat (first | (with_reducible exact Below.refl _ _) | (with_reducible assumption) | (with_reducible refine ra_drewN ?_ _) | (with_reducible refine ra_drew ?_) | (with_reducible refine ra_alloc ?_ _) | (with_reducible refine ra_set ?_ _ (by (first | omega | (simp; omega)))))) hb; clear hb)
    | (go_at_call 38; clear T3; refine (slotmeshref31_Of.calls 30 _ _ r s t1 t2 t3 t4 t5 t6 t7 _ (Kd.C_below HC2.out (by repeat (first | (with_reducible exact Below.refl _ _) | (with_reducible assumption) | (with_reducible refine ra_drewN ?_ _) | (with_reducible refine ra_drew ?_) | (with_reducible refine ra_alloc ?_ _) | (with_reducible refine ra_set ?_ _ (by (first | omega | (simp; omega))))))) HN2.out HO2.out).mono ?_; rintro e w4 ⟨rfl, hb⟩; replace hb1 := ra_step (w := w) (by repeat (first | (with_reducible exact Below.refl _ _) | (with_reducible assumption) | (with_reducible refine ra_drewN ?_ _) | (with_reducible refine ra_drew ?_) | (with_reducible refine ra_alloc ?_ _) | (with_reducible refine ra_set ?_ _ (by (first | omega | (simp; omega)))))) hb; have hx4 := fun o => hb.cell (p := ⟨w3.heap.size, o, none⟩) (by simp); have hf4 := fun o => hb.frozen (p := ⟨w3.heap.size, o, none⟩) (by simp); have g0 : w4.cell? ⟨w3.heap.size, 0, none⟩ = some (.int .i64 t1) := (hx4 0).trans (by simp [go_sem]); have g1 : w4.cell? ⟨w3.heap.size, 1, none⟩ = some (.int .i64 t2) := (hx4 1).trans (by simp [go_sem]); have g2 : w4.cell? ⟨w3.heap.size, 2, none⟩ = some (.int .i64 t3) := (hx4 2).trans (by simp [go_sem]); have g3 : w4.cell? ⟨w3.heap.size, 3, none⟩ = some (.int .i64 t4) := (hx4 3).trans (by simp [go_sem]); have g4 : w4.cell? ⟨w3.heap.size, 4, none⟩ = some (.bool t5) := (hx4 4).trans (by simp [go_sem]); have g5 : w4.cell? ⟨w3.heap.size, 5, none⟩ = some (.int .i64 t6) := (hx4 5).trans (by simp [go_sem]); have ga0 := fun o => Lib.cell?_alloc_some (W := w4) o g0; have ga1 := fun o => Lib.cell?_alloc_some (W := w4) o g1; have ga2 := fun o => Lib.cell?_alloc_some (W := w4) o g2; have ga3 := fun o => Lib.cell?_alloc_some (W := w4) o g3; have ga4 := fun o => Lib.cell?_alloc_some (W := w4) o g4; have ga5 := fun o => Lib.cell?_alloc_some (W := w4) o g5; clear hb))
  go_ret
  exact ⟨rfl, (by repeat (first | (with_reducible exact Below.refl _ _) | (with_reducible assumption) | (with_reducible refine ra_drewN ?_ _) | (with_reducible refine ra_drew ?_) | (with_reducible refine ra_alloc ?_ _) | (with_reducible refine ra_set ?_ _ (by (first | omega | (simp; omega))))))⟩
set_option maxHeartbeats 4000000 in
theorem others_up (A0 : Option Addr) (c0 : Nat) (l : List S68) (a1 x0 x1 x2 x3 x4 x5 x6 x7 fr s : Int) (r : List S68) (c : Int) (w : World) (hG : Laid w) (hr0 : Kd.C k68 w A0 l.length l) (hc0 : l.length ≤ c0)
    (hp : sponsor_Hear.f l a1 x0 x1 x2 x3 x4 x5 x6 x7 fr = some (r, c))
    (hx : (c == 0) = false ∨ ((c == 0) = true ∧ decide (20 < (l.length : Int)) = true ∧ decide (20 < l.length) = true) ∨ ((c == 0) = true ∧ decide (20 < (l.length : Int)) = false ∧ decide (20 < l.length) = false ∧ (s == x1) = true)) :
    Calls Tryd.prog 8 #[.slice A0 l.length c0, .int .i64 a1, .agg #[.int .i64 x0, .int .i64 x1, .int .i64 x2, .int .i64 x3, .int .i64 x4, .int .i64 x5, .int .i64 x6, .int .i64 x7], .int .i64 fr, .int .i64 s] w fun e w' => e = .returned (.bool true) ∧ Below w.heap.size w w' := by
  have HG := Aside0.mk hG
  have HP := Aside0.mk hp
  have HR := Aside0.mk hr0
  have HC := Aside0.mk hc0
  clear hG hp hr0 hc0
  have T0 : Aside0 True := ⟨trivial⟩
  have T1 : Aside0 True := ⟨trivial⟩
  have hu54 := Tryd.underlying54
  have hne : (c == 0) = false → (c != 0) = true := fun h => by rw [bne, h]; rfl
  have heq : (c == 0) = true → (c != 0) = false := fun h => by rw [bne, h]; rfl
  rcases hx with y1 | ⟨y1, y2, y3⟩ | ⟨y1, y2, y3, y4⟩
  · have yn := hne y1
    clear hne heq
    go_enter Tryd.func8, Tryd.ntmps8
    go_wp2_with (first
      | (go_at_call 25; clear T0; refine (slotmeshlaw31_head.calls true _ (HG.out.later (by repeat (first | (with_reducible exact Below.refl _ _) | (with_reducible assumption) | (with_reducible refine ra_drewN ?_ _) | (with_reducible refine ra_drew ?_) | (with_reducible refine ra_alloc ?_ _) | (with_reducible refine ra_set ?_ _ (by (first | omega | (simp; omega))))))) rfl).mono ?_; rintro e w1 ⟨rfl, hb⟩; have hb1 := ra_step (w := w) (by repeat (first | (with_reducible exact Below.refl _ _) | (with_reducible assumption) | (with_reducible refine ra_drewN ?_ _) | (with_reducible refine ra_drew ?_) | (with_reducible refine ra_alloc ?_ _) | (with_reducible refine ra_set ?_ _ (by (first | omega | (simp; omega)))))) hb; have hx1 := fun o => hb.cell (p := ⟨w.heap.size, o, none⟩) (by simp); have hf1 := fun o => hb.frozen (p := ⟨w.heap.size, o, none⟩) (by simp); have hs1 : w.heap.size + 1 ≤ w1.heap.size := (by have := hb.size; simpa using this); clear hb)
      | (go_at_call 26; clear T1; refine (sponsor_Hear.calls _ _ l a1 x0 x1 x2 x3 x4 x5 x6 x7 fr r c _ (HG.out.later (by repeat (first | (with_reducible exact Below.refl _ _) | (with_reducible assumption) | (with_reducible refine ra_drewN ?_ _) | (with_reducible refine ra_drew ?_) | (with_reducible refine ra_alloc ?_ _) | (with_reducible refine ra_set ?_ _ (by (first | omega | (simp; omega))))))) (Kd.C_below HR.out (by repeat (first | (with_reducible exact Below.refl _ _) | (with_reducible assumption) | (with_reducible refine ra_drewN ?_ _) | (with_reducible refine ra_drew ?_) | (with_reducible refine ra_alloc ?_ _) | (with_reducible refine ra_set ?_ _ (by (first | omega | (simp; omega))))))) HC.out HP.out).mono ?_; rintro e w2 hh; obtain ⟨A2, n2, rfl, hn2, hC2, hb⟩ := hear_row hh; clear hh; replace hb1 := ra_step (w := w) (by repeat (first | (with_reducible exact Below.refl _ _) | (with_reducible assumption) | (with_reducible refine ra_drewN ?_ _) | (with_reducible refine ra_drew ?_) | (with_reducible refine ra_alloc ?_ _) | (with_reducible refine ra_set ?_ _ (by (first | omega | (simp; omega)))))) hb; have hx2 := fun o => hb.cell (p := ⟨w.heap.size, o, none⟩) (by simp; omega); have hf2 := fun o => hb.frozen (p := ⟨w.heap.size, o, none⟩) (by simp; omega); have e0 : w2.cell? ⟨w.heap.size, 0, none⟩ = some (.int .i64 x0) := (hx2 0).trans (by rw [hx1]; simp [go_sem]); have e1 : w2.cell? ⟨w.heap.size, 1, none⟩ = some (.int .i64 x1) := (hx2 1).trans (by rw [hx1]; simp [go_sem]); have e2 : w2.cell? ⟨w.heap.size, 2, none⟩ = some (.int .i64 x2) := (hx2 2).trans (by rw [hx1]; simp [go_sem]); have e3 : w2.cell? ⟨w.heap.size, 3, none⟩ = some (.int .i64 x3) := (hx2 3).trans (by rw [hx1]; simp [go_sem]); have e4 : w2.cell? ⟨w.heap.size, 4, none⟩ = some (.int .i64 x4) := (hx2 4).trans (by rw [hx1]; simp [go_sem]); have e5 : w2.cell? ⟨w.heap.size, 5, none⟩ = some (.int .i64 x5) := (hx2 5).trans (by rw [hx1]; simp [go_sem]); have e6 : w2.cell? ⟨w.heap.size, 6, none⟩ = some (.int .i64 x6) := (hx2 6).trans (by rw [hx1]; simp [go_sem]); have e7 : w2.cell? ⟨w.heap.size, 7, none⟩ = some (.int .i64 x7) := (hx2 7).trans (by rw [hx1]; simp [go_sem]); clear hb hC2 hn2))
    go_ret
    exact ⟨rfl, hb1⟩
  all_goals
    have yn := heq y1
    clear hne heq
    go_enter Tryd.func8, Tryd.ntmps8
    go_wp2_with (first
      | (go_at_call 25; clear T0; refine (slotmeshlaw31_head.calls true _ (HG.out.later (by repeat (first | (with_reducible exact Below.refl _ _) | (with_reducible assumption) | (with_reducible refine ra_drewN ?_ _) | (with_reducible refine ra_drew ?_) | (with_reducible refine ra_alloc ?_ _) | (with_reducible refine ra_set ?_ _ (by (first | omega | (simp; omega))))))) rfl).mono ?_; rintro e w1 ⟨rfl, hb⟩; have hb1 := ra_step (w := w) (by repeat (first | (with_reducible exact Below.refl _ _) | (with_reducible assumption) | (with_reducible refine ra_drewN ?_ _) | (with_reducible refine ra_drew ?_) | (with_reducible refine ra_alloc ?_ _) | (with_reducible refine ra_set ?_ _ (by (first | omega | (simp; omega)))))) hb; have hx1 := fun o => hb.cell (p := ⟨w.heap.size, o, none⟩) (by simp); have hf1 := fun o => hb.frozen (p := ⟨w.heap.size, o, none⟩) (by simp); have hs1 : w.heap.size + 1 ≤ w1.heap.size := (by have := hb.size; simpa using this); clear hb)
      | (go_at_call 26; clear T1; refine (sponsor_Hear.calls _ _ l a1 x0 x1 x2 x3 x4 x5 x6 x7 fr r c _ (HG.out.later (by repeat (first | (with_reducible exact Below.refl _ _) | (with_reducible assumption) | (with_reducible refine ra_drewN ?_ _) | (with_reducible refine ra_drew ?_) | (with_reducible refine ra_alloc ?_ _) | (with_reducible refine ra_set ?_ _ (by (first | omega | (simp; omega))))))) (Kd.C_below HR.out (by repeat (first | (with_reducible exact Below.refl _ _) | (with_reducible assumption) | (with_reducible refine ra_drewN ?_ _) | (with_reducible refine ra_drew ?_) | (with_reducible refine ra_alloc ?_ _) | (with_reducible refine ra_set ?_ _ (by (first | omega | (simp; omega))))))) HC.out HP.out).mono ?_; rintro e w2 hh; obtain ⟨A2, n2, rfl, hn2, hC2, hb⟩ := hear_row hh; clear hh; replace hb1 := ra_step (w := w) (by repeat (first | (with_reducible exact Below.refl _ _) | (with_reducible assumption) | (with_reducible refine ra_drewN ?_ _) | (with_reducible refine ra_drew ?_) | (with_reducible refine ra_alloc ?_ _) | (with_reducible refine ra_set ?_ _ (by (first | omega | (simp; omega)))))) hb; have hx2 := fun o => hb.cell (p := ⟨w.heap.size, o, none⟩) (by simp; omega); have hf2 := fun o => hb.frozen (p := ⟨w.heap.size, o, none⟩) (by simp; omega); have e0 : w2.cell? ⟨w.heap.size, 0, none⟩ = some (.int .i64 x0) := (hx2 0).trans (by rw [hx1]; simp [go_sem]); have e1 : w2.cell? ⟨w.heap.size, 1, none⟩ = some (.int .i64 x1) := (hx2 1).trans (by rw [hx1]; simp [go_sem]); have e2 : w2.cell? ⟨w.heap.size, 2, none⟩ = some (.int .i64 x2) := (hx2 2).trans (by rw [hx1]; simp [go_sem]); have e3 : w2.cell? ⟨w.heap.size, 3, none⟩ = some (.int .i64 x3) := (hx2 3).trans (by rw [hx1]; simp [go_sem]); have e4 : w2.cell? ⟨w.heap.size, 4, none⟩ = some (.int .i64 x4) := (hx2 4).trans (by rw [hx1]; simp [go_sem]); have e5 : w2.cell? ⟨w.heap.size, 5, none⟩ = some (.int .i64 x5) := (hx2 5).trans (by rw [hx1]; simp [go_sem]); have e6 : w2.cell? ⟨w.heap.size, 6, none⟩ = some (.int .i64 x6) := (hx2 6).trans (by rw [hx1]; simp [go_sem]); have e7 : w2.cell? ⟨w.heap.size, 7, none⟩ = some (.int .i64 x7) := (hx2 7).trans (by rw [hx1]; simp [go_sem]); clear hb hC2 hn2))
    go_ret
    exact ⟨rfl, hb1⟩
theorem sponsorOthers_walk (A0 : Option Addr) (c0 : Nat) (l : List S68) (a1 x0 x1 x2 x3 x4 x5 x6 x7 fr s : Int) (w : World) (hG : Laid w) (hr0 : Kd.C k68 w A0 l.length l) (hc0 : l.length ≤ c0) (hb : l.length * 48 ≤ 140737488351232)
    (_ : -9223372036854775808 ≤ a1 ∧ a1 ≤ 9223372036854775807) (_ : -9223372036854775808 ≤ fr ∧ fr ≤ 9223372036854775807) (_ : -9223372036854775808 ≤ s ∧ s ≤ 9223372036854775807) :
    Calls Tryd.prog 8 #[.slice A0 l.length c0, .int .i64 a1, .agg #[.int .i64 x0, .int .i64 x1, .int .i64 x2, .int .i64 x3, .int .i64 x4, .int .i64 x5, .int .i64 x6, .int .i64 x7], .int .i64 fr, .int .i64 s] w fun e w' => e = .returned (.bool true) ∧ Below w.heap.size w w' := by
  obtain ⟨⟨r, c⟩, hp⟩ := hear_total l a1 x0 x1 x2 x3 x4 x5 x6 x7 fr (by omega)
  by_cases hc : c = 0
  · subst hc
    by_cases h20 : 20 < l.length
    · exact others_up A0 c0 l a1 x0 x1 x2 x3 x4 x5 x6 x7 fr s r 0 w hG hr0 hc0 hp (.inr (.inl ⟨rfl, decide_eq_true (by omega), decide_eq_true h20⟩))
    · by_cases h1 : s = x1
      · exact others_up A0 c0 l a1 x0 x1 x2 x3 x4 x5 x6 x7 fr s r 0 w hG hr0 hc0 hp (.inr (.inr ⟨rfl, decide_eq_false (by omega), decide_eq_false h20, by simpa using h1⟩))
      · obtain ⟨hv, hvr, _⟩ := hear_does hp
        have h4 := valid_short hv
        have h4' := valid_short hvr
        have ho := of_f 30 l s (by omega) (by omega)
        have ho' := of_f 30 r s (by omega) (by omega)
        rw [hear_others hp h1] at ho'
        obtain ⟨⟨t1, t2, t3, t4, t5, t6, t7⟩, ht⟩ : ∃ p, ofT (findH l s) = p := ⟨_, rfl⟩
        rw [ht] at ho ho'
        exact others_main A0 c0 l a1 x0 x1 x2 x3 x4 x5 x6 x7 fr s r t1 t2 t3 t4 t6 t5 t7 w hG hr0 hc0 hp ho ho' (decide_eq_false (by omega)) (decide_eq_false h20) (by simpa using h1) h4 (hear_len hp)
  · exact others_up A0 c0 l a1 x0 x1 x2 x3 x4 x5 x6 x7 fr s r c w hG hr0 hc0 hp (.inl (by simpa using hc))
end Go.Proofs.YtncgeclkgmfppaaDoor.H
