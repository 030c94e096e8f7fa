/-
  SponsorDialogue: its walk, true whatever the list, the nodes and the numbers.
-/
import Derived.Test.YtncgeclkgmfppaaDoorJoinR
import Derived.Test.YtncgeclkgmfppaaDoorPlainOf
import Derived.Test.YtncgeclkgmfppaaDoorPlainTold
import Derived.Test.YtncgeclkgmfppaaDoorH11
import Derived.Test.YtncgeclkgmfppaaDoorH12
import Derived.Outline
import Derived.IntWalk
import Derived.Lib.Hide
import Derived.Deep.RegionHeld3
import Derived.Deep.QuietTactic
import Derived.BigQuiet
namespace Go.Proofs.YtncgeclkgmfppaaDoor.H
open Go.RowKit Go.Proofs.YtncgeclkgmfppaaDoorW.PrintWords Go.Proofs.YtncgeclkgmfppaaDoorW.PrintLast Go.Proofs.YtncgeclkgmfppaaDoorW.PrintMore
set_option linter.unusedVariables false
set_option linter.unusedSimpArgs false
set_option maxRecDepth 100000
theorem hear_rowD {α : Type} {d : Kd α} {t : Nat} {W : World} {r : List α} {code : Int} {e : Ending} {w' : World} (hh : ∃ v0_ : Value, e = .returned (.tuple #[v0_, .int .i64 code]) ∧ Kd.R d t w' W.heap.size (fun _ => True) v0_ r ∧ Below W.heap.size W w') :
    ∃ A c, e = .returned (.tuple #[.slice A r.length c, .int .i64 code]) ∧ r.length ≤ c ∧ Kd.C d w' A r.length r ∧ Below W.heap.size W w' := by
  obtain ⟨v, rfl, hR, hb⟩ := hh
  obtain ⟨A, c, rfl⟩ := Kd.R_slice hR
  obtain ⟨_, hc, hC⟩ := Kd.R_reads' hR
  exact ⟨A, c, rfl, hc, hC, hb⟩
theorem row_readD {α : Type} {d : Kd α} {t : Nat} {W : World} {e : Ending} {w' : World} {xs : List α} (hh : ∃ v0_ : Value, e = .returned v0_ ∧ Kd.R d t w' W.heap.size (fun _ => True) v0_ xs ∧ Below W.heap.size W w') :
    ∃ A c, e = .returned (.slice A xs.length c) ∧ xs.length ≤ c ∧ Kd.C d w' A xs.length xs ∧ Below W.heap.size W w' := by
  obtain ⟨v, rfl, hR, hb⟩ := hh
  obtain ⟨A, c, rfl⟩ := Kd.R_slice hR
  obtain ⟨_, hc, hC⟩ := Kd.R_reads' hR
  exact ⟨A, c, rfl, hc, hC, hb⟩
theorem seen {W w1 : World} (hb : Below W.heap.size W w1) (b : Nat) (h : b < W.heap.size) : (∀ o, w1.cell? ⟨b, o, none⟩ = W.cell? ⟨b, o, none⟩) ∧ (∀ o, w1.frozen? ⟨b, o, none⟩ = W.frozen? ⟨b, o, none⟩) ∧ b < w1.heap.size ∧ b < w1.heap.size + 1 ∧ b < w1.heap.size + 1 + 1 ∧ b < w1.heap.size + 1 + 1 + 1 :=
  ⟨fun o => hb.cell (p := ⟨b, o, none⟩) h, fun o => hb.frozen (p := ⟨b, o, none⟩) h, by have := hb.size; omega, by have := hb.size; omega, by have := hb.size; omega, by have := hb.size; omega⟩
theorem cell_more {w : World} {p : Addr} {v : Value} {o : Obj} (h : w.cell? p = some v) : (w.alloc o).cell? p = some v := by
  have hb : p.block < w.heap.size := by
    rcases Nat.lt_or_ge p.block w.heap.size with hlt | hge
    · exact hlt
    · simp [World.cell?, Array.getElem?_eq_none hge] at h
  rw [World.cell?_alloc_lt w o p hb]; exact h
theorem cell_away {w : World} {b c o i : Nat} {v x : Value} (h : w.cell? ⟨b, o, none⟩ = some x) (hn : b ≠ c) : (w.setCell ⟨c, i, none⟩ v).cell? ⟨b, o, none⟩ = some x := by
  rw [World.cell?_setCell_far _ _ _ _ (fun e => hn e.symm)]; exact h
theorem lt_alloc {W : World} {b : Nat} {o : Obj} (h : b < W.heap.size) : b < (W.alloc o).heap.size := by simp; omega
theorem seen1 {W w1 : World} {o : Obj} (hb : Below (W.alloc o).heap.size (W.alloc o) w1) : (∀ i, w1.cell? ⟨W.heap.size, i, none⟩ = (W.alloc o).cell? ⟨W.heap.size, i, none⟩) ∧ (∀ i, w1.frozen? ⟨W.heap.size, i, none⟩ = (W.alloc o).frozen? ⟨W.heap.size, i, none⟩) ∧ W.heap.size < w1.heap.size := by
  obtain ⟨a, b, c, _⟩ := seen hb W.heap.size (by simp)
  exact ⟨a, b, c⟩
theorem seen2 {W w1 : World} {o o2 : Obj} (hb : Below ((W.alloc o).alloc o2).heap.size ((W.alloc o).alloc o2) w1) : ((∀ i, w1.cell? ⟨W.heap.size, i, none⟩ = ((W.alloc o).alloc o2).cell? ⟨W.heap.size, i, none⟩) ∧ (∀ i, w1.frozen? ⟨W.heap.size, i, none⟩ = ((W.alloc o).alloc o2).frozen? ⟨W.heap.size, i, none⟩) ∧ W.heap.size < w1.heap.size) ∧ ((∀ i, w1.cell? ⟨W.heap.size + 1, i, none⟩ = ((W.alloc o).alloc o2).cell? ⟨W.heap.size + 1, i, none⟩) ∧ (∀ i, w1.frozen? ⟨W.heap.size + 1, i, none⟩ = ((W.alloc o).alloc o2).frozen? ⟨W.heap.size + 1, i, none⟩) ∧ W.heap.size + 1 < w1.heap.size) := by
  obtain ⟨a, b, c, _⟩ := seen hb W.heap.size (by simp; omega)
  obtain ⟨a', b', c', _⟩ := seen hb (W.heap.size + 1) (by simp)
  exact ⟨⟨a, b, c⟩, a', b', c'⟩
theorem seen1d {W w1 : World} {o : Obj} (hb : Below (W.alloc o).drew.heap.size (W.alloc o).drew w1) : (∀ i, w1.cell? ⟨W.heap.size, i, none⟩ = (W.alloc o).cell? ⟨W.heap.size, i, none⟩) ∧ (∀ i, w1.frozen? ⟨W.heap.size, i, none⟩ = (W.alloc o).frozen? ⟨W.heap.size, i, none⟩) ∧ W.heap.size < w1.heap.size := by
  obtain ⟨a, b, c, _⟩ := seen hb W.heap.size (by simp)
  exact ⟨fun i => (a i).trans (World.cell?_drew _ _), fun i => (b i).trans rfl, c⟩
theorem seen2d {W w1 : World} {o o2 : Obj} (hb : Below ((W.alloc o).alloc o2).drew.heap.size ((W.alloc o).alloc o2).drew w1) : ((∀ i, w1.cell? ⟨W.heap.size, i, none⟩ = ((W.alloc o).alloc o2).cell? ⟨W.heap.size, i, none⟩) ∧ (∀ i, w1.frozen? ⟨W.heap.size, i, none⟩ = ((W.alloc o).alloc o2).frozen? ⟨W.heap.size, i, none⟩) ∧ W.heap.size < w1.heap.size) ∧ ((∀ i, w1.cell? ⟨W.heap.size + 1, i, none⟩ = ((W.alloc o).alloc o2).cell? ⟨W.heap.size + 1, i, none⟩) ∧ (∀ i, w1.frozen? ⟨W.heap.size + 1, i, none⟩ = ((W.alloc o).alloc o2).frozen? ⟨W.heap.size + 1, i, none⟩) ∧ W.heap.size + 1 < w1.heap.size) := by
  obtain ⟨a, b, c, _⟩ := seen hb W.heap.size (by simp; omega)
  obtain ⟨a', b', c', _⟩ := seen hb (W.heap.size + 1) (by simp)
  exact ⟨⟨fun i => (a i).trans (World.cell?_drew _ _), fun i => (b i).trans rfl, c⟩, fun i => (a' i).trans (World.cell?_drew _ _), fun i => (b' i).trans rfl, c'⟩
theorem cell_later {w W : World} {p : Addr} {v : Value} (hb : Below w.heap.size w W) (h : w.cell? p = some v) : W.cell? p = some v := (hb.cell (World.block_lt_of_cell? _ _ h)).trans h
def S19 (pa : Addr) (B : Nat) (st me no ch fr tr : Int) (w : World) : Prop := w.cell? pa = some (.int .i64 2) ∧ w.cell? ⟨pa.block, pa.off + 1, none⟩ = some (.int .i64 st) ∧ w.cell? ⟨pa.block, pa.off + 2, none⟩ = some (.int .i64 me) ∧ w.cell? ⟨pa.block, pa.off + 3, none⟩ = some (.int .i64 no) ∧ w.cell? ⟨pa.block, pa.off + 4, none⟩ = some (.int .i64 ch) ∧ w.cell? ⟨pa.block, pa.off + 5, none⟩ = some (.int .i64 0) ∧ w.cell? ⟨pa.block, pa.off + 6, none⟩ = some (.int .i64 0) ∧ w.cell? ⟨pa.block, pa.off + 7, none⟩ = some (.int .i64 0) ∧ w.cell? ⟨B, 0, none⟩ = some (.int .i64 1) ∧ w.cell? ⟨B, 1, none⟩ = some (.int .i64 me) ∧ w.cell? ⟨B, 2, none⟩ = some (.int .i64 no) ∧ w.cell? ⟨B, 3, none⟩ = some (.int .i64 fr) ∧ w.cell? ⟨B, 4, none⟩ = some (.int .i64 (tr + 1))
theorem S19.alloc {pa : Addr} {B : Nat} {st me no ch fr tr : Int} {w : World} (o : Obj) (h : S19 pa B st me no ch fr tr w) : S19 pa B st me no ch fr tr (w.alloc o) := by
  obtain ⟨h0, h1, h2, h3, h4, h5, h6, h7, h8, h9, h10, h11, h12⟩ := h
  exact ⟨cell_more h0, cell_more h1, cell_more h2, cell_more h3, cell_more h4, cell_more h5, cell_more h6, cell_more h7, cell_more h8, cell_more h9, cell_more h10, cell_more h11, cell_more h12⟩
theorem S19.drew {pa : Addr} {B : Nat} {st me no ch fr tr : Int} {w : World} (h : S19 pa B st me no ch fr tr w) : S19 pa B st me no ch fr tr w.drew := by
  obtain ⟨h0, h1, h2, h3, h4, h5, h6, h7, h8, h9, h10, h11, h12⟩ := h
  exact ⟨(World.cell?_drew _ _).trans h0, (World.cell?_drew _ _).trans h1, (World.cell?_drew _ _).trans h2, (World.cell?_drew _ _).trans h3, (World.cell?_drew _ _).trans h4, (World.cell?_drew _ _).trans h5, (World.cell?_drew _ _).trans h6, (World.cell?_drew _ _).trans h7, (World.cell?_drew _ _).trans h8, (World.cell?_drew _ _).trans h9, (World.cell?_drew _ _).trans h10, (World.cell?_drew _ _).trans h11, (World.cell?_drew _ _).trans h12⟩
theorem S19.call {pa : Addr} {B : Nat} {st me no ch fr tr : Int} {w : World} {w1 : World} (hb : Below w.heap.size w w1) (h : S19 pa B st me no ch fr tr w) : S19 pa B st me no ch fr tr w1 := by
  obtain ⟨h0, h1, h2, h3, h4, h5, h6, h7, h8, h9, h10, h11, h12⟩ := h
  exact ⟨cell_later hb h0, cell_later hb h1, cell_later hb h2, cell_later hb h3, cell_later hb h4, cell_later hb h5, cell_later hb h6, cell_later hb h7, cell_later hb h8, cell_later hb h9, cell_later hb h10, cell_later hb h11, cell_later hb h12⟩
theorem cell_off {w : World} {p : Addr} {c i : Nat} {v x : Value} (h : w.cell? p = some x) (hn : p.block ≠ c) : (w.setCell ⟨c, i, none⟩ v).cell? p = some x := by
  rw [World.cell?_setCell_far _ _ _ _ (fun e => hn e.symm)]; exact h
theorem S19.set {pa : Addr} {B : Nat} {st me no ch fr tr : Int} {w : World} {b i : Nat} {v : Value} (hn : pa.block ≠ b ∧ B ≠ b) (h : S19 pa B st me no ch fr tr w) : S19 pa B st me no ch fr tr (w.setCell ⟨b, i, none⟩ v) := by
  obtain ⟨n4, n5⟩ := hn
  obtain ⟨h0, h1, h2, h3, h4, h5, h6, h7, h8, h9, h10, h11, h12⟩ := h
  exact ⟨cell_off h0 n4, cell_off h1 n4, cell_off h2 n4, cell_off h3 n4, cell_off h4 n4, cell_off h5 n4, cell_off h6 n4, cell_off h7 n4, cell_off h8 n5, cell_off h9 n5, cell_off h10 n5, cell_off h11 n5, cell_off h12 n5⟩
theorem S19.ne {pa : Addr} {B : Nat} {st me no ch fr tr : Int} {w : World} (h : S19 pa B st me no ch fr tr w) : pa.block ≠ w.heap.size ∧ B ≠ w.heap.size := by
  obtain ⟨h0, h1, h2, h3, h4, h5, h6, h7, h8, h9, h10, h11, h12⟩ := h
  exact ⟨Nat.ne_of_lt (World.block_lt_of_cell? _ _ h0), Nat.ne_of_lt (World.block_lt_of_cell? _ _ h8)⟩
theorem S19.ne1 {pa : Addr} {B : Nat} {st me no ch fr tr : Int} {w : World} (h : S19 pa B st me no ch fr tr w) : pa.block ≠ w.heap.size + 1 ∧ B ≠ w.heap.size + 1 := by
  obtain ⟨h0, h1, h2, h3, h4, h5, h6, h7, h8, h9, h10, h11, h12⟩ := h
  have a := World.block_lt_of_cell? _ _ h0
  have b := World.block_lt_of_cell? _ _ h8
  simp at b
  exact ⟨by omega, by omega⟩
/-- A row's first word about a stranger. -/
def FirstOf (ts : List S54) (st : Int) (x : S54) (i0 : Nat) : Prop := i0 < ts.length ∧ rd_T54 ts (i0 : Int) = x ∧ x.f1 = st ∧ ∀ i : Nat, i < i0 → ((rd_T54 ts (i : Int)).f1 != st) = true
set_option maxHeartbeats 40000000 in
theorem dialogue_main (A0 : Option Addr) (c0 : Nat) (l : List S68) (me st bt tr fr no ch : Int) (r r2 : List S68) (ts ps : List S54) (i0 k0 : Nat) (w : World) (hG : Laid w) (hr0 : Kd.C k68 w A0 l.length l) (hc0 : l.length ≤ c0)
    (hv : slotmeshref31_Valid.f 30 l = some true) (ho : slotmeshref31_Of.f 30 l st = some (0, 0, 0, 0, false, 0, false)) (h4 : l.length < 4) (f0 : decide (fr < 0) = false) (f1 : decide (999999988 < fr) = false)
    (hA : ∀ w : World, Calls Tryd.prog 39 #[.agg #[.int .i64 0, .int .i64 (-1), .int .i64 0, .int .i64 0, .int .i64 tr], .int .i64 st, .int .i64 bt, .int .i64 me, .int .i64 fr] w fun e w' => e = .returned (.tuple #[.agg #[.int .i64 1, .int .i64 me, .int .i64 no, .int .i64 fr, .int .i64 (tr + 1)], .agg #[.int .i64 1, .int .i64 st, .int .i64 me, .int .i64 no, .int .i64 0, .int .i64 0, .int .i64 0, .int .i64 0], .int .i64 0]) ∧ Below w.heap.size w w')
    (hno : decide (1000000000 < no) = false) (hh1 : sponsor_Hear.f l me 1 st me no 0 0 0 0 fr = some (r, 0)) (hW : sponsor_Words.f 30 r me = some ts) (hF : FirstOf ts st ⟨2, st, me, no, ch, 0, ⟨0, 0⟩⟩ i0)
    (hJ : ∀ w : World, Calls Tryd.prog 40 #[.agg #[.int .i64 1, .int .i64 me, .int .i64 no, .int .i64 fr, .int .i64 (tr + 1)], .int .i64 st, .agg #[.int .i64 2, .int .i64 st, .int .i64 me, .int .i64 no, .int .i64 ch, .int .i64 0, .int .i64 0, .int .i64 0], .int .i64 fr] w fun e w' => e = .returned (.tuple #[.agg #[.int .i64 2, .int .i64 me, .int .i64 no, .int .i64 fr, .int .i64 (tr + 1)], .agg #[.int .i64 3, .int .i64 st, .int .i64 me, .int .i64 no, .int .i64 ch, .int .i64 (1000000 + st), .int .i64 0, .int .i64 0], .bool true]) ∧ Below w.heap.size w w')
    (hh2 : sponsor_Hear.f r me 3 st me no ch (1000000 + st) 0 0 fr = some (r2, 0)) (hP : sponsor_Proofs.f 30 r2 me = some ps) (hK : FirstOf ps st ⟨3, st, me, no, ch, 1000000 + st, ⟨0, 0⟩⟩ k0)
    (hU : ∀ w : World, Calls Tryd.prog 41 #[.agg #[.int .i64 3, .int .i64 st, .int .i64 me, .int .i64 no, .int .i64 ch, .int .i64 (1000000 + st), .int .i64 0, .int .i64 0], .agg #[.int .i64 3, .int .i64 5]] w fun e w' => e = .returned (.tuple #[.agg #[.int .i64 4, .int .i64 st, .int .i64 me, .int .i64 no, .int .i64 0, .int .i64 (1000000 + st), .int .i64 3, .int .i64 5], .int .i64 0]) ∧ Below w.heap.size w w') (tb : 0 ≤ tr ∧ tr ≤ 255) (hts : ts.length ≤ 5) (hps : ps.length ≤ 5) :
    Calls Tryd.prog 11 #[.slice A0 l.length c0, .int .i64 me, .int .i64 st, .int .i64 bt, .int .i64 tr, .int .i64 fr] w fun e w' => e = .returned (.bool true) ∧ Below w.heap.size w w' := by
  have HG := Aside0.mk hG
  have HV := Aside0.mk hv
  have HO := Aside0.mk ho
  have HA := Aside0.mk hA
  have H1 := Aside0.mk hh1
  have HW := Aside0.mk hW
  have HF := Aside0.mk hF
  have HJ := Aside0.mk hJ
  have H2 := Aside0.mk hh2
  have HP := Aside0.mk hP
  have HK := Aside0.mk hK
  have HU := Aside0.mk hU
  have HR := Aside0.mk hr0
  have HC := Aside0.mk hc0
  have d1 : decide ((4 : Int) ≤ (l.length : Int)) = false := decide_eq_false (by omega)
  have d2 : decide (4 ≤ l.length) = false := decide_eq_false (by omega)
  clear hG hv ho hA hh1 hW hF hJ hh2 hP hK hU hr0 hc0
  have T1 : Aside0 True := ⟨trivial⟩
  have hu54 := Tryd.underlying54
  have hu68 := Tryd.underlying68
  go_enter Tryd.func11, Tryd.ntmps11
  go_wp2_with (first
    | (go_at_call 25; refine (slotmeshlaw31_head.calls true _ (HG.out.later (by repeat (first | with_reducible (first | exact Below.refl _ _ | assumption | refine ra_drewN ?_ _ | refine ra_drew ?_ | refine ra_alloc ?_ _) | with_reducible refine ra_set ?_ _ (by (first | omega | (simp; omega)))))) rfl).mono ?_; rintro e w1 ⟨rfl, hb⟩; have hb1 := ra_step (w := w) (by repeat (first | with_reducible (first | exact Below.refl _ _ | assumption | refine ra_drewN ?_ _ | refine ra_drew ?_ | refine ra_alloc ?_ _) | with_reducible refine ra_set ?_ _ (by (first | omega | (simp; omega))))) hb; clear hb)
    | (go_at_call 29; refine (slotmeshref31_Valid.calls 30 _ _ l true _ (Kd.C_below HR.out (by repeat (first | with_reducible (first | exact Below.refl _ _ | assumption | refine ra_drewN ?_ _ | refine ra_drew ?_ | refine ra_alloc ?_ _) | with_reducible refine ra_set ?_ _ (by (first | omega | (simp; omega)))))) HC.out HV.out).mono ?_; rintro e w2 ⟨rfl, hb⟩; replace hb1 := ra_step (w := w) (by repeat (first | with_reducible (first | exact Below.refl _ _ | assumption | refine ra_drewN ?_ _ | refine ra_drew ?_ | refine ra_alloc ?_ _) | with_reducible refine ra_set ?_ _ (by (first | omega | (simp; omega))))) hb; clear hb)
    | (go_at_call 38; refine (slotmeshref31_Of.calls 30 _ _ l st 0 0 0 0 false 0 false _ (Kd.C_below HR.out (by repeat (first | with_reducible (first | exact Below.refl _ _ | assumption | refine ra_drewN ?_ _ | refine ra_drew ?_ | refine ra_alloc ?_ _) | with_reducible refine ra_set ?_ _ (by (first | omega | (simp; omega)))))) HC.out HO.out).mono ?_; rintro e w3 ⟨rfl, hb⟩; replace hb1 := ra_step (w := w) (by repeat (first | with_reducible (first | exact Below.refl _ _ | assumption | refine ra_drewN ?_ _ | refine ra_drew ?_ | refine ra_alloc ?_ _) | with_reducible refine ra_set ?_ _ (by (first | omega | (simp; omega))))) hb; clear hb)
    | (go_at_call 39; refine (HA.out _).mono ?_; rintro e w4 ⟨rfl, hb⟩; replace hb1 := ra_step (w := w) (by repeat (first | with_reducible (first | exact Below.refl _ _ | assumption | refine ra_drewN ?_ _ | refine ra_drew ?_ | refine ra_alloc ?_ _) | with_reducible refine ra_set ?_ _ (by (first | omega | (simp; omega))))) hb; clear hb)
    | (go_at_call 26; clear T1; refine (sponsor_Hear.calls _ _ l me 1 st me no 0 0 0 0 fr r 0 _ (HG.out.later (by repeat (first | with_reducible (first | exact Below.refl _ _ | assumption | refine ra_drewN ?_ _ | refine ra_drew ?_ | refine ra_alloc ?_ _) | with_reducible refine ra_set ?_ _ (by (first | omega | (simp; omega)))))) (Kd.C_below HR.out (by repeat (first | with_reducible (first | exact Below.refl _ _ | assumption | refine ra_drewN ?_ _ | refine ra_drew ?_ | refine ra_alloc ?_ _) | with_reducible refine ra_set ?_ _ (by (first | omega | (simp; omega)))))) HC.out H1.out).mono ?_; rintro e w5 hh; obtain ⟨A5, n5, rfl, hn5, hC5, hb⟩ := hear_rowD hh; clear hh; replace hb1 := ra_step (w := w) (by repeat (first | with_reducible (first | exact Below.refl _ _ | assumption | refine ra_drewN ?_ _ | refine ra_drew ?_ | refine ra_alloc ?_ _) | with_reducible refine ra_set ?_ _ (by (first | omega | (simp; omega))))) hb; have hs5 : w4.heap.size + 2 ≤ w5.heap.size := (by have := hb.size; simpa using this); have hx5 := fun o => hb.cell (p := ⟨w4.heap.size, o, none⟩) (by simp; omega); have hy5 := fun o => hb.cell (p := ⟨w4.heap.size + 1, o, none⟩) (by simp); have p0 : w5.cell? ⟨w4.heap.size, 0, none⟩ = some (.int .i64 1) := (hx5 0).trans (by simp [go_sem]); have p1 : w5.cell? ⟨w4.heap.size, 1, none⟩ = some (.int .i64 me) := (hx5 1).trans (by simp [go_sem]); have p2 : w5.cell? ⟨w4.heap.size, 2, none⟩ = some (.int .i64 no) := (hx5 2).trans (by simp [go_sem]); have p3 : w5.cell? ⟨w4.heap.size, 3, none⟩ = some (.int .i64 fr) := (hx5 3).trans (by simp [go_sem]); have p4 : w5.cell? ⟨w4.heap.size, 4, none⟩ = some (.int .i64 (tr + 1)) := (hx5 4).trans (by simp [go_sem]); have q0 : w5.cell? ⟨w4.heap.size + 1, 0, none⟩ = some (.int .i64 1) := (hy5 0).trans (by simp [go_sem]); have q1 : w5.cell? ⟨w4.heap.size + 1, 1, none⟩ = some (.int .i64 st) := (hy5 1).trans (by simp [go_sem]); have q2 : w5.cell? ⟨w4.heap.size + 1, 2, none⟩ = some (.int .i64 me) := (hy5 2).trans (by simp [go_sem]); have q3 : w5.cell? ⟨w4.heap.size + 1, 3, none⟩ = some (.int .i64 no) := (hy5 3).trans (by simp [go_sem]); have q4 : w5.cell? ⟨w4.heap.size + 1, 4, none⟩ = some (.int .i64 0) := (hy5 4).trans (by simp [go_sem]); have q5 : w5.cell? ⟨w4.heap.size + 1, 5, none⟩ = some (.int .i64 0) := (hy5 5).trans (by simp [go_sem]); have q6 : w5.cell? ⟨w4.heap.size + 1, 6, none⟩ = some (.int .i64 0) := (hy5 6).trans (by simp [go_sem]); have q7 : w5.cell? ⟨w4.heap.size + 1, 7, none⟩ = some (.int .i64 0) := (hy5 7).trans (by simp [go_sem]); have HC5 := Aside0.mk hC5; have HN5 := Aside0.mk hn5; have hb5 := Below.refl w5.heap.size w5; clear hb hC5 hn5 hx5 hy5)
    | (go_at_call 34; refine (sponsor_Words.calls 30 _ _ r me ts _ (Kd.C_below HC5.out (by repeat (first | with_reducible (first | exact Below.refl _ _ | assumption | refine ra_drewN ?_ _ | refine ra_drew ?_ | refine ra_alloc ?_ _) | with_reducible refine ra_set ?_ _ (by (first | omega | (simp; omega)))))) HN5.out HW.out).mono ?_; rintro e w6 hh; obtain ⟨A6, n6, rfl, hn6, hC6, hb⟩ := row_readD hh; clear hh; replace hb1 := ra_step (w := w) (by repeat (first | with_reducible (first | exact Below.refl _ _ | assumption | refine ra_drewN ?_ _ | refine ra_drew ?_ | refine ra_alloc ?_ _) | with_reducible refine ra_set ?_ _ (by (first | omega | (simp; omega))))) hb; replace hb5 := ra_step (w := w5) (by repeat (first | with_reducible (first | exact Below.refl _ _ | assumption | refine ra_drewN ?_ _ | refine ra_drew ?_ | refine ra_alloc ?_ _) | with_reducible refine ra_set ?_ _ (by (first | omega | (simp; omega))))) hb; have hx6 := fun o => hb.cell (p := ⟨w4.heap.size, o, none⟩) (by simp; omega); have hy6 := fun o => hb.cell (p := ⟨w4.heap.size + 1, o, none⟩) (by simp; omega); have HC6 := Aside0.mk hC6; have HN6 := Aside0.mk hn6; have hs6 : w4.heap.size + 2 ≤ w6.heap.size := (by have := hb.size; omega); have hb6 := Below.refl w6.heap.size w6; clear hb hC6 hn6))
  go_loopg [23] i0 (fun g v23 wr => ∃ i : Nat, Aside0 (g + i = i0) ∧ v23 = .int .i64 (i : Nat) ∧ Aside0 (Below w.heap.size w wr) ∧ Aside0 (Below w5.heap.size w5 wr) ∧ Aside0 (Below w6.heap.size w6 wr))
  case atStart => exact ⟨0, ⟨rfl⟩, rfl, ⟨hb1⟩, ⟨hb5⟩, ⟨hb6⟩⟩
  case round =>
    obtain ⟨i, HI, rfl, B1, B5, B6⟩ := hrel
    clear hb1 hb5 hb6
    obtain ⟨g1, g2, g3, g4⟩ := HF.out
    have gi : i < ts.length := by have := HI.out; omega
    obtain ⟨ad, ea, y0, y1, y2, y3, y4, y5, y6, y7⟩ := at_T54 (Kd.C_below HC6.out B6.out) (i : Int) (by omega) (by omega)
    subst ea
    simp only [Int.toNat_natCast] at y0 y1 y2 y3 y4 y5 y6 y7
    cases gk with
    | succ k =>
      have hne := g4 i (by have := HI.out; omega)
      clear g4 g3 g2
      go_wp2
      go_roundg k
      case measure => omega
      case rel => exact ⟨i + 1, ⟨by have := HI.out; omega⟩, by go_num, ⟨(by repeat (first | with_reducible (first | exact Below.refl _ _ | exact B1.out | refine ra_drewN ?_ _ | refine ra_drew ?_ | refine ra_alloc ?_ _) | with_reducible refine ra_set ?_ _ (by (first | omega | (simp; omega)))))⟩, ⟨(by repeat (first | with_reducible (first | exact Below.refl _ _ | exact B5.out | refine ra_drewN ?_ _ | refine ra_drew ?_ | refine ra_alloc ?_ _) | with_reducible refine ra_set ?_ _ (by (first | omega | (simp; omega)))))⟩, ⟨(by repeat (first | with_reducible (first | exact Below.refl _ _ | exact B6.out | refine ra_drewN ?_ _ | refine ra_drew ?_ | refine ra_alloc ?_ _) | with_reducible refine ra_set ?_ _ (by (first | omega | (simp; omega)))))⟩⟩
    | zero =>
      have hii : i = i0 := by have := HI.out; omega
      subst hii
      rw [g2] at y0 y1 y2 y3 y4 y5 y6 y7
      dsimp only at y0 y1 y2 y3 y4 y5 y6 y7
      clear g1 g2 g3 g4
      have p0' := (B5.out.cell (p := ⟨w4.heap.size, 0, none⟩) (by simp; omega)).trans p0
      have p1' := (B5.out.cell (p := ⟨w4.heap.size, 1, none⟩) (by simp; omega)).trans p1
      have p2' := (B5.out.cell (p := ⟨w4.heap.size, 2, none⟩) (by simp; omega)).trans p2
      have p3' := (B5.out.cell (p := ⟨w4.heap.size, 3, none⟩) (by simp; omega)).trans p3
      have p4' := (B5.out.cell (p := ⟨w4.heap.size, 4, none⟩) (by simp; omega)).trans p4
      have qq0 : S19 (ad.add (i * 8)) w4.heap.size st me no ch fr tr wr := ⟨y0, y1, y2, y3, y4, y5, y6, y7, p0', p1', p2', p3', p4'⟩
      have n0 := qq0.ne
      have m0 := qq0.ne1
      have hB1s : w.heap.size ≤ wr.heap.size := B1.out.size
      have hB5s : w5.heap.size ≤ wr.heap.size := B5.out.size
      go_upto_region 19 with (fail)
      go_cut [25, 26] (fun v25 v26 wc => ∃ g : Nat, v25 = .pointer (some ⟨g, 0, none⟩) ∧ v26 = .bool true ∧ (wc.cell? ⟨g, 0, none⟩ = some (.int .i64 3) ∧ wc.cell? ⟨g, 1, none⟩ = some (.int .i64 st) ∧ wc.cell? ⟨g, 2, none⟩ = some (.int .i64 me) ∧ wc.cell? ⟨g, 3, none⟩ = some (.int .i64 no) ∧ wc.cell? ⟨g, 4, none⟩ = some (.int .i64 ch) ∧ wc.cell? ⟨g, 5, none⟩ = some (.int .i64 (1000000 + st)) ∧ wc.cell? ⟨g, 6, none⟩ = some (.int .i64 0) ∧ wc.cell? ⟨g, 7, none⟩ = some (.int .i64 0)) ∧ g < wc.heap.size ∧ Aside0 (Below w.heap.size w wc) ∧ Aside0 (Below w5.heap.size w5 wc))
      case first =>
        go_region_held3 (fun w' => w'.cell? (ad.add (i * 8)) = some (.int .i64 2) ∧ w'.cell? ⟨(ad.add (i * 8)).block, (ad.add (i * 8)).off + 1, none⟩ = some (.int .i64 st) ∧ w'.cell? ⟨(ad.add (i * 8)).block, (ad.add (i * 8)).off + 2, none⟩ = some (.int .i64 me) ∧ w'.cell? ⟨(ad.add (i * 8)).block, (ad.add (i * 8)).off + 3, none⟩ = some (.int .i64 no) ∧ w'.cell? ⟨(ad.add (i * 8)).block, (ad.add (i * 8)).off + 4, none⟩ = some (.int .i64 ch) ∧ w'.cell? ⟨(ad.add (i * 8)).block, (ad.add (i * 8)).off + 5, none⟩ = some (.int .i64 0) ∧ w'.cell? ⟨(ad.add (i * 8)).block, (ad.add (i * 8)).off + 6, none⟩ = some (.int .i64 0) ∧ w'.cell? ⟨(ad.add (i * 8)).block, (ad.add (i * 8)).off + 7, none⟩ = some (.int .i64 0) ∧ w'.cell? ⟨w4.heap.size, 0, none⟩ = some (.int .i64 1) ∧ w'.cell? ⟨w4.heap.size, 1, none⟩ = some (.int .i64 me) ∧ w'.cell? ⟨w4.heap.size, 2, none⟩ = some (.int .i64 no) ∧ w'.cell? ⟨w4.heap.size, 3, none⟩ = some (.int .i64 fr) ∧ w'.cell? ⟨w4.heap.size, 4, none⟩ = some (.int .i64 (tr + 1))) ((show S19 (ad.add (i * 8)) w4.heap.size st me no ch fr tr _; repeat' (first | (with_reducible assumption) | (with_reducible refine S19.alloc _ ?_) | (with_reducible refine S19.drew ?_) | (with_reducible refine S19.set ?_ ?_) | assumption))) (first | (go_at_call 40; refine (HJ.out _).mono ?_; rintro e w7 ⟨rfl, hb⟩; have hb7 := hb; (try (first | ((with_reducible have hx_ := seen2d hb); obtain ⟨⟨sc60, sf60, sz60⟩, ⟨sc61, sf61, sz61⟩⟩ := hx_) | ((with_reducible have hx_ := seen1d hb); obtain ⟨sc60, sf60, sz60⟩ := hx_) | ((with_reducible have hx_ := seen2 hb); obtain ⟨⟨sc60, sf60, sz60⟩, ⟨sc61, sf61, sz61⟩⟩ := hx_) | ((with_reducible have hx_ := seen1 hb); obtain ⟨sc60, sf60, sz60⟩ := hx_))); have qq7 : S19 (ad.add (i * 8)) w4.heap.size st me no ch fr tr _ := S19.call hb (by assumption); have n7 := qq7.ne; have m7 := qq7.ne1))
        all_goals
          have hb7s := hb7.size
          simp at hb7s
          try go_wp2_with (fail)
          go_meet
          case rel =>
            refine ⟨_, rfl, rfl, ⟨?_, ?_, ?_, ?_, ?_, ?_, ?_, ?_⟩, ?_, ⟨?_⟩, ⟨?_⟩⟩
            rotate_right
            · repeat (first | (with_reducible exact B5.out) | (with_reducible refine ra_drewN ?_ _) | (with_reducible refine ra_drew ?_) | (with_reducible refine ra_alloc ?_ _) | (with_reducible refine ra_set ?_ _ (by first | (simp; done) | (simp; omega) | omega)) | (with_reducible refine ra_step ?_ hb7))
            rotate_right
            · repeat (first | (with_reducible exact B1.out) | (with_reducible refine ra_drewN ?_ _) | (with_reducible refine ra_drew ?_) | (with_reducible refine ra_alloc ?_ _) | (with_reducible refine ra_set ?_ _ (by first | (simp; done) | (simp; omega) | omega)) | (with_reducible refine ra_step ?_ hb7))
            all_goals clear HG HV HO HA H1 HW HF HJ H2 HP HK HU HR HC HC5 HN5 HC6 HN6 y0 y1 y2 y3 y4 y5 y6 y7 p0 p1 p2 p3 p4 q0 q1 q2 q3 q4 q5 q6 q7
            any_goals (first | (simp [go_sem]; done) | (simp [go_sem, *]; done))
            all_goals (simp; omega)
      case rest =>
        obtain ⟨gb, rfl, rfl, ⟨e0, e1, e2, e3, e4, e5, e6, e7⟩, hgz, B1c, B5c⟩ := hcut
        clear y0 y1 y2 y3 y4 y5 y6 y7 p0 p1 p2 p3 p4 p0' p1' p2' p3' p4' qq0 n0 m0 hB1s hB5s B1 B5 B6
        go_wp2_with (first
          | (go_at_call 26; refine (sponsor_Hear.calls _ _ r me 3 st me no ch (1000000 + st) 0 0 fr r2 0 _ (HG.out.later (by repeat (first | with_reducible (first | exact Below.refl _ _ | exact B1c.out | refine ra_drewN ?_ _ | refine ra_drew ?_ | refine ra_alloc ?_ _) | with_reducible refine ra_set ?_ _ (by (first | omega | (simp; omega)))))) (Kd.C_below HC5.out (by repeat (first | with_reducible (first | exact Below.refl _ _ | exact B5c.out | refine ra_drewN ?_ _ | refine ra_drew ?_ | refine ra_alloc ?_ _) | with_reducible refine ra_set ?_ _ (by (first | omega | (simp; omega)))))) HN5.out H2.out).mono ?_; rintro e w8 hh; obtain ⟨A8, n8, rfl, hn8, hC8, hb⟩ := hear_rowD hh; clear hh; have hb1 := ra_step (w := w) (by repeat (first | with_reducible (first | exact Below.refl _ _ | exact B1c.out | refine ra_drewN ?_ _ | refine ra_drew ?_ | refine ra_alloc ?_ _) | with_reducible refine ra_set ?_ _ (by (first | omega | (simp; omega))))) hb; have hb5 := ra_step (w := w5) (by repeat (first | with_reducible (first | exact Below.refl _ _ | exact B5c.out | refine ra_drewN ?_ _ | refine ra_drew ?_ | refine ra_alloc ?_ _) | with_reducible refine ra_set ?_ _ (by (first | omega | (simp; omega))))) hb; have HC8 := Aside0.mk hC8; have HN8 := Aside0.mk hn8; clear hb hC8 hn8)
          | (go_at_call 36; refine (sponsor_Proofs.calls 30 _ _ r2 me ps _ HC8.out HN8.out HP.out).mono ?_; rintro e w9 hh; obtain ⟨A9, n9, rfl, hn9, hC9, hb⟩ := row_readD hh; clear hh; replace hb1 := ra_step (w := w) (by repeat (first | with_reducible (first | exact Below.refl _ _ | assumption | refine ra_drewN ?_ _ | refine ra_drew ?_ | refine ra_alloc ?_ _) | with_reducible refine ra_set ?_ _ (by (first | omega | (simp; omega))))) hb; replace hb5 := ra_step (w := w5) (by repeat (first | with_reducible (first | exact Below.refl _ _ | assumption | refine ra_drewN ?_ _ | refine ra_drew ?_ | refine ra_alloc ?_ _) | with_reducible refine ra_set ?_ _ (by (first | omega | (simp; omega))))) hb; have HC9 := Aside0.mk hC9; have HN9 := Aside0.mk hn9; have hb9 := Below.refl w9.heap.size w9; clear hb hC9 hn9))
        go_loopg [30] k0 (fun g v30 wr => ∃ i : Nat, Aside0 (g + i = k0) ∧ v30 = .int .i64 (i : Nat) ∧ Aside0 (Below w.heap.size w wr) ∧ Aside0 (Below w5.heap.size w5 wr) ∧ Aside0 (Below w9.heap.size w9 wr))
        case atStart => exact ⟨0, ⟨rfl⟩, rfl, ⟨hb1⟩, ⟨hb5⟩, ⟨hb9⟩⟩
        case round =>
          obtain ⟨i2, HI2, rfl, B1, B5, B9⟩ := hrel
          clear hb1 hb5 hb9 e0 e1 e2 e3 e4 e5 e6 e7
          obtain ⟨g1, g2, g3, g4⟩ := HK.out
          have gi2 : i2 < ps.length := by have := HI2.out; omega
          obtain ⟨ad9, ea9, y0, y1, y2, y3, y4, y5, y6, y7⟩ := at_T54 (Kd.C_below HC9.out B9.out) (i2 : Int) (by omega) (by omega)
          subst ea9
          simp only [Int.toNat_natCast] at y0 y1 y2 y3 y4 y5 y6 y7
          cases gk with
          | succ k =>
            have hne := g4 i2 (by have := HI2.out; omega)
            have hne2 : ((rd_T54 ps (i2 : Int)).f1 == st) = false := by simpa using hne
            clear g4 g3 g2
            go_wp2
            go_roundg k
            case measure => omega
            case rel => exact ⟨i2 + 1, ⟨by have := HI2.out; omega⟩, by go_num, ⟨(by repeat (first | with_reducible (first | exact Below.refl _ _ | exact B1.out | refine ra_drewN ?_ _ | refine ra_drew ?_ | refine ra_alloc ?_ _) | with_reducible refine ra_set ?_ _ (by (first | omega | (simp; omega)))))⟩, ⟨(by repeat (first | with_reducible (first | exact Below.refl _ _ | exact B5.out | refine ra_drewN ?_ _ | refine ra_drew ?_ | refine ra_alloc ?_ _) | with_reducible refine ra_set ?_ _ (by (first | omega | (simp; omega)))))⟩, ⟨(by repeat (first | with_reducible (first | exact Below.refl _ _ | exact B9.out | refine ra_drewN ?_ _ | refine ra_drew ?_ | refine ra_alloc ?_ _) | with_reducible refine ra_set ?_ _ (by (first | omega | (simp; omega)))))⟩⟩
          | zero =>
            have hii : i2 = k0 := by have := HI2.out; omega
            subst hii
            rw [g2] at y0 y1 y2 y3 y4 y5 y6 y7
            dsimp only at y0 y1 y2 y3 y4 y5 y6 y7
            clear g1 g2 g3 g4
            have q3' := (B5.out.cell (p := ⟨w4.heap.size + 1, 3, none⟩) (by simp; omega)).trans q3
            have q3lt := World.block_lt_of_cell? _ _ q3'
            clear q0 q1 q2 q3 q4 q5 q6 q7
            go_wp2_with (first
              | (go_at_call 41; refine (HU.out _).mono ?_; rintro e w10 ⟨rfl, hb⟩; have hb1 := ra_step (w := w) (by repeat (first | with_reducible (first | exact Below.refl _ _ | exact B1.out | refine ra_drewN ?_ _ | refine ra_drew ?_ | refine ra_alloc ?_ _) | with_reducible refine ra_set ?_ _ (by (first | omega | (simp; omega))))) hb; have q3b := cell_later hb q3'; have q3c := fun o => Lib.cell?_alloc_some (W := w10) o q3b; clear hb))
            go_ret
            exact ⟨rfl, (by repeat (first | with_reducible (first | exact Below.refl _ _ | assumption | refine ra_drewN ?_ _ | refine ra_drew ?_ | refine ra_alloc ?_ _) | with_reducible refine ra_set ?_ _ (by (first | omega | (simp; omega)))))⟩
theorem find_first : ∀ (ts : List S54) (st : Int) (x : S54), x ∈ ts → x.f1 = st → (∀ y ∈ ts, y.f1 = st → y = x) → ∃ i0, FirstOf ts st x i0
  | [], _, _, h, _, _ => absurd h (by simp)
  | y :: r, st, x, h, e, hu => by
    by_cases hy : y.f1 = st
    · have := hu y (by simp) hy
      subst this
      exact ⟨0, by simp, by simp [rd_T54], hy, fun i hi => absurd hi (by omega)⟩
    · have hx : x ∈ r := by
        rcases List.mem_cons.1 h with rfl | h
        · exact absurd e hy
        · exact h
      obtain ⟨i, h1, h2, h3, h4⟩ := find_first r st x hx e (fun z hz => hu z (List.mem_cons_of_mem _ hz))
      have sh : ∀ m : Nat, rd_T54 (y :: r) ((m + 1 : Nat) : Int) = rd_T54 r (m : Int) := fun m => by simp [rd_T54, List.getD]
      refine ⟨i + 1, by simpa using h1, by rw [sh]; exact h2, h3, fun m hm => ?_⟩
      cases m with
      | zero => simp [rd_T54]; exact hy
      | succ m => rw [sh]; exact h4 m (by omega)
set_option maxHeartbeats 4000000 in
theorem dialogue_up (A0 : Option Addr) (c0 : Nat) (l : List S68) (me st bt tr fr : Int) (v t5 t7 : Bool) (t1 t2 t3 t4 t6 : Int) (w : World) (hG : Laid w) (hr0 : Kd.C k68 w A0 l.length l) (hc0 : l.length ≤ c0) (kv ko : Nat)
    (hv : slotmeshref31_Valid.f kv l = some v) (ho : slotmeshref31_Of.f ko l st = some (t1, t2, t3, t4, t5, t6, t7))
    (hx : v = false ∨ (v = true ∧ decide ((4 : Int) ≤ (l.length : Int)) = true ∧ decide (4 ≤ l.length) = true) ∨ (v = true ∧ decide ((4 : Int) ≤ (l.length : Int)) = false ∧ decide (4 ≤ l.length) = false ∧ t7 = true) ∨ (v = true ∧ decide ((4 : Int) ≤ (l.length : Int)) = false ∧ decide (4 ≤ l.length) = false ∧ t7 = false ∧ decide (fr < 0) = true) ∨ (v = true ∧ decide ((4 : Int) ≤ (l.length : Int)) = false ∧ decide (4 ≤ l.length) = false ∧ t7 = false ∧ decide (fr < 0) = false ∧ decide (999999988 < fr) = true)) :
    Calls Tryd.prog 11 #[.slice A0 l.length c0, .int .i64 me, .int .i64 st, .int .i64 bt, .int .i64 tr, .int .i64 fr] w fun e w' => e = .returned (.bool true) ∧ Below w.heap.size w w' := by
  have HG := Aside0.mk hG
  have HV := Aside0.mk hv
  have HO := Aside0.mk ho
  have HR := Aside0.mk hr0
  have HC := Aside0.mk hc0
  clear hG hv ho hr0 hc0
  have hu68 := Tryd.underlying68
  rcases hx with rfl | ⟨rfl, d1, d2⟩ | ⟨rfl, d1, d2, rfl⟩ | ⟨rfl, d1, d2, rfl, f0⟩ | ⟨rfl, d1, d2, rfl, f0, f1⟩
  all_goals
    go_enter Tryd.func11, Tryd.ntmps11
    go_wp2_with (first
      | (go_at_call 25; refine (slotmeshlaw31_head.calls true _ (HG.out.later (by repeat (first | with_reducible (first | exact Below.refl _ _ | assumption | refine ra_drewN ?_ _ | refine ra_drew ?_ | refine ra_alloc ?_ _) | with_reducible refine ra_set ?_ _ (by (first | omega | (simp; omega)))))) rfl).mono ?_; rintro e w1 ⟨rfl, hb⟩; have hb1 := ra_step (w := w) (by repeat (first | with_reducible (first | exact Below.refl _ _ | assumption | refine ra_drewN ?_ _ | refine ra_drew ?_ | refine ra_alloc ?_ _) | with_reducible refine ra_set ?_ _ (by (first | omega | (simp; omega))))) hb; clear hb)
      | (go_at_call 29; refine (slotmeshref31_Valid.calls kv _ _ l _ _ (Kd.C_below HR.out (by repeat (first | with_reducible (first | exact Below.refl _ _ | assumption | refine ra_drewN ?_ _ | refine ra_drew ?_ | refine ra_alloc ?_ _) | with_reducible refine ra_set ?_ _ (by (first | omega | (simp; omega)))))) HC.out HV.out).mono ?_; rintro e w2 ⟨rfl, hb⟩; replace hb1 := ra_step (w := w) (by repeat (first | with_reducible (first | exact Below.refl _ _ | assumption | refine ra_drewN ?_ _ | refine ra_drew ?_ | refine ra_alloc ?_ _) | with_reducible refine ra_set ?_ _ (by (first | omega | (simp; omega))))) hb; clear hb)
      | (go_at_call 38; refine (slotmeshref31_Of.calls ko _ _ l st _ _ _ _ _ _ _ _ (Kd.C_below HR.out (by repeat (first | with_reducible (first | exact Below.refl _ _ | assumption | refine ra_drewN ?_ _ | refine ra_drew ?_ | refine ra_alloc ?_ _) | with_reducible refine ra_set ?_ _ (by (first | omega | (simp; omega)))))) HC.out HO.out).mono ?_; rintro e w3 ⟨rfl, hb⟩; replace hb1 := ra_step (w := w) (by repeat (first | with_reducible (first | exact Below.refl _ _ | assumption | refine ra_drewN ?_ _ | refine ra_drew ?_ | refine ra_alloc ?_ _) | with_reducible refine ra_set ?_ _ (by (first | omega | (simp; omega))))) hb; clear hb))
    go_ret
    exact ⟨rfl, (by repeat (first | with_reducible (first | exact Below.refl _ _ | assumption | refine ra_drewN ?_ _ | refine ra_drew ?_ | refine ra_alloc ?_ _) | with_reducible refine ra_set ?_ _ (by (first | omega | (simp; omega)))))⟩
set_option maxHeartbeats 4000000 in
theorem dialogue_noask (A0 : Option Addr) (c0 : Nat) (l : List S68) (me st bt tr fr E : Int) (w : World) (hG : Laid w) (hr0 : Kd.C k68 w A0 l.length l) (hc0 : l.length ≤ c0)
    (hv : slotmeshref31_Valid.f 30 l = some true) (ho : slotmeshref31_Of.f 30 l st = some (0, 0, 0, 0, false, 0, false)) (h4 : l.length < 4) (f0 : decide (fr < 0) = false) (f1 : decide (999999988 < fr) = false)
    (hA : ∀ w : World, Calls Tryd.prog 39 #[.agg #[.int .i64 0, .int .i64 (-1), .int .i64 0, .int .i64 0, .int .i64 tr], .int .i64 st, .int .i64 bt, .int .i64 me, .int .i64 fr] w fun e w' => e = .returned (.tuple #[.agg #[.int .i64 0, .int .i64 0, .int .i64 0, .int .i64 0, .int .i64 0], .agg #[.int .i64 0, .int .i64 0, .int .i64 0, .int .i64 0, .int .i64 0, .int .i64 0, .int .i64 0, .int .i64 0], .int .i64 E]) ∧ Below w.heap.size w w')
    (hE : (E != 0) = true) :
    Calls Tryd.prog 11 #[.slice A0 l.length c0, .int .i64 me, .int .i64 st, .int .i64 bt, .int .i64 tr, .int .i64 fr] w fun e w' => e = .returned (.bool true) ∧ Below w.heap.size w w' := by
  have HG := Aside0.mk hG
  have HV := Aside0.mk hv
  have HO := Aside0.mk ho
  have HA := Aside0.mk hA
  have HR := Aside0.mk hr0
  have HC := Aside0.mk hc0
  have d1 : decide ((4 : Int) ≤ (l.length : Int)) = false := decide_eq_false (by omega)
  have d2 : decide (4 ≤ l.length) = false := decide_eq_false (by omega)
  clear hG hv ho hA hr0 hc0
  have hu68 := Tryd.underlying68
  have hE2 : (E == 0) = false := by simpa using hE
  go_enter Tryd.func11, Tryd.ntmps11
  go_wp2_with (first
    | (go_at_call 25; refine (slotmeshlaw31_head.calls true _ (HG.out.later (by repeat (first | with_reducible (first | exact Below.refl _ _ | assumption | refine ra_drewN ?_ _ | refine ra_drew ?_ | refine ra_alloc ?_ _) | with_reducible refine ra_set ?_ _ (by (first | omega | (simp; omega)))))) rfl).mono ?_; rintro e w1 ⟨rfl, hb⟩; have hb1 := ra_step (w := w) (by repeat (first | with_reducible (first | exact Below.refl _ _ | assumption | refine ra_drewN ?_ _ | refine ra_drew ?_ | refine ra_alloc ?_ _) | with_reducible refine ra_set ?_ _ (by (first | omega | (simp; omega))))) hb; clear hb)
    | (go_at_call 29; refine (slotmeshref31_Valid.calls 30 _ _ l true _ (Kd.C_below HR.out (by repeat (first | with_reducible (first | exact Below.refl _ _ | assumption | refine ra_drewN ?_ _ | refine ra_drew ?_ | refine ra_alloc ?_ _) | with_reducible refine ra_set ?_ _ (by (first | omega | (simp; omega)))))) HC.out HV.out).mono ?_; rintro e w2 ⟨rfl, hb⟩; replace hb1 := ra_step (w := w) (by repeat (first | with_reducible (first | exact Below.refl _ _ | assumption | refine ra_drewN ?_ _ | refine ra_drew ?_ | refine ra_alloc ?_ _) | with_reducible refine ra_set ?_ _ (by (first | omega | (simp; omega))))) hb; clear hb)
    | (go_at_call 38; refine (slotmeshref31_Of.calls 30 _ _ l st 0 0 0 0 false 0 false _ (Kd.C_below HR.out (by repeat (first | with_reducible (first | exact Below.refl _ _ | assumption | refine ra_drewN ?_ _ | refine ra_drew ?_ | refine ra_alloc ?_ _) | with_reducible refine ra_set ?_ _ (by (first | omega | (simp; omega)))))) HC.out HO.out).mono ?_; rintro e w3 ⟨rfl, hb⟩; replace hb1 := ra_step (w := w) (by repeat (first | with_reducible (first | exact Below.refl _ _ | assumption | refine ra_drewN ?_ _ | refine ra_drew ?_ | refine ra_alloc ?_ _) | with_reducible refine ra_set ?_ _ (by (first | omega | (simp; omega))))) hb; clear hb)
    | (go_at_call 39; refine (HA.out _).mono ?_; rintro e w4 ⟨rfl, hb⟩; replace hb1 := ra_step (w := w) (by repeat (first | with_reducible (first | exact Below.refl _ _ | assumption | refine ra_drewN ?_ _ | refine ra_drew ?_ | refine ra_alloc ?_ _) | with_reducible refine ra_set ?_ _ (by (first | omega | (simp; omega))))) hb; clear hb))
  go_ret
  exact ⟨rfl, (by repeat (first | with_reducible (first | exact Below.refl _ _ | assumption | refine ra_drewN ?_ _ | refine ra_drew ?_ | refine ra_alloc ?_ _) | with_reducible refine ra_set ?_ _ (by (first | omega | (simp; omega)))))⟩
theorem tell_mem {kd me : Int} {pv : Bool} {l : List S68} {y : S54} (h : y ∈ tellL kd me pv l) : ∃ x ∈ l, x.f4 = pv ∧ y = tellW kd me x := by
  unfold tellL at h
  obtain ⟨x, hx, rfl⟩ := List.mem_map.1 h
  obtain ⟨h1, h2⟩ := List.mem_filter.1 hx
  exact ⟨x, h1, by simpa using h2, rfl⟩
theorem mem_tell {kd me : Int} {pv : Bool} {l : List S68} {x : S68} (h : x ∈ l) (hp : x.f4 = pv) : tellW kd me x ∈ tellL kd me pv l := by
  unfold tellL
  exact List.mem_map.2 ⟨x, List.mem_filter.2 ⟨h, by simpa using hp⟩, rfl⟩
theorem tell_first {kd me : Int} {pv : Bool} {l : List S68} (hn : (l.map (·.f0)).Nodup) {x : S68} (h : x ∈ l) (hp : x.f4 = pv) : ∃ i, FirstOf (tellL kd me pv l) x.f0 (tellW kd me x) i := by
  refine find_first _ _ _ (mem_tell h hp) rfl (fun y hy he => ?_)
  obtain ⟨z, hz, _, rfl⟩ := tell_mem hy
  rw [nodup_inj hn hz h he]
theorem sponsorDialogue_walk (A0 : Option Addr) (c0 : Nat) (l : List S68) (me st bt tr fr : Int) (w : World) (hG : Laid w) (hr0 : Kd.C k68 w A0 l.length l) (hc0 : l.length ≤ c0) (hb : l.length * 48 ≤ 140737488351232)
    (_ : -9223372036854775808 ≤ me ∧ me ≤ 9223372036854775807) (_ : -9223372036854775808 ≤ st ∧ st ≤ 9223372036854775807) (_ : -9223372036854775808 ≤ bt ∧ bt ≤ 9223372036854775807) (_ : -9223372036854775808 ≤ tr ∧ tr ≤ 9223372036854775807) (_ : -9223372036854775808 ≤ fr ∧ fr ≤ 9223372036854775807) :
    Calls Tryd.prog 11 #[.slice A0 l.length c0, .int .i64 me, .int .i64 st, .int .i64 bt, .int .i64 tr, .int .i64 fr] w fun e w' => e = .returned (.bool true) ∧ Below w.heap.size w w' := by
  have hof := of_f (l.length + 30) l st (by omega) (by omega)
  have hva := refValid_f l (2 * l.length + 30) (by omega) (by omega)
  have up : ∀ (v : Bool) (p : Int × Int × Int × Int × Bool × Int × Bool), valid68 l = v → ofT (findH l st) = p → _ → _ := fun v p hv hp hx =>
    dialogue_up A0 c0 l me st bt tr fr v p.2.2.2.2.1 p.2.2.2.2.2.2 p.1 p.2.1 p.2.2.1 p.2.2.2.1 p.2.2.2.2.2.1 w hG hr0 hc0 _ _ (by rw [hva, hv]) (by rw [hof, hp]) hx
  cases hV : valid68 l with
  | false => exact up false _ hV rfl (.inl rfl)
  | true =>
    by_cases h4 : 4 ≤ l.length
    · exact up true _ hV rfl (.inr (.inl ⟨rfl, decide_eq_true (by omega), decide_eq_true h4⟩))
    · have d1 : decide ((4 : Int) ≤ (l.length : Int)) = false := decide_eq_false (by omega)
      have d2 : decide (4 ≤ l.length) = false := decide_eq_false h4
      cases hf : findH l st with
      | some x => exact up true _ hV (by rw [hf]) (.inr (.inr (.inl ⟨rfl, d1, d2, rfl⟩)))
      | none =>
        by_cases h0 : fr < 0
        · exact up true _ hV (by rw [hf]) (.inr (.inr (.inr (.inl ⟨rfl, d1, d2, rfl, decide_eq_true h0⟩))))
        · by_cases h1 : 999999988 < fr
          · exact up true _ hV (by rw [hf]) (.inr (.inr (.inr (.inr ⟨rfl, d1, d2, rfl, decide_eq_false h0, decide_eq_true h1⟩))))
          · have hv : slotmeshref31_Valid.f 30 l = some true := by rw [refValid_f l 30 (by omega) (by omega), hV]
            have ho : slotmeshref31_Of.f 30 l st = some (0, 0, 0, 0, false, 0, false) := by rw [of_f 30 l st (by omega) (by omega), hf]; rfl
            have noask := fun (E : Int) hA hE => dialogue_noask A0 c0 l me st bt tr fr E w hG hr0 hc0 hv ho (by omega) (decide_eq_false h0) (decide_eq_false h1) hA hE
            by_cases hP : askP 0 (-1) 0 0 tr st bt me fr
            · by_cases ht : tr = 255
              · exact noask 2 (fun w => ask_l 0 (-1) 0 0 tr st bt me fr w hP rfl ht) rfl
              · have hP' := hP
                obtain ⟨q0, q1, q2, q3, q4, q5, q6, q7⟩ := hP'
                unfold validB at q0
                unfold nodeB at q1 q2
                rw [decide_eq_true_eq] at q0 q1 q2
                have hA := fun w => ask_o 0 (-1) 0 0 tr st bt me fr w hP rfl ht
                obtain ⟨no, hno⟩ : ∃ no : Int, no = 256 * bt + tr + 1 := ⟨_, rfl⟩
                rw [← hno] at hA
                have hnb : 0 ≤ no ∧ no ≤ 1000000000 := by omega
                have hfit : ∀ (l : List S68) (x0 x4 x5 : Int), valid68 l = true → 1 ≤ x0 → x0 ≤ 4 → 0 ≤ x4 → x4 ≤ 1000000000 → 0 ≤ x5 → x5 ≤ 2000000 → fit68 l me x0 st me no x4 x5 fr = true := by
                  intro l x0 x4 x5 hv h1 h2 h3 h4 h5 h6
                  unfold fit68 word68
                  rw [hv, decide_eq_true (show (0 ≤ st ∧ st < 60 ∧ 0 ≤ me ∧ me < 60 ∧ st ≠ me ∧ 0 ≤ no ∧ 0 ≤ x4 ∧ no ≤ 1000000000 ∧ x4 ≤ 1000000000 ∧ 1 ≤ x0 ∧ x0 ≤ 4) from ⟨by omega, by omega, by omega, by omega, q3, by omega, by omega, by omega, by omega, by omega, by omega⟩), decide_eq_true (show me = me from rfl), decide_eq_true h5, decide_eq_true h6, decide_eq_true (show 0 ≤ fr by omega), decide_eq_true (show fr ≤ 999999988 by omega)]
                  rfl
                have hh1 : sponsor_Hear.f l me 1 st me no 0 0 0 0 fr = some (sortH (upd l (fresh68 st me no fr)), 0) := by
                  rw [sponsor_Hear.f, if_pos (hfit l 1 0 0 hV (by omega) (by omega) (by omega) (by omega) (by omega) (by omega)), if_pos rfl]
                  unfold askedF
                  rw [hf]
                  dsimp only
                  rw [if_neg (by omega), ans68, if_pos rfl]
                obtain ⟨hfr, hmem⟩ := upd_valid hV (half_fresh (x1 := st) (x2 := me) (x3 := no) (fr := fr) (by omega) (by omega) (by omega)) (Nat.le_trans (upd_len _ _) (by omega))
                obtain ⟨x, hx⟩ : ∃ x, x = fresh68 st me no fr := ⟨_, rfl⟩
                have x0 : x.f0 = st := by rw [hx]; rfl
                have x1 : x.f1 = no := by rw [hx]; rfl
                have x4 : x.f4 = false := by rw [hx]; rfl
                have x5 : x.f5 = 0 := by rw [hx]; rfl
                have hxh : half68 x = true := by rw [hx]; exact half_fresh (by omega) (by omega) (by omega)
                have x2 : 0 ≤ x.f2 ∧ x.f2 ≤ 1000000000 := by
                  unfold half68 at hxh
                  simp only [Bool.and_eq_true, decide_eq_true_eq] at hxh
                  omega
                rw [← hx] at hh1 hfr hmem
                generalize sortH (upd l x) = r at hh1 hfr hmem
                have hxr : x ∈ r := (hmem x).2 (.inl rfl)
                have hnr := valid_nodup hfr
                have hfx : findH r st = some x := by rw [← x0]; exact findH_self hnr hxr
                obtain ⟨i0, hF⟩ := tell_first (kd := 2) (me := me) hnr hxr x4
                have hlr := valid_short hfr
                have hh2 : sponsor_Hear.f r me 3 st me no x.f2 (1000000 + st) 0 0 fr = some (sortH (upd r { x with f4 := true, f5 := 1000000 + st }), 0) := by
                  rw [sponsor_Hear.f, if_pos (hfit r 3 x.f2 (1000000 + st) hfr (by omega) (by omega) x2.1 x2.2 (by omega) (by omega)), if_neg (by omega), if_pos rfl]
                  unfold provedF
                  rw [hfx]
                  dsimp only
                  rw [if_pos x1, if_pos rfl, ans68, if_pos rfl]
                have hl2 : (upd r { x with f4 := true, f5 := 1000000 + st }).length ≤ 4 := Nat.le_trans (upd_len_found hxr rfl) hlr
                obtain ⟨hfr2, hmem2⟩ := upd_valid hfr (half_shut hxh (k := 1000000 + st) (by omega)) hl2
                generalize sortH (upd r { x with f4 := true, f5 := 1000000 + st }) = r2 at hh2 hfr2 hmem2
                have hxr2 := (hmem2 _).2 (.inl rfl)
                obtain ⟨k0, hK⟩ := tell_first (kd := 3) (me := me) (valid_nodup hfr2) hxr2 rfl
                have hF' : FirstOf (tellL 2 me false r) st ⟨2, st, me, no, x.f2, 0, ⟨0, 0⟩⟩ i0 := by
                  rw [x0] at hF
                  rw [show (⟨2, st, me, no, x.f2, 0, ⟨0, 0⟩⟩ : S54) = tellW 2 me x by unfold tellW; rw [x0, x1, x5]]
                  exact hF
                have hK' : FirstOf (tellL 3 me true r2) st ⟨3, st, me, no, x.f2, 1000000 + st, ⟨0, 0⟩⟩ k0 := by
                  have e : tellW 3 me { x with f4 := true, f5 := 1000000 + st } = (⟨3, st, me, no, x.f2, 1000000 + st, ⟨0, 0⟩⟩ : S54) := by unfold tellW; dsimp only; rw [x0, x1]
                  have h : FirstOf (tellL 3 me true r2) x.f0 (tellW 3 me { x with f4 := true, f5 := 1000000 + st }) k0 := hK
                  rw [e, x0] at h
                  exact h
                have hvj : validB 1 me no fr (tr + 1) = true := by unfold validB; exact decide_eq_true (by omega)
                have hnode : ∀ a : Int, 0 ≤ a → a < 60 → nodeB a = true := fun a h1 h2 => by unfold nodeB; exact decide_eq_true ⟨h1, h2⟩
                have hfj : ∀ k : Int, 1 ≤ k → k ≤ 4 → formedB k st me no x.f2 = true := fun k h1 h2 => by
                  unfold formedB
                  exact decide_eq_true ⟨hnode _ q1.1 q1.2, hnode _ q2.1 q2.2, q3, by omega, by omega, x2.1, x2.2, h1, h2⟩
                have hlen : ∀ (kd : Int) (pv : Bool) (l : List S68), l.length ≤ 4 → (tellL kd me pv l).length ≤ 5 := fun kd pv l h => by
                  simp only [tellL, List.length_map]; exact Nat.le_trans (List.length_filter_le _ _) (by omega)
                exact dialogue_main A0 c0 l me st bt tr fr no x.f2 r r2 _ _ i0 k0 w hG hr0 hc0 hv ho (by omega) (decide_eq_false h0) (decide_eq_false h1) hA (decide_eq_false (by omega)) hh1 (words_yes 0 r me hfr (by omega)) hF'
                  (fun w => hear_c1 me no fr (tr + 1) x.f2 0 0 0 fr st w hvj (hfj 2 (by omega) (by omega)) (by omega) (by omega)) hh2 (proofs_yes 0 r2 me hfr2 (by omega)) hK' (fun w => judge_o 3 st me no x.f2 (1000000 + st) 0 0 3 5 w (hfj 3 (by omega) (by omega)) (by omega) (by omega) (by omega) rfl rfl) (by omega) (hlen _ _ _ hlr) (hlen _ _ _ (valid_short hfr2))
            · exact noask 1 (fun w => ask_arg 0 (-1) 0 0 tr st bt me fr w hP) rfl
end Go.Proofs.YtncgeclkgmfppaaDoor.H
