/-
  SponsorProofs: its walk, true whatever the list and the word.
-/
import Derived.Test.YtncgeclkgmfppaaDoorPlainOf
import Derived.Test.YtncgeclkgmfppaaDoorReplays
import Derived.Test.YtncgeclkgmfppaaDoorH2
import Derived.Test.YtncgeclkgmfppaaDoorH11
import Derived.Outline
import Derived.IntWalk
import Derived.Deep.QuietTactic
import Derived.BigQuiet
namespace Go.Proofs.YtncgeclkgmfppaaDoor.H
open Go.RowKit Go.Proofs.YtncgeclkgmfppaaDoorW.PrintWords Go.Proofs.YtncgeclkgmfppaaDoorW.PrintLast Go.Proofs.YtncgeclkgmfppaaDoorW.PrintMore
set_option linter.unusedVariables false
set_option linter.unusedSimpArgs false
set_option maxRecDepth 100000
attribute [local go_sem high] eqA68
theorem rd_in1 {l : List S68} {j : Nat} (hj : j < l.length) : rd_T68 l (j : Int) ∈ l := by
  have : rd_T68 l (j : Int) = l[j] := by simp [rd_T68, List.getD, hj]
  rw [this]; exact List.getElem_mem hj
/-- What an element of the list after a word is. -/
def ElemB (l : List S68) (x0 x1 x3 x4 x5 : Int) (x : S68) : Prop :=
  (findH l x.f0 = some x) ∨ (x.f4 = false ∧ x.f5 = 0 ∧ findH l x.f0 = none) ∨ (x.f4 = false ∧ x.f5 = 0 ∧ ∃ g, findH l x.f0 = some g ∧ g.f1 ≠ x.f1) ∨
  (∃ g, findH l g.f0 = some g ∧ x = { g with f4 := true, f5 := x5 } ∧ x0 = 3 ∧ x1 = g.f0 ∧ x3 = g.f1 ∧ x4 = g.f2 ∧ (g.f4 = false ∨ (g.f4 = true ∧ g.f5 ≠ x5)))
theorem hear_elem {l : List S68} {a1 x0 x1 x2 x3 x4 x5 x6 x7 fr : Int} {r : List S68} (h : sponsor_Hear.f l a1 x0 x1 x2 x3 x4 x5 x6 x7 fr = some (r, 0)) {x : S68} (hx : x ∈ r) : ElemB l x0 x1 x3 x4 x5 x := by
  obtain ⟨hv, hvr, hd⟩ := hear_does h
  have hn := valid_nodup hv
  rcases hd with ⟨_, rfl, _⟩ | ⟨_, hlt, hm⟩ | ⟨e3, g, hg, e0, e1, e2, hm⟩
  · exact .inl ((findH_iff hn).2 ⟨hx, rfl⟩)
  · rcases (hm x).1 hx with rfl | ⟨hl, _⟩
    · cases hf : findH l (fresh68 x1 x2 x3 fr).f0 with
      | none => exact .inr (.inl ⟨rfl, rfl, hf⟩)
      | some g =>
        obtain ⟨g1, g2⟩ := findH_some hf
        have := hlt g g1 g2
        exact .inr (.inr (.inl ⟨rfl, rfl, g, hf, by show g.f1 ≠ x3; omega⟩))
    · exact .inl ((findH_iff hn).2 ⟨hl, rfl⟩)
  · rcases (hm x).1 hx with rfl | ⟨hl, _⟩
    · by_cases e : g.f4 = true ∧ g.f5 = x5
      · refine .inl ((findH_iff hn).2 ⟨?_, rfl⟩)
        have : ({ g with f4 := true, f5 := x5 } : S68) = g := by cases g; simp at e; simp [e.1, e.2]
        rw [this]; exact hg
      · refine .inr (.inr (.inr ⟨g, (findH_iff hn).2 ⟨hg, rfl⟩, rfl, e3, e0.symm, e1.symm, e2.symm, ?_⟩))
        cases hb : g.f4 with
        | false => exact .inl rfl
        | true => exact .inr ⟨rfl, fun h => e ⟨hb, h⟩⟩
    · exact .inl ((findH_iff hn).2 ⟨hl, rfl⟩)
set_option maxHeartbeats 8000000 in
theorem proofs_main (A0 : Option Addr) (c0 : Nat) (l : List S68) (a1 x0 x1 x2 x3 x4 x5 x6 x7 fr : Int) (r : List S68) (w : World) (hG : Laid w) (hr0 : Kd.C k68 w A0 l.length l) (hc0 : l.length ≤ c0)
    (hp : sponsor_Hear.f l a1 x0 x1 x2 x3 x4 x5 x6 x7 fr = some (r, 0)) (h20 : decide (20 < (l.length : Int)) = false) (h20' : decide (20 < l.length) = false) (h4 : l.length ≤ 4) (h5 : r.length ≤ 4) :
    Calls Tryd.prog 7 #[.slice A0 l.length c0, .int .i64 a1, .agg #[.int .i64 x0, .int .i64 x1, .int .i64 x2, .int .i64 x3, .int .i64 x4, .int .i64 x5, .int .i64 x6, .int .i64 x7], .int .i64 fr] w fun e w' => e = .returned (.bool true) ∧ Below w.heap.size w w' := by
  have HE := Lib.hid (fun x (hx : x ∈ r) => hear_elem hp hx)
  have HG := Aside0.mk hG
  have HP := Aside0.mk hp
  have HR := Aside0.mk hr0
  have HC := Aside0.mk hc0
  clear hG hp hr0 hc0
  have T0 : Aside0 True := ⟨trivial⟩
  have T1 : Aside0 True := ⟨trivial⟩
  have hu54 := Tryd.underlying54
  have hu68 := Tryd.underlying68
  obtain ⟨c, hc⟩ : ∃ c : Int, c = 0 := ⟨0, rfl⟩
  go_enter Tryd.func7, Tryd.ntmps7
  go_wp2_with (first
    | (go_at_call 25; clear T0; refine (slotmeshlaw31_head.calls true _ (HG.out.later (by repeat (first | (with_reducible exact Below.refl _ _) | (with_reducible assumption) | (with_reducible refine ra_drewN ?_ _) | (with_reducible refine ra_drew ?_) | (with_reducible refine ra_alloc ?_ _) | (with_reducible refine ra_set ?_ _ (by (first | omega | (simp; omega))))))) rfl).mono ?_; rintro e w1 ⟨rfl, hb⟩; have hb1 := ra_step (w := w) (by repeat (first | (with_reducible exact Below.refl _ _) | (with_reducible assumption) | (with_reducible refine ra_drewN ?_ _) | (with_reducible refine ra_drew ?_) | (with_reducible refine ra_alloc ?_ _) | (with_reducible refine ra_set ?_ _ (by (first | omega | (simp; omega)))))) hb; have hx1 := fun o => hb.cell (p := ⟨w.heap.size, o, none⟩) (by simp); have hf1 := fun o => hb.frozen (p := ⟨w.heap.size, o, none⟩) (by simp); have hs1 : w.heap.size + 1 ≤ w1.heap.size := (by have := hb.size; simpa using this); clear hb)
    | (go_at_call 26; clear T1; refine (sponsor_Hear.calls _ _ l a1 x0 x1 x2 x3 x4 x5 x6 x7 fr r 0 _ (HG.out.later (by repeat (first | (with_reducible exact Below.refl _ _) | (with_reducible assumption) | (with_reducible refine ra_drewN ?_ _) | (with_reducible refine ra_drew ?_) | (with_reducible refine ra_alloc ?_ _) | (with_reducible refine ra_set ?_ _ (by (first | omega | (simp; omega))))))) (Kd.C_below HR.out (by repeat (first | (with_reducible exact Below.refl _ _) | (with_reducible assumption) | (with_reducible refine ra_drewN ?_ _) | (with_reducible refine ra_drew ?_) | (with_reducible refine ra_alloc ?_ _) | (with_reducible refine ra_set ?_ _ (by (first | omega | (simp; omega))))))) HC.out HP.out).mono ?_; rintro e w2 hh; obtain ⟨A2, n2, rfl, hn2, hC2, hb⟩ := hear_row hh; clear hh; replace hb1 := ra_step (w := w) (by repeat (first | (with_reducible exact Below.refl _ _) | (with_reducible assumption) | (with_reducible refine ra_drewN ?_ _) | (with_reducible refine ra_drew ?_) | (with_reducible refine ra_alloc ?_ _) | (with_reducible refine ra_set ?_ _ (by (first | omega | (simp; omega)))))) hb; have hx2 := fun o => hb.cell (p := ⟨w.heap.size, o, none⟩) (by simp; omega); have hs2 : w.heap.size + 1 ≤ w2.heap.size := (by have := hb.size; omega); have e0 : w2.cell? ⟨w.heap.size, 0, none⟩ = some (.int .i64 x0) := (hx2 0).trans (by rw [hx1]; simp [go_sem]); have e1 : w2.cell? ⟨w.heap.size, 1, none⟩ = some (.int .i64 x1) := (hx2 1).trans (by rw [hx1]; simp [go_sem]); have e2 : w2.cell? ⟨w.heap.size, 2, none⟩ = some (.int .i64 x2) := (hx2 2).trans (by rw [hx1]; simp [go_sem]); have e3 : w2.cell? ⟨w.heap.size, 3, none⟩ = some (.int .i64 x3) := (hx2 3).trans (by rw [hx1]; simp [go_sem]); have e4 : w2.cell? ⟨w.heap.size, 4, none⟩ = some (.int .i64 x4) := (hx2 4).trans (by rw [hx1]; simp [go_sem]); have e5 : w2.cell? ⟨w.heap.size, 5, none⟩ = some (.int .i64 x5) := (hx2 5).trans (by rw [hx1]; simp [go_sem]); have e6 : w2.cell? ⟨w.heap.size, 6, none⟩ = some (.int .i64 x6) := (hx2 6).trans (by rw [hx1]; simp [go_sem]); have e7 : w2.cell? ⟨w.heap.size, 7, none⟩ = some (.int .i64 x7) := (hx2 7).trans (by rw [hx1]; simp [go_sem]); have HC2 := Aside0.mk hC2; have HN2 := Aside0.mk hn2; have hb2 := Below.refl w2.heap.size w2; clear hb hC2 hn2))
  go_loopg [9, 12] r.length (fun g v9 v12 wr => ∃ j : Nat, Aside0 (g + j = r.length) ∧ v9 = .bool true ∧ v12 = .int .i64 (j : Nat) ∧ Aside0 (Below w.heap.size w wr) ∧ Aside0 (Below w2.heap.size w2 wr))
  case atStart => exact ⟨0, ⟨rfl⟩, rfl, rfl, ⟨hb1⟩, ⟨hb2⟩⟩
  case round =>
    obtain ⟨j, HJ, rfl, rfl, B1, B2⟩ := hrel
    clear hx1 hf1 hs1 hx2 hb1 hb2
    by_cases hlt : j < r.length
    · obtain ⟨ad, ea, z0, z1, z2, z3, z4, z5⟩ := at_T68 (Kd.C_below HC2.out B2.out) (j : Int) (by omega) (by omega)
      subst ea
      have hel := HE.out _ (rd_in1 (l := r) hlt)
      obtain ⟨x, hh⟩ : ∃ x, x = rd_T68 r (j : Int) := ⟨_, rfl⟩
      rw [← hh] at z0 z1 z2 z3 z4 z5 hel
      clear hh
      simp only [Int.toNat_natCast] at z0 z1 z2 z3 z4 z5
      obtain ⟨k, hk⟩ : ∃ k, gk = k + 1 := ⟨gk - 1, by have := HJ.out; omega⟩
      subst hk
      have zb := World.block_lt_of_cell? _ _ z0
      have hlen : l.length < 4611686018427387904 := by omega
      rcases hel with hf | ⟨q1, q2, hf⟩ | ⟨q1, q2, g, hf, q3⟩ | ⟨g, hf, rfl, r0, r1, r2, r3, r4⟩
      · have ho := Aside0.mk (of_f 30 l x.f0 hlen (by omega))
        rw [hf] at ho
        cases hb : x.f4 with
        | true =>
          rw [hb] at z4
          have ho2 : Aside0 (slotmeshref31_Of.f 30 l (x.f0) = some (x.f0, x.f1, x.f2, x.f3, true, x.f5, true)) := ⟨by rw [ho.out]; simp only [ofT, hb]⟩
          clear ho hf hb
          go_wp2_with (first | (go_at_call 38; refine (slotmeshref31_Of.calls 30 _ _ l (x.f0) x.f0 x.f1 x.f2 x.f3 true x.f5 true _ (Kd.C_below HR.out (by repeat (first | (with_reducible exact Below.refl _ _) | (with_reducible exact B1.out) | (with_reducible refine ra_drewN ?_ _) | (with_reducible refine ra_drew ?_) | (with_reducible refine ra_alloc ?_ _) | (with_reducible refine ra_set ?_ _ (by (first | omega | (simp; omega))))))) HC.out ho2.out).mono ?_; rintro e w5 ⟨rfl, hb⟩; have B1b := ra_step B1.out hb; have B2b := ra_step B2.out hb; have y0 := (hb.cell (p := ad.add (j * 6)) zb).trans z0; have y1 := (hb.cell (p := ⟨(ad.add (j * 6)).block, (ad.add (j * 6)).off + 1, none⟩) zb).trans z1; have y2 := (hb.cell (p := ⟨(ad.add (j * 6)).block, (ad.add (j * 6)).off + 2, none⟩) zb).trans z2; have y3 := (hb.cell (p := ⟨(ad.add (j * 6)).block, (ad.add (j * 6)).off + 3, none⟩) zb).trans z3; have y4 := (hb.cell (p := ⟨(ad.add (j * 6)).block, (ad.add (j * 6)).off + 4, none⟩) zb).trans z4; have y5 := (hb.cell (p := ⟨(ad.add (j * 6)).block, (ad.add (j * 6)).off + 5, none⟩) zb).trans z5; have ya0 := fun o => Lib.cell?_alloc_some (W := w5) o y0; have ya1 := fun o => Lib.cell?_alloc_some (W := w5) o y1; have ya2 := fun o => Lib.cell?_alloc_some (W := w5) o y2; have ya3 := fun o => Lib.cell?_alloc_some (W := w5) o y3; have ya4 := fun o => Lib.cell?_alloc_some (W := w5) o y4; have ya5 := fun o => Lib.cell?_alloc_some (W := w5) o y5; clear hb))
          repeat (go_quiet (fail); (try go_wp2); (try simp only [List.append]))
          go_roundg k
          case measure => omega
          case rel => exact ⟨j + 1, ⟨by have := HJ.out; omega⟩, rfl, by go_num, ⟨(by repeat (first | (with_reducible exact Below.refl _ _) | (with_reducible assumption) | (with_reducible refine ra_drewN ?_ _) | (with_reducible refine ra_drew ?_) | (with_reducible refine ra_alloc ?_ _) | (with_reducible refine ra_set ?_ _ (by (first | omega | (simp; omega))))))⟩, ⟨(by repeat (first | (with_reducible exact Below.refl _ _) | (with_reducible assumption) | (with_reducible refine ra_drewN ?_ _) | (with_reducible refine ra_drew ?_) | (with_reducible refine ra_alloc ?_ _) | (with_reducible refine ra_set ?_ _ (by (first | omega | (simp; omega))))))⟩⟩
        | false =>
          rw [hb] at z4
          have ho2 : Aside0 (slotmeshref31_Of.f 30 l (x.f0) = some (x.f0, x.f1, x.f2, x.f3, false, x.f5, true)) := ⟨by rw [ho.out]; simp only [ofT, hb]⟩
          clear ho hf hb
          go_wp2_with (first | (go_at_call 38; refine (slotmeshref31_Of.calls 30 _ _ l (x.f0) x.f0 x.f1 x.f2 x.f3 false x.f5 true _ (Kd.C_below HR.out (by repeat (first | (with_reducible exact Below.refl _ _) | (with_reducible exact B1.out) | (with_reducible refine ra_drewN ?_ _) | (with_reducible refine ra_drew ?_) | (with_reducible refine ra_alloc ?_ _) | (with_reducible refine ra_set ?_ _ (by (first | omega | (simp; omega))))))) HC.out ho2.out).mono ?_; rintro e w5 ⟨rfl, hb⟩; have B1b := ra_step B1.out hb; have B2b := ra_step B2.out hb; have y0 := (hb.cell (p := ad.add (j * 6)) zb).trans z0; have y1 := (hb.cell (p := ⟨(ad.add (j * 6)).block, (ad.add (j * 6)).off + 1, none⟩) zb).trans z1; have y2 := (hb.cell (p := ⟨(ad.add (j * 6)).block, (ad.add (j * 6)).off + 2, none⟩) zb).trans z2; have y3 := (hb.cell (p := ⟨(ad.add (j * 6)).block, (ad.add (j * 6)).off + 3, none⟩) zb).trans z3; have y4 := (hb.cell (p := ⟨(ad.add (j * 6)).block, (ad.add (j * 6)).off + 4, none⟩) zb).trans z4; have y5 := (hb.cell (p := ⟨(ad.add (j * 6)).block, (ad.add (j * 6)).off + 5, none⟩) zb).trans z5; have ya0 := fun o => Lib.cell?_alloc_some (W := w5) o y0; have ya1 := fun o => Lib.cell?_alloc_some (W := w5) o y1; have ya2 := fun o => Lib.cell?_alloc_some (W := w5) o y2; have ya3 := fun o => Lib.cell?_alloc_some (W := w5) o y3; have ya4 := fun o => Lib.cell?_alloc_some (W := w5) o y4; have ya5 := fun o => Lib.cell?_alloc_some (W := w5) o y5; clear hb))
          repeat (go_quiet (fail); (try go_wp2); (try simp only [List.append]))
          go_roundg k
          case measure => omega
          case rel => exact ⟨j + 1, ⟨by have := HJ.out; omega⟩, rfl, by go_num, ⟨(by repeat (first | (with_reducible exact Below.refl _ _) | (with_reducible assumption) | (with_reducible refine ra_drewN ?_ _) | (with_reducible refine ra_drew ?_) | (with_reducible refine ra_alloc ?_ _) | (with_reducible refine ra_set ?_ _ (by (first | omega | (simp; omega))))))⟩, ⟨(by repeat (first | (with_reducible exact Below.refl _ _) | (with_reducible assumption) | (with_reducible refine ra_drewN ?_ _) | (with_reducible refine ra_drew ?_) | (with_reducible refine ra_alloc ?_ _) | (with_reducible refine ra_set ?_ _ (by (first | omega | (simp; omega))))))⟩⟩
      · have ho := Aside0.mk (of_f 30 l x.f0 hlen (by omega))
        rw [hf] at ho
        rw [q1] at z4
        rw [q2] at z5
        have ho2 : Aside0 (slotmeshref31_Of.f 30 l (x.f0) = some (0, 0, 0, 0, false, 0, false)) := ⟨by rw [ho.out]; simp only [ofT]⟩
        clear ho hf
        go_wp2_with (first | (go_at_call 38; refine (slotmeshref31_Of.calls 30 _ _ l (x.f0) 0 0 0 0 false 0 false _ (Kd.C_below HR.out (by repeat (first | (with_reducible exact Below.refl _ _) | (with_reducible exact B1.out) | (with_reducible refine ra_drewN ?_ _) | (with_reducible refine ra_drew ?_) | (with_reducible refine ra_alloc ?_ _) | (with_reducible refine ra_set ?_ _ (by (first | omega | (simp; omega))))))) HC.out ho2.out).mono ?_; rintro e w5 ⟨rfl, hb⟩; have B1b := ra_step B1.out hb; have B2b := ra_step B2.out hb; have y0 := (hb.cell (p := ad.add (j * 6)) zb).trans z0; have y1 := (hb.cell (p := ⟨(ad.add (j * 6)).block, (ad.add (j * 6)).off + 1, none⟩) zb).trans z1; have y2 := (hb.cell (p := ⟨(ad.add (j * 6)).block, (ad.add (j * 6)).off + 2, none⟩) zb).trans z2; have y3 := (hb.cell (p := ⟨(ad.add (j * 6)).block, (ad.add (j * 6)).off + 3, none⟩) zb).trans z3; have y4 := (hb.cell (p := ⟨(ad.add (j * 6)).block, (ad.add (j * 6)).off + 4, none⟩) zb).trans z4; have y5 := (hb.cell (p := ⟨(ad.add (j * 6)).block, (ad.add (j * 6)).off + 5, none⟩) zb).trans z5; have ya0 := fun o => Lib.cell?_alloc_some (W := w5) o y0; have ya1 := fun o => Lib.cell?_alloc_some (W := w5) o y1; have ya2 := fun o => Lib.cell?_alloc_some (W := w5) o y2; have ya3 := fun o => Lib.cell?_alloc_some (W := w5) o y3; have ya4 := fun o => Lib.cell?_alloc_some (W := w5) o y4; have ya5 := fun o => Lib.cell?_alloc_some (W := w5) o y5; clear hb))
        repeat (go_quiet (fail); (try go_wp2); (try simp only [List.append]))
        go_roundg k
        case measure => omega
        case rel => exact ⟨j + 1, ⟨by have := HJ.out; omega⟩, rfl, by go_num, ⟨(by repeat (first | (with_reducible exact Below.refl _ _) | (with_reducible assumption) | (with_reducible refine ra_drewN ?_ _) | (with_reducible refine ra_drew ?_) | (with_reducible refine ra_alloc ?_ _) | (with_reducible refine ra_set ?_ _ (by (first | omega | (simp; omega))))))⟩, ⟨(by repeat (first | (with_reducible exact Below.refl _ _) | (with_reducible assumption) | (with_reducible refine ra_drewN ?_ _) | (with_reducible refine ra_drew ?_) | (with_reducible refine ra_alloc ?_ _) | (with_reducible refine ra_set ?_ _ (by (first | omega | (simp; omega))))))⟩⟩
      · have ho := Aside0.mk (of_f 30 l x.f0 hlen (by omega))
        rw [hf] at ho
        rw [q1] at z4
        rw [q2] at z5
        have q4 : (g.f1 == x.f1) = false := beq_eq_false_iff_ne.2 q3
        clear q3
        have ho2 : Aside0 (slotmeshref31_Of.f 30 l (x.f0) = some (g.f0, g.f1, g.f2, g.f3, g.f4, g.f5, true)) := ⟨by rw [ho.out]; simp only [ofT]⟩
        clear ho hf
        go_wp2_with (first | (go_at_call 38; refine (slotmeshref31_Of.calls 30 _ _ l (x.f0) g.f0 g.f1 g.f2 g.f3 g.f4 g.f5 true _ (Kd.C_below HR.out (by repeat (first | (with_reducible exact Below.refl _ _) | (with_reducible exact B1.out) | (with_reducible refine ra_drewN ?_ _) | (with_reducible refine ra_drew ?_) | (with_reducible refine ra_alloc ?_ _) | (with_reducible refine ra_set ?_ _ (by (first | omega | (simp; omega))))))) HC.out ho2.out).mono ?_; rintro e w5 ⟨rfl, hb⟩; have B1b := ra_step B1.out hb; have B2b := ra_step B2.out hb; have y0 := (hb.cell (p := ad.add (j * 6)) zb).trans z0; have y1 := (hb.cell (p := ⟨(ad.add (j * 6)).block, (ad.add (j * 6)).off + 1, none⟩) zb).trans z1; have y2 := (hb.cell (p := ⟨(ad.add (j * 6)).block, (ad.add (j * 6)).off + 2, none⟩) zb).trans z2; have y3 := (hb.cell (p := ⟨(ad.add (j * 6)).block, (ad.add (j * 6)).off + 3, none⟩) zb).trans z3; have y4 := (hb.cell (p := ⟨(ad.add (j * 6)).block, (ad.add (j * 6)).off + 4, none⟩) zb).trans z4; have y5 := (hb.cell (p := ⟨(ad.add (j * 6)).block, (ad.add (j * 6)).off + 5, none⟩) zb).trans z5; have ya0 := fun o => Lib.cell?_alloc_some (W := w5) o y0; have ya1 := fun o => Lib.cell?_alloc_some (W := w5) o y1; have ya2 := fun o => Lib.cell?_alloc_some (W := w5) o y2; have ya3 := fun o => Lib.cell?_alloc_some (W := w5) o y3; have ya4 := fun o => Lib.cell?_alloc_some (W := w5) o y4; have ya5 := fun o => Lib.cell?_alloc_some (W := w5) o y5; clear hb))
        repeat (go_quiet (fail); (try go_wp2); (try simp only [List.append]))
        go_roundg k
        case measure => omega
        case rel => exact ⟨j + 1, ⟨by have := HJ.out; omega⟩, rfl, by go_num, ⟨(by repeat (first | (with_reducible exact Below.refl _ _) | (with_reducible assumption) | (with_reducible refine ra_drewN ?_ _) | (with_reducible refine ra_drew ?_) | (with_reducible refine ra_alloc ?_ _) | (with_reducible refine ra_set ?_ _ (by (first | omega | (simp; omega))))))⟩, ⟨(by repeat (first | (with_reducible exact Below.refl _ _) | (with_reducible assumption) | (with_reducible refine ra_drewN ?_ _) | (with_reducible refine ra_drew ?_) | (with_reducible refine ra_alloc ?_ _) | (with_reducible refine ra_set ?_ _ (by (first | omega | (simp; omega))))))⟩⟩
      · have ho := Aside0.mk (of_f 30 l g.f0 hlen (by omega))
        rw [hf] at ho
        subst r0 r1 r2 r3
        dsimp only at z0 z1 z2 z3 z4 z5
        rcases r4 with hb | ⟨hb, r5⟩
        · skip
          have ho2 : Aside0 (slotmeshref31_Of.f 30 l (g.f0) = some (g.f0, g.f1, g.f2, g.f3, false, g.f5, true)) := ⟨by rw [ho.out]; simp only [ofT, hb]⟩
          clear ho hf hb
          go_wp2_with (first | (go_at_call 38; refine (slotmeshref31_Of.calls 30 _ _ l (g.f0) g.f0 g.f1 g.f2 g.f3 false g.f5 true _ (Kd.C_below HR.out (by repeat (first | (with_reducible exact Below.refl _ _) | (with_reducible exact B1.out) | (with_reducible refine ra_drewN ?_ _) | (with_reducible refine ra_drew ?_) | (with_reducible refine ra_alloc ?_ _) | (with_reducible refine ra_set ?_ _ (by (first | omega | (simp; omega))))))) HC.out ho2.out).mono ?_; rintro e w5 ⟨rfl, hb⟩; have B1b := ra_step B1.out hb; have B2b := ra_step B2.out hb; have y0 := (hb.cell (p := ad.add (j * 6)) zb).trans z0; have y1 := (hb.cell (p := ⟨(ad.add (j * 6)).block, (ad.add (j * 6)).off + 1, none⟩) zb).trans z1; have y2 := (hb.cell (p := ⟨(ad.add (j * 6)).block, (ad.add (j * 6)).off + 2, none⟩) zb).trans z2; have y3 := (hb.cell (p := ⟨(ad.add (j * 6)).block, (ad.add (j * 6)).off + 3, none⟩) zb).trans z3; have y4 := (hb.cell (p := ⟨(ad.add (j * 6)).block, (ad.add (j * 6)).off + 4, none⟩) zb).trans z4; have y5 := (hb.cell (p := ⟨(ad.add (j * 6)).block, (ad.add (j * 6)).off + 5, none⟩) zb).trans z5; have ya0 := fun o => Lib.cell?_alloc_some (W := w5) o y0; have ya1 := fun o => Lib.cell?_alloc_some (W := w5) o y1; have ya2 := fun o => Lib.cell?_alloc_some (W := w5) o y2; have ya3 := fun o => Lib.cell?_alloc_some (W := w5) o y3; have ya4 := fun o => Lib.cell?_alloc_some (W := w5) o y4; have ya5 := fun o => Lib.cell?_alloc_some (W := w5) o y5; have u0 := (B2b.cell (p := ⟨w.heap.size, 0, none⟩) (by simp; omega)).trans e0; have u1 := (B2b.cell (p := ⟨w.heap.size, 1, none⟩) (by simp; omega)).trans e1; have u2 := (B2b.cell (p := ⟨w.heap.size, 2, none⟩) (by simp; omega)).trans e2; have u3 := (B2b.cell (p := ⟨w.heap.size, 3, none⟩) (by simp; omega)).trans e3; have u4 := (B2b.cell (p := ⟨w.heap.size, 4, none⟩) (by simp; omega)).trans e4; have u5 := (B2b.cell (p := ⟨w.heap.size, 5, none⟩) (by simp; omega)).trans e5; have u6 := (B2b.cell (p := ⟨w.heap.size, 6, none⟩) (by simp; omega)).trans e6; have u7 := (B2b.cell (p := ⟨w.heap.size, 7, none⟩) (by simp; omega)).trans e7; have ua0 := fun o => Lib.cell?_alloc_some (W := w5) o u0; have ua1 := fun o => Lib.cell?_alloc_some (W := w5) o u1; have ua2 := fun o => Lib.cell?_alloc_some (W := w5) o u2; have ua3 := fun o => Lib.cell?_alloc_some (W := w5) o u3; have ua4 := fun o => Lib.cell?_alloc_some (W := w5) o u4; have ua5 := fun o => Lib.cell?_alloc_some (W := w5) o u5; have ua6 := fun o => Lib.cell?_alloc_some (W := w5) o u6; have ua7 := fun o => Lib.cell?_alloc_some (W := w5) o u7; clear hb))
          repeat (go_quiet (fail); (try go_wp2); (try simp only [List.append]))
          go_roundg k
          case measure => omega
          case rel => exact ⟨j + 1, ⟨by have := HJ.out; omega⟩, rfl, by go_num, ⟨(by repeat (first | (with_reducible exact Below.refl _ _) | (with_reducible assumption) | (with_reducible refine ra_drewN ?_ _) | (with_reducible refine ra_drew ?_) | (with_reducible refine ra_alloc ?_ _) | (with_reducible refine ra_set ?_ _ (by (first | omega | (simp; omega))))))⟩, ⟨(by repeat (first | (with_reducible exact Below.refl _ _) | (with_reducible assumption) | (with_reducible refine ra_drewN ?_ _) | (with_reducible refine ra_drew ?_) | (with_reducible refine ra_alloc ?_ _) | (with_reducible refine ra_set ?_ _ (by (first | omega | (simp; omega))))))⟩⟩
        · have q4 : (g.f5 == x5) = false := beq_eq_false_iff_ne.2 r5
          clear r5
          have ho2 : Aside0 (slotmeshref31_Of.f 30 l (g.f0) = some (g.f0, g.f1, g.f2, g.f3, true, g.f5, true)) := ⟨by rw [ho.out]; simp only [ofT, hb]⟩
          clear ho hf hb
          go_wp2_with (first | (go_at_call 38; refine (slotmeshref31_Of.calls 30 _ _ l (g.f0) g.f0 g.f1 g.f2 g.f3 true g.f5 true _ (Kd.C_below HR.out (by repeat (first | (with_reducible exact Below.refl _ _) | (with_reducible exact B1.out) | (with_reducible refine ra_drewN ?_ _) | (with_reducible refine ra_drew ?_) | (with_reducible refine ra_alloc ?_ _) | (with_reducible refine ra_set ?_ _ (by (first | omega | (simp; omega))))))) HC.out ho2.out).mono ?_; rintro e w5 ⟨rfl, hb⟩; have B1b := ra_step B1.out hb; have B2b := ra_step B2.out hb; have y0 := (hb.cell (p := ad.add (j * 6)) zb).trans z0; have y1 := (hb.cell (p := ⟨(ad.add (j * 6)).block, (ad.add (j * 6)).off + 1, none⟩) zb).trans z1; have y2 := (hb.cell (p := ⟨(ad.add (j * 6)).block, (ad.add (j * 6)).off + 2, none⟩) zb).trans z2; have y3 := (hb.cell (p := ⟨(ad.add (j * 6)).block, (ad.add (j * 6)).off + 3, none⟩) zb).trans z3; have y4 := (hb.cell (p := ⟨(ad.add (j * 6)).block, (ad.add (j * 6)).off + 4, none⟩) zb).trans z4; have y5 := (hb.cell (p := ⟨(ad.add (j * 6)).block, (ad.add (j * 6)).off + 5, none⟩) zb).trans z5; have ya0 := fun o => Lib.cell?_alloc_some (W := w5) o y0; have ya1 := fun o => Lib.cell?_alloc_some (W := w5) o y1; have ya2 := fun o => Lib.cell?_alloc_some (W := w5) o y2; have ya3 := fun o => Lib.cell?_alloc_some (W := w5) o y3; have ya4 := fun o => Lib.cell?_alloc_some (W := w5) o y4; have ya5 := fun o => Lib.cell?_alloc_some (W := w5) o y5; have u0 := (B2b.cell (p := ⟨w.heap.size, 0, none⟩) (by simp; omega)).trans e0; have u1 := (B2b.cell (p := ⟨w.heap.size, 1, none⟩) (by simp; omega)).trans e1; have u2 := (B2b.cell (p := ⟨w.heap.size, 2, none⟩) (by simp; omega)).trans e2; have u3 := (B2b.cell (p := ⟨w.heap.size, 3, none⟩) (by simp; omega)).trans e3; have u4 := (B2b.cell (p := ⟨w.heap.size, 4, none⟩) (by simp; omega)).trans e4; have u5 := (B2b.cell (p := ⟨w.heap.size, 5, none⟩) (by simp; omega)).trans e5; have u6 := (B2b.cell (p := ⟨w.heap.size, 6, none⟩) (by simp; omega)).trans e6; have u7 := (B2b.cell (p := ⟨w.heap.size, 7, none⟩) (by simp; omega)).trans e7; have ua0 := fun o => Lib.cell?_alloc_some (W := w5) o u0; have ua1 := fun o => Lib.cell?_alloc_some (W := w5) o u1; have ua2 := fun o => Lib.cell?_alloc_some (W := w5) o u2; have ua3 := fun o => Lib.cell?_alloc_some (W := w5) o u3; have ua4 := fun o => Lib.cell?_alloc_some (W := w5) o u4; have ua5 := fun o => Lib.cell?_alloc_some (W := w5) o u5; have ua6 := fun o => Lib.cell?_alloc_some (W := w5) o u6; have ua7 := fun o => Lib.cell?_alloc_some (W := w5) o u7; clear hb))
          repeat (go_quiet (fail); (try go_wp2); (try simp only [List.append]))
          go_roundg k
          case measure => omega
          case rel => exact ⟨j + 1, ⟨by have := HJ.out; omega⟩, rfl, by go_num, ⟨(by repeat (first | (with_reducible exact Below.refl _ _) | (with_reducible assumption) | (with_reducible refine ra_drewN ?_ _) | (with_reducible refine ra_drew ?_) | (with_reducible refine ra_alloc ?_ _) | (with_reducible refine ra_set ?_ _ (by (first | omega | (simp; omega))))))⟩, ⟨(by repeat (first | (with_reducible exact Below.refl _ _) | (with_reducible assumption) | (with_reducible refine ra_drewN ?_ _) | (with_reducible refine ra_drew ?_) | (with_reducible refine ra_alloc ?_ _) | (with_reducible refine ra_set ?_ _ (by (first | omega | (simp; omega))))))⟩⟩
    · have hj : j = r.length := by have := HJ.out; omega
      subst hj
      clear hlt
      go_wp2
      go_ret
      exact ⟨rfl, (by repeat (first | (with_reducible exact Below.refl _ _) | (with_reducible exact B1.out) | (with_reducible refine ra_drewN ?_ _) | (with_reducible refine ra_drew ?_) | (with_reducible refine ra_alloc ?_ _) | (with_reducible refine ra_set ?_ _ (by (first | omega | (simp; omega))))))⟩
set_option maxHeartbeats 4000000 in
theorem proofs_up (A0 : Option Addr) (c0 : Nat) (l : List S68) (a1 x0 x1 x2 x3 x4 x5 x6 x7 fr : Int) (r : List S68) (c : Int) (w : World) (hG : Laid w) (hr0 : Kd.C k68 w A0 l.length l) (hc0 : l.length ≤ c0)
    (hp : sponsor_Hear.f l a1 x0 x1 x2 x3 x4 x5 x6 x7 fr = some (r, c))
    (hx : (c == 0) = false ∨ ((c == 0) = true ∧ decide (20 < (l.length : Int)) = true ∧ decide (20 < l.length) = true)) :
    Calls Tryd.prog 7 #[.slice A0 l.length c0, .int .i64 a1, .agg #[.int .i64 x0, .int .i64 x1, .int .i64 x2, .int .i64 x3, .int .i64 x4, .int .i64 x5, .int .i64 x6, .int .i64 x7], .int .i64 fr] w fun e w' => e = .returned (.bool true) ∧ Below w.heap.size w w' := by
  have HG := Aside0.mk hG
  have HP := Aside0.mk hp
  have HR := Aside0.mk hr0
  have HC := Aside0.mk hc0
  clear hG hp hr0 hc0
  have T0 : Aside0 True := ⟨trivial⟩
  have T1 : Aside0 True := ⟨trivial⟩
  have hu54 := Tryd.underlying54
  have hne : (c == 0) = false → (c != 0) = true := fun h => by rw [bne, h]; rfl
  have heq : (c == 0) = true → (c != 0) = false := fun h => by rw [bne, h]; rfl
  rcases hx with y1 | ⟨y1, y2, y3⟩
  · have yn := hne y1
    clear hne heq
    go_enter Tryd.func7, Tryd.ntmps7
    go_wp2_with (first
      | (go_at_call 25; clear T0; refine (slotmeshlaw31_head.calls true _ (HG.out.later (by repeat (first | (with_reducible exact Below.refl _ _) | (with_reducible assumption) | (with_reducible refine ra_drewN ?_ _) | (with_reducible refine ra_drew ?_) | (with_reducible refine ra_alloc ?_ _) | (with_reducible refine ra_set ?_ _ (by (first | omega | (simp; omega))))))) rfl).mono ?_; rintro e w1 ⟨rfl, hb⟩; have hb1 := ra_step (w := w) (by repeat (first | (with_reducible exact Below.refl _ _) | (with_reducible assumption) | (with_reducible refine ra_drewN ?_ _) | (with_reducible refine ra_drew ?_) | (with_reducible refine ra_alloc ?_ _) | (with_reducible refine ra_set ?_ _ (by (first | omega | (simp; omega)))))) hb; have hx1 := fun o => hb.cell (p := ⟨w.heap.size, o, none⟩) (by simp); have hf1 := fun o => hb.frozen (p := ⟨w.heap.size, o, none⟩) (by simp); have hs1 : w.heap.size + 1 ≤ w1.heap.size := (by have := hb.size; simpa using this); clear hb)
      | (go_at_call 26; clear T1; refine (sponsor_Hear.calls _ _ l a1 x0 x1 x2 x3 x4 x5 x6 x7 fr r c _ (HG.out.later (by repeat (first | (with_reducible exact Below.refl _ _) | (with_reducible assumption) | (with_reducible refine ra_drewN ?_ _) | (with_reducible refine ra_drew ?_) | (with_reducible refine ra_alloc ?_ _) | (with_reducible refine ra_set ?_ _ (by (first | omega | (simp; omega))))))) (Kd.C_below HR.out (by repeat (first | (with_reducible exact Below.refl _ _) | (with_reducible assumption) | (with_reducible refine ra_drewN ?_ _) | (with_reducible refine ra_drew ?_) | (with_reducible refine ra_alloc ?_ _) | (with_reducible refine ra_set ?_ _ (by (first | omega | (simp; omega))))))) HC.out HP.out).mono ?_; rintro e w2 hh; obtain ⟨A2, n2, rfl, hn2, hC2, hb⟩ := hear_row hh; clear hh; replace hb1 := ra_step (w := w) (by repeat (first | (with_reducible exact Below.refl _ _) | (with_reducible assumption) | (with_reducible refine ra_drewN ?_ _) | (with_reducible refine ra_drew ?_) | (with_reducible refine ra_alloc ?_ _) | (with_reducible refine ra_set ?_ _ (by (first | omega | (simp; omega)))))) hb; clear hb hC2 hn2))
    go_ret
    exact ⟨rfl, hb1⟩
  · have yn := heq y1
    clear hne heq
    go_enter Tryd.func7, Tryd.ntmps7
    go_wp2_with (first
      | (go_at_call 25; clear T0; refine (slotmeshlaw31_head.calls true _ (HG.out.later (by repeat (first | (with_reducible exact Below.refl _ _) | (with_reducible assumption) | (with_reducible refine ra_drewN ?_ _) | (with_reducible refine ra_drew ?_) | (with_reducible refine ra_alloc ?_ _) | (with_reducible refine ra_set ?_ _ (by (first | omega | (simp; omega))))))) rfl).mono ?_; rintro e w1 ⟨rfl, hb⟩; have hb1 := ra_step (w := w) (by repeat (first | (with_reducible exact Below.refl _ _) | (with_reducible assumption) | (with_reducible refine ra_drewN ?_ _) | (with_reducible refine ra_drew ?_) | (with_reducible refine ra_alloc ?_ _) | (with_reducible refine ra_set ?_ _ (by (first | omega | (simp; omega)))))) hb; have hx1 := fun o => hb.cell (p := ⟨w.heap.size, o, none⟩) (by simp); have hf1 := fun o => hb.frozen (p := ⟨w.heap.size, o, none⟩) (by simp); have hs1 : w.heap.size + 1 ≤ w1.heap.size := (by have := hb.size; simpa using this); clear hb)
      | (go_at_call 26; clear T1; refine (sponsor_Hear.calls _ _ l a1 x0 x1 x2 x3 x4 x5 x6 x7 fr r c _ (HG.out.later (by repeat (first | (with_reducible exact Below.refl _ _) | (with_reducible assumption) | (with_reducible refine ra_drewN ?_ _) | (with_reducible refine ra_drew ?_) | (with_reducible refine ra_alloc ?_ _) | (with_reducible refine ra_set ?_ _ (by (first | omega | (simp; omega))))))) (Kd.C_below HR.out (by repeat (first | (with_reducible exact Below.refl _ _) | (with_reducible assumption) | (with_reducible refine ra_drewN ?_ _) | (with_reducible refine ra_drew ?_) | (with_reducible refine ra_alloc ?_ _) | (with_reducible refine ra_set ?_ _ (by (first | omega | (simp; omega))))))) HC.out HP.out).mono ?_; rintro e w2 hh; obtain ⟨A2, n2, rfl, hn2, hC2, hb⟩ := hear_row hh; clear hh; replace hb1 := ra_step (w := w) (by repeat (first | (with_reducible exact Below.refl _ _) | (with_reducible assumption) | (with_reducible refine ra_drewN ?_ _) | (with_reducible refine ra_drew ?_) | (with_reducible refine ra_alloc ?_ _) | (with_reducible refine ra_set ?_ _ (by (first | omega | (simp; omega)))))) hb; clear hb hC2 hn2))
    go_ret
    exact ⟨rfl, hb1⟩
theorem sponsorProofs_walk (A0 : Option Addr) (c0 : Nat) (l : List S68) (a1 x0 x1 x2 x3 x4 x5 x6 x7 fr : Int) (w : World) (hG : Laid w) (hr0 : Kd.C k68 w A0 l.length l) (hc0 : l.length ≤ c0) (hb : l.length * 48 ≤ 140737488351232)
    (_ : -9223372036854775808 ≤ a1 ∧ a1 ≤ 9223372036854775807) (_ : -9223372036854775808 ≤ fr ∧ fr ≤ 9223372036854775807) :
    Calls Tryd.prog 7 #[.slice A0 l.length c0, .int .i64 a1, .agg #[.int .i64 x0, .int .i64 x1, .int .i64 x2, .int .i64 x3, .int .i64 x4, .int .i64 x5, .int .i64 x6, .int .i64 x7], .int .i64 fr] w fun e w' => e = .returned (.bool true) ∧ Below w.heap.size w w' := by
  obtain ⟨⟨r, c⟩, hp⟩ := hear_total l a1 x0 x1 x2 x3 x4 x5 x6 x7 fr (by omega)
  by_cases hc : c = 0
  · subst hc
    by_cases h20 : 20 < l.length
    · exact proofs_up A0 c0 l a1 x0 x1 x2 x3 x4 x5 x6 x7 fr r 0 w hG hr0 hc0 hp (.inr ⟨rfl, decide_eq_true (by omega), decide_eq_true h20⟩)
    · obtain ⟨hv, hvr, _⟩ := hear_does hp
      exact proofs_main A0 c0 l a1 x0 x1 x2 x3 x4 x5 x6 x7 fr r w hG hr0 hc0 hp (decide_eq_false (by omega)) (decide_eq_false h20) (valid_short hv) (valid_short hvr)
  · exact proofs_up A0 c0 l a1 x0 x1 x2 x3 x4 x5 x6 x7 fr r c w hG hr0 hc0 hp (.inl (by simpa using hc))
end Go.Proofs.YtncgeclkgmfppaaDoor.H
