/-
  The reference's words about all elements: its walk.
-/
import Derived.Test.YtncgeclkgmfppaaDoorH12
import Derived.Test.YtncgeclkgmfppaaDoorPlainTold
import Derived.Test.YtncgeclkgmfppaaDoorPlainRef
import Derived.Test.YtncgeclkgmfppaaDoorRandom
import Derived.Outline
import Derived.Lib.Hide
import Derived.IntWalk
import Derived.Deep.RegionHeld3
import Derived.Deep.QuietTactic
import Derived.BigQuiet
namespace Go.Proofs.YtncgeclkgmfppaaDoor.H
open Go.RowKit Go.Proofs.YtncgeclkgmfppaaDoorW.PrintWords Go.Proofs.YtncgeclkgmfppaaDoorW.PrintLast Go.Proofs.YtncgeclkgmfppaaDoorW.PrintMore
set_option linter.unusedVariables false
set_option linter.unusedSimpArgs false
set_option maxRecDepth 100000
/-- The word about an element, as its state is. -/
def wordOf (me : Int) (h : S68) : S54 := if h.f4 = true then ⟨3, h.f0, me, h.f1, h.f2, h.f5, ⟨0, 0⟩⟩ else ⟨2, h.f0, me, h.f1, h.f2, 0, ⟨0, 0⟩⟩
theorem rtold_none (A0 : Option Addr) (c0 : Nat) (l : List S68) (me : Int) (v : Bool) (w : World) (hr0 : Kd.C k68 w A0 l.length l) (hc0 : l.length ≤ c0) (k : Nat)
    (hv : slotmeshref31_Valid.f k l = some v) (hx : v = false ∨ (v = true ∧ decide (0 ≤ me) = false) ∨ (v = true ∧ decide (0 ≤ me) = true ∧ decide (me ≤ 59) = false)) :
    Calls Tryd.prog 78 #[.slice A0 l.length c0, .int .i64 me] w fun e w' => e = .returned (.slice none 0 0) ∧ Below w.heap.size w w' := by
  have HV := Aside0.mk hv
  have HR := Aside0.mk hr0
  have HC := Aside0.mk hc0
  clear hv hr0 hc0
  by_cases hl : 0 < l.length
  · have l0 : decide ((0 : Int) < (l.length : Int)) = true := decide_eq_true (by omega)
    have l1 : decide (0 < l.length) = true := decide_eq_true hl
    rcases hx with rfl | ⟨rfl, m0⟩ | ⟨rfl, m0, m1⟩
    all_goals
      go_enter Tryd.func78, Tryd.ntmps78
      go_wp2_with (first
        | (go_at_call 29; refine (slotmeshref31_Valid.calls k _ _ l _ _ (Kd.C_below HR.out (by repeat (first | with_reducible (first | exact Below.refl _ _ | assumption | refine ra_drewN ?_ _ | refine ra_drew ?_ | refine ra_alloc ?_ _) | with_reducible refine ra_set ?_ _ (by (first | omega | (simp; omega)))))) HC.out HV.out).mono ?_; rintro e w2 ⟨rfl, hb⟩; have hb1 := ra_step (w := w) (by repeat (first | with_reducible (first | exact Below.refl _ _ | assumption | refine ra_drewN ?_ _ | refine ra_drew ?_ | refine ra_alloc ?_ _) | with_reducible refine ra_set ?_ _ (by (first | omega | (simp; omega))))) hb; clear hb))
      refine wp_loop_rounds 2 ?_
      rw [rounds_succ]
      go_wp2
      go_ret
      exact ⟨rfl, hb1⟩
  · have l0 : decide ((0 : Int) < (l.length : Int)) = false := decide_eq_false (by omega)
    have l1 : decide (0 < l.length) = false := decide_eq_false hl
    go_enter Tryd.func78, Tryd.ntmps78
    go_wp2_with (first
      | (go_at_call 29; refine (slotmeshref31_Valid.calls k _ _ l _ _ (Kd.C_below HR.out (by repeat (first | with_reducible (first | exact Below.refl _ _ | assumption | refine ra_drewN ?_ _ | refine ra_drew ?_ | refine ra_alloc ?_ _) | with_reducible refine ra_set ?_ _ (by (first | omega | (simp; omega)))))) HC.out HV.out).mono ?_; rintro e w2 ⟨rfl, hb⟩; have hb1 := ra_step (w := w) (by repeat (first | with_reducible (first | exact Below.refl _ _ | assumption | refine ra_drewN ?_ _ | refine ra_drew ?_ | refine ra_alloc ?_ _) | with_reducible refine ra_set ?_ _ (by (first | omega | (simp; omega))))) hb; clear hb))
    refine wp_loop_rounds 2 ?_
    rw [rounds_succ]
    go_wp2
    go_ret
    exact ⟨rfl, hb1⟩
set_option maxHeartbeats 4000000 in
theorem rtold_yes (A0 : Option Addr) (c0 : Nat) (l : List S68) (me : Int) (w : World) (hr0 : Kd.C k68 w A0 l.length l) (hc0 : l.length ≤ c0) (k : Nat)
    (hv : slotmeshref31_Valid.f k l = some true) (h4 : l.length ≤ 4) (m0 : decide (0 ≤ me) = true) (m1 : decide (me ≤ 59) = true) :
    Calls Tryd.prog 78 #[.slice A0 l.length c0, .int .i64 me] w fun e w' => ∃ v0_ : Value, e = .returned v0_ ∧ Kd.R k54 54 w' w.heap.size (fun _ => True) v0_ (l.map (wordOf me)) ∧ Below w.heap.size w w' := by
  have HV := Aside0.mk hv
  have HR := Aside0.mk hr0
  have HC := Aside0.mk hc0
  clear hv hr0 hc0
  have hu54 := Tryd.underlying54
  go_enter Tryd.func78, Tryd.ntmps78
  go_wp2_with (first
    | (go_at_call 29; refine (slotmeshref31_Valid.calls k _ _ l _ _ (Kd.C_below HR.out (by repeat (first | with_reducible (first | exact Below.refl _ _ | assumption | refine ra_drewN ?_ _ | refine ra_drew ?_ | refine ra_alloc ?_ _) | with_reducible refine ra_set ?_ _ (by (first | omega | (simp; omega)))))) HC.out HV.out).mono ?_; rintro e w2 ⟨rfl, hb⟩; have hb1 := ra_step (w := w) (by repeat (first | with_reducible (first | exact Below.refl _ _ | assumption | refine ra_drewN ?_ _ | refine ra_drew ?_ | refine ra_alloc ?_ _) | with_reducible refine ra_set ?_ _ (by (first | omega | (simp; omega))))) hb; clear hb))
  go_loopg [5, 7] l.length (fun g v5 v7 wr => ∃ j : Nat, Aside0 (g + j = l.length) ∧ v7 = .int .i64 (j : Nat) ∧ Aside0 (Kd.R k54 54 wr w.heap.size (fun _ => True) v5 ((l.take j).map (wordOf me))) ∧ Aside0 (Below w.heap.size w wr))
  case atStart => exact ⟨0, ⟨rfl⟩, rfl, ⟨Kd.R_nil _ _ _ _ _⟩, ⟨hb1⟩⟩
  case round =>
    obtain ⟨j, HJ, rfl, HO, B1⟩ := hrel
    have hl := Lib.hid (take_rd l j)
    by_cases hlt : j < l.length
    · obtain ⟨ad, ea, z0, z1, z2, z3, z4, z5⟩ := at_T68 (Kd.C_below HR.out B1.out) (j : Int) (by omega) (by omega)
      subst ea
      obtain ⟨h, hh⟩ : ∃ h, h = rd_T68 l (j : Int) := ⟨_, rfl⟩
      rw [← hh] at z0 z1 z2 z3 z4 z5
      simp only [Int.toNat_natCast] at z0 z1 z2 z3 z4 z5
      have hT := Aside0.mk (show (l.take (j + 1)).map (wordOf me) = (l.take j).map (wordOf me) ++ [wordOf me h] by rw [take_rd l j hlt, hh, List.map_append]; rfl)
      clear hh
      obtain ⟨k, hk⟩ : ∃ k, gk = k + 1 := ⟨gk - 1, by have := HJ.out; omega⟩
      subst hk
      have zb := World.block_lt_of_cell? _ _ z0
      have hsr : w.heap.size ≤ wr.heap.size := B1.out.size
      have HOe := Aside0.mk (Kd.R_elderB HO.out wr.heap.size (Nat.le_refl _))
      go_upto_region 6 with (fail)
      go_cut [8] (fun v8 wc => v8 = .pointer (some ⟨wr.heap.size, 0, none⟩) ∧ (wc.cell? ⟨wr.heap.size, 0, none⟩ = some (.int .i64 2) ∧ wc.cell? ⟨wr.heap.size, 1, none⟩ = some (.int .i64 h.f0) ∧ wc.cell? ⟨wr.heap.size, 2, none⟩ = some (.int .i64 me) ∧ wc.cell? ⟨wr.heap.size, 3, none⟩ = some (.int .i64 h.f1) ∧ wc.cell? ⟨wr.heap.size, 4, none⟩ = some (.int .i64 h.f2) ∧ wc.cell? ⟨wr.heap.size, 5, none⟩ = some (.int .i64 0) ∧ wc.cell? ⟨wr.heap.size, 6, none⟩ = some (.int .i64 0) ∧ wc.cell? ⟨wr.heap.size, 7, none⟩ = some (.int .i64 0)) ∧ (∀ o, wc.frozen? ⟨wr.heap.size, o, none⟩ = false) ∧ wr.heap.size < wc.heap.size ∧ wc.cell? ⟨(ad.add (j * 6)).block, (ad.add (j * 6)).off + 4, none⟩ = some (.bool h.f4) ∧ wc.cell? ⟨(ad.add (j * 6)).block, (ad.add (j * 6)).off + 5, none⟩ = some (.int .i64 h.f5) ∧ Aside0 (Kd.R k54 54 wc w.heap.size (fun k => True ∧ k ≠ wr.heap.size) u5 ((l.take j).map (wordOf me))) ∧ Aside0 (Below w.heap.size w wc))
      case first =>
        have q4 := fun o => Lib.cell?_alloc_some (W := wr) o z4
        have q5 := fun o => Lib.cell?_alloc_some (W := wr) o z5
        go_region_held3 (fun w' => w'.cell? (ad.add (j * 6)) = some (.int .i64 h.f0) ∧ w'.cell? ⟨(ad.add (j * 6)).block, (ad.add (j * 6)).off + 1, none⟩ = some (.int .i64 h.f1) ∧ w'.cell? ⟨(ad.add (j * 6)).block, (ad.add (j * 6)).off + 2, none⟩ = some (.int .i64 h.f2) ∧ w'.cell? ⟨(ad.add (j * 6)).block, (ad.add (j * 6)).off + 4, none⟩ = some (.bool h.f4) ∧ w'.cell? ⟨(ad.add (j * 6)).block, (ad.add (j * 6)).off + 5, none⟩ = some (.int .i64 h.f5)) (first | go_keep | (simp [go_sem, World.cell?_alloc_past]; done)) (fail)
        try go_wp2
        go_meet
        case rel => exact ⟨rfl, (by simp [go_sem]), (by intro o; simp [go_sem]), (by simp), (by simp [go_sem, q4]), (by simp [go_sem, q5]), ⟨Kd.R_drew (Kd.R_alloc HOe.out _)⟩, ⟨(by repeat (first | with_reducible (first | exact Below.refl _ _ | exact B1.out | refine ra_drewN ?_ _ | refine ra_drew ?_ | refine ra_alloc ?_ _) | with_reducible refine ra_set ?_ _ (by (first | omega | (simp; omega)))))⟩⟩
      case rest =>
       obtain ⟨rfl, ⟨b0, b1, b2, b3, b4, b5, b6, b7⟩, fz, hgz, q4, q5, HOc, B1c⟩ := hcut
       have LE : Aside0 (((l.take j).map (wordOf me)).length ≤ 4) := ⟨by simp; omega⟩
       cases hf : h.f4 with
       | true =>
         rw [hf] at q4
         have hw := Aside0.mk (show wordOf me h = (⟨3, h.f0, me, h.f1, h.f2, h.f5, (⟨0, 0⟩ : S25)⟩ : S54) by unfold wordOf; rw [if_pos hf])
         clear hf
         go_wp2_with (first | ((with_reducible refine gate_builtin (b := .append) (xs := #[.tmp 57, .tmp 59]) rfl ?_); at_builtin; refine Kd.R_append k54 (w0 := w) w.heap.size rfl (.tmp 57) (.tmp 59) 51 54 (.agg #[(.int .i64 0), (.int .i64 0), (.int .i64 0), (.int .i64 0), (.int .i64 0), (.int .i64 0), (.int .i64 0), (.int .i64 0)]) 64 rfl Tryd.underlying51 info54 rfl (by decide) (by omega) u5 ((l.take j).map (wordOf me)) ((⟨3, h.f0, me, h.f1, h.f2, h.f5, (⟨0, 0⟩ : S25)⟩ : S54)) [.int .i64 3, .int .i64 h.f0, .int .i64 me, .int .i64 h.f1, .int .i64 h.f2, .int .i64 h.f5, .int .i64 0, .int .i64 0] (fun _ => True) (fun _ => False) rfl (by first | (go_simp; done) | (go_simp; rfl)) ?aP (fun _ hk => hk.elim) ?aF ?aO ?aB ?aS ?aL ?_; (case aP => exact k54_mkM _ _ _ ((⟨3, h.f0, me, h.f1, h.f2, h.f5, (⟨0, 0⟩ : S25)⟩ : S54))); (case aB => exact (by repeat (first | with_reducible (first | exact Below.refl _ _ | exact B1c.out | refine ra_drewN ?_ _ | refine ra_drew ?_ | refine ra_alloc ?_ _) | with_reducible refine ra_set ?_ _ (by (first | omega | (simp; omega)))))); (case aF => exact (fun _ _ => trivial)); (case aO => exact (Kd.R_mono (Kd.R_far (p := ⟨wr.heap.size, 5, none⟩) (Kd.R_far (p := ⟨wr.heap.size, 0, none⟩) HOc.out (fun _ hk => hk.2) _) (fun _ hk => hk.2) _) (fun _ _ => trivial))); (case aS => exact (below_size (by repeat (first | with_reducible (first | exact Below.refl _ _ | exact B1c.out | refine ra_drewN ?_ _ | refine ra_drew ?_ | refine ra_alloc ?_ _) | with_reducible refine ra_set ?_ _ (by (first | omega | (simp; omega))))))); (case aL => (have := LE.out; omega)); intro v1 w1 ho hb hg hat; have HO1 := Aside0.mk ho; have B2 := Aside0.mk hb; clear ho hb hg hat))
         go_roundg k
         case measure => omega
         case rel => exact ⟨j + 1, ⟨by have := HJ.out; omega⟩, by go_num, ⟨by rw [hT.out, hw.out]; exact HO1.out⟩, ⟨(by repeat (first | with_reducible (first | exact Below.refl _ _ | exact B2.out | refine ra_drewN ?_ _ | refine ra_drew ?_ | refine ra_alloc ?_ _) | with_reducible refine ra_set ?_ _ (by (first | omega | (simp; omega)))))⟩⟩
       | false =>
         rw [hf] at q4
         have hw := Aside0.mk (show wordOf me h = (⟨2, h.f0, me, h.f1, h.f2, 0, (⟨0, 0⟩ : S25)⟩ : S54) by unfold wordOf; rw [if_neg (by rw [hf]; simp)])
         clear hf
         go_wp2_with (first | ((with_reducible refine gate_builtin (b := .append) (xs := #[.tmp 57, .tmp 59]) rfl ?_); at_builtin; refine Kd.R_append k54 (w0 := w) w.heap.size rfl (.tmp 57) (.tmp 59) 51 54 (.agg #[(.int .i64 0), (.int .i64 0), (.int .i64 0), (.int .i64 0), (.int .i64 0), (.int .i64 0), (.int .i64 0), (.int .i64 0)]) 64 rfl Tryd.underlying51 info54 rfl (by decide) (by omega) u5 ((l.take j).map (wordOf me)) ((⟨2, h.f0, me, h.f1, h.f2, 0, (⟨0, 0⟩ : S25)⟩ : S54)) [.int .i64 2, .int .i64 h.f0, .int .i64 me, .int .i64 h.f1, .int .i64 h.f2, .int .i64 0, .int .i64 0, .int .i64 0] (fun _ => True) (fun _ => False) rfl (by first | (go_simp; done) | (go_simp; rfl)) ?aP (fun _ hk => hk.elim) ?aF ?aO ?aB ?aS ?aL ?_; (case aP => exact k54_mkM _ _ _ ((⟨2, h.f0, me, h.f1, h.f2, 0, (⟨0, 0⟩ : S25)⟩ : S54))); (case aB => exact (by repeat (first | with_reducible (first | exact Below.refl _ _ | exact B1c.out | refine ra_drewN ?_ _ | refine ra_drew ?_ | refine ra_alloc ?_ _) | with_reducible refine ra_set ?_ _ (by (first | omega | (simp; omega)))))); (case aF => exact (fun _ _ => trivial)); (case aO => exact (Kd.R_mono HOc.out (fun _ _ => trivial))); (case aS => exact (below_size (by repeat (first | with_reducible (first | exact Below.refl _ _ | exact B1c.out | refine ra_drewN ?_ _ | refine ra_drew ?_ | refine ra_alloc ?_ _) | with_reducible refine ra_set ?_ _ (by (first | omega | (simp; omega))))))); (case aL => (have := LE.out; omega)); intro v1 w1 ho hb hg hat; have HO1 := Aside0.mk ho; have B2 := Aside0.mk hb; clear ho hb hg hat))
         go_roundg k
         case measure => omega
         case rel => exact ⟨j + 1, ⟨by have := HJ.out; omega⟩, by go_num, ⟨by rw [hT.out, hw.out]; exact HO1.out⟩, ⟨(by repeat (first | with_reducible (first | exact Below.refl _ _ | exact B2.out | refine ra_drewN ?_ _ | refine ra_drew ?_ | refine ra_alloc ?_ _) | with_reducible refine ra_set ?_ _ (by (first | omega | (simp; omega)))))⟩⟩
    · have hj : j = l.length := by have := HJ.out; omega
      subst hj
      have HO1 : Aside0 (Kd.R k54 54 wr w.heap.size (fun _ => True) u5 (l.map (wordOf me))) := ⟨by have := HO.out; rwa [List.take_length] at this⟩
      clear hlt hl HO
      go_wp2
      go_ret
      exact ⟨_, rfl, HO1.out, (by repeat (first | with_reducible (first | exact Below.refl _ _ | exact B1.out | refine ra_drewN ?_ _ | refine ra_drew ?_ | refine ra_alloc ?_ _) | with_reducible refine ra_set ?_ _ (by (first | omega | (simp; omega)))))⟩
/-- The reference's words about all elements. -/
def slotmeshref31_Told.f (l0 : List (S68)) (a1 : Int) : Option (List (S54)) :=
  if l0.length < 4611686018427387904 then some (if valid68 l0 = true ∧ 0 ≤ a1 ∧ a1 ≤ 59 then l0.map (wordOf a1) else []) else none
theorem slotmeshref31_Told.calls (A0 : Option Addr) (c0 : Nat) (l0 : List (S68)) (a1 : Int) (r : List (S54)) (w : World) (hr0 : Kd.C k68 w A0 l0.length l0) (hc0 : l0.length ≤ c0) (h : slotmeshref31_Told.f l0 a1 = some r) :
    Calls Tryd.prog 78 #[.slice A0 l0.length c0, .int .i64 a1] w fun e w' => ∃ v0_ : Value, e = .returned v0_ ∧ Kd.R k54 54 w' w.heap.size (fun _ => True) v0_ r ∧ Below w.heap.size w w' := by
  unfold slotmeshref31_Told.f at h
  by_cases hlen : l0.length < 4611686018427387904
  · rw [if_pos hlen] at h
    have none_ : ∀ (e : Ending) (w' : World), (e = .returned (.slice none 0 0) ∧ Below w.heap.size w w') → ∃ v0_ : Value, e = .returned v0_ ∧ Kd.R k54 54 w' w.heap.size (fun _ => True) v0_ ([] : List S54) ∧ Below w.heap.size w w' := fun e w' h => ⟨_, h.1, Kd.R_nil _ _ _ _ _, h.2⟩
    have hv := refValid_f l0 (2 * l0.length + 2) hlen (Nat.le_refl _)
    by_cases hx : valid68 l0 = true ∧ 0 ≤ a1 ∧ a1 ≤ 59
    · rw [if_pos hx] at h
      obtain rfl := Option.some.inj h
      rw [hx.1] at hv
      exact rtold_yes A0 c0 l0 a1 w hr0 hc0 _ hv (valid_short hx.1) (decide_eq_true hx.2.1) (decide_eq_true hx.2.2)
    · rw [if_neg hx] at h
      obtain rfl := Option.some.inj h
      refine (rtold_none A0 c0 l0 a1 (valid68 l0) w hr0 hc0 _ hv ?_).mono none_
      cases hV : valid68 l0 with
      | false => exact .inl rfl
      | true =>
        by_cases h1 : 0 ≤ a1
        · exact .inr (.inr ⟨rfl, decide_eq_true h1, decide_eq_false (fun h2 => hx ⟨hV, h1, h2⟩)⟩)
        · exact .inr (.inl ⟨rfl, decide_eq_false h1⟩)
  · rw [if_neg hlen] at h; cases h
end Go.Proofs.YtncgeclkgmfppaaDoor.H
