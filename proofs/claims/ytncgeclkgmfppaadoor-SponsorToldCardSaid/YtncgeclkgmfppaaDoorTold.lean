/-
  SponsorTold: its walk, true whatever the list and the node.
-/
import Derived.Test.YtncgeclkgmfppaaDoorPlainTold
import Derived.Test.YtncgeclkgmfppaaDoorPlainRef
import Derived.Test.YtncgeclkgmfppaaDoorH1
import Derived.Test.YtncgeclkgmfppaaDoorH2
import Derived.Test.YtncgeclkgmfppaaDoorH11
import Derived.Test.YtncgeclkgmfppaaDoorH12
import Derived.Outline
import Derived.IntWalk
import Derived.Deep.QuietTactic
import Derived.BigQuiet
namespace Go.Proofs.YtncgeclkgmfppaaDoor.H
open Go.RowKit Go.Proofs.YtncgeclkgmfppaaDoorW.PrintWords Go.Proofs.YtncgeclkgmfppaaDoorW.PrintLast Go.Proofs.YtncgeclkgmfppaaDoorW.PrintMore
set_option linter.unusedVariables false
set_option linter.unusedSimpArgs false
set_option maxRecDepth 100000
attribute [local go_sem high] eqA68 eqA54
theorem row_read {α : Type} {d : Kd α} {t : Nat} {W : World} {e : Ending} {w' : World} {xs : List α} (hh : ∃ v0_ : Value, e = .returned v0_ ∧ Kd.R d t w' W.heap.size (fun _ => True) v0_ xs ∧ Below W.heap.size W w') :
    ∃ A c, e = .returned (.slice A xs.length c) ∧ xs.length ≤ c ∧ Kd.C d w' A xs.length xs ∧ Below W.heap.size W w' := by
  obtain ⟨v, rfl, hR, hb⟩ := hh
  obtain ⟨A, c, rfl⟩ := Kd.R_slice hR
  obtain ⟨_, hc, hC⟩ := Kd.R_reads' hR
  exact ⟨A, c, rfl, hc, hC, hb⟩
theorem rd_in {l : List S68} {j : Nat} (hj : j < l.length) : rd_T68 l (j : Int) ∈ l := by
  have : rd_T68 l (j : Int) = l[j] := by simp [rd_T68, List.getD, hj]
  rw [this]; exact List.getElem_mem hj
set_option maxHeartbeats 4000000 in
theorem told_main (A0 : Option Addr) (c0 : Nat) (l : List S68) (me : Int) (w : World) (hG : Laid w) (hr0 : Kd.C k68 w A0 l.length l) (hc0 : l.length ≤ c0)
    (hv : slotmeshref31_Valid.f 30 l = some true) (hV : valid68 l = true) (hm : 0 ≤ me ∧ me < 60) (ws ps : List S54) (hws : ws = tellL 2 me false l) (hps : ps = tellL 3 me true l) (hW : sponsor_Words.f 30 l me = some ws) (hP : sponsor_Proofs.f 30 l me = some ps) (h4 : l.length ≤ 4) :
    Calls Tryd.prog 10 #[.slice A0 l.length c0, .int .i64 me] w fun e w' => e = .returned (.bool true) ∧ Below w.heap.size w w' := by
  have HG := Aside0.mk hG
  have HV := Aside0.mk hv
  have HVV := Aside0.mk hV
  have HWS := Aside0.mk hws
  have HPS := Aside0.mk hps
  have HW := Aside0.mk hW
  have HP := Aside0.mk hP
  have HR := Aside0.mk hr0
  have HC := Aside0.mk hc0
  have m0 : decide (me < 0) = false := decide_eq_false (by omega)
  have m1 : decide (60 ≤ me) = false := decide_eq_false (by omega)
  clear hG hv hW hP hr0 hc0 hws hps hV hm
  have T0 : Aside0 True := ⟨trivial⟩
  have hu54 := Tryd.underlying54
  have hu68 := Tryd.underlying68
  go_enter Tryd.func10, Tryd.ntmps10
  go_wp2_with (first
    | (go_at_call 25; refine (slotmeshlaw31_head.calls true _ (HG.out.later (by repeat (first | (with_reducible exact Below.refl _ _) | (with_reducible assumption) | (with_reducible refine ra_drewN ?_ _) | (with_reducible refine ra_drew ?_) | (with_reducible refine ra_alloc ?_ _) | (with_reducible refine ra_set ?_ _ (by (first | omega | (simp; omega))))))) rfl).mono ?_; rintro e w1 ⟨rfl, hb⟩; have hb1 := ra_step (w := w) (by repeat (first | (with_reducible exact Below.refl _ _) | (with_reducible assumption) | (with_reducible refine ra_drewN ?_ _) | (with_reducible refine ra_drew ?_) | (with_reducible refine ra_alloc ?_ _) | (with_reducible refine ra_set ?_ _ (by (first | omega | (simp; omega)))))) hb; clear hb)
    | (go_at_call 29; refine (slotmeshref31_Valid.calls 30 _ _ l true _ (Kd.C_below HR.out (by repeat (first | (with_reducible exact Below.refl _ _) | (with_reducible assumption) | (with_reducible refine ra_drewN ?_ _) | (with_reducible refine ra_drew ?_) | (with_reducible refine ra_alloc ?_ _) | (with_reducible refine ra_set ?_ _ (by (first | omega | (simp; omega))))))) HC.out HV.out).mono ?_; rintro e w2 ⟨rfl, hb⟩; replace hb1 := ra_step (w := w) (by repeat (first | (with_reducible exact Below.refl _ _) | (with_reducible assumption) | (with_reducible refine ra_drewN ?_ _) | (with_reducible refine ra_drew ?_) | (with_reducible refine ra_alloc ?_ _) | (with_reducible refine ra_set ?_ _ (by (first | omega | (simp; omega)))))) hb; clear hb)
    | (go_at_call 34; refine (sponsor_Words.calls 30 _ _ l me ws _ (Kd.C_below HR.out (by repeat (first | (with_reducible exact Below.refl _ _) | (with_reducible assumption) | (with_reducible refine ra_drewN ?_ _) | (with_reducible refine ra_drew ?_) | (with_reducible refine ra_alloc ?_ _) | (with_reducible refine ra_set ?_ _ (by (first | omega | (simp; omega))))))) HC.out HW.out).mono ?_; rintro e w3 hh; obtain ⟨A3, n3, rfl, hn3, hC3, hb⟩ := row_read hh; clear hh; replace hb1 := ra_step (w := w) (by repeat (first | (with_reducible exact Below.refl _ _) | (with_reducible assumption) | (with_reducible refine ra_drewN ?_ _) | (with_reducible refine ra_drew ?_) | (with_reducible refine ra_alloc ?_ _) | (with_reducible refine ra_set ?_ _ (by (first | omega | (simp; omega)))))) hb; have HC3 := Aside0.mk hC3; have HN3 := Aside0.mk hn3; have hb3 := Below.refl w3.heap.size w3; clear hb hC3 hn3)
    | (go_at_call 36; refine (sponsor_Proofs.calls 30 _ _ l me ps _ (Kd.C_below HR.out (by repeat (first | (with_reducible exact Below.refl _ _) | (with_reducible assumption) | (with_reducible refine ra_drewN ?_ _) | (with_reducible refine ra_drew ?_) | (with_reducible refine ra_alloc ?_ _) | (with_reducible refine ra_set ?_ _ (by (first | omega | (simp; omega))))))) HC.out HP.out).mono ?_; rintro e w4 hh; obtain ⟨A4, n4, rfl, hn4, hC4, hb⟩ := row_read hh; clear hh; replace hb1 := ra_step (w := w) (by repeat (first | (with_reducible exact Below.refl _ _) | (with_reducible assumption) | (with_reducible refine ra_drewN ?_ _) | (with_reducible refine ra_drew ?_) | (with_reducible refine ra_alloc ?_ _) | (with_reducible refine ra_set ?_ _ (by (first | omega | (simp; omega)))))) hb; replace hb3 := ra_step (w := w3) (by repeat (first | (with_reducible exact Below.refl _ _) | (with_reducible assumption) | (with_reducible refine ra_drewN ?_ _) | (with_reducible refine ra_drew ?_) | (with_reducible refine ra_alloc ?_ _) | (with_reducible refine ra_set ?_ _ (by (first | omega | (simp; omega)))))) hb; have HC4 := Aside0.mk hC4; have HN4 := Aside0.mk hn4; have hb4 := Below.refl w4.heap.size w4; clear hb hC4 hn4))
  go_loopg [9, 10, 11] l.length (fun g v9 v10 v11 wr => ∃ j : Nat, Aside0 (g + j = l.length) ∧ v9 = .int .i64 (cnt false l j : Nat) ∧ v10 = .int .i64 (cnt true l j : Nat) ∧ v11 = .int .i64 (j : Nat) ∧ Aside0 (Below w.heap.size w wr) ∧ Aside0 (Below w3.heap.size w3 wr) ∧ Aside0 (Below w4.heap.size w4 wr))
  case atStart => exact ⟨0, ⟨rfl⟩, rfl, rfl, rfl, ⟨hb1⟩, ⟨hb3⟩, ⟨hb4⟩⟩
  case round =>
    obtain ⟨j, HJ, rfl, rfl, rfl, B1, B3, B4⟩ := hrel
    have hl := Lib.hid (take_rd l j)
    by_cases hlt : j < l.length
    · obtain ⟨ad, ea, z0, z1, z2, z3, z4, z5⟩ := at_T68 (Kd.C_below HR.out B1.out) (j : Int) (by omega) (by omega)
      subst ea
      obtain ⟨h, hh⟩ : ∃ h, h = rd_T68 l (j : Int) := ⟨_, rfl⟩
      rw [← hh] at z0 z1 z2 z3 z4 z5
      simp only [Int.toNat_natCast] at z0 z1 z2 z3 z4 z5
      obtain ⟨k, hk⟩ : ∃ k, gk = k + 1 := ⟨gk - 1, by have := HJ.out; omega⟩
      subst hk
      cases hf : h.f4 with
      | true =>
        have hq : (rd_T68 l (j : Int)).f4 = true := by rw [← hh]; exact hf
        obtain ⟨q1, q2⟩ := tell_at true 3 me l j hlt hq
        have e1 := Aside0.mk (cnt_yes true l j hlt hq)
        have e2 := Aside0.mk (cnt_no false l j hlt (by rw [hq]; simp))
        rw [← HPS.out] at q1 q2
        rw [← hh] at q2
        rw [hf] at z4
        obtain ⟨ad4, ea4, y0, y1, y2, y3, y4, y5, y6, y7⟩ := at_T54 (Kd.C_below HC4.out B4.out) (cnt true l j : Nat) (by omega) (by omega)
        subst ea4
        rw [q2] at y0 y1 y2 y3 y4 y5 y6 y7
        simp only [Int.toNat_natCast, tellW] at y0 y1 y2 y3 y4 y5 y6 y7
        have ya0 := fun o => Lib.cell?_alloc_some (W := wr) o y0
        have ya1 := fun o => Lib.cell?_alloc_some (W := wr) o y1
        have ya2 := fun o => Lib.cell?_alloc_some (W := wr) o y2
        have ya3 := fun o => Lib.cell?_alloc_some (W := wr) o y3
        have ya4 := fun o => Lib.cell?_alloc_some (W := wr) o y4
        have ya5 := fun o => Lib.cell?_alloc_some (W := wr) o y5
        have ya6 := fun o => Lib.cell?_alloc_some (W := wr) o y6
        have ya7 := fun o => Lib.cell?_alloc_some (W := wr) o y7
        clear hh hf hq q2
        have d1 : decide ((ps.length : Int) ≤ (cnt true l j : Nat)) = false := decide_eq_false (by omega)
        have d2 : decide (ps.length ≤ cnt true l j) = false := decide_eq_false (by omega)
        have cle := cnt_le true l j
        have u0 : IntKind.i64.wrap (((cnt true l j : Nat) : Int) + 1) = ((cnt true l j : Nat) : Int) + 1 := IntWalk.i64_in _ (by omega)
        go_wp2
        go_quiet (fail)
        clear u0
        go_wp2
        go_roundg k
        case measure => omega
        case rel => exact ⟨j + 1, ⟨by have := HJ.out; omega⟩, by rw [e2.out], by rw [e1.out]; go_num, by go_num, ⟨(by repeat (first | (with_reducible exact Below.refl _ _) | (with_reducible exact B1.out) | (with_reducible refine ra_drewN ?_ _) | (with_reducible refine ra_drew ?_) | (with_reducible refine ra_alloc ?_ _) | (with_reducible refine ra_set ?_ _ (by (first | omega | (simp; omega))))))⟩, ⟨(by repeat (first | (with_reducible exact Below.refl _ _) | (with_reducible exact B3.out) | (with_reducible refine ra_drewN ?_ _) | (with_reducible refine ra_drew ?_) | (with_reducible refine ra_alloc ?_ _) | (with_reducible refine ra_set ?_ _ (by (first | omega | (simp; omega))))))⟩, ⟨(by repeat (first | (with_reducible exact Below.refl _ _) | (with_reducible exact B4.out) | (with_reducible refine ra_drewN ?_ _) | (with_reducible refine ra_drew ?_) | (with_reducible refine ra_alloc ?_ _) | (with_reducible refine ra_set ?_ _ (by (first | omega | (simp; omega))))))⟩⟩
      | false =>
        have hq : (rd_T68 l (j : Int)).f4 = false := by rw [← hh]; exact hf
        obtain ⟨q1, q2⟩ := tell_at false 2 me l j hlt hq
        have e1 := Aside0.mk (cnt_yes false l j hlt hq)
        have e2 := Aside0.mk (cnt_no true l j hlt (by rw [hq]; simp))
        rw [← HWS.out] at q1 q2
        rw [← hh] at q2
        rw [hf] at z4
        obtain ⟨ad4, ea4, y0, y1, y2, y3, y4, y5, y6, y7⟩ := at_T54 (Kd.C_below HC3.out B3.out) (cnt false l j : Nat) (by omega) (by omega)
        subst ea4
        rw [q2] at y0 y1 y2 y3 y4 y5 y6 y7
        simp only [Int.toNat_natCast, tellW] at y0 y1 y2 y3 y4 y5 y6 y7
        have h50 : h.f5 = 0 := by
          have hx := ((valid_iff l).1 HVV.out).1 _ (rd_in (l := l) hlt)
          rw [← hh] at hx
          unfold half68 at hx
          simp [hf] at hx
          exact hx.2
        rw [h50] at y5
        have ya0 := fun o => Lib.cell?_alloc_some (W := wr) o y0
        have ya1 := fun o => Lib.cell?_alloc_some (W := wr) o y1
        have ya2 := fun o => Lib.cell?_alloc_some (W := wr) o y2
        have ya3 := fun o => Lib.cell?_alloc_some (W := wr) o y3
        have ya4 := fun o => Lib.cell?_alloc_some (W := wr) o y4
        have ya5 := fun o => Lib.cell?_alloc_some (W := wr) o y5
        have ya6 := fun o => Lib.cell?_alloc_some (W := wr) o y6
        have ya7 := fun o => Lib.cell?_alloc_some (W := wr) o y7
        clear hh hf hq q2 h50
        have d1 : decide ((ws.length : Int) ≤ (cnt false l j : Nat)) = false := decide_eq_false (by omega)
        have d2 : decide (ws.length ≤ cnt false l j) = false := decide_eq_false (by omega)
        have cle := cnt_le false l j
        have u0 : IntKind.i64.wrap (((cnt false l j : Nat) : Int) + 1) = ((cnt false l j : Nat) : Int) + 1 := IntWalk.i64_in _ (by omega)
        go_wp2
        go_quiet (fail)
        clear u0
        go_wp2
        go_roundg k
        case measure => omega
        case rel => exact ⟨j + 1, ⟨by have := HJ.out; omega⟩, by rw [e1.out]; go_num, by rw [e2.out], by go_num, ⟨(by repeat (first | (with_reducible exact Below.refl _ _) | (with_reducible exact B1.out) | (with_reducible refine ra_drewN ?_ _) | (with_reducible refine ra_drew ?_) | (with_reducible refine ra_alloc ?_ _) | (with_reducible refine ra_set ?_ _ (by (first | omega | (simp; omega))))))⟩, ⟨(by repeat (first | (with_reducible exact Below.refl _ _) | (with_reducible exact B3.out) | (with_reducible refine ra_drewN ?_ _) | (with_reducible refine ra_drew ?_) | (with_reducible refine ra_alloc ?_ _) | (with_reducible refine ra_set ?_ _ (by (first | omega | (simp; omega))))))⟩, ⟨(by repeat (first | (with_reducible exact Below.refl _ _) | (with_reducible exact B4.out) | (with_reducible refine ra_drewN ?_ _) | (with_reducible refine ra_drew ?_) | (with_reducible refine ra_alloc ?_ _) | (with_reducible refine ra_set ?_ _ (by (first | omega | (simp; omega))))))⟩⟩
    · have hj : j = l.length := by have := HJ.out; omega
      subst hj
      have f1 : ((cnt false l l.length : Nat) : Int) = (ws.length : Int) := by rw [cnt_all false 2 me l, ← HWS.out]
      have f2 : ((cnt true l l.length : Nat) : Int) = (ps.length : Int) := by rw [cnt_all true 3 me l, ← HPS.out]
      clear hlt hl
      go_wp2
      go_ret
      exact ⟨rfl, (by repeat (first | (with_reducible exact Below.refl _ _) | (with_reducible exact B1.out) | (with_reducible refine ra_drewN ?_ _) | (with_reducible refine ra_drew ?_) | (with_reducible refine ra_alloc ?_ _) | (with_reducible refine ra_set ?_ _ (by (first | omega | (simp; omega))))))⟩
theorem sponsorTold_up (A0 : Option Addr) (c0 : Nat) (l : List S68) (me : Int) (v : Bool) (w : World) (hG : Laid w) (hr0 : Kd.C k68 w A0 l.length l) (hc0 : l.length ≤ c0) (k : Nat)
    (hv : slotmeshref31_Valid.f k l = some v) (hx : v = false ∨ (v = true ∧ decide (me < 0) = true) ∨ (v = true ∧ decide (me < 0) = false ∧ decide (60 ≤ me) = true)) :
    Calls Tryd.prog 10 #[.slice A0 l.length c0, .int .i64 me] w fun e w' => e = .returned (.bool true) ∧ Below w.heap.size w w' := by
  have HG := Aside0.mk hG
  have HV := Aside0.mk hv
  have HR := Aside0.mk hr0
  have HC := Aside0.mk hc0
  clear hG hv hr0 hc0
  rcases hx with rfl | ⟨rfl, m0⟩ | ⟨rfl, m0, m1⟩
  all_goals
    go_enter Tryd.func10, Tryd.ntmps10
    go_wp2_with (first
      | (go_at_call 25; refine (slotmeshlaw31_head.calls true _ (HG.out.later (by repeat (first | (with_reducible exact Below.refl _ _) | (with_reducible assumption) | (with_reducible refine ra_drewN ?_ _) | (with_reducible refine ra_drew ?_) | (with_reducible refine ra_alloc ?_ _) | (with_reducible refine ra_set ?_ _ (by (first | omega | (simp; omega))))))) rfl).mono ?_; rintro e w1 ⟨rfl, hb⟩; have hb1 := ra_step (w := w) (by repeat (first | (with_reducible exact Below.refl _ _) | (with_reducible assumption) | (with_reducible refine ra_drewN ?_ _) | (with_reducible refine ra_drew ?_) | (with_reducible refine ra_alloc ?_ _) | (with_reducible refine ra_set ?_ _ (by (first | omega | (simp; omega)))))) hb; clear hb)
      | (go_at_call 29; refine (slotmeshref31_Valid.calls k _ _ l _ _ (Kd.C_below HR.out (by repeat (first | (with_reducible exact Below.refl _ _) | (with_reducible assumption) | (with_reducible refine ra_drewN ?_ _) | (with_reducible refine ra_drew ?_) | (with_reducible refine ra_alloc ?_ _) | (with_reducible refine ra_set ?_ _ (by (first | omega | (simp; omega))))))) HC.out HV.out).mono ?_; rintro e w2 ⟨rfl, hb⟩; replace hb1 := ra_step (w := w) (by repeat (first | (with_reducible exact Below.refl _ _) | (with_reducible assumption) | (with_reducible refine ra_drewN ?_ _) | (with_reducible refine ra_drew ?_) | (with_reducible refine ra_alloc ?_ _) | (with_reducible refine ra_set ?_ _ (by (first | omega | (simp; omega)))))) hb; clear hb))
    go_ret
    exact ⟨rfl, hb1⟩
theorem sponsorTold_walk (A0 : Option Addr) (c0 : Nat) (l : List S68) (me : Int) (w : World) (hG : Laid w) (hr0 : Kd.C k68 w A0 l.length l) (hc0 : l.length ≤ c0) (hb : l.length * 48 ≤ 140737488351232)
    (_ : -9223372036854775808 ≤ me ∧ me ≤ 9223372036854775807) :
    Calls Tryd.prog 10 #[.slice A0 l.length c0, .int .i64 me] w fun e w' => e = .returned (.bool true) ∧ Below w.heap.size w w' := by
  cases hV : valid68 l with
  | false => exact sponsorTold_up A0 c0 l me false w hG hr0 hc0 (2 * l.length + 2) (by rw [refValid_f l _ (by omega) (Nat.le_refl _), hV]) (.inl rfl)
  | true =>
    have h4 := valid_short hV
    have hv : slotmeshref31_Valid.f 30 l = some true := by rw [refValid_f l _ (by omega) (by omega), hV]
    by_cases m0 : me < 0
    · exact sponsorTold_up A0 c0 l me true w hG hr0 hc0 30 hv (.inr (.inl ⟨rfl, decide_eq_true m0⟩))
    · by_cases m1 : 60 ≤ me
      · exact sponsorTold_up A0 c0 l me true w hG hr0 hc0 30 hv (.inr (.inr ⟨rfl, decide_eq_false m0, decide_eq_true m1⟩))
      · exact told_main A0 c0 l me w hG hr0 hc0 hv hV (by omega) _ _ rfl rfl (words_yes 0 l me hV (by omega)) (proofs_yes 0 l me hV (by omega)) h4
end Go.Proofs.YtncgeclkgmfppaaDoor.H
