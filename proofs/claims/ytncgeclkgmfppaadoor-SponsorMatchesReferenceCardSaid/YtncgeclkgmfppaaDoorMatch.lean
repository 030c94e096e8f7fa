/-
  SponsorMatchesReference: its walk, true whatever the list, the node, the word and the frame.
-/
import Derived.Test.YtncgeclkgmfppaaDoorPlainMatch
import Derived.Test.YtncgeclkgmfppaaDoorH4
import Derived.Test.YtncgeclkgmfppaaDoorH10
import Derived.Test.YtncgeclkgmfppaaDoorH11
import Derived.Outline
import Derived.IntWalk
namespace Go.Proofs.YtncgeclkgmfppaaDoor.H
open Go.RowKit Go.Proofs.YtncgeclkgmfppaaDoorW.PrintWords Go.Proofs.YtncgeclkgmfppaaDoorW.PrintLast Go.Proofs.YtncgeclkgmfppaaDoorW.PrintMore
set_option linter.unusedVariables false
set_option linter.unusedSimpArgs false
set_option maxRecDepth 100000
theorem hear_rowM {α : Type} {d : Kd α} {t : Nat} {W : World} {r : List α} {code : Int} {e : Ending} {w' : World} (hh : ∃ v0_ : Value, e = .returned (.tuple #[v0_, .int .i64 code]) ∧ Kd.R d t w' W.heap.size (fun _ => True) v0_ r ∧ Below W.heap.size W w') :
    ∃ A c, e = .returned (.tuple #[.slice A r.length c, .int .i64 code]) ∧ r.length ≤ c ∧ Kd.C d w' A r.length r ∧ Below W.heap.size W w' := by
  obtain ⟨v, rfl, hR, hb⟩ := hh
  obtain ⟨A, c, rfl⟩ := Kd.R_slice hR
  obtain ⟨_, hc, hC⟩ := Kd.R_reads' hR
  exact ⟨A, c, rfl, hc, hC, hb⟩
theorem row_readM {α : Type} {d : Kd α} {t : Nat} {W : World} {e : Ending} {w' : World} {xs : List α} (hh : ∃ v0_ : Value, e = .returned v0_ ∧ Kd.R d t w' W.heap.size (fun _ => True) v0_ xs ∧ Below W.heap.size W w') :
    ∃ A c, e = .returned (.slice A xs.length c) ∧ xs.length ≤ c ∧ Kd.C d w' A xs.length xs ∧ Below W.heap.size W w' := by
  obtain ⟨v, rfl, hR, hb⟩ := hh
  obtain ⟨A, c, rfl⟩ := Kd.R_slice hR
  obtain ⟨_, hc, hC⟩ := Kd.R_reads' hR
  exact ⟨A, c, rfl, hc, hC, hb⟩
theorem rwords_len (l : List S68) (me : Int) (h : l.length ≤ 20) : ∃ t, slotmeshref31_Told.f l me = some t ∧ t.length ≤ 20 ∧ ∀ (kd : Int) (pv : Bool), (kd = 2 ∧ pv = false) ∨ (kd = 3 ∧ pv = true) → slotmeshref31_kind.f 50 t kd = some (wordsV kd me pv l) := by
  refine ⟨_, by rw [slotmeshref31_Told.f, if_pos (by omega)], by split <;> simp <;> omega, fun kd pv hk => ?_⟩
  have hl : (if valid68 l = true ∧ 0 ≤ me ∧ me ≤ 59 then l.map (wordOf me) else []).length ≤ 20 := by split <;> simp <;> omega
  have := kind_l0 kd _ (Nat.le_trans hl (by omega)) _ 0 50 [] (Nat.le_refl _) (by simp only [Nat.sub_zero]; omega) (by omega) (by simp)
  rw [List.drop_zero, rwords_f l me kd pv hk] at this
  exact this
set_option maxHeartbeats 2000000 in
theorem rwords_calls (A0 : Option Addr) (c0 : Nat) (l : List S68) (me : Int) (w : World) (hr0 : Kd.C k68 w A0 l.length l) (hc0 : l.length ≤ c0) (h : l.length ≤ 20) :
    Calls Tryd.prog 35 #[.slice A0 l.length c0, .int .i64 me] w fun e w' => ∃ v0_ : Value, e = .returned v0_ ∧ Kd.R k54 54 w' w.heap.size (fun _ => True) v0_ (wordsV 2 me false l) ∧ Below w.heap.size w w' := by
  have HR := Aside0.mk hr0
  have HC := Aside0.mk hc0
  obtain ⟨t, ht, hl, hk⟩ := rwords_len l me h
  have HT := Aside0.mk ht
  have HK := Aside0.mk (hk 2 false (.inl ⟨rfl, rfl⟩))
  clear hr0 hc0 ht hk hl h
  go_enter Tryd.func35, Tryd.ntmps35
  go_wp2_with (first
    | (go_at_call 78; refine (slotmeshref31_Told.calls _ _ l me t _ HR.out HC.out HT.out).mono ?_; rintro e w1 hh; obtain ⟨A1, n1, rfl, hn1, hC1, hb⟩ := row_readM hh; clear hh; have B1 := Aside0.mk hb; have HC1 := Aside0.mk hC1; have HN1 := Aside0.mk hn1; clear hb hC1 hn1)
    | (go_at_call 77; refine (slotmeshref31_kind.calls 50 _ _ t 2 (wordsV 2 me false l) _ HC1.out HN1.out HK.out).mono ?_; rintro e w2 ⟨v, rfl, ho, hb⟩; have HO := Aside0.mk (Kd.R_lower ho B1.out.size); have B2 := Aside0.mk (ra_step B1.out hb); clear ho hb))
  go_ret
  exact ⟨_, rfl, HO.out, B2.out⟩
set_option maxHeartbeats 2000000 in
theorem rproofs_calls (A0 : Option Addr) (c0 : Nat) (l : List S68) (me : Int) (w : World) (hr0 : Kd.C k68 w A0 l.length l) (hc0 : l.length ≤ c0) (h : l.length ≤ 20) :
    Calls Tryd.prog 37 #[.slice A0 l.length c0, .int .i64 me] w fun e w' => ∃ v0_ : Value, e = .returned v0_ ∧ Kd.R k54 54 w' w.heap.size (fun _ => True) v0_ (wordsV 3 me true l) ∧ Below w.heap.size w w' := by
  have HR := Aside0.mk hr0
  have HC := Aside0.mk hc0
  obtain ⟨t, ht, hl, hk⟩ := rwords_len l me h
  have HT := Aside0.mk ht
  have HK := Aside0.mk (hk 3 true (.inr ⟨rfl, rfl⟩))
  clear hr0 hc0 ht hk hl h
  go_enter Tryd.func37, Tryd.ntmps37
  go_wp2_with (first
    | (go_at_call 78; refine (slotmeshref31_Told.calls _ _ l me t _ HR.out HC.out HT.out).mono ?_; rintro e w1 hh; obtain ⟨A1, n1, rfl, hn1, hC1, hb⟩ := row_readM hh; clear hh; have B1 := Aside0.mk hb; have HC1 := Aside0.mk hC1; have HN1 := Aside0.mk hn1; clear hb hC1 hn1)
    | (go_at_call 77; refine (slotmeshref31_kind.calls 50 _ _ t 3 (wordsV 3 me true l) _ HC1.out HN1.out HK.out).mono ?_; rintro e w2 ⟨v, rfl, ho, hb⟩; have HO := Aside0.mk (Kd.R_lower ho B1.out.size); have B2 := Aside0.mk (ra_step B1.out hb); clear ho hb))
  go_ret
  exact ⟨_, rfl, HO.out, B2.out⟩
set_option maxHeartbeats 4000000 in
theorem match_main (A0 : Option Addr) (c0 : Nat) (l : List S68) (a1 x0 x1 x2 x3 x4 x5 x6 x7 fr : Int) (r : List S68) (c : Int) (w : World) (hG : Laid w) (hr0 : Kd.C k68 w A0 l.length l) (hc0 : l.length ≤ c0) (h20 : l.length ≤ 20)
    (hp : sponsor_Hear.f l a1 x0 x1 x2 x3 x4 x5 x6 x7 fr = some (r, c)) (hrl : r.length ≤ 20) :
    Calls Tryd.prog 5 #[.slice A0 l.length c0, .int .i64 a1, .agg #[.int .i64 x0, .int .i64 x1, .int .i64 x2, .int .i64 x3, .int .i64 x4, .int .i64 x5, .int .i64 x6, .int .i64 x7], .int .i64 fr] w fun e w' => e = .returned (.bool true) ∧ Below w.heap.size w w' := by
  have HG := Aside0.mk hG
  have HP := Aside0.mk hp
  have HRP := Aside0.mk ((rhear_f l a1 x0 x1 x2 x3 x4 x5 x6 x7 fr h20).trans hp)
  have HV := Aside0.mk (show sponsor_Valid.f 50 l = some (valid68 l) by
    obtain ⟨j, hj⟩ : ∃ j, 50 = 2 * l.length + 1 + j := ⟨49 - 2 * l.length, by omega⟩
    rw [hj]
    exact more_rounds (g := fun k => sponsor_Valid.f k l) (fun k => sponsor_Valid.mono l k) _ j _ (valid_f l (by omega)))
  have HRV := Aside0.mk (refValid_f l 50 (by omega) (by omega))
  have HS := Aside0.mk (same_self 50 r (by omega) (by omega))
  obtain ⟨le, hle⟩ : ∃ le, le = l.filter fun h => !(decide (h.f3 < fr)) := ⟨_, rfl⟩
  have hlel : le.length ≤ 20 := by rw [hle]; exact Nat.le_trans (List.length_filter_le _ _) h20
  have HE := Aside0.mk (show sponsor_Expire.f l fr = some le by rw [sponsor_Expire.f, if_pos (by omega), hle])
  have HRE := Aside0.mk (show slotmeshref31_Expire.f 50 l fr = some le by
    have := rexpire_l0 fr l (by omega) l.length 0 50 [] (by omega) (by omega) (by omega) (by simp)
    rw [hle]; exact this)
  have HSE := Aside0.mk (same_self 50 le (by omega) (by omega))
  have hwl : ∀ (kd : Int) (pv : Bool), (wordsV kd a1 pv l).length ≤ 20 := fun kd pv => by
    unfold wordsV; split
    · simp only [tellL, List.length_map]; exact Nat.le_trans (List.length_filter_le _ _) h20
    · simp
  have HW := Aside0.mk (show sponsor_Words.f 50 l a1 = some (wordsV 2 a1 false l) by unfold sponsor_Words.f; rw [told_any l a1 2 false h20]; rfl)
  have HPr := Aside0.mk (show sponsor_Proofs.f 50 l a1 = some (wordsV 3 a1 true l) by unfold sponsor_Proofs.f; rw [told_any l a1 3 true h20]; rfl)
  have HSW := Aside0.mk (samew_self 50 (wordsV 2 a1 false l) (by have := hwl 2 false; omega) (by have := hwl 2 false; omega))
  have HSP := Aside0.mk (samew_self 50 (wordsV 3 a1 true l) (by have := hwl 3 true; omega) (by have := hwl 3 true; omega))
  have H20 := Aside0.mk h20
  have HR := Aside0.mk hr0
  have HC := Aside0.mk hc0
  have d1 : decide (20 < (l.length : Int)) = false := decide_eq_false (by omega)
  have d2 : decide (20 < l.length) = false := decide_eq_false (by omega)
  clear hG hp hr0 hc0 hle hlel hwl hrl h20
  have T0 : Aside0 True := ⟨trivial⟩
  have S1 : Aside0 True := ⟨trivial⟩
  have S2 : Aside0 True := ⟨trivial⟩
  have hu54 := Tryd.underlying54
  go_enter Tryd.func5, Tryd.ntmps5
  go_wp2_with (first
    | (go_at_call 25; clear T0; refine (slotmeshlaw31_head.calls true _ (HG.out.later (by repeat (first | with_reducible (first | exact Below.refl _ _ | assumption | refine ra_drewN ?_ _ | refine ra_drew ?_ | refine ra_alloc ?_ _) | with_reducible refine ra_set ?_ _ (by (first | omega | (simp; omega)))))) rfl).mono ?_; rintro e w1 ⟨rfl, hb⟩; have hb1 := ra_step (w := w) (by repeat (first | with_reducible (first | exact Below.refl _ _ | assumption | refine ra_drewN ?_ _ | refine ra_drew ?_ | refine ra_alloc ?_ _) | with_reducible refine ra_set ?_ _ (by (first | omega | (simp; omega))))) hb; have hx1 := fun o => hb.cell (p := ⟨w.heap.size, o, none⟩) (by simp); have hf1 := fun o => hb.frozen (p := ⟨w.heap.size, o, none⟩) (by simp); have hs1 : w.heap.size + 1 ≤ w1.heap.size := (by have := hb.size; simpa using this); clear hb)
    | (go_at_call 26; refine (sponsor_Hear.calls _ _ l a1 x0 x1 x2 x3 x4 x5 x6 x7 fr r c _ (HG.out.later (by repeat (first | with_reducible (first | exact Below.refl _ _ | assumption | refine ra_drewN ?_ _ | refine ra_drew ?_ | refine ra_alloc ?_ _) | with_reducible refine ra_set ?_ _ (by (first | omega | (simp; omega)))))) (Kd.C_below HR.out (by repeat (first | with_reducible (first | exact Below.refl _ _ | assumption | refine ra_drewN ?_ _ | refine ra_drew ?_ | refine ra_alloc ?_ _) | with_reducible refine ra_set ?_ _ (by (first | omega | (simp; omega)))))) HC.out HP.out).mono ?_; rintro e w2 hh; obtain ⟨A2, n2, rfl, hn2, hC2, hb⟩ := hear_rowM hh; clear hh; replace hb1 := ra_step (w := w) (by repeat (first | with_reducible (first | exact Below.refl _ _ | assumption | refine ra_drewN ?_ _ | refine ra_drew ?_ | refine ra_alloc ?_ _) | with_reducible refine ra_set ?_ _ (by (first | omega | (simp; omega))))) hb; have hx2 := fun o => hb.cell (p := ⟨w.heap.size, o, none⟩) (by simp; omega); have e0 : w2.cell? ⟨w.heap.size, 0, none⟩ = some (.int .i64 x0) := (hx2 0).trans (by rw [hx1]; simp [go_sem]); have e1 : w2.cell? ⟨w.heap.size, 1, none⟩ = some (.int .i64 x1) := (hx2 1).trans (by rw [hx1]; simp [go_sem]); have e2 : w2.cell? ⟨w.heap.size, 2, none⟩ = some (.int .i64 x2) := (hx2 2).trans (by rw [hx1]; simp [go_sem]); have e3 : w2.cell? ⟨w.heap.size, 3, none⟩ = some (.int .i64 x3) := (hx2 3).trans (by rw [hx1]; simp [go_sem]); have e4 : w2.cell? ⟨w.heap.size, 4, none⟩ = some (.int .i64 x4) := (hx2 4).trans (by rw [hx1]; simp [go_sem]); have e5 : w2.cell? ⟨w.heap.size, 5, none⟩ = some (.int .i64 x5) := (hx2 5).trans (by rw [hx1]; simp [go_sem]); have e6 : w2.cell? ⟨w.heap.size, 6, none⟩ = some (.int .i64 x6) := (hx2 6).trans (by rw [hx1]; simp [go_sem]); have e7 : w2.cell? ⟨w.heap.size, 7, none⟩ = some (.int .i64 x7) := (hx2 7).trans (by rw [hx1]; simp [go_sem]); have HC2 := Aside0.mk hC2; have HN2 := Aside0.mk hn2; have hb2 := Below.refl w2.heap.size w2; clear hb hC2 hn2)
    | (go_at_call 27; refine (slotmeshref31_Hear.calls 300 _ _ l a1 x0 x1 x2 x3 x4 x5 x6 x7 fr r c _ (Kd.C_below HR.out (by repeat (first | with_reducible (first | exact Below.refl _ _ | assumption | refine ra_drewN ?_ _ | refine ra_drew ?_ | refine ra_alloc ?_ _) | with_reducible refine ra_set ?_ _ (by (first | omega | (simp; omega)))))) HC.out HRP.out).mono ?_; rintro e w3 hh; obtain ⟨A3, n3, rfl, hn3, hC3, hb⟩ := hear_rowM hh; clear hh; replace hb1 := ra_step (w := w) (by repeat (first | with_reducible (first | exact Below.refl _ _ | assumption | refine ra_drewN ?_ _ | refine ra_drew ?_ | refine ra_alloc ?_ _) | with_reducible refine ra_set ?_ _ (by (first | omega | (simp; omega))))) hb; replace hb2 := ra_step (w := w2) (by repeat (first | with_reducible (first | exact Below.refl _ _ | assumption | refine ra_drewN ?_ _ | refine ra_drew ?_ | refine ra_alloc ?_ _) | with_reducible refine ra_set ?_ _ (by (first | omega | (simp; omega))))) hb; have HC3 := Aside0.mk hC3; have HN3 := Aside0.mk hn3; have hb3 := Below.refl w3.heap.size w3; clear hb hC3 hn3)
    | (go_at_call 28; refine (sponsor_Valid.calls 50 _ _ l (valid68 l) _ (Kd.C_below HR.out (by repeat (first | with_reducible (first | exact Below.refl _ _ | assumption | refine ra_drewN ?_ _ | refine ra_drew ?_ | refine ra_alloc ?_ _) | with_reducible refine ra_set ?_ _ (by (first | omega | (simp; omega)))))) HC.out HV.out).mono ?_; rintro e w4 ⟨rfl, hb⟩; replace hb1 := ra_step (w := w) (by repeat (first | with_reducible (first | exact Below.refl _ _ | assumption | refine ra_drewN ?_ _ | refine ra_drew ?_ | refine ra_alloc ?_ _) | with_reducible refine ra_set ?_ _ (by (first | omega | (simp; omega))))) hb; replace hb2 := ra_step (w := w2) (by repeat (first | with_reducible (first | exact Below.refl _ _ | assumption | refine ra_drewN ?_ _ | refine ra_drew ?_ | refine ra_alloc ?_ _) | with_reducible refine ra_set ?_ _ (by (first | omega | (simp; omega))))) hb; replace hb3 := ra_step (w := w3) (by repeat (first | with_reducible (first | exact Below.refl _ _ | assumption | refine ra_drewN ?_ _ | refine ra_drew ?_ | refine ra_alloc ?_ _) | with_reducible refine ra_set ?_ _ (by (first | omega | (simp; omega))))) hb; clear hb)
    | (go_at_call 29; refine (slotmeshref31_Valid.calls 50 _ _ l (valid68 l) _ (Kd.C_below HR.out (by repeat (first | with_reducible (first | exact Below.refl _ _ | assumption | refine ra_drewN ?_ _ | refine ra_drew ?_ | refine ra_alloc ?_ _) | with_reducible refine ra_set ?_ _ (by (first | omega | (simp; omega)))))) HC.out HRV.out).mono ?_; rintro e w5 ⟨rfl, hb⟩; replace hb1 := ra_step (w := w) (by repeat (first | with_reducible (first | exact Below.refl _ _ | assumption | refine ra_drewN ?_ _ | refine ra_drew ?_ | refine ra_alloc ?_ _) | with_reducible refine ra_set ?_ _ (by (first | omega | (simp; omega))))) hb; replace hb2 := ra_step (w := w2) (by repeat (first | with_reducible (first | exact Below.refl _ _ | assumption | refine ra_drewN ?_ _ | refine ra_drew ?_ | refine ra_alloc ?_ _) | with_reducible refine ra_set ?_ _ (by (first | omega | (simp; omega))))) hb; replace hb3 := ra_step (w := w3) (by repeat (first | with_reducible (first | exact Below.refl _ _ | assumption | refine ra_drewN ?_ _ | refine ra_drew ?_ | refine ra_alloc ?_ _) | with_reducible refine ra_set ?_ _ (by (first | omega | (simp; omega))))) hb; clear hb)
    | (go_at_call 30; clear S1; refine (slotmeshref31_Same.calls 50 _ _ r _ _ r true _ (Kd.C_below HC2.out (by repeat (first | with_reducible (first | exact Below.refl _ _ | assumption | refine ra_drewN ?_ _ | refine ra_drew ?_ | refine ra_alloc ?_ _) | with_reducible refine ra_set ?_ _ (by (first | omega | (simp; omega)))))) HN2.out (Kd.C_below HC3.out (by repeat (first | with_reducible (first | exact Below.refl _ _ | assumption | refine ra_drewN ?_ _ | refine ra_drew ?_ | refine ra_alloc ?_ _) | with_reducible refine ra_set ?_ _ (by (first | omega | (simp; omega)))))) HN3.out HS.out).mono ?_; rintro e w6 ⟨rfl, hd⟩; have hb := hd.below; replace hb1 := ra_step (w := w) (by repeat (first | with_reducible (first | exact Below.refl _ _ | assumption | refine ra_drewN ?_ _ | refine ra_drew ?_ | refine ra_alloc ?_ _) | with_reducible refine ra_set ?_ _ (by (first | omega | (simp; omega))))) hb; clear hb hd hb2 hb3)
    | (go_at_call 31; refine (sponsor_Expire.calls _ _ l fr le _ (Kd.C_below HR.out (by repeat (first | with_reducible (first | exact Below.refl _ _ | assumption | refine ra_drewN ?_ _ | refine ra_drew ?_ | refine ra_alloc ?_ _) | with_reducible refine ra_set ?_ _ (by (first | omega | (simp; omega)))))) HC.out HE.out).mono ?_; rintro e w7 hh; obtain ⟨A7, n7, rfl, hn7, hC7, hb⟩ := row_readM hh; clear hh; replace hb1 := ra_step (w := w) (by repeat (first | with_reducible (first | exact Below.refl _ _ | assumption | refine ra_drewN ?_ _ | refine ra_drew ?_ | refine ra_alloc ?_ _) | with_reducible refine ra_set ?_ _ (by (first | omega | (simp; omega))))) hb; have HC7 := Aside0.mk hC7; have HN7 := Aside0.mk hn7; have hb7 := Below.refl w7.heap.size w7; clear hb hC7 hn7)
    | (go_at_call 32; refine (slotmeshref31_Expire.calls 50 _ _ l fr le _ (Kd.C_below HR.out (by repeat (first | with_reducible (first | exact Below.refl _ _ | assumption | refine ra_drewN ?_ _ | refine ra_drew ?_ | refine ra_alloc ?_ _) | with_reducible refine ra_set ?_ _ (by (first | omega | (simp; omega)))))) HC.out HRE.out).mono ?_; rintro e w8 hh; obtain ⟨A8, n8, rfl, hn8, hC8, hb⟩ := row_readM hh; clear hh; replace hb1 := ra_step (w := w) (by repeat (first | with_reducible (first | exact Below.refl _ _ | assumption | refine ra_drewN ?_ _ | refine ra_drew ?_ | refine ra_alloc ?_ _) | with_reducible refine ra_set ?_ _ (by (first | omega | (simp; omega))))) hb; replace hb7 := ra_step (w := w7) (by repeat (first | with_reducible (first | exact Below.refl _ _ | assumption | refine ra_drewN ?_ _ | refine ra_drew ?_ | refine ra_alloc ?_ _) | with_reducible refine ra_set ?_ _ (by (first | omega | (simp; omega))))) hb; have HC8 := Aside0.mk hC8; have HN8 := Aside0.mk hn8; have hb8 := Below.refl w8.heap.size w8; clear hb hC8 hn8)
    | (go_at_call 30; clear S2; refine (slotmeshref31_Same.calls 50 _ _ le _ _ le true _ (Kd.C_below HC7.out (by repeat (first | with_reducible (first | exact Below.refl _ _ | assumption | refine ra_drewN ?_ _ | refine ra_drew ?_ | refine ra_alloc ?_ _) | with_reducible refine ra_set ?_ _ (by (first | omega | (simp; omega)))))) HN7.out (Kd.C_below HC8.out (by repeat (first | with_reducible (first | exact Below.refl _ _ | assumption | refine ra_drewN ?_ _ | refine ra_drew ?_ | refine ra_alloc ?_ _) | with_reducible refine ra_set ?_ _ (by (first | omega | (simp; omega)))))) HN8.out HSE.out).mono ?_; rintro e w9 ⟨rfl, hd⟩; have hb := hd.below; replace hb1 := ra_step (w := w) (by repeat (first | with_reducible (first | exact Below.refl _ _ | assumption | refine ra_drewN ?_ _ | refine ra_drew ?_ | refine ra_alloc ?_ _) | with_reducible refine ra_set ?_ _ (by (first | omega | (simp; omega))))) hb; clear hb hd hb7 hb8)
    | (go_at_call 34; refine (sponsor_Words.calls 50 _ _ l a1 _ _ (Kd.C_below HR.out (by repeat (first | with_reducible (first | exact Below.refl _ _ | assumption | refine ra_drewN ?_ _ | refine ra_drew ?_ | refine ra_alloc ?_ _) | with_reducible refine ra_set ?_ _ (by (first | omega | (simp; omega)))))) HC.out HW.out).mono ?_; rintro e w10 hh; obtain ⟨A10, n10, rfl, hn10, hC10, hb⟩ := row_readM hh; clear hh; replace hb1 := ra_step (w := w) (by repeat (first | with_reducible (first | exact Below.refl _ _ | assumption | refine ra_drewN ?_ _ | refine ra_drew ?_ | refine ra_alloc ?_ _) | with_reducible refine ra_set ?_ _ (by (first | omega | (simp; omega))))) hb; have HC10 := Aside0.mk hC10; have HN10 := Aside0.mk hn10; have hb10 := Below.refl w10.heap.size w10; clear hb hC10 hn10)
    | (go_at_call 35; refine (rwords_calls _ _ l a1 _ (Kd.C_below HR.out (by repeat (first | with_reducible (first | exact Below.refl _ _ | assumption | refine ra_drewN ?_ _ | refine ra_drew ?_ | refine ra_alloc ?_ _) | with_reducible refine ra_set ?_ _ (by (first | omega | (simp; omega)))))) HC.out H20.out).mono ?_; rintro e w11 hh; obtain ⟨A11, n11, rfl, hn11, hC11, hb⟩ := row_readM hh; clear hh; replace hb1 := ra_step (w := w) (by repeat (first | with_reducible (first | exact Below.refl _ _ | assumption | refine ra_drewN ?_ _ | refine ra_drew ?_ | refine ra_alloc ?_ _) | with_reducible refine ra_set ?_ _ (by (first | omega | (simp; omega))))) hb; replace hb10 := ra_step (w := w10) (by repeat (first | with_reducible (first | exact Below.refl _ _ | assumption | refine ra_drewN ?_ _ | refine ra_drew ?_ | refine ra_alloc ?_ _) | with_reducible refine ra_set ?_ _ (by (first | omega | (simp; omega))))) hb; have HC11 := Aside0.mk hC11; have HN11 := Aside0.mk hn11; have hb11 := Below.refl w11.heap.size w11; clear hb hC11 hn11)
    | (go_at_call 33; refine (slotmeshref31_SameWords.calls 50 _ _ (wordsV 2 a1 false l) _ _ (wordsV 2 a1 false l) true _ (Kd.C_below HC10.out (by repeat (first | with_reducible (first | exact Below.refl _ _ | assumption | refine ra_drewN ?_ _ | refine ra_drew ?_ | refine ra_alloc ?_ _) | with_reducible refine ra_set ?_ _ (by (first | omega | (simp; omega)))))) HN10.out (Kd.C_below HC11.out (by repeat (first | with_reducible (first | exact Below.refl _ _ | assumption | refine ra_drewN ?_ _ | refine ra_drew ?_ | refine ra_alloc ?_ _) | with_reducible refine ra_set ?_ _ (by (first | omega | (simp; omega)))))) HN11.out HSW.out).mono ?_; rintro e w12 ⟨rfl, hd⟩; have hb := hd.below; replace hb1 := ra_step (w := w) (by repeat (first | with_reducible (first | exact Below.refl _ _ | assumption | refine ra_drewN ?_ _ | refine ra_drew ?_ | refine ra_alloc ?_ _) | with_reducible refine ra_set ?_ _ (by (first | omega | (simp; omega))))) hb; clear hb hd hb10 hb11 HC10 HN10 HC11 HN11)
    | (go_at_call 36; refine (sponsor_Proofs.calls 50 _ _ l a1 _ _ (Kd.C_below HR.out (by repeat (first | with_reducible (first | exact Below.refl _ _ | assumption | refine ra_drewN ?_ _ | refine ra_drew ?_ | refine ra_alloc ?_ _) | with_reducible refine ra_set ?_ _ (by (first | omega | (simp; omega)))))) HC.out HPr.out).mono ?_; rintro e w13 hh; obtain ⟨A13, n13, rfl, hn13, hC13, hb⟩ := row_readM hh; clear hh; replace hb1 := ra_step (w := w) (by repeat (first | with_reducible (first | exact Below.refl _ _ | assumption | refine ra_drewN ?_ _ | refine ra_drew ?_ | refine ra_alloc ?_ _) | with_reducible refine ra_set ?_ _ (by (first | omega | (simp; omega))))) hb; have HC13 := Aside0.mk hC13; have HN13 := Aside0.mk hn13; have hb13 := Below.refl w13.heap.size w13; clear hb hC13 hn13)
    | (go_at_call 37; refine (rproofs_calls _ _ l a1 _ (Kd.C_below HR.out (by repeat (first | with_reducible (first | exact Below.refl _ _ | assumption | refine ra_drewN ?_ _ | refine ra_drew ?_ | refine ra_alloc ?_ _) | with_reducible refine ra_set ?_ _ (by (first | omega | (simp; omega)))))) HC.out H20.out).mono ?_; rintro e w14 hh; obtain ⟨A14, n14, rfl, hn14, hC14, hb⟩ := row_readM hh; clear hh; replace hb1 := ra_step (w := w) (by repeat (first | with_reducible (first | exact Below.refl _ _ | assumption | refine ra_drewN ?_ _ | refine ra_drew ?_ | refine ra_alloc ?_ _) | with_reducible refine ra_set ?_ _ (by (first | omega | (simp; omega))))) hb; replace hb13 := ra_step (w := w13) (by repeat (first | with_reducible (first | exact Below.refl _ _ | assumption | refine ra_drewN ?_ _ | refine ra_drew ?_ | refine ra_alloc ?_ _) | with_reducible refine ra_set ?_ _ (by (first | omega | (simp; omega))))) hb; have HC14 := Aside0.mk hC14; have HN14 := Aside0.mk hn14; have hb14 := Below.refl w14.heap.size w14; clear hb hC14 hn14)
    | (go_at_call 33; refine (slotmeshref31_SameWords.calls 50 _ _ (wordsV 3 a1 true l) _ _ (wordsV 3 a1 true l) true _ (Kd.C_below HC13.out (by repeat (first | with_reducible (first | exact Below.refl _ _ | assumption | refine ra_drewN ?_ _ | refine ra_drew ?_ | refine ra_alloc ?_ _) | with_reducible refine ra_set ?_ _ (by (first | omega | (simp; omega)))))) HN13.out (Kd.C_below HC14.out (by repeat (first | with_reducible (first | exact Below.refl _ _ | assumption | refine ra_drewN ?_ _ | refine ra_drew ?_ | refine ra_alloc ?_ _) | with_reducible refine ra_set ?_ _ (by (first | omega | (simp; omega)))))) HN14.out HSP.out).mono ?_; rintro e w15 ⟨rfl, hd⟩; have hb := hd.below; replace hb1 := ra_step (w := w) (by repeat (first | with_reducible (first | exact Below.refl _ _ | assumption | refine ra_drewN ?_ _ | refine ra_drew ?_ | refine ra_alloc ?_ _) | with_reducible refine ra_set ?_ _ (by (first | omega | (simp; omega))))) hb; clear hb hd))
  go_ret
  exact ⟨rfl, hb1⟩
theorem match_up (A0 : Option Addr) (c0 : Nat) (l : List S68) (a1 x0 x1 x2 x3 x4 x5 x6 x7 fr : Int) (w : World) (hG : Laid w) (h20 : 20 < l.length) :
    Calls Tryd.prog 5 #[.slice A0 l.length c0, .int .i64 a1, .agg #[.int .i64 x0, .int .i64 x1, .int .i64 x2, .int .i64 x3, .int .i64 x4, .int .i64 x5, .int .i64 x6, .int .i64 x7], .int .i64 fr] w fun e w' => e = .returned (.bool true) ∧ Below w.heap.size w w' := by
  have HG := Aside0.mk hG
  have d1 : decide (20 < (l.length : Int)) = true := decide_eq_true (by omega)
  have d2 : decide (20 < l.length) = true := decide_eq_true (by omega)
  clear hG h20
  have T0 : Aside0 True := ⟨trivial⟩
  go_enter Tryd.func5, Tryd.ntmps5
  go_wp2_with (first | (go_at_call 25; clear T0; refine (slotmeshlaw31_head.calls true _ (HG.out.later (by repeat (first | with_reducible (first | exact Below.refl _ _ | assumption | refine ra_drewN ?_ _ | refine ra_drew ?_ | refine ra_alloc ?_ _) | with_reducible refine ra_set ?_ _ (by (first | omega | (simp; omega)))))) rfl).mono ?_; rintro e w1 ⟨rfl, hb⟩; have hb1 := ra_step (w := w) (by repeat (first | with_reducible (first | exact Below.refl _ _ | assumption | refine ra_drewN ?_ _ | refine ra_drew ?_ | refine ra_alloc ?_ _) | with_reducible refine ra_set ?_ _ (by (first | omega | (simp; omega))))) hb; have hx1 := fun o => hb.cell (p := ⟨w.heap.size, o, none⟩) (by simp); have hf1 := fun o => hb.frozen (p := ⟨w.heap.size, o, none⟩) (by simp); have hs1 : w.heap.size + 1 ≤ w1.heap.size := (by have := hb.size; simpa using this); clear hb))
  go_ret
  exact ⟨rfl, hb1⟩
theorem sponsorMatchesReference_walk (A0 : Option Addr) (c0 : Nat) (l : List S68) (a1 x0 x1 x2 x3 x4 x5 x6 x7 fr : Int) (w : World) (hG : Laid w) (hr0 : Kd.C k68 w A0 l.length l) (hc0 : l.length ≤ c0) (hb : l.length * 48 ≤ 140737488351232)
    (_ : -9223372036854775808 ≤ a1 ∧ a1 ≤ 9223372036854775807) (_ : -9223372036854775808 ≤ fr ∧ fr ≤ 9223372036854775807) :
    Calls Tryd.prog 5 #[.slice A0 l.length c0, .int .i64 a1, .agg #[.int .i64 x0, .int .i64 x1, .int .i64 x2, .int .i64 x3, .int .i64 x4, .int .i64 x5, .int .i64 x6, .int .i64 x7], .int .i64 fr] w fun e w' => e = .returned (.bool true) ∧ Below w.heap.size w w' := by
  by_cases h20 : 20 < l.length
  · exact match_up A0 c0 l a1 x0 x1 x2 x3 x4 x5 x6 x7 fr w hG h20
  · obtain ⟨⟨r, c⟩, hp⟩ := hear_total l a1 x0 x1 x2 x3 x4 x5 x6 x7 fr (by omega)
    refine match_main A0 c0 l a1 x0 x1 x2 x3 x4 x5 x6 x7 fr r c w hG hr0 hc0 (by omega) hp ?_
    by_cases hc : c = 0
    · subst hc
      have := valid_short (hear_kept hp).2.1
      omega
    · have hr : r = [] := by
        unfold sponsor_Hear.f at hp
        repeat' split at hp
        all_goals first | (cases hp; rfl) | (unfold ans68 at hp; split at hp <;> (injection hp with hp; injection hp with h1 h2; first | exact absurd h2.symm hc | exact h1.symm)) | cases hp
      rw [hr]; simp
end Go.Proofs.YtncgeclkgmfppaaDoor.H
