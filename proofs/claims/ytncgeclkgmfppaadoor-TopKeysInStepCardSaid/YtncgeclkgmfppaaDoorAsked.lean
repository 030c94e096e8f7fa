/-
  Package sponsor: what its desk does with a question and with a proof.
-/
import Derived.Test.YtncgeclkgmfppaaDoorDesk
import Derived.Deep.RegionHeld3
namespace Go.Proofs.YtncgeclkgmfppaaDoor.H
open Go.RowKit Go.Proofs.YtncgeclkgmfppaaDoorW.PrintWords Go.Proofs.YtncgeclkgmfppaaDoorW.PrintLast Go.Proofs.YtncgeclkgmfppaaDoorW.PrintMore
open Go.Maps Go.Sort Go.Shelf
set_option linter.unusedVariables false
set_option linter.unusedSimpArgs false
set_option maxRecDepth 20000
theorem look_some {b nn : Nat} {D : DataW Unit} {l : List S68} {w : World} (hown : w.ownsMap Tryd.prog 3 halfElem b nn D) (hT : Tab D l) {s : Int} (hs : 0 ≤ s ∧ s < 60) {h : S68} (hf : findH l s = some h) :
    (Instr.lookup 108 (.map (some b)) (.int .i64 s) true).run Tryd.prog w = .ok (.tuple #[.agg #[.int .i64 h.f0, .int .i64 h.f1, .int .i64 h.f2, .int .i64 h.f3, .bool h.f4, .int .i64 h.f5], .bool true]) w := by
  obtain ⟨v, ps, hrun, hv⟩ := hown.look_ok (Maps.int_keyed Tryd.underlying3) Tryd.underlying108 (zero68 _) (halfElem_mk z68) (key := .int .i64 s) (kl := .int .i64 s) (Maps.keyOf_int_mk Tryd.underlying3 (wf60 hs))
  rw [hT.at_some hf] at hv
  obtain rfl := halfElem_inv hv
  rw [hT.has, hf] at hrun
  exact hrun
theorem look_none {b nn : Nat} {D : DataW Unit} {l : List S68} {w : World} (hown : w.ownsMap Tryd.prog 3 halfElem b nn D) (hT : Tab D l) {s : Int} (hs : 0 ≤ s ∧ s < 60) (hf : findH l s = none) :
    (Instr.lookup 108 (.map (some b)) (.int .i64 s) true).run Tryd.prog w = .ok (.tuple #[.agg #[.int .i64 0, .int .i64 0, .int .i64 0, .int .i64 0, .bool false, .int .i64 0], .bool false]) w := by
  obtain ⟨v, ps, hrun, hv⟩ := hown.look_ok (Maps.int_keyed Tryd.underlying3) Tryd.underlying108 (zero68 _) (halfElem_mk z68) (key := .int .i64 s) (kl := .int .i64 s) (Maps.keyOf_int_mk Tryd.underlying3 (wf60 hs))
  rw [hT.at_none hf] at hv
  obtain rfl := halfElem_inv hv
  rw [hT.has, hf] at hrun
  exact hrun
theorem step_put {P : Program} {w : World} {ops : Array Oper} {o : Oper} {a : Act} {K : Act → World → Prop} {Q : Exit → Act → World → Prop} {E : Prop} (hgd : o.guard = none) (m x v : Operand) (t : TypeId) (hop : o.op = Op.mapUpdate t m x v)
    (k e : TypeId) (Kk : Keyed P k) (ht : P.underlying t = some (.map k e)) (R : Value → Option (DataW Unit × List MemPlace)) (b n : Nat) (D : DataW Unit)
    (hm : a.eval m = .map (some b)) (hown : w.ownsMap P k R b n D) (hn : n < maxLen) (key val : Value) (kl : Lit) (hx : a.eval x = key) (hv : a.eval v = val) (hkey : keyOf P k key = some kl)
    (d : DataW Unit) (ps : List MemPlace) (hval : R val = some (d, ps))
    (hK : ∀ w', w'.ownsMap P k R b (n + 1) (D.put kl d) → w.grownBy w' (some b) → K (a.put o.dst undef) w') :
    if Region.wanted o (yielded ops a.tmps) = true then Oper.wp P o a w K Q else E := by
  have hw : Region.wanted o (yielded ops a.tmps) = true := by simp [Region.wanted, hgd]
  rw [if_pos hw]
  obtain ⟨w', hrun, r1, r2⟩ := hown.update Kk ht hn hkey hval
  unfold Oper.wp
  simp [execOp, hop, hm, hx, hv, hrun, Result.andThen]
  exact hK w' r1 r2
/-- The number from which a challenge is drawn. -/
def seedV (x1 x2 x3 fr : Int) : Int := 1000003 * (1000003 * (64 * x2 + x1) + x3) + fr
def fresh68 (x1 x2 x3 fr : Int) : S68 := ⟨x1, x3, halfV (seedV x1 x2 x3 fr) % 1000000000, fr + 12, false, 0⟩
set_option maxHeartbeats 2000000 in
theorem asked_put_none (b nn : Nat) (D : DataW Unit) (l : List S68) (x0 x1 x2 x3 x4 x5 x6 x7 fr : Int) (w : World) (hown : w.ownsMap Tryd.prog 3 halfElem b nn D) (hT : Tab D l) (hn : nn < 1000) (hG : Laid w)
    (h1 : 0 ≤ x1 ∧ x1 < 60) (h2 : 0 ≤ x2 ∧ x2 < 60) (h3 : 0 ≤ x3 ∧ x3 ≤ 1000000000) (hfr : 0 ≤ fr ∧ fr ≤ 999999988) (hf : findH l x1 = none) (hl : l.length < 4) :
    Calls Tryd.prog 65 #[.agg #[.map (some b), .int .i64 fr], .agg #[.int .i64 x0, .int .i64 x1, .int .i64 x2, .int .i64 x3, .int .i64 x4, .int .i64 x5, .int .i64 x6, .int .i64 x7]] w fun e w' => e = .returned (.int .i64 0) ∧
      w'.ownsMap Tryd.prog 3 halfElem b (nn + 1) (D.put (.int .i64 x1) (halfD (fresh68 x1 x2 x3 fr))) ∧ w.grownBy w' (some b) := by
  have hlk := look_none (ownsMap_below hown (ra_alloc (ra_alloc (Below.refl _ _) (.cells #[.map (some b), .int .i64 fr] 110)) (.cells #[.int .i64 x0, .int .i64 x1, .int .i64 x2, .int .i64 x3, .int .i64 x4, .int .i64 x5, .int .i64 x6, .int .i64 x7] 54))) hT h1 hf
  have hlen := (ownsMap_below hown (ra_alloc (ra_alloc (ra_alloc (Below.refl _ _) (.cells #[.map (some b), .int .i64 fr] 110)) (.cells #[.int .i64 x0, .int .i64 x1, .int .i64 x2, .int .i64 x3, .int .i64 x4, .int .i64 x5, .int .i64 x6, .int .i64 x7] 54)) (.cells #[.int .i64 0, .int .i64 0, .int .i64 0, .int .i64 0, .bool false, .int .i64 0] 68))).len (t := 108) Tryd.underlying108 3
  rw [hT.size] at hlen
  have hle : (((l.length : Nat) : Int) == 4) = false := beq_eq_false_iff_ne.2 (by omega)
  have HO := Aside0.mk hown
  have HG := Aside0.mk hG
  have hbl := hown.lt
  have hmax : nn < maxLen := (by unfold maxLen; omega)
  have hkey := Maps.keyOf_int_mk Tryd.underlying3 (wf60 h1)
  clear hown hT hG hf hl
  have hwr : IntKind.i64.wrap (fr + 12) = fr + 12 := IntWalk.i64_in _ (by omega)
  go_enter Tryd.func65, Tryd.ntmps65
  go_wp2
  go_region_held3 (fun w' => w'.cell? ⟨w.heap.size, 0, none⟩ = some (.map (some b)) ∧ w'.cell? ⟨w.heap.size, 1, none⟩ = some (.int .i64 fr) ∧ w'.cell? ⟨w.heap.size + 1, 1, none⟩ = some (.int .i64 x1) ∧ w'.cell? ⟨w.heap.size + 1, 3, none⟩ = some (.int .i64 x3))
    (first
      | go_keep
      | (go_split_ands
         refine ⟨?_, ?_, ?_, ?_⟩ <;> (rw [hb1.cell (by simp <;> omega)]; assumption))
      | (go_split_ands
         refine ⟨?_, ?_, ?_, ?_⟩ <;> (rw [hg1.cell_far _ (by simp <;> omega) (by simp <;> omega)]; assumption)))
    (first
      | (go_at_call 91; refine (below_any _ _ (HG.out.later (by repeat (first | (with_reducible exact Below.refl _ _) | (with_reducible refine ra_drewN ?_ _) | (with_reducible refine ra_drew ?_) | (with_reducible refine ra_alloc ?_ _))))).mono ?_; rintro e w1 ⟨rfl, hb1⟩; have hbw : Below w.heap.size w w1 := ra_step (by repeat (first | (with_reducible exact Below.refl _ _) | (with_reducible refine ra_drewN ?_ _) | (with_reducible refine ra_drew ?_) | (with_reducible refine ra_alloc ?_ _))) hb1; have hs1 : w.heap.size + 3 ≤ w1.heap.size := (by have := hb1.size; simpa using this); obtain ⟨w2, hrun2, ho2, hg1⟩ := (ownsMap_below HO.out hbw).update (t := 108) (Maps.int_keyed Tryd.underlying3) Tryd.underlying108 hmax hkey (halfElem_mk (fresh68 x1 x2 x3 fr)); simp only [v68, fresh68, seedV] at hrun2))
  go_wp2
  go_ret
  exact ⟨rfl, ho2, (grown_of_below hbw (some b)).trans hg1⟩
set_option maxHeartbeats 2000000 in
theorem asked_put_some (b nn : Nat) (D : DataW Unit) (l : List S68) (x0 x1 x2 x3 x4 x5 x6 x7 fr : Int) (w : World) (hown : w.ownsMap Tryd.prog 3 halfElem b nn D) (hT : Tab D l) (hn : nn < 1000) (hG : Laid w)
    (h1 : 0 ≤ x1 ∧ x1 < 60) (h2 : 0 ≤ x2 ∧ x2 < 60) (h3 : 0 ≤ x3 ∧ x3 ≤ 1000000000) (hfr : 0 ≤ fr ∧ fr ≤ 999999988) (h : S68) (hf : findH l x1 = some h) (hlt : h.f1 < x3) :
    Calls Tryd.prog 65 #[.agg #[.map (some b), .int .i64 fr], .agg #[.int .i64 x0, .int .i64 x1, .int .i64 x2, .int .i64 x3, .int .i64 x4, .int .i64 x5, .int .i64 x6, .int .i64 x7]] w fun e w' => e = .returned (.int .i64 0) ∧
      w'.ownsMap Tryd.prog 3 halfElem b (nn + 1) (D.put (.int .i64 x1) (halfD (fresh68 x1 x2 x3 fr))) ∧ w.grownBy w' (some b) := by
  have hlk := look_some (ownsMap_below hown (ra_alloc (ra_alloc (Below.refl _ _) (.cells #[.map (some b), .int .i64 fr] 110)) (.cells #[.int .i64 x0, .int .i64 x1, .int .i64 x2, .int .i64 x3, .int .i64 x4, .int .i64 x5, .int .i64 x6, .int .i64 x7] 54))) hT h1 hf
  have htd : decide (x3 < h.f1) = false := decide_eq_false (by omega)
  have hte : (h.f1 == x3) = false := beq_eq_false_iff_ne.2 (by omega)
  have HO := Aside0.mk hown
  have HG := Aside0.mk hG
  have hbl := hown.lt
  have hmax : nn < maxLen := (by unfold maxLen; omega)
  have hkey := Maps.keyOf_int_mk Tryd.underlying3 (wf60 h1)
  clear hown hT hG hf hlt
  have hwr : IntKind.i64.wrap (fr + 12) = fr + 12 := IntWalk.i64_in _ (by omega)
  go_enter Tryd.func65, Tryd.ntmps65
  go_wp2
  go_region_held3 (fun w' => w'.cell? ⟨w.heap.size, 0, none⟩ = some (.map (some b)) ∧ w'.cell? ⟨w.heap.size, 1, none⟩ = some (.int .i64 fr) ∧ w'.cell? ⟨w.heap.size + 1, 1, none⟩ = some (.int .i64 x1) ∧ w'.cell? ⟨w.heap.size + 1, 3, none⟩ = some (.int .i64 x3))
    (first
      | go_keep
      | (go_split_ands
         refine ⟨?_, ?_, ?_, ?_⟩ <;> (rw [hb1.cell (by simp <;> omega)]; assumption))
      | (go_split_ands
         refine ⟨?_, ?_, ?_, ?_⟩ <;> (rw [hg1.cell_far _ (by simp <;> omega) (by simp <;> omega)]; assumption)))
    (first
      | (go_at_call 91; refine (below_any _ _ (HG.out.later (by repeat (first | (with_reducible exact Below.refl _ _) | (with_reducible refine ra_drewN ?_ _) | (with_reducible refine ra_drew ?_) | (with_reducible refine ra_alloc ?_ _))))).mono ?_; rintro e w1 ⟨rfl, hb1⟩; have hbw : Below w.heap.size w w1 := ra_step (by repeat (first | (with_reducible exact Below.refl _ _) | (with_reducible refine ra_drewN ?_ _) | (with_reducible refine ra_drew ?_) | (with_reducible refine ra_alloc ?_ _))) hb1; have hs1 : w.heap.size + 3 ≤ w1.heap.size := (by have := hb1.size; simpa using this); obtain ⟨w2, hrun2, ho2, hg1⟩ := (ownsMap_below HO.out hbw).update (t := 108) (Maps.int_keyed Tryd.underlying3) Tryd.underlying108 hmax hkey (halfElem_mk (fresh68 x1 x2 x3 fr)); simp only [v68, fresh68, seedV] at hrun2))
  go_wp2
  go_ret
  exact ⟨rfl, ho2, (grown_of_below hbw (some b)).trans hg1⟩
set_option maxHeartbeats 2000000 in
theorem asked_full (b nn : Nat) (D : DataW Unit) (l : List S68) (x0 x1 x2 x3 x4 x5 x6 x7 fr : Int) (w : World) (hown : w.ownsMap Tryd.prog 3 halfElem b nn D) (hT : Tab D l)
    (h1 : 0 ≤ x1 ∧ x1 < 60) (hf : findH l x1 = none) (hl : l.length = 4) :
    Calls Tryd.prog 65 #[.agg #[.map (some b), .int .i64 fr], .agg #[.int .i64 x0, .int .i64 x1, .int .i64 x2, .int .i64 x3, .int .i64 x4, .int .i64 x5, .int .i64 x6, .int .i64 x7]] w fun e w' => e = .returned (.int .i64 10) ∧ Below w.heap.size w w' := by
  have hlk := look_none (ownsMap_below hown (ra_alloc (ra_alloc (Below.refl _ _) (.cells #[.map (some b), .int .i64 fr] 110)) (.cells #[.int .i64 x0, .int .i64 x1, .int .i64 x2, .int .i64 x3, .int .i64 x4, .int .i64 x5, .int .i64 x6, .int .i64 x7] 54))) hT h1 hf
  have hlen := (ownsMap_below hown (ra_alloc (ra_alloc (ra_alloc (Below.refl _ _) (.cells #[.map (some b), .int .i64 fr] 110)) (.cells #[.int .i64 x0, .int .i64 x1, .int .i64 x2, .int .i64 x3, .int .i64 x4, .int .i64 x5, .int .i64 x6, .int .i64 x7] 54)) (.cells #[.int .i64 0, .int .i64 0, .int .i64 0, .int .i64 0, .bool false, .int .i64 0] 68))).len (t := 108) Tryd.underlying108 3
  rw [hT.size] at hlen
  have hle : (((l.length : Nat) : Int) == 4) = true := beq_iff_eq.2 (by omega)
  clear hown hT hf hl
  go_enter Tryd.func65, Tryd.ntmps65
  go_wp2
  go_ret
  exact ⟨rfl, by repeat (first | (with_reducible exact Below.refl _ _) | (with_reducible refine ra_drewN ?_ _) | (with_reducible refine ra_drew ?_) | (with_reducible refine ra_alloc ?_ _))⟩
set_option maxHeartbeats 2000000 in
theorem asked_old (b nn : Nat) (D : DataW Unit) (l : List S68) (x0 x1 x2 x3 x4 x5 x6 x7 fr : Int) (w : World) (hown : w.ownsMap Tryd.prog 3 halfElem b nn D) (hT : Tab D l)
    (h1 : 0 ≤ x1 ∧ x1 < 60) (h : S68) (hf : findH l x1 = some h) (hlt : x3 < h.f1) :
    Calls Tryd.prog 65 #[.agg #[.map (some b), .int .i64 fr], .agg #[.int .i64 x0, .int .i64 x1, .int .i64 x2, .int .i64 x3, .int .i64 x4, .int .i64 x5, .int .i64 x6, .int .i64 x7]] w fun e w' => e = .returned (.int .i64 14) ∧ Below w.heap.size w w' := by
  have hlk := look_some (ownsMap_below hown (ra_alloc (ra_alloc (Below.refl _ _) (.cells #[.map (some b), .int .i64 fr] 110)) (.cells #[.int .i64 x0, .int .i64 x1, .int .i64 x2, .int .i64 x3, .int .i64 x4, .int .i64 x5, .int .i64 x6, .int .i64 x7] 54))) hT h1 hf
  have htd : decide (x3 < h.f1) = true := decide_eq_true hlt
  clear hown hT hf hlt
  go_enter Tryd.func65, Tryd.ntmps65
  go_wp2
  go_ret
  exact ⟨rfl, by repeat (first | (with_reducible exact Below.refl _ _) | (with_reducible refine ra_drewN ?_ _) | (with_reducible refine ra_drew ?_) | (with_reducible refine ra_alloc ?_ _))⟩
set_option maxHeartbeats 2000000 in
theorem asked_same (b nn : Nat) (D : DataW Unit) (l : List S68) (x0 x1 x2 x3 x4 x5 x6 x7 fr : Int) (w : World) (hown : w.ownsMap Tryd.prog 3 halfElem b nn D) (hT : Tab D l)
    (h1 : 0 ≤ x1 ∧ x1 < 60) (h : S68) (hf : findH l x1 = some h) (hlt : h.f1 = x3) :
    Calls Tryd.prog 65 #[.agg #[.map (some b), .int .i64 fr], .agg #[.int .i64 x0, .int .i64 x1, .int .i64 x2, .int .i64 x3, .int .i64 x4, .int .i64 x5, .int .i64 x6, .int .i64 x7]] w fun e w' => e = .returned (.int .i64 0) ∧ Below w.heap.size w w' := by
  have hlk := look_some (ownsMap_below hown (ra_alloc (ra_alloc (Below.refl _ _) (.cells #[.map (some b), .int .i64 fr] 110)) (.cells #[.int .i64 x0, .int .i64 x1, .int .i64 x2, .int .i64 x3, .int .i64 x4, .int .i64 x5, .int .i64 x6, .int .i64 x7] 54))) hT h1 hf
  have htd : decide (x3 < h.f1) = false := decide_eq_false (by omega)
  have hte : (h.f1 == x3) = true := beq_iff_eq.2 hlt
  clear hown hT hf hlt
  go_enter Tryd.func65, Tryd.ntmps65
  go_wp2
  go_ret
  exact ⟨rfl, by repeat (first | (with_reducible exact Below.refl _ _) | (with_reducible refine ra_drewN ?_ _) | (with_reducible refine ra_drew ?_) | (with_reducible refine ra_alloc ?_ _))⟩
end Go.Proofs.YtncgeclkgmfppaaDoor.H
