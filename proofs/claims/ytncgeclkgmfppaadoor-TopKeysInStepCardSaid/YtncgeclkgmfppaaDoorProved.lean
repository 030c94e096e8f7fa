/-
  Package sponsor: what its desk does with a proof.
-/
import Derived.Test.YtncgeclkgmfppaaDoorAsked
namespace Go.Proofs.YtncgeclkgmfppaaDoor.H
open Go.RowKit Go.Proofs.YtncgeclkgmfppaaDoorW.PrintWords Go.Proofs.YtncgeclkgmfppaaDoorW.PrintLast Go.Proofs.YtncgeclkgmfppaaDoorW.PrintMore
open Go.Maps Go.Sort Go.Shelf
set_option linter.unusedVariables false
set_option linter.unusedSimpArgs false
set_option maxRecDepth 20000
set_option maxHeartbeats 2000000 in
theorem proved_none (b nn : Nat) (D : DataW Unit) (l : List S68) (x0 x1 x2 x3 x4 x5 x6 x7 fr : Int) (w : World) (hown : w.ownsMap Tryd.prog 3 halfElem b nn D) (hT : Tab D l)
    (h1 : 0 ≤ x1 ∧ x1 < 60) (hf : findH l x1 = none) :
    Calls Tryd.prog 66 #[.agg #[.map (some b), .int .i64 fr], .agg #[.int .i64 x0, .int .i64 x1, .int .i64 x2, .int .i64 x3, .int .i64 x4, .int .i64 x5, .int .i64 x6, .int .i64 x7]] w fun e w' => e = .returned (.int .i64 4) ∧ Below w.heap.size w w' := by
  have hlk := look_none (ownsMap_below hown (ra_alloc (ra_alloc (Below.refl _ _) (.cells #[.map (some b), .int .i64 fr] 110)) (.cells #[.int .i64 x0, .int .i64 x1, .int .i64 x2, .int .i64 x3, .int .i64 x4, .int .i64 x5, .int .i64 x6, .int .i64 x7] 54))) hT h1 hf
  clear hown hT hf 
  go_enter Tryd.func66, Tryd.ntmps66
  go_wp2
  go_ret
  exact ⟨rfl, by repeat (first | (with_reducible exact Below.refl _ _) | (with_reducible refine ra_drewN ?_ _) | (with_reducible refine ra_drew ?_) | (with_reducible refine ra_alloc ?_ _))⟩
set_option maxHeartbeats 2000000 in
theorem proved_nonce (b nn : Nat) (D : DataW Unit) (l : List S68) (x0 x1 x2 x3 x4 x5 x6 x7 fr : Int) (w : World) (hown : w.ownsMap Tryd.prog 3 halfElem b nn D) (hT : Tab D l)
    (h1 : 0 ≤ x1 ∧ x1 < 60) (h : S68) (hf : findH l x1 = some h) (hne : h.f1 ≠ x3) :
    Calls Tryd.prog 66 #[.agg #[.map (some b), .int .i64 fr], .agg #[.int .i64 x0, .int .i64 x1, .int .i64 x2, .int .i64 x3, .int .i64 x4, .int .i64 x5, .int .i64 x6, .int .i64 x7]] w fun e w' => e = .returned (.int .i64 4) ∧ Below w.heap.size w w' := by
  have hlk := look_some (ownsMap_below hown (ra_alloc (ra_alloc (Below.refl _ _) (.cells #[.map (some b), .int .i64 fr] 110)) (.cells #[.int .i64 x0, .int .i64 x1, .int .i64 x2, .int .i64 x3, .int .i64 x4, .int .i64 x5, .int .i64 x6, .int .i64 x7] 54))) hT h1 hf
  have hn1 : (h.f1 != x3) = true := bne_iff_ne.2 hne
  clear hown hT hf hne
  go_enter Tryd.func66, Tryd.ntmps66
  go_wp2
  go_ret
  exact ⟨rfl, by repeat (first | (with_reducible exact Below.refl _ _) | (with_reducible refine ra_drewN ?_ _) | (with_reducible refine ra_drew ?_) | (with_reducible refine ra_alloc ?_ _))⟩
set_option maxHeartbeats 2000000 in
theorem proved_challenge (b nn : Nat) (D : DataW Unit) (l : List S68) (x0 x1 x2 x3 x4 x5 x6 x7 fr : Int) (w : World) (hown : w.ownsMap Tryd.prog 3 halfElem b nn D) (hT : Tab D l)
    (h1 : 0 ≤ x1 ∧ x1 < 60) (h : S68) (hf : findH l x1 = some h) (hne : h.f1 = x3) (hnc : h.f2 ≠ x4) :
    Calls Tryd.prog 66 #[.agg #[.map (some b), .int .i64 fr], .agg #[.int .i64 x0, .int .i64 x1, .int .i64 x2, .int .i64 x3, .int .i64 x4, .int .i64 x5, .int .i64 x6, .int .i64 x7]] w fun e w' => e = .returned (.int .i64 4) ∧ Below w.heap.size w w' := by
  have hlk := look_some (ownsMap_below hown (ra_alloc (ra_alloc (Below.refl _ _) (.cells #[.map (some b), .int .i64 fr] 110)) (.cells #[.int .i64 x0, .int .i64 x1, .int .i64 x2, .int .i64 x3, .int .i64 x4, .int .i64 x5, .int .i64 x6, .int .i64 x7] 54))) hT h1 hf
  have hn1 : (h.f1 != x3) = false := by simp [hne]
  have hn2 : (h.f2 != x4) = true := bne_iff_ne.2 hnc
  clear hown hT hf hne hnc
  go_enter Tryd.func66, Tryd.ntmps66
  go_wp2
  go_ret
  exact ⟨rfl, by repeat (first | (with_reducible exact Below.refl _ _) | (with_reducible refine ra_drewN ?_ _) | (with_reducible refine ra_drew ?_) | (with_reducible refine ra_alloc ?_ _))⟩
set_option maxHeartbeats 2000000 in
theorem proved_put (b nn : Nat) (D : DataW Unit) (l : List S68) (x0 x1 x2 x3 x4 x5 x6 x7 fr : Int) (w : World) (hown : w.ownsMap Tryd.prog 3 halfElem b nn D) (hT : Tab D l)
    (h1 : 0 ≤ x1 ∧ x1 < 60) (hn : nn < 1000) (h : S68) (hf : findH l x1 = some h) (hne : h.f1 = x3) (hnc : h.f2 = x4) :
    Calls Tryd.prog 66 #[.agg #[.map (some b), .int .i64 fr], .agg #[.int .i64 x0, .int .i64 x1, .int .i64 x2, .int .i64 x3, .int .i64 x4, .int .i64 x5, .int .i64 x6, .int .i64 x7]] w fun e w' => e = .returned (.int .i64 0) ∧ w'.ownsMap Tryd.prog 3 halfElem b (nn + 1) (D.put (.int .i64 x1) (halfD { h with f4 := true, f5 := x5 })) ∧ w.grownBy w' (some b) := by
  have hlk := look_some (ownsMap_below hown (ra_alloc (ra_alloc (Below.refl _ _) (.cells #[.map (some b), .int .i64 fr] 110)) (.cells #[.int .i64 x0, .int .i64 x1, .int .i64 x2, .int .i64 x3, .int .i64 x4, .int .i64 x5, .int .i64 x6, .int .i64 x7] 54))) hT h1 hf
  have hn1 : (h.f1 != x3) = false := by simp [hne]
  have hn2 : (h.f2 != x4) = false := by simp [hnc]
  have HO := Aside0.mk hown
  have hbl := hown.lt
  have hmax : nn < maxLen := (by unfold maxLen; omega)
  have hkey := Maps.keyOf_int_mk Tryd.underlying3 (wf60 h1)
  clear hown hT hf hne hnc
  go_enter Tryd.func66, Tryd.ntmps66
  go_wp2
  go_region_held3 (fun w' => w'.cell? ⟨w.heap.size + 1, 5, none⟩ = some (.int .i64 x5)) (first | go_keep) (fail)
  go_wp2_with (at_mapUpdate; refine wpList_mapUpdate_own _ rfl _ _ _ 108 rfl 3 68 (Maps.int_keyed Tryd.underlying3) Tryd.underlying108 halfElem b nn D rfl (ownsMap_below HO.out (ra_drew (ra_alloc (ra_alloc (ra_alloc (Below.refl _ _) _) _) _))) hmax _ _ _ rfl rfl hkey (halfD { h with f4 := true, f5 := x5 }) [] (halfElem_mk { h with f4 := true, f5 := x5 }) ?_; intro w1 ho1 hg1)
  go_ret
  exact ⟨rfl, ho1, (grown_of_below (ra_drew (ra_alloc (ra_alloc (ra_alloc (Below.refl _ _) _) _) _)) (some b)).trans hg1⟩
end Go.Proofs.YtncgeclkgmfppaaDoor.H
