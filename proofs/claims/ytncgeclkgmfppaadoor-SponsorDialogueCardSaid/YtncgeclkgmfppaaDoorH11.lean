/-
  What functions of the program compute, as plain functions, each with its contract: the call returns just that, from every memory that holds its arguments.
-/
import Derived.Test.YtncgeclkgmfppaaDoorH0
import Derived.Test.YtncgeclkgmfppaaDoorH3
import Derived.Test.YtncgeclkgmfppaaDoorH4
import Derived.Test.YtncgeclkgmfppaaDoorH7
import Derived.Test.YtncgeclkgmfppaaDoorH8
import Derived.Test.YtncgeclkgmfppaaDoorH9
import Derived.Test.YtncgeclkgmfppaaDoorH10
import Derived.IntWalk
namespace Go.Proofs.YtncgeclkgmfppaaDoor.H
open Go.RowKit Go.Proofs.YtncgeclkgmfppaaDoorW.PrintWords Go.Proofs.YtncgeclkgmfppaaDoorW.PrintLast Go.Proofs.YtncgeclkgmfppaaDoorW.PrintMore
attribute [local go_sem] max2_int min2_int max_two min_two max_three min_three max_four min_four   -- for this text's walks alone
set_option linter.unusedVariables false
set_option linter.unusedSimpArgs false

-- HAND slotmesh/slotmeshlaw31.head
/-! ### slotmeshlaw31_head: function 25 -/
set_option maxRecDepth 100000
open Go.Maps Go.Sort Go.Shelf
/-- The challenge that sponsor 2 draws for stranger 7's question 300 in frame 10. -/
def chal : Int := halfV (seedV 7 2 300 10) % 1000000000
theorem chal_range : 0 ≤ chal ∧ chal < 1000000000 := by unfold chal; omega
def open1 : List S68 := [⟨7, 300, chal, 22, false, 0⟩]
def shut1 : List S68 := [⟨7, 300, chal, 22, true, 1000007⟩]
def four1 : List S68 := [⟨0, 0, 0, 0, false, 0⟩, ⟨1, 0, 0, 0, false, 0⟩, ⟨3, 0, 0, 0, false, 0⟩, ⟨4, 0, 0, 0, false, 0⟩]
theorem sortH_one (h : S68) : sortH [h] = [h] := by simp [sortH, findH]
theorem fit_one {b : Bool} {k : Int} (hk : 0 ≤ k ∧ k ≤ 2000000) (hb : b = true ∨ k = 0) (x0 x3 x4 x5 fr : Int) (h0 : 1 ≤ x0 ∧ x0 ≤ 4) (h3 : 0 ≤ x3 ∧ x3 ≤ 1000000000) (h4 : 0 ≤ x4 ∧ x4 ≤ 1000000000) (h5 : 0 ≤ x5 ∧ x5 ≤ 2000000) (hf : 0 ≤ fr ∧ fr ≤ 999999988) :
    fit68 [⟨7, 300, chal, 22, b, k⟩] 2 x0 7 2 x3 x4 x5 fr = true := by
  have := chal_range
  have e : (b || decide (k = 0)) = true := by rcases hb with rfl | rfl <;> simp
  simp [fit68, valid68, rising, half68, word68, e]
  omega
theorem ev1 : sponsor_Hear.f [] 2 1 7 2 300 0 0 0 0 10 = some (open1, 0) := by
  simp [sponsor_Hear.f, fit68, valid68, rising, word68, askedF, findH, upd, ans68, sortH_one, fresh68, open1, chal]
theorem ev2 : sponsor_Hear.f open1 2 1 7 2 300 0 0 0 0 15 = some (open1, 0) := by
  have h := fit_one (b := false) (k := 0) (by omega) (.inr rfl) 1 300 0 0 15 (by omega) (by omega) (by omega) (by omega) (by omega)
  unfold sponsor_Hear.f open1
  rw [if_pos h, if_pos rfl]
  simp [askedF, findH, ans68, sortH_one]
theorem ev3 : sponsor_Hear.f open1 2 1 7 2 299 0 0 0 0 15 = some ([], 14) := by
  have h := fit_one (b := false) (k := 0) (by omega) (.inr rfl) 1 299 0 0 15 (by omega) (by omega) (by omega) (by omega) (by omega)
  unfold sponsor_Hear.f open1
  rw [if_pos h, if_pos rfl]
  simp [askedF, findH, ans68]
theorem ev4 : sponsor_Hear.f four1 2 1 7 2 300 0 0 0 0 10 = some ([], 10) := by
  simp [sponsor_Hear.f, fit68, valid68, rising, half68, word68, askedF, findH, ans68, four1]
theorem ev5 : sponsor_Hear.f open1 2 3 7 2 300 chal 1000007 0 0 12 = some (shut1, 0) := by
  have := chal_range
  have h := fit_one (b := false) (k := 0) (by omega) (.inr rfl) 3 300 chal 1000007 12 (by omega) (by omega) (by omega) (by omega) (by omega)
  unfold sponsor_Hear.f open1
  rw [if_pos h, if_neg (by decide), if_pos rfl]
  simp [provedF, findH, ans68, upd, sortH_one, shut1]
theorem ev6 : sponsor_Hear.f open1 2 3 7 2 300 ((chal + 1) % 1000000000) 1000007 0 0 12 = some ([], 4) := by
  have hr := chal_range
  have hne : chal ≠ (chal + 1) % 1000000000 := by omega
  have h := fit_one (b := false) (k := 0) (by omega) (.inr rfl) 3 300 ((chal + 1) % 1000000000) 1000007 12 (by omega) (by omega) (by omega) (by omega) (by omega)
  unfold sponsor_Hear.f open1
  rw [if_pos h, if_neg (by decide), if_pos rfl]
  simp [provedF, findH, ans68, hne]
theorem ev7 : sponsor_Hear.f open1 3 3 7 2 300 ((chal + 1) % 1000000000) 1000007 0 0 12 = some ([], 1) := by
  unfold sponsor_Hear.f
  rw [if_neg (by simp [fit68])]
  simp [open1]
theorem ev8 : slotmeshref31_Same.f 3 open1 open1 = some true := by
  simp [slotmeshref31_Same.f, slotmeshref31_Same.l0, open1, wrap64, rd_T68]
theorem ev9 : sponsor_Expire.f shut1 22 = some shut1 := by simp [sponsor_Expire.f, shut1]
theorem ev10 : sponsor_Expire.f shut1 23 = some [] := by simp [sponsor_Expire.f, shut1]
theorem ev11 : sponsor_Words.f 3 open1 2 = some [⟨2, 7, 2, 300, chal, 0, ⟨0, 0⟩⟩] := by
  have := chal_range
  have hv : sponsor_Valid.f 3 open1 = some true := (valid_f open1 (by simp [open1])).trans (by simp [open1, valid68, rising, half68]; omega)
  simp [sponsor_Words.f, sponsor_told.f, hv, sponsor_isNode.f, in_f, sponsor_told.j0, sponsor_told.l0]
  simp [open1, wrap64, rd_T68]
theorem ev12 : sponsor_Proofs.f 3 open1 2 = some [] := by
  have := chal_range
  have hv : sponsor_Valid.f 3 open1 = some true := (valid_f open1 (by simp [open1])).trans (by simp [open1, valid68, rising, half68]; omega)
  simp [sponsor_Proofs.f, sponsor_told.f, hv, sponsor_isNode.f, in_f, sponsor_told.j0, sponsor_told.l0]
  simp [open1, wrap64, rd_T68]
theorem ev13 : sponsor_Proofs.f 3 shut1 2 = some [⟨3, 7, 2, 300, chal, 1000007, ⟨0, 0⟩⟩] := by
  have := chal_range
  have hv : sponsor_Valid.f 3 shut1 = some true := (valid_f shut1 (by simp [shut1])).trans (by simp [shut1, valid68, rising, half68]; omega)
  simp [sponsor_Proofs.f, sponsor_told.f, hv, sponsor_isNode.f, in_f, sponsor_told.j0, sponsor_told.l0]
  simp [shut1, wrap64, rd_T68]

/-- What a call of Hear hands back, where its list has one element. -/
theorem hear_one {W : World} {h : S68} {code : Int} {e : Ending} {w' : World} (hh : ∃ v0_ : Value, e = .returned (.tuple #[v0_, .int .i64 code]) ∧ Kd.R k68 68 w' W.heap.size (fun _ => True) v0_ [h] ∧ Below W.heap.size W w') :
    ∃ g c, e = .returned (.tuple #[.slice (some ⟨g, 0, none⟩) 1 c, .int .i64 code]) ∧ 1 ≤ c ∧ (W.heap.size ≤ g ∧ g < w'.heap.size) ∧ Kd.C k68 w' (some ⟨g, 0, none⟩) 1 [h] ∧ (w'.cell? ⟨g, 0, none⟩ = some (.int .i64 h.f0) ∧ w'.cell? ⟨g, 1, none⟩ = some (.int .i64 h.f1) ∧ w'.cell? ⟨g, 2, none⟩ = some (.int .i64 h.f2) ∧ w'.cell? ⟨g, 3, none⟩ = some (.int .i64 h.f3) ∧ w'.cell? ⟨g, 4, none⟩ = some (.bool h.f4) ∧ w'.cell? ⟨g, 5, none⟩ = some (.int .i64 h.f5)) ∧ Below W.heap.size W w' := by
  obtain ⟨v, rfl, hR, hb⟩ := hh
  rcases R_forms hR with ⟨rfl, h0⟩ | ⟨g, c, rfl, hg⟩
  · cases h0
  · obtain ⟨_, hc, hC⟩ := Kd.R_reads' hR
    obtain ⟨c0, c1, c2, c3, c4, c5⟩ := cells68 (xs := [h]) (n := 1) hC 0 (by omega)
    exact ⟨g, c, rfl, hc, ⟨hg, World.block_lt_of_cell? _ _ c0⟩, hC, ⟨c0, c1, c2, c3, c4, c5⟩, hb⟩
theorem hear_nil {W : World} {code : Int} {e : Ending} {w' : World} (hh : ∃ v0_ : Value, e = .returned (.tuple #[v0_, .int .i64 code]) ∧ Kd.R k68 68 w' W.heap.size (fun _ => True) v0_ [] ∧ Below W.heap.size W w') :
    ∃ v, e = .returned (.tuple #[v, .int .i64 code]) ∧ Below W.heap.size W w' := by
  obtain ⟨v, rfl, hR, hb⟩ := hh
  exact ⟨v, rfl, hb⟩
theorem row_len {α : Type} {d : Kd α} {t : Nat} {W : World} {e : Ending} {w' : World} {xs : List α} {n : Nat} (hn : xs.length = n) (hh : ∃ v0_ : Value, e = .returned v0_ ∧ Kd.R d t w' W.heap.size (fun _ => True) v0_ xs ∧ Below W.heap.size W w') :
    ∃ A c, e = .returned (.slice A n c) ∧ Below W.heap.size W w' := by
  obtain ⟨v, rfl, hR, hb⟩ := hh
  obtain ⟨A, c, rfl⟩ := Kd.R_slice hR
  exact ⟨A, c, by rw [hn], hb⟩
theorem headHear1 (W : World) (hG : Laid W) :
    Calls Tryd.prog 26 #[.slice none 0 0, .int .i64 2, .agg #[.int .i64 1, .int .i64 7, .int .i64 2, .int .i64 300, .int .i64 0, .int .i64 0, .int .i64 0, .int .i64 0], .int .i64 10] W fun e w' => ∃ g c, e = .returned (.tuple #[.slice (some ⟨g, 0, none⟩) 1 c, .int .i64 0]) ∧ 1 ≤ c ∧ (W.heap.size ≤ g ∧ g < w'.heap.size) ∧ Kd.C k68 w' (some ⟨g, 0, none⟩) 1 open1 ∧ (w'.cell? ⟨g, 0, none⟩ = some (.int .i64 7) ∧ w'.cell? ⟨g, 1, none⟩ = some (.int .i64 300) ∧ w'.cell? ⟨g, 2, none⟩ = some (.int .i64 chal) ∧ w'.cell? ⟨g, 3, none⟩ = some (.int .i64 22) ∧ w'.cell? ⟨g, 4, none⟩ = some (.bool false) ∧ w'.cell? ⟨g, 5, none⟩ = some (.int .i64 0)) ∧ Below W.heap.size W w' :=
  (sponsor_Hear.calls none 0 [] 2 1 7 2 300 0 0 0 0 10 open1 0 W hG (Kd.C_nil _ _) (Nat.le_refl _) ev1).mono fun e w' h => hear_one h
theorem headHear2 (W : World) (hG : Laid W) (g c : Nat) (hc : 1 ≤ c) (hC : Kd.C k68 W (some ⟨g, 0, none⟩) 1 open1) :
    Calls Tryd.prog 26 #[.slice (some ⟨g, 0, none⟩) 1 c, .int .i64 2, .agg #[.int .i64 1, .int .i64 7, .int .i64 2, .int .i64 300, .int .i64 0, .int .i64 0, .int .i64 0, .int .i64 0], .int .i64 15] W fun e w' => ∃ g c, e = .returned (.tuple #[.slice (some ⟨g, 0, none⟩) 1 c, .int .i64 0]) ∧ 1 ≤ c ∧ (W.heap.size ≤ g ∧ g < w'.heap.size) ∧ Kd.C k68 w' (some ⟨g, 0, none⟩) 1 open1 ∧ (w'.cell? ⟨g, 0, none⟩ = some (.int .i64 7) ∧ w'.cell? ⟨g, 1, none⟩ = some (.int .i64 300) ∧ w'.cell? ⟨g, 2, none⟩ = some (.int .i64 chal) ∧ w'.cell? ⟨g, 3, none⟩ = some (.int .i64 22) ∧ w'.cell? ⟨g, 4, none⟩ = some (.bool false) ∧ w'.cell? ⟨g, 5, none⟩ = some (.int .i64 0)) ∧ Below W.heap.size W w' :=
  (sponsor_Hear.calls (some ⟨g, 0, none⟩) c open1 2 1 7 2 300 0 0 0 0 15 open1 0 W hG hC hc ev2).mono fun e w' h => hear_one h
theorem headHear3 (W : World) (hG : Laid W) (g c : Nat) (hc : 1 ≤ c) (hC : Kd.C k68 W (some ⟨g, 0, none⟩) 1 open1) :
    Calls Tryd.prog 26 #[.slice (some ⟨g, 0, none⟩) 1 c, .int .i64 2, .agg #[.int .i64 1, .int .i64 7, .int .i64 2, .int .i64 299, .int .i64 0, .int .i64 0, .int .i64 0, .int .i64 0], .int .i64 15] W fun e w' => ∃ v, e = .returned (.tuple #[v, .int .i64 14]) ∧ Below W.heap.size W w' :=
  (sponsor_Hear.calls (some ⟨g, 0, none⟩) c open1 2 1 7 2 299 0 0 0 0 15 [] 14 W hG hC hc ev3).mono fun e w' h => hear_nil h
theorem headHear4 (W : World) (hG : Laid W) (g c : Nat) (hc : 4 ≤ c) (hC : Kd.C k68 W (some ⟨g, 0, none⟩) 4 four1) :
    Calls Tryd.prog 26 #[.slice (some ⟨g, 0, none⟩) 4 c, .int .i64 2, .agg #[.int .i64 1, .int .i64 7, .int .i64 2, .int .i64 300, .int .i64 0, .int .i64 0, .int .i64 0, .int .i64 0], .int .i64 10] W fun e w' => ∃ v, e = .returned (.tuple #[v, .int .i64 10]) ∧ Below W.heap.size W w' :=
  (sponsor_Hear.calls (some ⟨g, 0, none⟩) c four1 2 1 7 2 300 0 0 0 0 10 [] 10 W hG hC hc ev4).mono fun e w' h => hear_nil h
theorem headHear5 (W : World) (hG : Laid W) (g c : Nat) (hc : 1 ≤ c) (hC : Kd.C k68 W (some ⟨g, 0, none⟩) 1 open1) :
    Calls Tryd.prog 26 #[.slice (some ⟨g, 0, none⟩) 1 c, .int .i64 2, .agg #[.int .i64 3, .int .i64 7, .int .i64 2, .int .i64 300, .int .i64 chal, .int .i64 1000007, .int .i64 0, .int .i64 0], .int .i64 12] W fun e w' => ∃ g c, e = .returned (.tuple #[.slice (some ⟨g, 0, none⟩) 1 c, .int .i64 0]) ∧ 1 ≤ c ∧ (W.heap.size ≤ g ∧ g < w'.heap.size) ∧ Kd.C k68 w' (some ⟨g, 0, none⟩) 1 shut1 ∧ (w'.cell? ⟨g, 0, none⟩ = some (.int .i64 7) ∧ w'.cell? ⟨g, 1, none⟩ = some (.int .i64 300) ∧ w'.cell? ⟨g, 2, none⟩ = some (.int .i64 chal) ∧ w'.cell? ⟨g, 3, none⟩ = some (.int .i64 22) ∧ w'.cell? ⟨g, 4, none⟩ = some (.bool true) ∧ w'.cell? ⟨g, 5, none⟩ = some (.int .i64 1000007)) ∧ Below W.heap.size W w' :=
  (sponsor_Hear.calls (some ⟨g, 0, none⟩) c open1 2 3 7 2 300 chal 1000007 0 0 12 shut1 0 W hG hC hc ev5).mono fun e w' h => hear_one h
theorem headHear6 (W : World) (hG : Laid W) (g c : Nat) (hc : 1 ≤ c) (hC : Kd.C k68 W (some ⟨g, 0, none⟩) 1 open1) :
    Calls Tryd.prog 26 #[.slice (some ⟨g, 0, none⟩) 1 c, .int .i64 2, .agg #[.int .i64 3, .int .i64 7, .int .i64 2, .int .i64 300, .int .i64 ((chal + 1) % 1000000000), .int .i64 1000007, .int .i64 0, .int .i64 0], .int .i64 12] W fun e w' => ∃ v, e = .returned (.tuple #[v, .int .i64 4]) ∧ Below W.heap.size W w' :=
  (sponsor_Hear.calls (some ⟨g, 0, none⟩) c open1 2 3 7 2 300 ((chal + 1) % 1000000000) 1000007 0 0 12 [] 4 W hG hC hc ev6).mono fun e w' h => hear_nil h
theorem headHear7 (W : World) (hG : Laid W) (g c : Nat) (hc : 1 ≤ c) (hC : Kd.C k68 W (some ⟨g, 0, none⟩) 1 open1) :
    Calls Tryd.prog 26 #[.slice (some ⟨g, 0, none⟩) 1 c, .int .i64 3, .agg #[.int .i64 3, .int .i64 7, .int .i64 2, .int .i64 300, .int .i64 ((chal + 1) % 1000000000), .int .i64 1000007, .int .i64 0, .int .i64 0], .int .i64 12] W fun e w' => ∃ v, e = .returned (.tuple #[v, .int .i64 1]) ∧ Below W.heap.size W w' :=
  (sponsor_Hear.calls (some ⟨g, 0, none⟩) c open1 3 3 7 2 300 ((chal + 1) % 1000000000) 1000007 0 0 12 [] 1 W hG hC hc ev7).mono fun e w' h => hear_nil h
theorem four_C (W : World) : Kd.C k68 (W.alloc (.cells #[.int .i64 0, .int .i64 0, .int .i64 0, .int .i64 0, .bool false, .int .i64 0, .int .i64 1, .int .i64 0, .int .i64 0, .int .i64 0, .bool false, .int .i64 0, .int .i64 3, .int .i64 0, .int .i64 0, .int .i64 0, .bool false, .int .i64 0, .int .i64 4, .int .i64 0, .int .i64 0, .int .i64 0, .bool false, .int .i64 0] 68)) (some ⟨W.heap.size, 0, none⟩) 4 four1 := by
  have hR : Kd.R k68 68 (W.alloc (.cells #[.int .i64 0, .int .i64 0, .int .i64 0, .int .i64 0, .bool false, .int .i64 0, .int .i64 1, .int .i64 0, .int .i64 0, .int .i64 0, .bool false, .int .i64 0, .int .i64 3, .int .i64 0, .int .i64 0, .int .i64 0, .bool false, .int .i64 0, .int .i64 4, .int .i64 0, .int .i64 0, .int .i64 0, .bool false, .int .i64 0] 68)) W.heap.size (fun _ => True) (.slice (some ⟨W.heap.size, 0, none⟩) 4 4) four1 := ⟨fun _ _ => trivial, [.int .i64 0, .int .i64 0, .int .i64 0, .int .i64 0, .bool false, .int .i64 0, .int .i64 1, .int .i64 0, .int .i64 0, .int .i64 0, .bool false, .int .i64 0, .int .i64 3, .int .i64 0, .int .i64 0, .int .i64 0, .bool false, .int .i64 0, .int .i64 4, .int .i64 0, .int .i64 0, .int .i64 0, .bool false, .int .i64 0], ⟨rfl, .inr ⟨W.heap.size, 4, #[.int .i64 0, .int .i64 0, .int .i64 0, .int .i64 0, .bool false, .int .i64 0, .int .i64 1, .int .i64 0, .int .i64 0, .int .i64 0, .bool false, .int .i64 0, .int .i64 3, .int .i64 0, .int .i64 0, .int .i64 0, .bool false, .int .i64 0, .int .i64 4, .int .i64 0, .int .i64 0, .int .i64 0, .bool false, .int .i64 0], rfl, Nat.le_refl _, blk_new _ _, Nat.le_refl _, by decide, rfl, rfl⟩⟩, Reps.c6 (show Kd.M k68 _ _ _ (⟨0, 0, 0, 0, false, 0⟩ : S68) [.int .i64 0, .int .i64 0, .int .i64 0, .int .i64 0, .bool false, .int .i64 0] from (k68_mkM _ _ _ (⟨0, 0, 0, 0, false, 0⟩ : S68))) (Reps.c6 (show Kd.M k68 _ _ _ (⟨1, 0, 0, 0, false, 0⟩ : S68) [.int .i64 1, .int .i64 0, .int .i64 0, .int .i64 0, .bool false, .int .i64 0] from (k68_mkM _ _ _ (⟨1, 0, 0, 0, false, 0⟩ : S68))) (Reps.c6 (show Kd.M k68 _ _ _ (⟨3, 0, 0, 0, false, 0⟩ : S68) [.int .i64 3, .int .i64 0, .int .i64 0, .int .i64 0, .bool false, .int .i64 0] from (k68_mkM _ _ _ (⟨3, 0, 0, 0, false, 0⟩ : S68))) (Reps.c6 (show Kd.M k68 _ _ _ (⟨4, 0, 0, 0, false, 0⟩ : S68) [.int .i64 4, .int .i64 0, .int .i64 0, .int .i64 0, .bool false, .int .i64 0] from (k68_mkM _ _ _ (⟨4, 0, 0, 0, false, 0⟩ : S68))) (Reps.none _ _))))⟩
  exact (Kd.R_reads' hR).2.2
theorem set_far {W : World} {b o g i : Nat} {v u : Value} (hne : g ≠ b) (h : W.cell? ⟨g, i, none⟩ = some u) : (W.setCell ⟨b, o, none⟩ v).cell? ⟨g, i, none⟩ = some u := by
  have hb : (W.setCell ⟨b, o, none⟩ v).heap[g]? = W.heap[g]? := Below.heap_setCell _ _ _ _ (by simpa using hne)
  simp only [World.cell?] at h ⊢
  rw [hb]; exact h
theorem one_C {W : World} {g : Nat} {h : S68} (c0 : W.cell? ⟨g, 0, none⟩ = some (.int .i64 h.f0)) (c1 : W.cell? ⟨g, 1, none⟩ = some (.int .i64 h.f1)) (c2 : W.cell? ⟨g, 2, none⟩ = some (.int .i64 h.f2)) (c3 : W.cell? ⟨g, 3, none⟩ = some (.int .i64 h.f3)) (c4 : W.cell? ⟨g, 4, none⟩ = some (.bool h.f4)) (c5 : W.cell? ⟨g, 5, none⟩ = some (.int .i64 h.f5)) : Kd.C k68 W (some ⟨g, 0, none⟩) 1 [h] := by
  refine ⟨rfl, by omega, fun _ => ⟨⟨g, 0, none⟩, rfl, fun j p hj => ?_⟩⟩
  cases j with
  | succ j => simp at hj
  | zero =>
    simp at hj
    subst hj
    refine ⟨_, rfl, k68_mk W h, fun i u hu => ?_⟩
    rcases i with _ | _ | _ | _ | _ | _ | i
    · cases hu; exact c0
    · cases hu; exact c1
    · cases hu; exact c2
    · cases hu; exact c3
    · cases hu; exact c4
    · cases hu; exact c5
    · simp at hu
theorem chal_next : Int.tmod (chal + 1) 1000000000 = (chal + 1) % 1000000000 := Int.tmod_eq_emod_of_nonneg (by have := chal_range; omega)
def slotmeshlaw31_head.f : Option Bool := some true
set_option maxHeartbeats 8000000 in
theorem slotmeshlaw31_head.calls (r : Bool) (w : World) (hG : Laid w) (h : slotmeshlaw31_head.f = some r) :
    Calls Tryd.prog 25 #[] w fun e w' => e = .returned (.bool r) ∧ Below w.heap.size w w' := by
  obtain rfl : true = r := Option.some.inj h
  have HG := Aside0.mk hG
  clear hG h
  have T0 : Aside0 True := ⟨trivial⟩
  have T1 : Aside0 True := ⟨trivial⟩
  have T2 : Aside0 True := ⟨trivial⟩
  have T3 : Aside0 True := ⟨trivial⟩
  have T4 : Aside0 True := ⟨trivial⟩
  have T5 : Aside0 True := ⟨trivial⟩
  have T6 : Aside0 True := ⟨trivial⟩
  have T7 : Aside0 True := ⟨trivial⟩
  have T8 : Aside0 True := ⟨trivial⟩
  have T9 : Aside0 True := ⟨trivial⟩
  have T10 : Aside0 True := ⟨trivial⟩
  have T11 : Aside0 True := ⟨trivial⟩
  have T12 : Aside0 True := ⟨trivial⟩
  have T13 : Aside0 True := ⟨trivial⟩
  have T14 : Aside0 True := ⟨trivial⟩
  have T15 : Aside0 True := ⟨trivial⟩
  have T16 : Aside0 True := ⟨trivial⟩
  have T17 : Aside0 True := ⟨trivial⟩
  have T18 : Aside0 True := ⟨trivial⟩
  have T19 : Aside0 True := ⟨trivial⟩
  have T20 : Aside0 True := ⟨trivial⟩
  have T21 : Aside0 True := ⟨trivial⟩
  have T22 : Aside0 True := ⟨trivial⟩
  have T23 : Aside0 True := ⟨trivial⟩
  have T24 : Aside0 True := ⟨trivial⟩
  have T25 : Aside0 True := ⟨trivial⟩
  have T26 : Aside0 True := ⟨trivial⟩
  have T27 : Aside0 True := ⟨trivial⟩
  have T28 : Aside0 True := ⟨trivial⟩
  have T29 : Aside0 True := ⟨trivial⟩
  have hcn : Int.tmod (wrap64 (chal + 1)) 1000000000 = (chal + 1) % 1000000000 := (by rw [IntWalk.wrap64_in _ (by have := chal_range; omega)]; exact chal_next)
  go_enter Tryd.func25, Tryd.ntmps25
  go_wp2_with (first
    | (go_at_call 62; clear T0; refine (slotmeshlaw31_ask.calls 7 300 1 7 2 300 0 0 0 0 _ rfl).mono ?_; rintro e w1 ⟨rfl, hbw⟩)
    | (go_at_call 26; clear T1; refine (headHear1 _ (HG.out.later hbw)).mono ?_; rintro e w2 ⟨g, c, rfl, hc, ⟨hgl, hg⟩, hC, ⟨c0, c1, c2, c3, c4, c5⟩, hb⟩; replace hbw := ra_step hbw hb; have hbl := Below.refl w2.heap.size w2; have hw2 := hbw.size; have HC := Aside0.mk hC; clear hC hb)
    | (go_at_call 62; clear T2; refine (slotmeshlaw31_ask.calls 7 300 1 7 2 300 0 0 0 0 _ rfl).mono ?_; rintro e w3 ⟨rfl, hb⟩; replace hbw := ra_step (w := w) (by repeat (first | with_reducible (first | exact Below.refl _ _ | assumption | refine ra_drewN ?_ _ | refine ra_drew ?_ | refine ra_alloc ?_ _) | with_reducible refine ra_set ?_ _ (by (first | omega | (simp; omega))))) hb; replace hbl := ra_step (w := w2) (by repeat (first | with_reducible (first | exact Below.refl _ _ | assumption | refine ra_drewN ?_ _ | refine ra_drew ?_ | refine ra_alloc ?_ _) | with_reducible refine ra_set ?_ _ (by (first | omega | (simp; omega))))) hb; clear hb)
    | (go_at_call 26; clear T3; refine (headHear2 _ (HG.out.later (by repeat (first | with_reducible (first | exact Below.refl _ _ | assumption | refine ra_drewN ?_ _ | refine ra_drew ?_ | refine ra_alloc ?_ _) | with_reducible refine ra_set ?_ _ (by (first | omega | (simp; omega)))))) g c hc (Kd.C_below HC.out (by repeat (first | with_reducible (first | exact Below.refl _ _ | assumption | refine ra_drewN ?_ _ | refine ra_drew ?_ | refine ra_alloc ?_ _) | with_reducible refine ra_set ?_ _ (by (first | omega | (simp; omega))))))).mono ?_; rintro e w4 ⟨g4, c4_, rfl, hc4, ⟨hgl4, hg4⟩, hC4, ⟨d0, d1, d2, d3, d4, d5⟩, hb⟩; replace hbw := ra_step (w := w) (by repeat (first | with_reducible (first | exact Below.refl _ _ | assumption | refine ra_drewN ?_ _ | refine ra_drew ?_ | refine ra_alloc ?_ _) | with_reducible refine ra_set ?_ _ (by (first | omega | (simp; omega))))) hb; replace hbl := ra_step (w := w2) (by repeat (first | with_reducible (first | exact Below.refl _ _ | assumption | refine ra_drewN ?_ _ | refine ra_drew ?_ | refine ra_alloc ?_ _) | with_reducible refine ra_set ?_ _ (by (first | omega | (simp; omega))))) hb; have HC4 := Aside0.mk hC4; have hb4 := Below.refl w4.heap.size w4; clear hb hC4 d0 d1 d2 d3 d4 d5)
    | (go_at_call 62; clear T4; refine (slotmeshlaw31_ask.calls 7 299 1 7 2 299 0 0 0 0 _ rfl).mono ?_; rintro e w5 ⟨rfl, hb⟩; replace hbw := ra_step (w := w) (by repeat (first | with_reducible (first | exact Below.refl _ _ | assumption | refine ra_drewN ?_ _ | refine ra_drew ?_ | refine ra_alloc ?_ _) | with_reducible refine ra_set ?_ _ (by (first | omega | (simp; omega))))) hb; replace hbl := ra_step (w := w2) (by repeat (first | with_reducible (first | exact Below.refl _ _ | assumption | refine ra_drewN ?_ _ | refine ra_drew ?_ | refine ra_alloc ?_ _) | with_reducible refine ra_set ?_ _ (by (first | omega | (simp; omega))))) hb; replace hb4 := ra_step (w := w4) (by repeat (first | with_reducible (first | exact Below.refl _ _ | assumption | refine ra_drewN ?_ _ | refine ra_drew ?_ | refine ra_alloc ?_ _) | with_reducible refine ra_set ?_ _ (by (first | omega | (simp; omega))))) hb; clear hb)
    | (go_at_call 26; clear T5; refine (headHear3 _ (HG.out.later (by repeat (first | with_reducible (first | exact Below.refl _ _ | assumption | refine ra_drewN ?_ _ | refine ra_drew ?_ | refine ra_alloc ?_ _) | with_reducible refine ra_set ?_ _ (by (first | omega | (simp; omega)))))) g c hc (Kd.C_below HC.out (by repeat (first | with_reducible (first | exact Below.refl _ _ | assumption | refine ra_drewN ?_ _ | refine ra_drew ?_ | refine ra_alloc ?_ _) | with_reducible refine ra_set ?_ _ (by (first | omega | (simp; omega))))))).mono ?_; rintro e w6 ⟨v6, rfl, hb⟩; replace hbw := ra_step (w := w) (by repeat (first | with_reducible (first | exact Below.refl _ _ | assumption | refine ra_drewN ?_ _ | refine ra_drew ?_ | refine ra_alloc ?_ _) | with_reducible refine ra_set ?_ _ (by (first | omega | (simp; omega))))) hb; replace hbl := ra_step (w := w2) (by repeat (first | with_reducible (first | exact Below.refl _ _ | assumption | refine ra_drewN ?_ _ | refine ra_drew ?_ | refine ra_alloc ?_ _) | with_reducible refine ra_set ?_ _ (by (first | omega | (simp; omega))))) hb; replace hb4 := ra_step (w := w4) (by repeat (first | with_reducible (first | exact Below.refl _ _ | assumption | refine ra_drewN ?_ _ | refine ra_drew ?_ | refine ra_alloc ?_ _) | with_reducible refine ra_set ?_ _ (by (first | omega | (simp; omega))))) hb; clear hb)
    | (go_at_call 62; clear T6; refine (slotmeshlaw31_ask.calls 7 300 1 7 2 300 0 0 0 0 _ rfl).mono ?_; rintro e w7 ⟨rfl, hb⟩; replace hbw := ra_step (w := w) (by repeat (first | with_reducible (first | exact Below.refl _ _ | assumption | refine ra_drewN ?_ _ | refine ra_drew ?_ | refine ra_alloc ?_ _) | with_reducible refine ra_set ?_ _ (by (first | omega | (simp; omega))))) hb; replace hbl := ra_step (w := w2) (by repeat (first | with_reducible (first | exact Below.refl _ _ | assumption | refine ra_drewN ?_ _ | refine ra_drew ?_ | refine ra_alloc ?_ _) | with_reducible refine ra_set ?_ _ (by (first | omega | (simp; omega))))) hb; replace hb4 := ra_step (w := w4) (by repeat (first | with_reducible (first | exact Below.refl _ _ | assumption | refine ra_drewN ?_ _ | refine ra_drew ?_ | refine ra_alloc ?_ _) | with_reducible refine ra_set ?_ _ (by (first | omega | (simp; omega))))) hb; have hbq := hb; clear hb)
    | (go_at_call 26; clear T7; refine (headHear4 _ (HG.out.later (by repeat (first | with_reducible (first | exact Below.refl _ _ | assumption | refine ra_drewN ?_ _ | refine ra_drew ?_ | refine ra_alloc ?_ _) | with_reducible refine ra_set ?_ _ (by (first | omega | (simp; omega)))))) w6.heap.size 4 (Nat.le_refl _) (Kd.C_below (four_C w6) hbq)).mono ?_; rintro e w8 ⟨v8, rfl, hb⟩; replace hbw := ra_step (w := w) (by repeat (first | with_reducible (first | exact Below.refl _ _ | assumption | refine ra_drewN ?_ _ | refine ra_drew ?_ | refine ra_alloc ?_ _) | with_reducible refine ra_set ?_ _ (by (first | omega | (simp; omega))))) hb; replace hbl := ra_step (w := w2) (by repeat (first | with_reducible (first | exact Below.refl _ _ | assumption | refine ra_drewN ?_ _ | refine ra_drew ?_ | refine ra_alloc ?_ _) | with_reducible refine ra_set ?_ _ (by (first | omega | (simp; omega))))) hb; replace hb4 := ra_step (w := w4) (by repeat (first | with_reducible (first | exact Below.refl _ _ | assumption | refine ra_drewN ?_ _ | refine ra_drew ?_ | refine ra_alloc ?_ _) | with_reducible refine ra_set ?_ _ (by (first | omega | (simp; omega))))) hb; clear hb hbq; have hbl8 := hbl.size; have hb48 := hb4.size; have x2 := (hbl.cell (p := ⟨g, 2, none⟩) hg).trans c2)
    | (go_at_call 26; clear T8; refine (headHear5 _ (HG.out.later (by repeat (first | with_reducible (first | exact Below.refl _ _ | assumption | refine ra_drewN ?_ _ | refine ra_drew ?_ | refine ra_alloc ?_ _) | with_reducible refine ra_set ?_ _ (by (first | omega | (simp; omega)))))) g c hc (Kd.C_below HC.out (by repeat (first | with_reducible (first | exact Below.refl _ _ | assumption | refine ra_drewN ?_ _ | refine ra_drew ?_ | refine ra_alloc ?_ _) | with_reducible refine ra_set ?_ _ (by (first | omega | (simp; omega))))))).mono ?_; rintro e w9 ⟨g9, c9_, rfl, hc9, ⟨hgl9, hg9⟩, hC9, ⟨k0, k1, k2, k3, k4, k5⟩, hb⟩; replace hbw := ra_step (w := w) (by repeat (first | with_reducible (first | exact Below.refl _ _ | assumption | refine ra_drewN ?_ _ | refine ra_drew ?_ | refine ra_alloc ?_ _) | with_reducible refine ra_set ?_ _ (by (first | omega | (simp; omega))))) hb; replace hbl := ra_step (w := w2) (by repeat (first | with_reducible (first | exact Below.refl _ _ | assumption | refine ra_drewN ?_ _ | refine ra_drew ?_ | refine ra_alloc ?_ _) | with_reducible refine ra_set ?_ _ (by (first | omega | (simp; omega))))) hb; replace hb4 := ra_step (w := w4) (by repeat (first | with_reducible (first | exact Below.refl _ _ | assumption | refine ra_drewN ?_ _ | refine ra_drew ?_ | refine ra_alloc ?_ _) | with_reducible refine ra_set ?_ _ (by (first | omega | (simp; omega))))) hb; have hf9 := fun o => hb.frozen (p := ⟨w8.heap.size, o, none⟩) (by simp); have hx9 := fun o => hb.cell (p := ⟨w8.heap.size, o, none⟩) (by simp); have HC9 := Aside0.mk hC9; have hb9 := Below.refl w9.heap.size w9; have hs8 : w2.heap.size ≤ w8.heap.size := hbl8; have hs9 : w8.heap.size + 1 ≤ w9.heap.size := (by have := hb.size; simpa using this); clear hb hC9; have hs2 : w.heap.size ≤ w2.heap.size := hw2; have x2 := (hbl.cell (p := ⟨g, 2, none⟩) hg).trans c2)
    | (go_at_call 26; clear T9; refine (headHear6 _ (HG.out.later (by repeat (first | with_reducible (first | exact Below.refl _ _ | assumption | refine ra_drewN ?_ _ | refine ra_drew ?_ | refine ra_alloc ?_ _) | with_reducible refine ra_set ?_ _ (by (first | omega | (simp; omega)))))) g c hc (Kd.C_below HC.out (by repeat (first | with_reducible (first | exact Below.refl _ _ | assumption | refine ra_drewN ?_ _ | refine ra_drew ?_ | refine ra_alloc ?_ _) | with_reducible refine ra_set ?_ _ (by (first | omega | (simp; omega))))))).mono ?_; rintro e w10 ⟨v10, rfl, hb⟩; replace hbw := ra_step (w := w) (by repeat (first | with_reducible (first | exact Below.refl _ _ | assumption | refine ra_drewN ?_ _ | refine ra_drew ?_ | refine ra_alloc ?_ _) | with_reducible refine ra_set ?_ _ (by (first | omega | (simp; omega))))) hb; replace hbl := ra_step (w := w2) (by repeat (first | with_reducible (first | exact Below.refl _ _ | assumption | refine ra_drewN ?_ _ | refine ra_drew ?_ | refine ra_alloc ?_ _) | with_reducible refine ra_set ?_ _ (by (first | omega | (simp; omega))))) hb; replace hb4 := ra_step (w := w4) (by repeat (first | with_reducible (first | exact Below.refl _ _ | assumption | refine ra_drewN ?_ _ | refine ra_drew ?_ | refine ra_alloc ?_ _) | with_reducible refine ra_set ?_ _ (by (first | omega | (simp; omega))))) hb; have hx10 := fun o => hb.cell (p := ⟨w8.heap.size, o, none⟩) (by simp; omega); have z0 := (hb.cell (p := ⟨g9, 0, none⟩) (by simp; omega)).trans (set_far (by simp at hgl9; omega) k0); have z1 := (hb.cell (p := ⟨g9, 1, none⟩) (by simp; omega)).trans (set_far (by simp at hgl9; omega) k1); have z2 := (hb.cell (p := ⟨g9, 2, none⟩) (by simp; omega)).trans (set_far (by simp at hgl9; omega) k2); have z3 := (hb.cell (p := ⟨g9, 3, none⟩) (by simp; omega)).trans (set_far (by simp at hgl9; omega) k3); have z4 := (hb.cell (p := ⟨g9, 4, none⟩) (by simp; omega)).trans (set_far (by simp at hgl9; omega) k4); have z5 := (hb.cell (p := ⟨g9, 5, none⟩) (by simp; omega)).trans (set_far (by simp at hgl9; omega) k5); have HC10 : Aside0 (Kd.C k68 w10 (some ⟨g9, 0, none⟩) 1 shut1) := ⟨one_C z0 z1 z2 z3 z4 z5⟩; have hg10 : g9 < w10.heap.size := World.block_lt_of_cell? _ _ z0; have hb10 := Below.refl w10.heap.size w10; clear hb)
    | (go_at_call 26; clear T10; refine (headHear7 _ (HG.out.later (by repeat (first | with_reducible (first | exact Below.refl _ _ | assumption | refine ra_drewN ?_ _ | refine ra_drew ?_ | refine ra_alloc ?_ _) | with_reducible refine ra_set ?_ _ (by (first | omega | (simp; omega)))))) g c hc (Kd.C_below HC.out (by repeat (first | with_reducible (first | exact Below.refl _ _ | assumption | refine ra_drewN ?_ _ | refine ra_drew ?_ | refine ra_alloc ?_ _) | with_reducible refine ra_set ?_ _ (by (first | omega | (simp; omega))))))).mono ?_; rintro e w11 ⟨v11, rfl, hb⟩; replace hbw := ra_step (w := w) (by repeat (first | with_reducible (first | exact Below.refl _ _ | assumption | refine ra_drewN ?_ _ | refine ra_drew ?_ | refine ra_alloc ?_ _) | with_reducible refine ra_set ?_ _ (by (first | omega | (simp; omega))))) hb; replace hbl := ra_step (w := w2) (by repeat (first | with_reducible (first | exact Below.refl _ _ | assumption | refine ra_drewN ?_ _ | refine ra_drew ?_ | refine ra_alloc ?_ _) | with_reducible refine ra_set ?_ _ (by (first | omega | (simp; omega))))) hb; replace hb4 := ra_step (w := w4) (by repeat (first | with_reducible (first | exact Below.refl _ _ | assumption | refine ra_drewN ?_ _ | refine ra_drew ?_ | refine ra_alloc ?_ _) | with_reducible refine ra_set ?_ _ (by (first | omega | (simp; omega))))) hb; replace hb10 := ra_step (w := w10) (by repeat (first | with_reducible (first | exact Below.refl _ _ | assumption | refine ra_drewN ?_ _ | refine ra_drew ?_ | refine ra_alloc ?_ _) | with_reducible refine ra_set ?_ _ (by (first | omega | (simp; omega))))) hb; clear hb; have y0 := (hbl.cell (p := ⟨g, 0, none⟩) hg).trans c0; have y1 := (hbl.cell (p := ⟨g, 1, none⟩) hg).trans c1; have y2 := (hbl.cell (p := ⟨g, 2, none⟩) hg).trans c2; have y3 := (hbl.cell (p := ⟨g, 3, none⟩) hg).trans c3; have y4 := (hbl.cell (p := ⟨g, 4, none⟩) hg).trans c4; have y5 := (hbl.cell (p := ⟨g, 5, none⟩) hg).trans c5)
    | (go_at_call 30; clear T11; refine (slotmeshref31_Same.calls 3 _ c open1 _ c4_ open1 true _ (Kd.C_below HC.out (by repeat (first | with_reducible (first | exact Below.refl _ _ | assumption | refine ra_drewN ?_ _ | refine ra_drew ?_ | refine ra_alloc ?_ _) | with_reducible refine ra_set ?_ _ (by (first | omega | (simp; omega)))))) hc (Kd.C_below HC4.out (by repeat (first | with_reducible (first | exact Below.refl _ _ | assumption | refine ra_drewN ?_ _ | refine ra_drew ?_ | refine ra_alloc ?_ _) | with_reducible refine ra_set ?_ _ (by (first | omega | (simp; omega)))))) hc4 ev8).mono ?_; rintro e w12 ⟨rfl, hd⟩; have hb := hd.below; replace hbw := ra_step (w := w) (by repeat (first | with_reducible (first | exact Below.refl _ _ | assumption | refine ra_drewN ?_ _ | refine ra_drew ?_ | refine ra_alloc ?_ _) | with_reducible refine ra_set ?_ _ (by (first | omega | (simp; omega))))) hb; replace hbl := ra_step (w := w2) (by repeat (first | with_reducible (first | exact Below.refl _ _ | assumption | refine ra_drewN ?_ _ | refine ra_drew ?_ | refine ra_alloc ?_ _) | with_reducible refine ra_set ?_ _ (by (first | omega | (simp; omega))))) hb; replace hb4 := ra_step (w := w4) (by repeat (first | with_reducible (first | exact Below.refl _ _ | assumption | refine ra_drewN ?_ _ | refine ra_drew ?_ | refine ra_alloc ?_ _) | with_reducible refine ra_set ?_ _ (by (first | omega | (simp; omega))))) hb; replace hb10 := ra_step (w := w10) (by repeat (first | with_reducible (first | exact Below.refl _ _ | assumption | refine ra_drewN ?_ _ | refine ra_drew ?_ | refine ra_alloc ?_ _) | with_reducible refine ra_set ?_ _ (by (first | omega | (simp; omega))))) hb; clear hb hd; have u0 := (hb10.cell (p := ⟨g9, 0, none⟩) hg10).trans z0; have u1 := (hb10.cell (p := ⟨g9, 1, none⟩) hg10).trans z1; have u2 := (hb10.cell (p := ⟨g9, 2, none⟩) hg10).trans z2; have u3 := (hb10.cell (p := ⟨g9, 3, none⟩) hg10).trans z3; have u4 := (hb10.cell (p := ⟨g9, 4, none⟩) hg10).trans z4; have u5 := (hb10.cell (p := ⟨g9, 5, none⟩) hg10).trans z5)
    | (go_at_call 34; clear T12; refine (sponsor_Words.calls 3 _ c open1 2 _ _ (Kd.C_below HC.out (by repeat (first | with_reducible (first | exact Below.refl _ _ | assumption | refine ra_drewN ?_ _ | refine ra_drew ?_ | refine ra_alloc ?_ _) | with_reducible refine ra_set ?_ _ (by (first | omega | (simp; omega)))))) hc ev11).mono ?_; rintro e w13 hh; obtain ⟨A13, n13, rfl, hb⟩ := row_len (n := 1) rfl hh; replace hbw := ra_step (w := w) (by repeat (first | with_reducible (first | exact Below.refl _ _ | assumption | refine ra_drewN ?_ _ | refine ra_drew ?_ | refine ra_alloc ?_ _) | with_reducible refine ra_set ?_ _ (by (first | omega | (simp; omega))))) hb; replace hbl := ra_step (w := w2) (by repeat (first | with_reducible (first | exact Below.refl _ _ | assumption | refine ra_drewN ?_ _ | refine ra_drew ?_ | refine ra_alloc ?_ _) | with_reducible refine ra_set ?_ _ (by (first | omega | (simp; omega))))) hb; replace hb4 := ra_step (w := w4) (by repeat (first | with_reducible (first | exact Below.refl _ _ | assumption | refine ra_drewN ?_ _ | refine ra_drew ?_ | refine ra_alloc ?_ _) | with_reducible refine ra_set ?_ _ (by (first | omega | (simp; omega))))) hb; replace hb10 := ra_step (w := w10) (by repeat (first | with_reducible (first | exact Below.refl _ _ | assumption | refine ra_drewN ?_ _ | refine ra_drew ?_ | refine ra_alloc ?_ _) | with_reducible refine ra_set ?_ _ (by (first | omega | (simp; omega))))) hb; clear hb hh)
    | (go_at_call 36; clear T13; refine (sponsor_Proofs.calls 3 _ c open1 2 _ _ (Kd.C_below HC.out (by repeat (first | with_reducible (first | exact Below.refl _ _ | assumption | refine ra_drewN ?_ _ | refine ra_drew ?_ | refine ra_alloc ?_ _) | with_reducible refine ra_set ?_ _ (by (first | omega | (simp; omega)))))) hc ev12).mono ?_; rintro e w14 hh; obtain ⟨A14, n14, rfl, hb⟩ := row_len (n := 0) rfl hh; replace hbw := ra_step (w := w) (by repeat (first | with_reducible (first | exact Below.refl _ _ | assumption | refine ra_drewN ?_ _ | refine ra_drew ?_ | refine ra_alloc ?_ _) | with_reducible refine ra_set ?_ _ (by (first | omega | (simp; omega))))) hb; replace hbl := ra_step (w := w2) (by repeat (first | with_reducible (first | exact Below.refl _ _ | assumption | refine ra_drewN ?_ _ | refine ra_drew ?_ | refine ra_alloc ?_ _) | with_reducible refine ra_set ?_ _ (by (first | omega | (simp; omega))))) hb; replace hb4 := ra_step (w := w4) (by repeat (first | with_reducible (first | exact Below.refl _ _ | assumption | refine ra_drewN ?_ _ | refine ra_drew ?_ | refine ra_alloc ?_ _) | with_reducible refine ra_set ?_ _ (by (first | omega | (simp; omega))))) hb; replace hb10 := ra_step (w := w10) (by repeat (first | with_reducible (first | exact Below.refl _ _ | assumption | refine ra_drewN ?_ _ | refine ra_drew ?_ | refine ra_alloc ?_ _) | with_reducible refine ra_set ?_ _ (by (first | omega | (simp; omega))))) hb; clear hb hh)
    | (go_at_call 36; clear T14; refine (sponsor_Proofs.calls 3 _ c9_ shut1 2 _ _ (Kd.C_below HC10.out (by repeat (first | with_reducible (first | exact Below.refl _ _ | assumption | refine ra_drewN ?_ _ | refine ra_drew ?_ | refine ra_alloc ?_ _) | with_reducible refine ra_set ?_ _ (by (first | omega | (simp; omega)))))) hc9 ev13).mono ?_; rintro e w15 hh; obtain ⟨A15, n15, rfl, hb⟩ := row_len (n := 1) rfl hh; replace hbw := ra_step (w := w) (by repeat (first | with_reducible (first | exact Below.refl _ _ | assumption | refine ra_drewN ?_ _ | refine ra_drew ?_ | refine ra_alloc ?_ _) | with_reducible refine ra_set ?_ _ (by (first | omega | (simp; omega))))) hb; replace hbl := ra_step (w := w2) (by repeat (first | with_reducible (first | exact Below.refl _ _ | assumption | refine ra_drewN ?_ _ | refine ra_drew ?_ | refine ra_alloc ?_ _) | with_reducible refine ra_set ?_ _ (by (first | omega | (simp; omega))))) hb; replace hb4 := ra_step (w := w4) (by repeat (first | with_reducible (first | exact Below.refl _ _ | assumption | refine ra_drewN ?_ _ | refine ra_drew ?_ | refine ra_alloc ?_ _) | with_reducible refine ra_set ?_ _ (by (first | omega | (simp; omega))))) hb; replace hb10 := ra_step (w := w10) (by repeat (first | with_reducible (first | exact Below.refl _ _ | assumption | refine ra_drewN ?_ _ | refine ra_drew ?_ | refine ra_alloc ?_ _) | with_reducible refine ra_set ?_ _ (by (first | omega | (simp; omega))))) hb; clear hb hh)
    | (go_at_call 31; clear T15; refine (sponsor_Expire.calls _ c9_ shut1 22 _ _ (Kd.C_below HC10.out (by repeat (first | with_reducible (first | exact Below.refl _ _ | assumption | refine ra_drewN ?_ _ | refine ra_drew ?_ | refine ra_alloc ?_ _) | with_reducible refine ra_set ?_ _ (by (first | omega | (simp; omega)))))) hc9 ev9).mono ?_; rintro e w16 hh; obtain ⟨A16, n16, rfl, hb⟩ := row_len (n := 1) rfl hh; replace hbw := ra_step (w := w) (by repeat (first | with_reducible (first | exact Below.refl _ _ | assumption | refine ra_drewN ?_ _ | refine ra_drew ?_ | refine ra_alloc ?_ _) | with_reducible refine ra_set ?_ _ (by (first | omega | (simp; omega))))) hb; replace hbl := ra_step (w := w2) (by repeat (first | with_reducible (first | exact Below.refl _ _ | assumption | refine ra_drewN ?_ _ | refine ra_drew ?_ | refine ra_alloc ?_ _) | with_reducible refine ra_set ?_ _ (by (first | omega | (simp; omega))))) hb; replace hb4 := ra_step (w := w4) (by repeat (first | with_reducible (first | exact Below.refl _ _ | assumption | refine ra_drewN ?_ _ | refine ra_drew ?_ | refine ra_alloc ?_ _) | with_reducible refine ra_set ?_ _ (by (first | omega | (simp; omega))))) hb; replace hb10 := ra_step (w := w10) (by repeat (first | with_reducible (first | exact Below.refl _ _ | assumption | refine ra_drewN ?_ _ | refine ra_drew ?_ | refine ra_alloc ?_ _) | with_reducible refine ra_set ?_ _ (by (first | omega | (simp; omega))))) hb; clear hb hh)
    | (go_at_call 31; clear T16; refine (sponsor_Expire.calls _ c9_ shut1 23 _ _ (Kd.C_below HC10.out (by repeat (first | with_reducible (first | exact Below.refl _ _ | assumption | refine ra_drewN ?_ _ | refine ra_drew ?_ | refine ra_alloc ?_ _) | with_reducible refine ra_set ?_ _ (by (first | omega | (simp; omega)))))) hc9 ev10).mono ?_; rintro e w17 hh; obtain ⟨A17, n17, rfl, hb⟩ := row_len (n := 0) rfl hh; replace hbw := ra_step (w := w) (by repeat (first | with_reducible (first | exact Below.refl _ _ | assumption | refine ra_drewN ?_ _ | refine ra_drew ?_ | refine ra_alloc ?_ _) | with_reducible refine ra_set ?_ _ (by (first | omega | (simp; omega))))) hb; replace hbl := ra_step (w := w2) (by repeat (first | with_reducible (first | exact Below.refl _ _ | assumption | refine ra_drewN ?_ _ | refine ra_drew ?_ | refine ra_alloc ?_ _) | with_reducible refine ra_set ?_ _ (by (first | omega | (simp; omega))))) hb; replace hb4 := ra_step (w := w4) (by repeat (first | with_reducible (first | exact Below.refl _ _ | assumption | refine ra_drewN ?_ _ | refine ra_drew ?_ | refine ra_alloc ?_ _) | with_reducible refine ra_set ?_ _ (by (first | omega | (simp; omega))))) hb; replace hb10 := ra_step (w := w10) (by repeat (first | with_reducible (first | exact Below.refl _ _ | assumption | refine ra_drewN ?_ _ | refine ra_drew ?_ | refine ra_alloc ?_ _) | with_reducible refine ra_set ?_ _ (by (first | omega | (simp; omega))))) hb; clear hb hh))
  go_ret
  exact ⟨rfl, hbw⟩

end Go.Proofs.YtncgeclkgmfppaaDoor.H
