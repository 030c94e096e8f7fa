/-
  Package sponsor: its desk's two handlers, each in one contract; the list with an element in its place.
-/
import Derived.Test.YtncgeclkgmfppaaDoorProved
namespace Go.Proofs.YtncgeclkgmfppaaDoor.H
open Go.RowKit Go.Proofs.YtncgeclkgmfppaaDoorW.PrintWords Go.Proofs.YtncgeclkgmfppaaDoorW.PrintLast Go.Proofs.YtncgeclkgmfppaaDoorW.PrintMore
open Go.Maps Go.Sort Go.Shelf
set_option linter.unusedVariables false
set_option linter.unusedSimpArgs false
/-- What a question makes of the table's list. -/
def askedF (l : List S68) (x1 x2 x3 fr : Int) : List S68 × Int :=
  match findH l x1 with
  | some h => if x3 < h.f1 then (l, 14) else if h.f1 = x3 then (l, 0) else (upd l (fresh68 x1 x2 x3 fr), 0)
  | none => if l.length = 4 then (l, 10) else (upd l (fresh68 x1 x2 x3 fr), 0)
/-- What a proof makes of it. -/
def provedF (l : List S68) (x1 x3 x4 x5 : Int) : List S68 × Int :=
  match findH l x1 with
  | some h => if h.f1 = x3 then (if h.f2 = x4 then (upd l { h with f4 := true, f5 := x5 }, 0) else (l, 4)) else (l, 4)
  | none => (l, 4)
/-- What a handler leaves: its code; and where all is well the table as the list says. -/
def Left (b nn : Nat) (p : List S68 × Int) (e : Ending) (w' : World) : Prop := e = .returned (.int .i64 p.2) ∧ ∃ (n : Nat) (D : DataW Unit), n ≤ nn + 1 ∧ w'.ownsMap Tryd.prog 3 halfElem b n D ∧ Tab D p.1
theorem left_same {b nn : Nat} {D : DataW Unit} {l : List S68} {w : World} {c : Int} (hown : w.ownsMap Tryd.prog 3 halfElem b nn D) (hT : Tab D l) {e : Ending} {w' : World} (h : e = .returned (.int .i64 c) ∧ Below w.heap.size w w') : Left b nn (l, c) e w' ∧ w.grownBy w' (some b) :=
  ⟨⟨h.1, nn, D, Nat.le_succ _, ownsMap_below hown h.2, hT⟩, grown_of_below h.2 (some b)⟩
theorem asked_any (b nn : Nat) (D : DataW Unit) (l : List S68) (x0 x1 x2 x3 x4 x5 x6 x7 fr : Int) (w : World) (hown : w.ownsMap Tryd.prog 3 halfElem b nn D) (hT : Tab D l) (hn : nn < 1000) (hG : Laid w)
    (h1 : 0 ≤ x1 ∧ x1 < 60) (h2 : 0 ≤ x2 ∧ x2 < 60) (h3 : 0 ≤ x3 ∧ x3 ≤ 1000000000) (hfr : 0 ≤ fr ∧ fr ≤ 999999988) (hl : l.length ≤ 4) :
    Calls Tryd.prog 65 #[.agg #[.map (some b), .int .i64 fr], .agg #[.int .i64 x0, .int .i64 x1, .int .i64 x2, .int .i64 x3, .int .i64 x4, .int .i64 x5, .int .i64 x6, .int .i64 x7]] w fun e w' => Left b nn (askedF l x1 x2 x3 fr) e w' ∧ w.grownBy w' (some b) := by
  have hput : ∀ (e : Ending) (w' : World), (e = .returned (.int .i64 0) ∧ w'.ownsMap Tryd.prog 3 halfElem b (nn + 1) (D.put (.int .i64 x1) (halfD (fresh68 x1 x2 x3 fr))) ∧ w.grownBy w' (some b)) → Left b nn (upd l (fresh68 x1 x2 x3 fr), 0) e w' ∧ w.grownBy w' (some b) :=
    fun e w' ⟨he, ho, hb⟩ => ⟨⟨he, _, _, Nat.le_refl _, ho, hT.put (fresh68 x1 x2 x3 fr)⟩, hb⟩
  unfold askedF
  cases hf : findH l x1 with
  | none =>
    by_cases h4 : l.length = 4
    · simp only [if_pos h4]
      exact (asked_full b nn D l x0 x1 x2 x3 x4 x5 x6 x7 fr w hown hT h1 hf h4).mono fun e w' h => left_same hown hT h
    · simp only [if_neg h4]
      exact (asked_put_none b nn D l x0 x1 x2 x3 x4 x5 x6 x7 fr w hown hT hn hG h1 h2 h3 hfr hf (by omega)).mono hput
  | some h =>
    by_cases hlt : x3 < h.f1
    · simp only [if_pos hlt]
      exact (asked_old b nn D l x0 x1 x2 x3 x4 x5 x6 x7 fr w hown hT h1 h hf hlt).mono fun e w' h => left_same hown hT h
    · simp only [if_neg hlt]
      by_cases he : h.f1 = x3
      · simp only [if_pos he]
        exact (asked_same b nn D l x0 x1 x2 x3 x4 x5 x6 x7 fr w hown hT h1 h hf he).mono fun e w' h => left_same hown hT h
      · simp only [if_neg he]
        exact (asked_put_some b nn D l x0 x1 x2 x3 x4 x5 x6 x7 fr w hown hT hn hG h1 h2 h3 hfr h hf (by omega)).mono hput
theorem proved_any (b nn : Nat) (D : DataW Unit) (l : List S68) (x0 x1 x2 x3 x4 x5 x6 x7 fr : Int) (w : World) (hown : w.ownsMap Tryd.prog 3 halfElem b nn D) (hT : Tab D l) (hn : nn < 1000)
    (h1 : 0 ≤ x1 ∧ x1 < 60) :
    Calls Tryd.prog 66 #[.agg #[.map (some b), .int .i64 fr], .agg #[.int .i64 x0, .int .i64 x1, .int .i64 x2, .int .i64 x3, .int .i64 x4, .int .i64 x5, .int .i64 x6, .int .i64 x7]] w fun e w' => Left b nn (provedF l x1 x3 x4 x5) e w' ∧ w.grownBy w' (some b) := by
  unfold provedF
  cases hf : findH l x1 with
  | none => exact (proved_none b nn D l x0 x1 x2 x3 x4 x5 x6 x7 fr w hown hT h1 hf).mono fun e w' h => left_same hown hT h
  | some h =>
    by_cases hne : h.f1 = x3
    · simp only [if_pos hne]
      by_cases hnc : h.f2 = x4
      · simp only [if_pos hnc]
        refine (proved_put b nn D l x0 x1 x2 x3 x4 x5 x6 x7 fr w hown hT h1 hn h hf hne hnc).mono ?_
        rintro e w' ⟨he, ho, hb⟩
        obtain rfl : h.f0 = x1 := (findH_some hf).2
        have hT' := hT.put { h with f4 := true, f5 := x5 }
        exact ⟨⟨he, _, _, Nat.le_refl _, ho, hT'⟩, hb⟩
      · simp only [if_neg hnc]
        exact (proved_challenge b nn D l x0 x1 x2 x3 x4 x5 x6 x7 fr w hown hT h1 h hf hne hnc).mono fun e w' h => left_same hown hT h
    · simp only [if_neg hne]
      exact (proved_nonce b nn D l x0 x1 x2 x3 x4 x5 x6 x7 fr w hown hT h1 h hf hne).mono fun e w' h => left_same hown hT h
theorem Tab.perm {D : DataW Unit} {l l' : List S68} (h : Tab D l) (hp : l.Perm l') : Tab D l' := by
  obtain ⟨es, rfl, h1, hn⟩ := h
  exact ⟨es, rfl, h1.trans (hp.map _), (hp.map _).nodup_iff.1 hn⟩
theorem Tab.next {D : DataW Unit} {l : List S68} {k : Nat} (h : Tab D (l.take k)) (hk : k < l.length) (hn : (l.map (·.f0)).Nodup) : Tab (D.put (.int .i64 (rd_T68 l k).f0) (halfD (rd_T68 l k))) (l.take (k + 1)) := by
  have e : rd_T68 l k = l[k] := by simp [rd_T68, List.getD, hk]
  have h2 := h.put l[k]
  rw [e]
  refine h2.perm ?_
  unfold upd
  rw [List.take_succ_eq_append_getElem hk, List.filter_eq_self.2 ?_]
  · exact (List.perm_append_singleton _ _).symm
  · intro x hx
    have hm : (l.take (k + 1)).map (·.f0) |>.Nodup := hn.sublist ((List.take_sublist _ _).map _)
    rw [List.take_succ_eq_append_getElem hk, List.map_append, List.map_singleton, List.nodup_append] at hm
    have := hm.2.2 x.f0 (List.mem_map.2 ⟨x, hx, rfl⟩) l[k].f0 (by simp)
    simpa using this
end Go.Proofs.YtncgeclkgmfppaaDoor.H
