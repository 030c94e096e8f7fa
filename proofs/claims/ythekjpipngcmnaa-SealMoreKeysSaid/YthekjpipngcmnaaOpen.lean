/-
  What the arguments of a law are: structs of numbers, and a slice of bytes that can be read.
-/
import Derived.Test.YthekjpipngcmnaaProg
import Derived.Test.YthekjpipngcmnaaBase
import Derived.ProofKit
import Derived.ChangeOld
import Derived.ChangeArms
import Derived.Deep.Fields
import Derived.KernelRfl
namespace Go.Proofs.Ythekjpipngcmnaa
open Go.ChangeShapes Go.WideShapes Go.ChangeAt Go.RowKit Go.Deep
set_option linter.unusedVariables false
set_option linter.unusedSimpArgs false

/-- A slice of bytes that can be read. -/
def Bytes (w : World) (A : Option Addr) (n : Nat) : Prop := n ≤ maxLen ∧ (0 < n → ∃ b off, A = some ⟨b, off, none⟩ ∧ ∀ k < n, ∃ z : Int, w.cell? ⟨b, off + k, none⟩ = some (.int .u8 z))
theorem Bytes.below {w w' : World} {A : Option Addr} {n : Nat} (h : Bytes w A n) (hb : Below w.heap.size w w') : Bytes w' A n :=
  ⟨h.1, fun hn => by
    obtain ⟨b, off, e, hc⟩ := h.2 hn
    exact ⟨b, off, e, fun k hk => by obtain ⟨z, hz⟩ := hc k hk; exact ⟨z, cell_later hb hz⟩⟩⟩
theorem Bytes.alloc {w : World} {A : Option Addr} {n : Nat} (h : Bytes w A n) (o : Obj) : Bytes (w.alloc o) A n := h.below ((Below.refl _ _).alloc (Nat.le_refl _) _)
theorem Bytes.nil (w : World) : Bytes w none 0 := ⟨by simp [maxLen], fun h => absurd h (by omega)⟩

section
variable {H : Type} {enc : TypeId × Value → H} {P : Program} {w : World} {base : Nat} {spare : Nat → Bool} {held : Bool}
/-- The value of a struct, and the reading of each of its fields. -/
theorem open_fields {r : Reach} {b0 : Nat} {t : TypeId} {fs : Array Field} {v : Value} {d : DataW H} {p : List MemPlace} (hs : P.underlying t = some (.struct fs))
    (hv : Value.okWide P w r b0 t v) (h : DataW.Trod enc P w base spare held t v d p) :
    ∃ (cs : List Value) (n : Nat), v = .agg cs.toArray ∧ cs.length = P.cellsOf t ∧
      ∀ (i : Nat) (f : Field), fs[i]? = some f → ∃ y, DataW.trod enc P w base spare held n f.type ((cs.drop f.offset).take (P.cellsOf f.type)) = some y := by
  obtain ⟨⟨cs⟩, rfl, hsz⟩ := okWide_struct hs hv
  obtain ⟨fuel, hf⟩ := h
  obtain ⟨xs, n, _, _, _, hl, hg⟩ := DataW.trod_struct hs hf
  refine ⟨cs, n, rfl, hsz, fun i f hi => ?_⟩
  have hlt : i < xs.length := by rw [hl]; exact (Array.getElem?_eq_some_iff.1 hi).1
  refine ⟨xs[i], ?_⟩
  rw [← List.getElem?_eq_getElem hlt]
  exact hg i f hi
theorem bytes_of {t e : TypeId} {n : Nat} {c : Value} {y : DataW H × List MemPlace} (ht : P.underlying t = some (.slice e)) (he : P.underlying e = some (.int .u8)) (hc : P.cellsOf e = 1)
    (h : DataW.trod enc P w base spare held n t [c] = some y) : ∃ A n c', c = .slice A n c' ∧ Bytes w A n := by
  rcases open_ints ht he hc h with ⟨e1, _⟩ | ⟨x, l, cap, zs, e1, _, hl, hm, hz, _, hcell, _⟩
  · simp only [List.cons.injEq, and_true] at e1
    exact ⟨none, 0, 0, e1, Bytes.nil _⟩
  · simp only [List.cons.injEq, and_true] at e1
    refine ⟨_, _, _, e1, Nat.le_trans hl hm, fun hn => ?_⟩
    have hzl : l ≤ zs.length := by rw [hz]; split <;> omega
    obtain ⟨b, off, spot⟩ := x
    have hc0 := hcell 0 (by omega)
    have hspot : spot = none := by simpa [Addr.add] using World.cell?_spot hc0
    subst hspot
    refine ⟨b, off, rfl, fun k hk => ⟨zs.getD k 0, ?_⟩⟩
    have := hcell k (by omega)
    unfold Addr.add at this
    split at this
    · rename_i h0; subst h0; simpa using this
    · simpa using this
end
variable {H : Type} {enc : TypeId × Value → H} {w : World} {base : Nat} {spare : Nat → Bool} {held : Bool} {r : Reach} {b0 : Nat} {v : Value} {d : DataW H} {p : List MemPlace}
theorem int_of (hv : Value.okWide Try.prog w r b0 3 v) (h : DataW.Trod enc Try.prog w base spare held 3 v d p) :
    ∃ x : Int, v = .int .i64 x ∧ (-9223372036854775808 ≤ x ∧ x ≤ 9223372036854775807) := by
  obtain ⟨x, rfl, _, _, hw⟩ := open_int Try.underlying3 hv h
  simp [Lit.wf, IntKind.min, IntKind.max, IntKind.signed, IntKind.bits] at hw
  exact ⟨x, rfl, by omega⟩
theorem ring_of (hv : Value.okWide Try.prog w r b0 26 v) (h : DataW.Trod enc Try.prog w base spare held 26 v d p) :
    ∃ x y : Int, v = .agg #[.int .i64 x, .int .i64 y] := by
  obtain ⟨cs, n, rfl, hl, hg⟩ := open_fields Try.underlying26 hv h
  have e : Try.prog.cellsOf 26 = 2 := by kernel_rfl
  rw [e] at hl
  match cs, hl with
  | [c0, c1], _ =>
    have ei : Try.prog.cellsOf 3 = 1 := by kernel_rfl
    obtain ⟨y0, h0⟩ := hg 0 _ rfl
    obtain ⟨y1, h1⟩ := hg 1 _ rfl
    simp [ei] at h0 h1
    obtain ⟨x0, e0, _, _⟩ := DataW.trod_int Try.underlying3 h0
    obtain ⟨x1, e1, _, _⟩ := DataW.trod_int Try.underlying3 h1
    simp only [List.cons.injEq, and_true] at e0 e1
    subst e0 e1
    exact ⟨x0, x1, rfl⟩
theorem frame_of (hv : Value.okWide Try.prog w r b0 24 v) (h : DataW.Trod enc Try.prog w base spare held 24 v d p) :
    ∃ (k fr to a key : Int) (A : Option Addr) (n c : Nat), v = .agg #[.int .i64 k, .int .i64 fr, .int .i64 to, .int .i64 a, .int .i64 key, .slice A n c] ∧ Bytes w A n := by
  obtain ⟨cs, n, rfl, hl, hg⟩ := open_fields Try.underlying24 hv h
  have e : Try.prog.cellsOf 24 = 6 := by kernel_rfl
  rw [e] at hl
  match cs, hl with
  | [c0, c1, c2, c3, c4, c5], _ =>
    have ei : Try.prog.cellsOf 3 = 1 := by kernel_rfl
    have eb : Try.prog.cellsOf 22 = 1 := by kernel_rfl
    obtain ⟨y0, h0⟩ := hg 0 _ rfl
    obtain ⟨y1, h1⟩ := hg 1 _ rfl
    obtain ⟨y2, h2⟩ := hg 2 _ rfl
    obtain ⟨y3, h3⟩ := hg 3 _ rfl
    obtain ⟨y4, h4⟩ := hg 4 _ rfl
    obtain ⟨y5, h5⟩ := hg 5 _ rfl
    simp [ei, eb] at h0 h1 h2 h3 h4 h5
    obtain ⟨x0, e0, _, _⟩ := DataW.trod_int Try.underlying3 h0
    obtain ⟨x1, e1, _, _⟩ := DataW.trod_int Try.underlying3 h1
    obtain ⟨x2, e2, _, _⟩ := DataW.trod_int Try.underlying3 h2
    obtain ⟨x3, e3, _, _⟩ := DataW.trod_int Try.underlying3 h3
    obtain ⟨x4, e4, _, _⟩ := DataW.trod_int Try.underlying3 h4
    obtain ⟨A, l, c, e5, hB⟩ := bytes_of Try.underlying22 Try.underlying5 (by kernel_rfl) h5
    simp only [List.cons.injEq, and_true] at e0 e1 e2 e3 e4
    subst e0 e1 e2 e3 e4 e5
    exact ⟨x0, x1, x2, x3, x4, A, l, c, rfl, hB⟩
end Go.Proofs.Ythekjpipngcmnaa
