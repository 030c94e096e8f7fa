/-
  What the arguments of a law are, and where the listed table lies: numbers, words, lists of joins, words and bytes that can be read; the table random.steps in memory.
-/
import Derived.Test.YtncgeclkgmfppaaDoorRows
import Derived.Test.YtncgeclkgmfppaaDoorH0
import Derived.Test.YtncgeclkgmfppaaDoorRandom
import Derived.ProofKit
import Derived.LaidMore
import Derived.OpenShut
import Derived.ChangeOld
import Derived.ChangeArms
import Derived.SizedLaws
import Derived.Stop.Joined
import Derived.Deep.Fields
import Derived.Deep.Slices
import Derived.KernelRfl
namespace Go.Proofs.YtncgeclkgmfppaaDoor
open Go.ChangeShapes Go.WideShapes Go.ChangeAt Go.RowKit Go.Deep
open Go.Proofs.YtncgeclkgmfppaaDoorW.PrintWords Go.Proofs.YtncgeclkgmfppaaDoorW.PrintLast Go.Proofs.YtncgeclkgmfppaaDoorW.PrintMore
set_option linter.unusedVariables false
set_option maxRecDepth 100000
set_option linter.unusedSimpArgs false
theorem door_own : ownKnob Tryd.prog.godebug = none := by kernel_rfl
theorem door_laidOut : laidOutB Tryd.prog = true := by kernel_rfl
/-- What the rows list. -/
abbrev laidAll {Hy : Type} : List (String × DataW Hy) := [("slotmesh/random.steps", Rows.laid_slotmesh_random_steps)]
theorem gSteps : Tryd.prog.globalNamed "slotmesh/random.steps" = some 0 := by kernel_rfl
theorem tSteps : (Tryd.prog.globals[0]?).map (·.type) = some 159 := by kernel_rfl
/-- The door's own heap meets the condition. -/
theorem door_met (os : Os) (args : Array Value) : laidMetH Tryd.prog laidAll ((World.doorLaid Tryd.prog 400 os).forCall (fun _ _ => 0) ⟨#[], args, []⟩).memory :=
  laidMetH_of_parts3 (fuel := 8) (laidMet_of_run' 8 (by kernel_rfl) (by kernel_rfl)) (by kernel_rfl) (by kernel_rfl)
/-- A step of the table, read. -/
theorem step_of {Hy : Type} {enc : TypeId × Value → Hy} {w : World} {base : Nat} {spare : Nat → Bool} {held : Bool} {fuel : Nat} {cs : List Value} {a b : Int} {p : List MemPlace}
    (h : DataW.trod enc Tryd.prog w base spare held fuel 158 cs = some (.agg [.lit (.int .i64 a), .lit (.int .u64 b)], p)) : cs = [.int .i64 a, .int .u64 b] := by
  obtain ⟨xs, n, _, hx, hl, hn, hg⟩ := DataW.trod_struct Tryd.underlying158 h
  have e : Tryd.prog.cellsOf 158 = 2 := by kernel_rfl
  have e3 : Tryd.prog.cellsOf 3 = 1 := by kernel_rfl
  have e129 : Tryd.prog.cellsOf 129 = 1 := by kernel_rfl
  rw [e] at hl
  match cs, hl, xs, hn with
  | [c0, c1], _, [x0, x1], _ =>
    have h0 := hg 0 _ rfl
    have h1 := hg 1 _ rfl
    simp [e3, e129] at h0 h1
    obtain ⟨k0, e0, g0, _⟩ := DataW.trod_int Tryd.underlying3 h0
    obtain ⟨k1, e1, g1, _⟩ := DataW.trod_int Tryd.underlying129 h1
    simp [g0, g1] at hx
    simp at e0 e1
    rw [e0, e1, hx.1.1, hx.1.2]
theorem of_laid {W : World} (h : laidMetH Tryd.prog laidAll W) : H.Laid W := by
  rw [MakeChecks.laidMetH_plain _ _ _ (by kernel_rfl)] at h
  obtain ⟨ps, ⟨g0, t0, cs0, f0, p0, q0, hg0, ht0, hv0, hd0, _, _⟩, _, _⟩ := h
  obtain rfl := Option.some.inj (gSteps.symm.trans hg0)
  obtain rfl := Option.some.inj (tSteps.symm.trans ht0)
  obtain ⟨xs, m, rfl, hx, hl, hn, hel⟩ := DataW.trod_array Tryd.underlying159 hd0
  have c158 : Tryd.prog.cellsOf 158 = 2 := by kernel_rfl
  have c159 : Tryd.prog.cellsOf 159 = 6 := by kernel_rfl
  rw [c159] at hl
  have h0 := hel 0 (by decide)
  have h1 := hel 1 (by decide)
  have h2 := hel 2 (by decide)
  obtain ⟨cs⟩ := cs0
  match cs, hl, xs, hn with
  | [c0, c1, c2, c3, c4, c5], _, [x0, x1, x2], _ =>
    simp [c158] at h0 h1 h2
    simp only [Rows.laid_slotmesh_random_steps, Prod.mk.injEq, DataW.agg.injEq, List.map_cons, List.map_nil, List.cons.injEq, and_true] at hx
    obtain ⟨⟨e0, e1, e2⟩, _⟩ := hx
    rw [show x0 = (x0.1, x0.2) from rfl, ← e0] at h0
    rw [show x1 = (x1.1, x1.2) from rfl, ← e1] at h1
    rw [show x2 = (x2.1, x2.2) from rfl, ← e2] at h2
    have r0 := step_of h0
    have r1 := step_of h1
    have r2 := step_of h2
    simp at r0 r1 r2
    obtain ⟨rfl, rfl⟩ := r0
    obtain ⟨rfl, rfl⟩ := r1
    obtain ⟨rfl, rfl⟩ := r2
    have hc := fun i => World.var?_cell gSteps hv0 i
    exact ⟨by simpa using hc 0, by simpa using hc 1, by simpa using hc 2, by simpa using hc 3, by simpa using hc 4, by simpa using hc 5⟩

section
variable {Hy : Type} {enc : TypeId × Value → Hy} {P : Program} {w : World} {base : Nat} {spare : Nat → Bool} {held : Bool}
/-- The reading of each field of a struct, out of its cells. -/
theorem fields_of {t : TypeId} {fs : Array Field} {cs : List Value} {fuel : Nat} {z : DataW Hy × List MemPlace} (hs : P.underlying t = some (.struct fs)) (h : DataW.trod enc P w base spare held fuel t cs = some z) :
    ∃ n : Nat, cs.length = P.cellsOf t ∧ ∀ (i : Nat) (f : Field), fs[i]? = some f → ∃ y, DataW.trod enc P w base spare held n f.type ((cs.drop f.offset).take (P.cellsOf f.type)) = some y := by
  obtain ⟨xs, n, _, _, hc, hl, hg⟩ := DataW.trod_struct hs h
  refine ⟨n, hc, fun i f hi => ?_⟩
  have hlt : i < xs.length := by rw [hl]; exact (Array.getElem?_eq_some_iff.1 hi).1
  refine ⟨xs[i], ?_⟩
  rw [← List.getElem?_eq_getElem hlt]
  exact hg i f hi
theorem cells_of {r : Reach} {b0 : Nat} {t : TypeId} {fs : Array Field} {v : Value} {d : DataW Hy} {p : List MemPlace} (hs : P.underlying t = some (.struct fs))
    (hv : Value.okWide P w r b0 t v) (h : DataW.Trod enc P w base spare held t v d p) :
    ∃ (cs : List Value) (n : Nat) (z : DataW Hy × List MemPlace), v = .agg cs.toArray ∧ DataW.trod enc P w base spare held n t cs = some z := by
  obtain ⟨⟨cs⟩, rfl, hsz⟩ := okWide_struct hs hv
  obtain ⟨fuel, hf⟩ := h
  exact ⟨cs, fuel, _, rfl, hf⟩
end
section
variable {Hy : Type} {enc : TypeId × Value → Hy} {w : World} {base : Nat} {spare : Nat → Bool} {held : Bool} {r : Reach} {b0 : Nat} {v : Value} {d : DataW Hy} {p : List MemPlace}
theorem int_of (hv : Value.okWide Tryd.prog w r b0 3 v) (h : DataW.Trod enc Tryd.prog w base spare held 3 v d p) :
    ∃ x : Int, v = .int .i64 x ∧ (-9223372036854775808 ≤ x ∧ x ≤ 9223372036854775807) := by
  obtain ⟨x, rfl, _, _, hw⟩ := open_int Tryd.underlying3 hv h
  simp [Lit.wf, IntKind.min, IntKind.max, IntKind.signed, IntKind.bits] at hw
  exact ⟨x, rfl, by omega⟩
theorem byte_of (hv : Value.okWide Tryd.prog w r b0 5 v) (h : DataW.Trod enc Tryd.prog w base spare held 5 v d p) :
    ∃ x : Int, v = .int .u8 x ∧ (0 ≤ x ∧ x < 256) := by
  obtain ⟨x, rfl, _, _, hw⟩ := open_int Tryd.underlying5 hv h
  simp [Lit.wf, IntKind.min, IntKind.max, IntKind.signed, IntKind.bits] at hw
  exact ⟨x, rfl, by omega⟩
theorem ring_cells {fuel : Nat} {cs : List Value} {z : DataW Hy × List MemPlace} (h : DataW.trod enc Tryd.prog w base spare held fuel 25 cs = some z) :
    ∃ x y : Int, cs = [.int .i64 x, .int .i64 y] := by
  obtain ⟨n, hl, hg⟩ := fields_of Tryd.underlying25 h
  have e : Tryd.prog.cellsOf 25 = 2 := by kernel_rfl
  rw [e] at hl
  match cs, hl with
  | [c0, c1], _ =>
    have ei : Tryd.prog.cellsOf 3 = 1 := by kernel_rfl
    obtain ⟨y0, h0⟩ := hg 0 _ rfl
    obtain ⟨y1, h1⟩ := hg 1 _ rfl
    simp [ei] at h0 h1
    obtain ⟨x0, e0, _, _⟩ := DataW.trod_int Tryd.underlying3 h0
    obtain ⟨x1, e1, _, _⟩ := DataW.trod_int Tryd.underlying3 h1
    simp only [List.cons.injEq, and_true] at e0 e1
    subst e0 e1
    exact ⟨x0, x1, rfl⟩
theorem word_cells {fuel : Nat} {cs : List Value} {z : DataW Hy × List MemPlace} (h : DataW.trod enc Tryd.prog w base spare held fuel 54 cs = some z) :
    ∃ a0 a1 a2 a3 a4 a5 a6 a7 : Int, cs = [.int .i64 a0, .int .i64 a1, .int .i64 a2, .int .i64 a3, .int .i64 a4, .int .i64 a5, .int .i64 a6, .int .i64 a7] := by
  obtain ⟨n, hl, hg⟩ := fields_of Tryd.underlying54 h
  have e : Tryd.prog.cellsOf 54 = 8 := by kernel_rfl
  rw [e] at hl
  match cs, hl with
  | [c0, c1, c2, c3, c4, c5, c6, c7], _ =>
    have ei : Tryd.prog.cellsOf 3 = 1 := by kernel_rfl
    have er : Tryd.prog.cellsOf 25 = 2 := by kernel_rfl
    obtain ⟨y0, h0⟩ := hg 0 _ rfl
    obtain ⟨y1, h1⟩ := hg 1 _ rfl
    obtain ⟨y2, h2⟩ := hg 2 _ rfl
    obtain ⟨y3, h3⟩ := hg 3 _ rfl
    obtain ⟨y4, h4⟩ := hg 4 _ rfl
    obtain ⟨y5, h5⟩ := hg 5 _ rfl
    obtain ⟨y6, h6⟩ := hg 6 _ rfl
    simp [ei, er] at h0 h1 h2 h3 h4 h5 h6
    obtain ⟨x0, e0, _, _⟩ := DataW.trod_int Tryd.underlying3 h0
    obtain ⟨x1, e1, _, _⟩ := DataW.trod_int Tryd.underlying3 h1
    obtain ⟨x2, e2, _, _⟩ := DataW.trod_int Tryd.underlying3 h2
    obtain ⟨x3, e3, _, _⟩ := DataW.trod_int Tryd.underlying3 h3
    obtain ⟨x4, e4, _, _⟩ := DataW.trod_int Tryd.underlying3 h4
    obtain ⟨x5, e5, _, _⟩ := DataW.trod_int Tryd.underlying3 h5
    obtain ⟨x6, x7, e6⟩ := ring_cells h6
    simp only [List.cons.injEq, and_true] at e0 e1 e2 e3 e4 e5 e6
    obtain ⟨e6, e7⟩ := e6
    subst e0 e1 e2 e3 e4 e5 e6 e7
    exact ⟨x0, x1, x2, x3, x4, x5, x6, x7, rfl⟩
theorem word_of (hv : Value.okWide Tryd.prog w r b0 54 v) (h : DataW.Trod enc Tryd.prog w base spare held 54 v d p) :
    ∃ a0 a1 a2 a3 a4 a5 a6 a7 : Int, v = .agg #[.int .i64 a0, .int .i64 a1, .int .i64 a2, .int .i64 a3, .int .i64 a4, .int .i64 a5, .int .i64 a6, .int .i64 a7] := by
  obtain ⟨cs, n, z, rfl, hc⟩ := cells_of Tryd.underlying54 hv h
  obtain ⟨x0, x1, x2, x3, x4, x5, x6, x7, rfl⟩ := word_cells hc
  exact ⟨x0, x1, x2, x3, x4, x5, x6, x7, rfl⟩
theorem half_cells {fuel : Nat} {cs : List Value} {z : DataW Hy × List MemPlace} (h : DataW.trod enc Tryd.prog w base spare held fuel 68 cs = some z) :
    ∃ x : H.S68, cs = [.int .i64 x.f0, .int .i64 x.f1, .int .i64 x.f2, .int .i64 x.f3, .bool x.f4, .int .i64 x.f5] := by
  obtain ⟨n, hl, hg⟩ := fields_of Tryd.underlying68 h
  have e : Tryd.prog.cellsOf 68 = 6 := by kernel_rfl
  rw [e] at hl
  match cs, hl with
  | [c0, c1, c2, c3, c4, c5], _ =>
    have ei : Tryd.prog.cellsOf 3 = 1 := by kernel_rfl
    have eb : Tryd.prog.cellsOf 4 = 1 := by kernel_rfl
    obtain ⟨y0, h0⟩ := hg 0 _ rfl
    obtain ⟨y1, h1⟩ := hg 1 _ rfl
    obtain ⟨y2, h2⟩ := hg 2 _ rfl
    obtain ⟨y3, h3⟩ := hg 3 _ rfl
    obtain ⟨y4, h4⟩ := hg 4 _ rfl
    obtain ⟨y5, h5⟩ := hg 5 _ rfl
    simp [ei, eb] at h0 h1 h2 h3 h4 h5
    obtain ⟨x0, e0, _, _⟩ := DataW.trod_int Tryd.underlying3 h0
    obtain ⟨x1, e1, _, _⟩ := DataW.trod_int Tryd.underlying3 h1
    obtain ⟨x2, e2, _, _⟩ := DataW.trod_int Tryd.underlying3 h2
    obtain ⟨x3, e3, _, _⟩ := DataW.trod_int Tryd.underlying3 h3
    obtain ⟨x4, e4, _⟩ := DataW.trod_bool Tryd.underlying4 h4
    obtain ⟨x5, e5, _, _⟩ := DataW.trod_int Tryd.underlying3 h5
    simp only [List.cons.injEq, and_true] at e0 e1 e2 e3 e4 e5
    subst e0 e1 e2 e3 e4 e5
    exact ⟨⟨x0, x1, x2, x3, x4, x5⟩, rfl⟩
end
/-- A slice whose elements can be read, as a list; no longer than its weight allows. -/
theorem list_of {Hy : Type} {enc : TypeId × Value → Hy} {w : World} {base : Nat} {spare : Nat → Bool} {held : Bool} {r : Reach} {b0 : Nat} {v : Value} {d : DataW Hy} {p : List MemPlace}
    {α : Type} (kd : Kd α) (z : α) {t e : TypeId} {size B : Nat} (hu : Tryd.prog.underlying t = some (.slice e)) (hs : Tryd.prog.cellsOf e = size) (hB : Tryd.prog.bytesOf e = B) (hz : kd.sz = size) (h0 : 0 < size)
    (Q : α → Prop) (one : ∀ (fuel : Nat) (cs : List Value) (y : DataW Hy × List MemPlace), DataW.trod enc Tryd.prog w base spare held fuel e cs = some y → ∃ x : α, kd.K w x cs ∧ Q x)
    {ts : List TypeId} {ds : List (DataW Hy)} {j : Nat} (hsz : (DataW.weightsEach Tryd.prog ts ds).all (· ≤ reachBytes) = true) (ht : ts[j]? = some t) (hd : ds[j]? = some d)
    (hv : Value.okWide Tryd.prog w r b0 t v) (h : DataW.Trod enc Tryd.prog w base spare held t v d p) :
    ∃ (A : Option Addr) (c : Nat) (l : List α), v = .slice A l.length c ∧ Kd.C kd w A l.length l ∧ l.length ≤ c ∧ l.length * B ≤ 140737488351232 ∧ ∀ x ∈ l, Q x := by
  obtain ⟨a0, len, cap, rfl⟩ := okWide_slice hu hv
  obtain ⟨fuel, hf⟩ := h
  rcases open_slice hu hf with ⟨e0, _⟩ | ⟨a, n, c, m, f, D, Pl, e0, hb, hl, hm, hmm, hx, hi⟩
  · simp [Value.cells] at e0
    obtain ⟨rfl, rfl, rfl⟩ := e0
    exact ⟨none, 0, [], rfl, ⟨rfl, by simp, fun h => absurd h (by simp)⟩, by simp, by simp, by simp⟩
  · simp [Value.cells] at e0
    obtain ⟨rfl, rfl, rfl⟩ := e0
    have hml : len ≤ m := by rw [hmm]; split <;> omega
    have hbytes : len * B ≤ 140737488351232 := by
      obtain ⟨hx, _⟩ := Prod.mk.inj hx
      subst hx
      have y := sized_slice hsz ht hd hu
      rw [hB] at y
      exact Nat.le_trans (Nat.mul_le_mul_right _ (by simp)) y
    have key : ∀ i : Nat, ∃ x : α, i < len → ∃ cs : List Value, cs.length = size ∧ kd.K w x cs ∧ Q x ∧ ∀ q u, cs[q]? = some u → w.cell? (a.add (i * size + q)) = some u := by
      intro i
      by_cases him : i < len
      · obtain ⟨cs, hc, ht⟩ := hi i (by omega)
        rw [hs] at hc
        obtain ⟨x, hK, hQ⟩ := one _ _ _ ht
        obtain ⟨_, hlen, hat⟩ := World.cells?_some hc
        refine ⟨x, fun _ => ⟨cs, by rw [kd.K_len hK, hz], hK, hQ, fun q u hq => ?_⟩⟩
        obtain ⟨hq1, hq2⟩ := List.getElem?_eq_some_iff.1 hq
        have := hat q (by rw [← hz, ← kd.K_len hK]; exact hq1)
        rw [Go.Deep.add_add] at this
        rw [this, hq]
      · exact ⟨z, fun h => absurd h him⟩
    obtain ⟨g, hg⟩ := Classical.axiomOfChoice key
    have hlen : ((List.range len).map g).length = len := by simp
    refine ⟨some a, cap, (List.range len).map g, by rw [hlen], ⟨rfl, ?_, fun _ => ⟨a, rfl, fun i x hx => ?_⟩⟩, by rw [hlen]; exact hl, by rw [hlen]; exact hbytes, fun x hx => ?_⟩
    · rw [hlen]; have := Nat.le_trans hl hm; unfold maxLen at this; omega
    · obtain ⟨h1, h2⟩ := List.getElem?_eq_some_iff.1 hx
      rw [hlen] at h1
      rw [List.getElem_map, List.getElem_range] at h2
      subst h2
      obtain ⟨cs, hl, hK, _, hat⟩ := hg i h1
      exact ⟨cs, by rw [hz, hl], hK, fun q u hq => by rw [hz]; exact hat q u hq⟩
    · obtain ⟨i, hi, rfl⟩ := List.mem_map.1 hx
      exact (hg i (List.mem_range.1 hi)).choose_spec.2.2.1
section
variable {Hy : Type} {enc : TypeId × Value → Hy} {w : World} {base : Nat} {spare : Nat → Bool} {held : Bool} {r : Reach} {b0 : Nat} {v : Value} {d : DataW Hy} {p : List MemPlace}
  {ts : List TypeId} {ds : List (DataW Hy)} {j : Nat}
theorem halves_of (hsz : (DataW.weightsEach Tryd.prog ts ds).all (· ≤ reachBytes) = true) (ht : ts[j]? = some 47) (hd : ds[j]? = some d)
    (hv : Value.okWide Tryd.prog w r b0 47 v) (h : DataW.Trod enc Tryd.prog w base spare held 47 v d p) :
    ∃ (A : Option Addr) (c : Nat) (l : List H.S68), v = .slice A l.length c ∧ Kd.C H.k68 w A l.length l ∧ l.length ≤ c ∧ l.length * 48 ≤ 140737488351232 := by
  obtain ⟨A, c, l, e, h1, h2, h3, _⟩ := list_of H.k68 H.z68 (size := 6) (B := 48) Tryd.underlying47 (by kernel_rfl) (by kernel_rfl) rfl (by omega) (fun _ => True)
    (fun fuel cs y hy => by obtain ⟨x, rfl⟩ := half_cells hy; exact ⟨x, H.k68_mk _ _, trivial⟩) hsz ht hd hv h
  exact ⟨A, c, l, e, h1, h2, h3⟩
theorem words_of (hsz : (DataW.weightsEach Tryd.prog ts ds).all (· ≤ reachBytes) = true) (ht : ts[j]? = some 51) (hd : ds[j]? = some d)
    (hv : Value.okWide Tryd.prog w r b0 51 v) (h : DataW.Trod enc Tryd.prog w base spare held 51 v d p) :
    ∃ (A : Option Addr) (c : Nat) (l : List H.S54), v = .slice A l.length c ∧ Kd.C H.k54 w A l.length l ∧ l.length ≤ c ∧ l.length * 64 ≤ 140737488351232 := by
  obtain ⟨A, c, l, e, h1, h2, h3, _⟩ := list_of H.k54 H.z54 (size := 8) (B := 64) Tryd.underlying51 (by kernel_rfl) (by kernel_rfl) rfl (by omega) (fun _ => True)
    (fun fuel cs y hy => by obtain ⟨a0, a1, a2, a3, a4, a5, a6, a7, rfl⟩ := word_cells hy; exact ⟨⟨a0, a1, a2, a3, a4, a5, ⟨a6, a7⟩⟩, H.k54_mk _ _, trivial⟩) hsz ht hd hv h
  exact ⟨A, c, l, e, h1, h2, h3⟩
theorem bytes_of (hsz : (DataW.weightsEach Tryd.prog ts ds).all (· ≤ reachBytes) = true) (ht : ts[j]? = some 27) (hd : ds[j]? = some d)
    (hv : Value.okWide Tryd.prog w r b0 27 v) (h : DataW.Trod enc Tryd.prog w base spare held 27 v d p) :
    ∃ (A : Option Addr) (c : Nat) (l : List Int), v = .slice A l.length c ∧ Kd.C (Kd.int .u8) w A l.length l ∧ l.length ≤ c ∧ l.length * 1 ≤ 140737488351232 ∧ ∀ x ∈ l, 0 ≤ x ∧ x < 256 := by
  refine list_of (Kd.int .u8) 0 (size := 1) (B := 1) Tryd.underlying27 (by kernel_rfl) (by kernel_rfl) rfl (by omega) (fun x => 0 ≤ x ∧ x < 256)
    (fun fuel cs y hy => ?_) hsz ht hd hv h
  obtain ⟨x, rfl, _, hw⟩ := DataW.trod_int Tryd.underlying5 hy
  simp [Lit.wf, IntKind.min, IntKind.max, IntKind.signed, IntKind.bits] at hw
  exact ⟨x, rfl, by omega⟩
theorem shorts_of (hsz : (DataW.weightsEach Tryd.prog ts ds).all (· ≤ reachBytes) = true) (ht : ts[j]? = some 22) (hd : ds[j]? = some d)
    (hv : Value.okWide Tryd.prog w r b0 22 v) (h : DataW.Trod enc Tryd.prog w base spare held 22 v d p) :
    ∃ (A : Option Addr) (c : Nat) (l : List Int), v = .slice A l.length c ∧ Kd.C (Kd.int .u16) w A l.length l ∧ l.length ≤ c ∧ l.length * 2 ≤ 140737488351232 ∧ ∀ x ∈ l, 0 ≤ x ∧ x < 65536 := by
  refine list_of (Kd.int .u16) 0 (size := 1) (B := 2) Tryd.underlying22 (by kernel_rfl) (by kernel_rfl) rfl (by omega) (fun x => 0 ≤ x ∧ x < 65536)
    (fun fuel cs y hy => ?_) hsz ht hd hv h
  obtain ⟨x, rfl, _, hw⟩ := DataW.trod_int Tryd.underlying33 hy
  simp [Lit.wf, IntKind.min, IntKind.max, IntKind.signed, IntKind.bits] at hw
  exact ⟨x, rfl, by omega⟩
end
end Go.Proofs.YtncgeclkgmfppaaDoor
