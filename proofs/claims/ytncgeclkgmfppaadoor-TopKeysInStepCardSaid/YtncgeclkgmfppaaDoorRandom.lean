/-
  Package random: what Next, first and Below compute, where the table of shifts and factors lies in memory.
-/
import Derived.Test.YtncgeclkgmfppaaDoorProg
import Derived.Below
import Derived.WalkKit
import Derived.Outline
import Derived.WalkLawsBesides
import Derived.WalkSpells
import Derived.Laws.Rows
import Derived.Deep.QuietTactic
import Derived.BigQuiet
import Derived.Laws.EntriesVeiled
import Derived.RangeFuncIn
import Derived.RangeFuncSeq
import Derived.RangeFuncKeeps
import Derived.RangeFuncLeaves
import Derived.RangeFuncCalls
import Derived.RangeFuncBox
import Derived.RangeFuncNested
import Derived.RangeFuncBound
import Derived.Lib.Hide
import Derived.Shelf.Abstract
import Derived.OwnWalkIn
import Derived.TacticsInMore
import Derived.LoopNIn
import Derived.LoopIn
namespace Go.Proofs.YtncgeclkgmfppaaDoor.H
open Go.RowKit
set_option linter.unusedVariables false
set_option linter.unusedSimpArgs false
/-- The table random.steps lies in memory as the program's text lays it. -/
structure Laid (w : World) : Prop where
  c0 : w.cell? ⟨0, 0, none⟩ = some (.int .i64 30)
  c1 : w.cell? ⟨0, 1, none⟩ = some (.int .u64 13787848793156543929)
  c2 : w.cell? ⟨0, 2, none⟩ = some (.int .i64 27)
  c3 : w.cell? ⟨0, 3, none⟩ = some (.int .u64 10723151780598845931)
  c4 : w.cell? ⟨0, 4, none⟩ = some (.int .i64 31)
  c5 : w.cell? ⟨0, 5, none⟩ = some (.int .u64 1)
theorem Laid.lt {w : World} (h : Laid w) : 0 < w.heap.size := World.block_lt_of_cell? w _ h.c0
theorem Laid.later {w W : World} (h : Laid w) (hb : Below w.heap.size w W) : Laid W :=
  ⟨(hb.cell (p := ⟨0, 0, none⟩) h.lt).trans h.c0, (hb.cell (p := ⟨0, 1, none⟩) h.lt).trans h.c1, (hb.cell (p := ⟨0, 2, none⟩) h.lt).trans h.c2, (hb.cell (p := ⟨0, 3, none⟩) h.lt).trans h.c3, (hb.cell (p := ⟨0, 4, none⟩) h.lt).trans h.c4, (hb.cell (p := ⟨0, 5, none⟩) h.lt).trans h.c5⟩
theorem ra_alloc {w W : World} (h : Below w.heap.size w W) (o : Obj) : Below w.heap.size w (W.alloc o) := h.alloc h.size o
theorem ra_drew {w W : World} (h : Below w.heap.size w W) : Below w.heap.size w W.drew := h.drew
theorem ra_drewN {w W : World} (h : Below w.heap.size w W) (n : Nat) : Below w.heap.size w (W.drewN n) := ⟨h.os, h.tape, h.output, h.size, h.block⟩
theorem ra_set {w W : World} (h : Below w.heap.size w W) {p : Addr} (v : Value) (hp : w.heap.size ≤ p.block) : Below w.heap.size w (W.setCell p v) := h.setCell hp v
theorem ra_step {w W W2 : World} (h : Below w.heap.size w W) (k : Below W.heap.size W W2) : Below w.heap.size w W2 := h.trans (k.mono h.size)
def nextV (a0 : Int) : Int := IntKind.u64.wrap (Go.bits .xor .u64 (IntKind.u64.wrap ((Go.bits .xor .u64 (IntKind.u64.wrap ((Go.bits .xor .u64 (IntKind.u64.wrap (a0 + 11400714819323198485)) ((IntKind.u64.wrap (a0 + 11400714819323198485)) / 1073741824)) * 13787848793156543929)) ((IntKind.u64.wrap ((Go.bits .xor .u64 (IntKind.u64.wrap (a0 + 11400714819323198485)) ((IntKind.u64.wrap (a0 + 11400714819323198485)) / 1073741824)) * 13787848793156543929)) / 134217728)) * 10723151780598845931)) ((IntKind.u64.wrap ((Go.bits .xor .u64 (IntKind.u64.wrap ((Go.bits .xor .u64 (IntKind.u64.wrap (a0 + 11400714819323198485)) ((IntKind.u64.wrap (a0 + 11400714819323198485)) / 1073741824)) * 13787848793156543929)) ((IntKind.u64.wrap ((Go.bits .xor .u64 (IntKind.u64.wrap (a0 + 11400714819323198485)) ((IntKind.u64.wrap (a0 + 11400714819323198485)) / 1073741824)) * 13787848793156543929)) / 134217728)) * 10723151780598845931)) / 2147483648))
set_option maxHeartbeats 2000000 in
theorem next_any (s : Int) (w : World) (hG : Laid w) :
    Calls Tryd.prog 109 #[.int .u64 s] w fun e w' => e = .returned (.int .u64 (nextV s)) ∧ Below w.heap.size w w' := by
  obtain ⟨g0, g1, g2, g3, g4, g5⟩ := hG
  have i0 : ∀ w, (Instr.index 159 (.agg #[.int .i64 30, .int .u64 13787848793156543929, .int .i64 27, .int .u64 10723151780598845931, .int .i64 31, .int .u64 1]) (.int .i64 0)).run Tryd.prog w = .ok (.agg #[.int .i64 30, .int .u64 13787848793156543929]) w := fun _ => by kernel_rfl
  have i1 : ∀ w, (Instr.index 159 (.agg #[.int .i64 30, .int .u64 13787848793156543929, .int .i64 27, .int .u64 10723151780598845931, .int .i64 31, .int .u64 1]) (.int .i64 1)).run Tryd.prog w = .ok (.agg #[.int .i64 27, .int .u64 10723151780598845931]) w := fun _ => by kernel_rfl
  have i2 : ∀ w, (Instr.index 159 (.agg #[.int .i64 30, .int .u64 13787848793156543929, .int .i64 27, .int .u64 10723151780598845931, .int .i64 31, .int .u64 1]) (.int .i64 2)).run Tryd.prog w = .ok (.agg #[.int .i64 31, .int .u64 1]) w := fun _ => by kernel_rfl
  go_enter Tryd.func109, Tryd.ntmps109
  go_wp2
  refine wp_loop_rounds 4 ?_
  iterate 3 (rw [rounds_succ]; go_wp2; go_quiet (fail); go_wp2)
  rw [rounds_succ]
  go_wp2
  go_ret
  refine ⟨?_, ?_⟩
  · unfold nextV
    rfl
  · repeat (first | (with_reducible exact Below.refl _ _) | (with_reducible refine ra_drewN ?_ _) | (with_reducible refine ra_drew ?_) | (with_reducible refine ra_alloc ?_ _))
theorem box_cell {W : World} {B t : Nat} {v : Value} (h : Boxed W B t v) {W1 : World} (hb : Below W.heap.size W W1) : Boxed W1 B t v := (hb.block B h.lt).trans h
section
attribute [local go_sem] Oper.semAt_some
set_option maxHeartbeats 2000000 in
/-- The iterator of the halves, where the round for its first element says that there shall be no more. -/
theorem halves1_once (n l gb : Nat) (hn : 2 ≤ n) (s : Int) (W : World) (hG : Laid W) (hb : Boxed W gb 129 (.int .u64 s)) (Jx : World → Prop)
    (hY : ∀ W1, Below W.heap.size W W1 → YieldAt Fence.wide (n - 1) Tryd.prog l #[.int .i64 (wrap64 (nextV s / 4294967296))] (W1.setCell ⟨gb, 0, none⟩ (.int .u64 (nextV s))) fun e W' => e = .returned (.bool false) ∧ Jx W') :
    CallsIn Fence.wide n Tryd.prog 108 #[.func (.yield l) #[] #[], .pointer (some ⟨gb, 0, none⟩)] W fun e W' => (∃ v, e = .returned v) ∧ Jx W' := by
  have hcl := hb.cell
  have hF109 : Fence.wide.fn 109 := trivial
  have hn1 : 1 ≤ n := by omega
  refine callsIn_of_wp Tryd.func108 rfl trivial ?_ rfl
  simp only [Tryd.ntmps108, List.size_toArray, List.length_cons, List.length_nil, Nat.reduceAdd, Nat.reduceSub, Array.replicate_succ, Array.replicate_zero, List.push_toArray, List.append_toArray, List.nil_append, List.cons_append]
  gi_wp2_with (gi_at_call 109; refine (callsIn_wide.2 (next_any s _ hG)).mono ?_; rintro e w1 ⟨rfl, hb1⟩; have c1 := (box_cell hb hb1).cell; have f1 := (box_cell hb hb1).frozen)
  refine wpIn_loop_rounds 1 ?_
  rw [roundsIn_succ]
  obtain ⟨fn, tmps, assign, body, hy, hR⟩ := hY w1 hb1
  gi_wp2
  refine hR.mono ?_
  rintro e W3 ⟨rfl, hJ⟩
  gi_wp2

  go_end0
  exact ⟨⟨_, rfl⟩, hJ⟩
theorem halves_any (n : Nat) (s : Int) (w : World) : CallsIn Fence.wide n Tryd.prog 104 #[.int .u64 s] w fun e w' => e = .returned (.func (.func 108) #[] #[.pointer (some ⟨w.heap.size, 0, none⟩)]) ∧ w' = w.alloc (.cells #[.int .u64 s] 129) := by
  refine callsIn_of_wp Tryd.func104 rfl trivial ?_ rfl
  simp only [Tryd.ntmps104, List.size_toArray, List.length_cons, List.length_nil, Nat.reduceAdd, Nat.reduceSub, Array.replicate_succ, Array.replicate_zero, List.push_toArray, List.append_toArray, List.nil_append, List.cons_append]
  gi_wp2
  go_ret
  exact ⟨rfl, rfl⟩
def halfV (s : Int) : Int := wrap64 (nextV s / 4294967296)
set_option maxHeartbeats 2000000 in
theorem first_any (s : Int) (w : World) (hG : Laid w) :
    Calls Tryd.prog 98 #[.int .u64 s] w fun e w' => e = .returned (.int .i64 (halfV s)) ∧ Below w.heap.size w w' := by
  refine (callsIn_wide (n := 6)).1 ?_
  have hF104 : Fence.wide.fn 104 := trivial
  refine callsIn_of_wp_marks Tryd.func98 rfl trivial ?_
  simp only [Tryd.ntmps98, List.size_toArray, List.length_cons, List.length_nil, Nat.reduceAdd, Nat.reduceSub, Array.replicate_succ, Array.replicate_zero, List.push_toArray, List.append_toArray, List.nil_append, List.cons_append]
  gi_wp2_with (gi_at_call 104; refine (halves_any _ _ _).mono ?_; rintro e w' ⟨rfl, rfl⟩)
  refine wpIn_rangeFunc ?_
  intro fn hfn
  obtain ⟨W0, hW0⟩ : ∃ W0 : World, (w.alloc (.cells #[.int .i64 0] 3)).alloc (.cells #[.int .u64 s] 129) = W0 := ⟨_, rfl⟩
  have hsz : w.heap.size + 2 ≤ W0.heap.size := by rw [← hW0]; simp
  have hB0 : Below w.heap.size w W0 := by rw [← hW0]; exact ra_alloc (ra_alloc (Below.refl _ _) _) _
  have hbr : Boxed W0 w.heap.size 3 (.int .i64 0) := by rw [← hW0]; exact (Boxed.new w 3 _).alloc _
  have hbg : Boxed W0 (w.heap.size + 1) 129 (.int .u64 s) := by
    rw [← hW0]; have := Boxed.new (w.alloc (.cells #[.int .i64 0] 3)) 129 (.int .u64 s); rwa [World.size_alloc] at this
  rw [hW0]
  obtain ⟨rec, hrec⟩ : ∃ rec : LoopState → Option Code → Loop, Hid (rec = fun st pe => { state := st, pending := pe, fn := fn, tmps := #[.int .u64 s, undef, .pointer (some ⟨w.heap.size, 0, none⟩), undef, .int .u64 s, .func (.func 108) #[] #[.pointer (some ⟨w.heap.size + 1, 0, none⟩)], undef, undef], params := #[6], assign := (Code.region 2 #[{ dst := some 3, op := Op.assign (Operand.tmp 6), type := 3, pos := "random.go:31", after := #[], guard := none }] false), body := (Code.block 1 ((Code.region 3 #[{ dst := some 7, op := Op.move (Operand.tmp 3), type := 3, pos := "random.go:32", after := #[], guard := none }, { dst := none, op := Op.store 3 (Operand.tmp 2) (Operand.tmp 7), type := 0, pos := "random.go:32", after := #[{ on := 0, ground := Ground.data }, { on := 0, ground := Ground.phase }], guard := none }] false).seq Code.ret)), defers := W0.heap.size }) := ⟨_, rfl⟩
  obtain ⟨W1, hW1⟩ : ∃ W1 : World, (W0.alloc (.deferred (some []))).alloc (.loop (rec .ready none)) = W1 := ⟨_, rfl⟩
  have hL1 : W1.heap[W0.heap.size + 1]? = some (.loop (rec .ready none)) := by
    rw [← hW1]; have := World.alloc_heap_new (W0.alloc (.deferred (some []))) (.loop (rec .ready none)); rwa [World.size_alloc] at this
  have hK1 : W1.heap[W0.heap.size]? = some (.deferred (some [])) := by
    rw [← hW1]; exact (Below.heap_alloc _ _ _ (by simp)).trans (World.alloc_heap_new W0 _)
  have hB1 : Below W0.heap.size W0 W1 := by rw [← hW1]; exact ra_alloc (ra_alloc (Below.refl _ _) _) _
  have hsz1 : W0.heap.size + 2 ≤ W1.heap.size := by rw [← hW1]; simp
  refine ⟨W0.heap.size + 1, [{ target := .collected W0.heap.size, args := #[] }], W1, { target := .fn (.func 108) #[.pointer (some ⟨w.heap.size + 1, 0, none⟩)], args := #[.func (.yield (W0.heap.size + 1)) #[] #[]] }, W1, 108,
    #[.func (.yield (W0.heap.size + 1)) #[] #[], .pointer (some ⟨w.heap.size + 1, 0, none⟩)], W1, ?_, ?_, ?_, ?_, fun _ => by omega, ?_⟩
  · rw [← hW1, hrec.out]; exact run_enterLoop_outer _ _ _ _ _
  · simp [resolve, go_sem]
  · intro f' hf'; simp [Target.leads] at hf'; subst hf'; trivial
  · simp [invoke, go_sem, enters_of Tryd.func108 (by kernel_rfl) rfl]
  · have hcl := halves1_once 5 (W0.heap.size + 1) (w.heap.size + 1) (by omega) s W1 (hG.later (ra_step hB0 hB1)) (box_cell hbg hB1)
      (fun W' => W'.heap[W0.heap.size + 1]? = some (.loop (rec .done (some .ret))) ∧ W'.heap[W0.heap.size]? = some (.deferred (some [])) ∧ Boxed W' w.heap.size 3 (.int .i64 (halfV s)) ∧ Below w.heap.size w W') ?hY
    case hY =>
      intro Wa hWa
      obtain ⟨W2, hW2⟩ : ∃ W2 : World, Wa.setCell ⟨w.heap.size + 1, 0, none⟩ (.int .u64 (nextV s)) = W2 := ⟨_, rfl⟩
      have hL2 : W2.heap[W0.heap.size + 1]? = some (.loop (rec .ready none)) := by
        rw [← hW2]; exact (Below.heap_setCell _ _ _ _ (by simp; omega)).trans ((hWa.block _ (by omega)).trans hL1)
      have hK2 : W2.heap[W0.heap.size]? = some (.deferred (some [])) := by
        rw [← hW2]; exact (Below.heap_setCell _ _ _ _ (by simp; omega)).trans ((hWa.block _ (by omega)).trans hK1)
      have hbr2 : Boxed W2 w.heap.size 3 (.int .i64 0) := by
        rw [← hW2]; exact (box_cell (box_cell hbr hB1) hWa).other (by omega) _
      have hB2 : Below w.heap.size w W2 := by
        rw [← hW2]; exact ra_set (ra_step (ra_step hB0 hB1) hWa) _ (by simp)
      rw [hW2]
      have hy := run_yield (P := Tryd.prog) (args := #[.int .i64 (wrap64 (nextV s / 4294967296))]) hL2 (by rw [hrec.out]; rfl)
      rw [hrec.out] at hy
      refine ⟨fn, _, _, _, hy, roundIn_of_wpIn hfn ?_⟩
      gi_wp2
      refine ⟨_, run_beginRound hL2 (by rw [hrec.out]), ?_⟩
      have hlt : W0.heap.size + 1 < W2.heap.size := (Array.getElem?_eq_some_iff.1 hL2).1
      have er : ({ rec .ready none with state := .busy } : Loop) = rec .busy none := by rw [hrec.out]
      rw [er]
      have hL3 : (W2.putObj (W0.heap.size + 1) (.loop (rec .busy none))).heap[W0.heap.size + 1]? = some (.loop (rec .busy none)) := World.putObj_heap_same hlt
      have hK3 : (W2.putObj (W0.heap.size + 1) (.loop (rec .busy none))).heap[W0.heap.size]? = some (.deferred (some [])) := (World.putObj_heap_other (by omega)).trans hK2
      have hbr3 : Boxed (W2.putObj (W0.heap.size + 1) (.loop (rec .busy none))) w.heap.size 3 (.int .i64 0) := (World.putObj_heap_other (by omega)).trans hbr2
      have hB3 : Below w.heap.size w (W2.putObj (W0.heap.size + 1) (.loop (rec .busy none))) := hB2.trans (belowK_b (w := w) (Nat.le_refl _) W2 _ _ _ (by omega) hL2 rfl rfl)
      generalize W2.putObj (W0.heap.size + 1) (.loop (rec .busy none)) = W3 at hL3 hK3 hbr3 hB3
      have hc3 := hbr3.cell
      have hf3 := hbr3.frozen
      gi_wp2
      have hL4 : (W3.setCell ⟨w.heap.size, 0, none⟩ (.int .i64 (wrap64 (nextV s / 4294967296)))).heap[W0.heap.size + 1]? = some (.loop (rec .busy none)) := (Below.heap_setCell _ _ _ _ (by simp; omega)).trans hL3
      have hK4 : (W3.setCell ⟨w.heap.size, 0, none⟩ (.int .i64 (wrap64 (nextV s / 4294967296)))).heap[W0.heap.size]? = some (.deferred (some [])) := (Below.heap_setCell _ _ _ _ (by simp; omega)).trans hK3
      have hbr4 : Boxed (W3.setCell ⟨w.heap.size, 0, none⟩ (.int .i64 (wrap64 (nextV s / 4294967296)))) w.heap.size 3 (.int .i64 (halfV s)) := hbr3.set _
      have hlt4 : W0.heap.size + 1 < (W3.setCell ⟨w.heap.size, 0, none⟩ (.int .i64 (wrap64 (nextV s / 4294967296)))).heap.size := (Array.getElem?_eq_some_iff.1 hL4).1
      have hend := run_endRound (P := Tryd.prog) (some .ret) hL4
      have er2 : ({ rec .busy none with state := if (some Code.ret).isNone = true then .ready else .done, pending := some .ret } : Loop) = rec .done (some .ret) := by rw [hrec.out]; rfl
      rw [er2] at hend
      refine ⟨_, _, hend, rfl, World.putObj_heap_same hlt4, (World.putObj_heap_other (by omega)).trans hK4, (World.putObj_heap_other (by omega)).trans hbr4, ?_⟩
      exact (ra_set hB3 _ (by simp)).trans (belowK_b (w := w) (Nat.le_refl _) _ _ _ _ (by omega) hL4 rfl rfl)
    refine hcl.mono ?_
    rintro e W5 ⟨⟨v, rfl⟩, hL5, hK5, hbr5, hB5⟩
    have hne5 : (rec .done (some .ret)).state ≠ .busy := by rw [hrec.out]; intro h; cases h
    have hend5 := run_endLoop (P := Tryd.prog) hL5 hne5
    have hp5 : (rec .done (some .ret)).pending = some .ret := by rw [hrec.out]
    have er3 : ({ rec .done (some .ret) with state := .exhausted } : Loop) = rec .exhausted (some .ret) := by rw [hrec.out]
    rw [er3, hp5] at hend5
    refine ⟨_, _, hend5, ?_⟩
    have hlt5 : W0.heap.size + 1 < W5.heap.size := (Array.getElem?_eq_some_iff.1 hL5).1
    have hK6 : (W5.putObj (W0.heap.size + 1) (.loop (rec .exhausted (some .ret)))).heap[W0.heap.size]? = some (.deferred (some [])) := (World.putObj_heap_other (by omega)).trans hK5
    have hbr6 : Boxed (W5.putObj (W0.heap.size + 1) (.loop (rec .exhausted (some .ret)))) w.heap.size 3 (.int .i64 (halfV s)) := (World.putObj_heap_other (by omega)).trans hbr5
    have hB6 : Below w.heap.size w (W5.putObj (W0.heap.size + 1) (.loop (rec .exhausted (some .ret)))) := hB5.trans (belowK_b (w := w) (Nat.le_refl _) W5 _ _ _ (by omega) hL5 rfl rfl)
    generalize W5.putObj (W0.heap.size + 1) (.loop (rec .exhausted (some .ret))) = W6 at hend5 hK6 hbr6 hB6 ⊢
    clear hend5
    gi_wp2
    refine ⟨by simp, .inl ⟨_, _, rfl, run_takeDeferred hK6, ?_⟩⟩
    have hbr7 : Boxed (W6.putObj W0.heap.size (.deferred none)) w.heap.size 3 (.int .i64 (halfV s)) := (World.putObj_heap_other (by omega)).trans hbr6
    have hc7 := hbr7.cell
    refine ⟨_, ?_, rfl, hB6.trans (belowK_b (w := w) (Nat.le_refl _) _ _ _ _ (by omega) hK6 rfl rfl)⟩
    simp [results, Tryd.results98, go_sem, hc7]
end
theorem halfV_range (s : Int) : 0 ≤ halfV s ∧ halfV s < 4294967296 := by
  have h : 0 ≤ nextV s ∧ nextV s < 18446744073709551616 := by
    unfold nextV
    generalize Go.bits .xor .u64 _ _ = x
    have e : IntKind.u64.wrap x = x % 18446744073709551616 := rfl
    rw [e]
    omega
  unfold halfV wrap64
  omega
set_option maxHeartbeats 1000000 in
/-- A number from 0 to 999999999. -/
theorem below_any (s : Int) (w : World) (hG : Laid w) :
    Calls Tryd.prog 91 #[.int .u64 s, .int .i64 1000000000] w fun e w' => e = .returned (.int .i64 (halfV s % 1000000000)) ∧ Below w.heap.size w w' := by
  have hr := halfV_range s
  go_enter Tryd.func91, Tryd.ntmps91
  go_wp2_with (go_at_call 98; refine (first_any s _ hG).mono ?_; rintro e w' ⟨rfl, hb⟩)
  go_ret
  exact ⟨rfl, hb⟩
end Go.Proofs.YtncgeclkgmfppaaDoor.H
