/-
  A world in which one block has been written, and nothing else that was there: small laws.
-/
import Derived.Test.YtncgeclkgmfppaaDoorH0
import Derived.Test.YtncgeclkgmfppaaDoorRandom
import Derived.Laws.AppendOwn
import Derived.OwnWalk
namespace Go.Proofs.YtncgeclkgmfppaaDoor.H
open Go.RowKit Go.Proofs.YtncgeclkgmfppaaDoorW.PrintWords
set_option linter.unusedVariables false
set_option linter.unusedSimpArgs false
/-- What was there is there, but for block g. -/
def Gr (g : Nat) (w w' : World) : Prop := w.grownBy w' (some g)
theorem Gr.refl (g : Nat) (w : World) : Gr g w w := World.grownBy.refl w _
theorem Gr.size {g : Nat} {w W : World} (h : Gr g w W) : w.heap.size ≤ W.heap.size := World.grownBy.size h
theorem Gr.trans {g : Nat} {w W W2 : World} (h : Gr g w W) (k : Gr g W W2) : Gr g w W2 := World.grownBy.trans h k
theorem Gr.alloc {g : Nat} {w W : World} (h : Gr g w W) (o : Obj) : Gr g w (W.alloc o) := Gr.trans h (World.grownBy_alloc W o _)
theorem Gr.drew {g : Nat} {w W : World} (h : Gr g w W) : Gr g w W.drew := ⟨h.os, h.tape, h.output, h.size, h.block⟩
theorem Gr.drewN {g : Nat} {w W : World} (h : Gr g w W) (n : Nat) : Gr g w (W.drewN n) := ⟨h.os, h.tape, h.output, h.size, h.block⟩
theorem Gr.below {g : Nat} {w W W2 : World} (h : Gr g w W) (hb : Below W.heap.size W W2) : Gr g w W2 :=
  ⟨hb.os.trans h.os, hb.tape.trans h.tape, hb.output.trans h.output, Nat.le_trans h.size hb.size, fun i hi hne => (hb.block i (Nat.lt_of_lt_of_le hi h.size)).trans (h.block i hi hne)⟩
theorem heap_set_ne (W : World) (p : Addr) (v : Value) (k : Nat) (h : k ≠ p.block) : (W.setCell p v).heap[k]? = W.heap[k]? := Below.heap_setCell W p v k h
theorem Gr.own {g i : Nat} {w W : World} (h : Gr g w W) (v : Value) : Gr g w (W.setCell ⟨g, i, none⟩ v) := by
  have b := (Below.refl 0 W).setCell (p := ⟨g, i, none⟩) (Nat.zero_le _) v
  refine ⟨b.os.trans h.os, b.tape.trans h.tape, b.output.trans h.output, Nat.le_trans h.size b.size, fun k hk hne => ?_⟩
  rw [heap_set_ne _ _ _ _ (by intro e; exact hne (by rw [e]))]
  exact h.block k hk hne
theorem Gr.new {g : Nat} {p : Addr} {w W : World} (h : Gr g w W) (v : Value) (hp : w.heap.size ≤ p.block) : Gr g w (W.setCell p v) := by
  have b := (Below.refl 0 W).setCell (p := p) (Nat.zero_le _) v
  refine ⟨b.os.trans h.os, b.tape.trans h.tape, b.output.trans h.output, Nat.le_trans h.size b.size, fun k hk hne => ?_⟩
  rw [heap_set_ne _ _ _ _ (by omega)]
  exact h.block k hk hne
theorem Gr.of_below {g : Nat} {w W : World} (hb : Below w.heap.size w W) : Gr g w W := Gr.below (Gr.refl g w) hb
/-- Where the block is the call's own: nothing that was there has changed. -/
theorem Gr.shut {g : Nat} {w0 w W : World} (h0 : Below w0.heap.size w0 w) (h : Gr g w W) (hg : w0.heap.size ≤ g) : Below w0.heap.size w0 W := h0.grown h h0.size (fun k hk => by injection hk with hk; omega)
theorem Gr.cell {g : Nat} {w W : World} (h : Gr g w W) {p : Addr} {v : Value} (hc : w.cell? p = some v) (hne : p.block ≠ g) : W.cell? p = some v := World.grownBy.cell h hc (by intro e; injection e with e; exact hne e)
theorem Gr.C {α : Type} {d : Kd α} {g : Nat} {w W : World} {A : Option Addr} {n : Nat} {xs : List α} (hR : ∀ (x : α) (cs : List Value), d.K w x cs → d.K W x cs) (h : Gr g w W) (hc : Kd.C d w A n xs) (hA : ∀ ad, A = some ad → ad.block ≠ g) : Kd.C d W A n xs := by
  obtain ⟨h1, h2, h3⟩ := hc
  refine ⟨h1, h2, fun hn => ?_⟩
  obtain ⟨ad, e, hk⟩ := h3 hn
  refine ⟨ad, e, fun j p hj => ?_⟩
  obtain ⟨c, hl, hK, hat⟩ := hk j p hj
  refine ⟨c, hl, hR _ _ hK, fun i u hu => Gr.cell h (hat i u hu) ?_⟩
  have := hA ad e
  unfold Addr.add
  split <;> simpa using this
theorem Gr.C68 {g : Nat} {w W : World} {A : Option Addr} {n : Nat} {xs : List S68} (h : Gr g w W) (hc : Kd.C k68 w A n xs) (hA : ∀ ad, A = some ad → ad.block ≠ g) : Kd.C k68 W A n xs :=
  Gr.C (fun x cs hK => by obtain rfl := k68_open hK; exact k68_mk W x) h hc hA
theorem Gr.C54 {g : Nat} {w W : World} {A : Option Addr} {n : Nat} {xs : List S54} (h : Gr g w W) (hc : Kd.C k54 w A n xs) (hA : ∀ ad, A = some ad → ad.block ≠ g) : Kd.C k54 W A n xs :=
  Gr.C (fun x cs hK => by obtain rfl := k54_open hK; exact k54_mk W x) h hc hA
end Go.Proofs.YtncgeclkgmfppaaDoor.H
