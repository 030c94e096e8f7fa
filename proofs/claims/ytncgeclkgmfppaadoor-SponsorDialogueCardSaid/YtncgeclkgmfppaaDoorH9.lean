/-
  What functions of the program compute, as plain functions, each with its contract: the call returns just that, from every memory that holds its arguments.
-/
import Derived.Test.YtncgeclkgmfppaaDoorH0
import Derived.WalkLawsBesides
import Derived.WalkSpells
import Derived.Laws.EntriesVeiled
import Derived.Lib.SliceRun
import Derived.Outline
import Derived.Deep.DeepFit
namespace Go.Proofs.YtncgeclkgmfppaaDoor.H
open Go.RowKit Go.Proofs.YtncgeclkgmfppaaDoorW.PrintWords Go.Proofs.YtncgeclkgmfppaaDoorW.PrintLast Go.Proofs.YtncgeclkgmfppaaDoorW.PrintMore
attribute [local go_sem] max2_int min2_int max_two min_two max_three min_three max_four min_four   -- for this text's walks alone
set_option linter.unusedVariables false
set_option linter.unusedSimpArgs false

-- HAND slotmesh/sponsor.Expire
/-! ### sponsor_Expire: function 31 -/
def sponsor_Expire.f (l0 : List S68) (a1 : Int) : Option (List S68) := if l0.length < 2932031007402 then some (l0.filter fun h => !(decide (h.f3 < a1))) else none
theorem expire_del (h : S68) (fr : Int) (gb : Nat) (w : World) (hc : w.cell? ⟨gb, 0, none⟩ = some (.int .i64 fr)) :
    Calls Tryd.prog 75 #[.agg #[.int .i64 h.f0, .int .i64 h.f1, .int .i64 h.f2, .int .i64 h.f3, .bool h.f4, .int .i64 h.f5], .pointer (some ⟨gb, 0, none⟩)] w fun e w' => e = .returned (.bool (decide (h.f3 < fr))) ∧ Below w.heap.size w w' := by
  have hc' := World.cell?_alloc_some w ⟨gb, 0, none⟩ (.cells #[.int .i64 h.f0, .int .i64 h.f1, .int .i64 h.f2, .int .i64 h.f3, .bool h.f4, .int .i64 h.f5] 68) (by rw [hc]; rfl)
  rw [hc] at hc'
  go_enter Tryd.func75, Tryd.ntmps75
  go_wp2
  go_ret
  exact ⟨rfl, (Below.refl _ _).alloc (Nat.le_refl _) _⟩
/-- 'clear(s)' on a slice of n elements: its cells hold zero values; what they are does not matter here. -/
theorem run_clear_rows (P : Program) (w : World) (t e : TypeId) (z : Value) (m : Nat) (ht : P.underlying t = some (.slice e)) (hv : ∀ w, (zeroValue e).run P w = .ok z w) (hz : z.cells.size = m) (hm : 0 < m) (h1 : ∀ v ∈ z.cells.toList, v.oneCell' = true) (b o n c : Nat) (hn : 0 < n)
    (hc : ∀ j, j < n * m → (w.cell? ⟨b, o + j, none⟩).isSome = true) (hf : ∀ j, j < n * m → w.frozen? ⟨b, o + j, none⟩ = false) :
    ∃ zs : List Value, zs.length = n * m ∧ ∀ ty, (Builtin.clear_ #[t] ty #[.slice (some ⟨b, o, none⟩) n c]).run P w = .ok (.tuple #[]) (w.setCells b o zs) := by
  refine ⟨(Builtin.zeroCells z.cells n).toList, by simp [Builtin.zeroCells, hz], fun ty => ?_⟩
  have hst := run_storeCells_cells (P := P) b o (Builtin.zeroCells z.cells n).toList 0 w (by simpa [Builtin.zeroCells, hz] using hc) (by simpa [Builtin.zeroCells, hz] using hf) (by
    intro v hv'
    simp only [Builtin.zeroCells, Array.toList_map, List.mem_map] at hv'
    obtain ⟨i, _, rfl⟩ := hv'
    have hlt : i % z.cells.size < z.cells.size := Nat.mod_lt _ (by omega)
    rw [getElem!_pos z.cells _ hlt]
    exact h1 _ (by simp))
  simp only [Nat.add_zero] at hst
  obtain ⟨k, rfl⟩ : ∃ k, n = k + 1 := ⟨n - 1, by omega⟩
  simp [Builtin.clear_, run_underlying ht, hv, hst]
/-- The first element from place i on that has ended. -/
def firstEnd (fr : Int) : List S68 → Nat → Int
  | [], _ => -1
  | h :: r, i => if h.f3 < fr then i else firstEnd fr r (i + 1)
set_option maxHeartbeats 1000000 in
theorem expire_index (l : List S68) (fr : Int) (gb : Nat) (A : Option Addr) (c : Nat) (w : World) (hr : Kd.C k68 w A l.length l) (hc : w.cell? ⟨gb, 0, none⟩ = some (.int .i64 fr)) :
    Calls Tryd.prog 97 #[.slice A l.length c, .func (.func 75) #[] #[.pointer (some ⟨gb, 0, none⟩)]] w fun e w' => e = .returned (.int .i64 (firstEnd fr l 0)) ∧ Below w.heap.size w w' := by
  have hm := hr.2.1
  have HR := Aside0.mk hr
  have HCC := Aside0.mk hc
  clear hr hc
  go_enter Tryd.func97, Tryd.ntmps97
  go_wp2
  go_loopw [8] (fun i wr => ∃ k : Nat, k ≤ l.length ∧ i = .int .i64 k ∧ Aside0 (firstEnd fr l 0 = firstEnd fr (l.drop k) k) ∧ Aside0 (Below w.heap.size w wr)) (fun i _ => l.length - (intOf i).toNat)
  case atStart => exact ⟨0, Nat.zero_le _, rfl, ⟨rfl⟩, ⟨Below.refl _ _⟩⟩
  case round =>
    obtain ⟨k, hk, rfl, HF, HB⟩ := hrel
    by_cases hlt : k < l.length
    · have hd : l.drop k = rd_T68 l k :: l.drop (k + 1) := by
        rw [List.drop_eq_getElem_cons hlt]
        simp [rd_T68, List.getD, hlt]
      have HD := Aside0.mk hd
      clear hd
      obtain ⟨ad, rfl, c0, c1, c2, c3, c4, c5⟩ := at_T68 (Kd.C_below HR.out HB.out) (k : Int) (by omega) (by omega)
      have hcb := (HB.out.cell (p := ⟨gb, 0, none⟩) (World.block_lt_of_cell? _ _ HCC.out)).trans HCC.out
      simp only [Int.toNat_natCast] at c0 c1 c2 c3 c4 c5
      go_wp2_with (go_at_call 75; refine (expire_del (rd_T68 l k) fr gb _ hcb).mono ?_; rintro e w' ⟨rfl, hb⟩)
      · have hy : (rd_T68 l k).f3 < fr := by assumption
        go_ret
        refine ⟨?_, below_step HB.out hb⟩
        rw [HF.out, HD.out]
        unfold firstEnd
        rw [if_pos hy]
        rfl
      · have hn : fr ≤ (rd_T68 l k).f3 := by assumption
        go_roundw
        case rel =>
          refine ⟨k + 1, by omega, by go_num, ⟨?_⟩, ⟨below_step HB.out hb⟩⟩
          rw [HF.out, HD.out]
          simp only [firstEnd]
          rw [if_neg (by omega)]
        case measure => simp [intOf]; omega
    · have hk' : k = l.length := by omega
      go_wp2
      go_ret
      refine ⟨?_, HB.out⟩
      rw [HF.out, hk', List.drop_length]
      rfl

/-- What is left of a list, an element having been struck at each place where it has ended. -/
def lives (fr : Int) (l : List S68) : List S68 := l.filter fun h => !(decide (h.f3 < fr))
theorem firstEnd_spec (fr : Int) : ∀ (l : List S68) (i : Nat), (firstEnd fr l i = -1 ∧ lives fr l = l) ∨ ∃ k, k < l.length ∧ firstEnd fr l i = ((i + k : Nat) : Int) ∧ lives fr (l.take k) = l.take k ∧ (rd_T68 l k).f3 < fr
  | [], _ => .inl ⟨rfl, rfl⟩
  | h :: r, i => by
    by_cases hh : h.f3 < fr
    · exact .inr ⟨0, by simp, by simp [firstEnd, hh], rfl, by simpa [rd_T68] using hh⟩
    · have hk : (!(decide (h.f3 < fr))) = true := by simpa using hh
      rcases firstEnd_spec fr r (i + 1) with ⟨h1, h2⟩ | ⟨k, h1, h2, h3, h4⟩
      · refine .inl ⟨by simp [firstEnd, hh, h1], ?_⟩
        unfold lives at h2 ⊢
        rw [List.filter_cons, if_pos hk, h2]
      · refine .inr ⟨k + 1, by simp; omega, by simp only [firstEnd]; rw [if_neg hh, h2]; congr 1; omega, ?_, ?_⟩
        · unfold lives at h3 ⊢
          rw [List.take_succ_cons, List.filter_cons, if_pos hk, h3]
        · have e : rd_T68 (h :: r) ((k + 1 : Nat) : Int) = rd_T68 r (k : Int) := by
            unfold rd_T68
            rw [show ((k + 1 : Nat) : Int).toNat = k + 1 from by omega, show (k : Int).toNat = k from by omega]
            simp
          rw [e]; exact h4
theorem setCells_block {g t : Nat} : ∀ (vs : List Value) (o : Nat) (w : World) (cs : Array Value), w.heap[g]? = some (.cells cs t (0, 0)) → ∃ cs' : Array Value, (w.setCells g o vs).heap[g]? = some (.cells cs' t (0, 0)) ∧ cs'.size = cs.size ∧ ∀ i, i < o → cs'[i]? = cs[i]?
  | [], o, w, cs, h => ⟨cs, h, rfl, fun _ _ => rfl⟩
  | v :: r, o, w, cs, h => by
    obtain ⟨cs', h1, h2, h3⟩ := setCells_block r (o + 1) (w.setCell ⟨g, o, none⟩ v) _ (blk_set h o v)
    refine ⟨cs', h1, by rw [h2]; simp, fun i hi => ?_⟩
    rw [h3 i (by omega)]
    exact Array.getElem?_setIfInBounds_ne (by omega)
/-- A row that is cut at i stays as it is where what lies behind is written over. -/
theorem R_cut {w : World} {base g i cap : Nat} {xs : List S68} {o : Nat} (vs : List Value) (h : Kd.R k68 68 w base (fun _ => True) (.slice (some ⟨g, 0, none⟩) i cap) xs) (ho : xs.length * 6 ≤ o) :
    Kd.R k68 68 (w.setCells g o vs) base (fun _ => True) (.slice (some ⟨g, 0, none⟩) i cap) xs := by
  obtain ⟨h0, inner, ⟨hl, hown⟩, hr⟩ := h
  rcases hown with ⟨hv, _⟩ | ⟨g', cap', cur, hv, hb, hh, hnc, hcm, hcs, hin⟩
  · cases hv
  injection hv with ha hn hc
  injection ha with ha
  injection ha with hg'
  subst hg'; subst hc
  obtain ⟨cs', e1, e2, e3⟩ := setCells_block vs o w cur hh
  refine ⟨h0, inner, ⟨hl, .inr ⟨g, cap, cs', by rw [hn], hb, e1, hnc, hcm, by rw [e2]; exact hcs, ?_⟩⟩, ?_⟩
  · rw [← hin]
    have hsz : xs.length * k68.sz ≤ o := ho
    apply List.ext_getElem?
    intro j
    simp only [List.getElem?_take]
    split
    · have := e3 j (by omega)
      simpa using this
    · rfl
  · exact hr.imp_ (fun x cs hp => by rw [k68_openM hp]; exact k68_mkM _ _ _ _)
theorem cells68 {w : World} {g n : Nat} {xs : List S68} (h : Kd.C k68 w (some ⟨g, 0, none⟩) n xs) (k : Nat) (hk : k < n) : w.cell? ⟨g, k * 6, none⟩ = some (.int .i64 (rd_T68 xs k).f0) ∧ w.cell? ⟨g, k * 6 + 1, none⟩ = some (.int .i64 (rd_T68 xs k).f1) ∧ w.cell? ⟨g, k * 6 + 2, none⟩ = some (.int .i64 (rd_T68 xs k).f2) ∧ w.cell? ⟨g, k * 6 + 3, none⟩ = some (.int .i64 (rd_T68 xs k).f3) ∧ w.cell? ⟨g, k * 6 + 4, none⟩ = some (.bool (rd_T68 xs k).f4) ∧ w.cell? ⟨g, k * 6 + 5, none⟩ = some (.int .i64 (rd_T68 xs k).f5) := by
  obtain ⟨ad, he, c0, c1, c2, c3, c4, c5⟩ := at_T68 h (k : Int) (by omega) (by omega)
  injection he with he
  subst he
  have hadd : ∀ m : Nat, (⟨g, 0, none⟩ : Addr).add m = ⟨g, m, none⟩ := fun m => by unfold Addr.add; split <;> simp_all
  simp only [Int.toNat_natCast, hadd] at c0 c1 c2 c3 c4 c5
  exact ⟨c0, c1, c2, c3, c4, c5⟩
theorem lives_snoc (fr : Int) (l : List S68) (j : Nat) (hj : j < l.length) : lives fr (l.take (j + 1)) = lives fr (l.take j) ++ (if (rd_T68 l j).f3 < fr then [] else [rd_T68 l j]) := by
  have e : rd_T68 l j = l[j] := by simp [rd_T68, List.getD, hj]
  rw [List.take_succ_eq_append_getElem hj]
  unfold lives
  rw [List.filter_append, e]
  by_cases h : l[j].f3 < fr <;> simp [List.filter_cons, h]
theorem cell_grown {W W2 : World} {g gb o : Nat} {v : Value} (h : W.cell? ⟨gb, o, none⟩ = some v) (hg : W.grownBy W2 (some g)) (hne : gb ≠ g) : W2.cell? ⟨gb, o, none⟩ = some v := by
  have hlt := World.block_lt_of_cell? W _ h
  have hb := hg.block gb hlt (by simpa using hne)
  simp only [World.cell?] at h ⊢
  rw [hb]; exact h
theorem rd_set_ne (xs : List S68) (i m : Nat) (h : S68) (hne : i ≠ m) : rd_T68 (xs.set i h) m = rd_T68 xs m := by
  simp [rd_T68, List.getD, List.getElem?_set_ne hne]
theorem R_block {w : World} {base g n cap : Nat} {xs : List S68} (h : Kd.R k68 68 w base (fun _ => True) (.slice (some ⟨g, 0, none⟩) n cap) xs) : ∃ cur : Array Value, w.heap[g]? = some (.cells cur 68 (0, 0)) ∧ cur.size = cap * 6 ∧ base ≤ g := by
  obtain ⟨h0, inner, ⟨hl, hown⟩, hr⟩ := h
  rcases hown with ⟨hv, _⟩ | ⟨g', cap', cur, hv, hb, hh, hnc, hcm, hcs, hin⟩
  · cases hv
  injection hv with ha hn hc
  injection ha with ha
  injection ha with hg'
  subst hg'; subst hc
  exact ⟨cur, hh, hcs, hb⟩
theorem isSome_of {w : World} {g t i : Nat} {cs : Array Value} (h : w.heap[g]? = some (.cells cs t (0, 0))) (hi : i < cs.size) : (w.cell? ⟨g, i, none⟩).isSome = true := by
  rw [blk_cell h]
  simp [hi]
theorem zeroValue68 (w : World) : (zeroValue 68).run Tryd.prog w = .ok (.agg #[.int .i64 0, .int .i64 0, .int .i64 0, .int .i64 0, .bool false, .int .i64 0]) w := by kernel_rfl
theorem below_setCells {base : Nat} {w0 w : World} {g o : Nat} (hb : Below base w0 w) (hg : base ≤ g) : ∀ (vs : List Value) (o : Nat) (w : World), Below base w0 w → Below base w0 (w.setCells g o vs)
  | [], _, _, h => h
  | v :: r, o, w, h => below_setCells (w0 := w0) (g := g) (o := o) hb hg r (o + 1) _ (h.setCell hg v)
set_option maxHeartbeats 2000000 in
theorem expire_delete (w0 : World) (base : Nat) (l : List S68) (fr : Int) (gb g cap : Nat) (w : World) (hR : Kd.R k68 68 w base (fun _ => True) (.slice (some ⟨g, 0, none⟩) l.length cap) l) (hB : Below base w0 w) (hbs : base ≤ w.heap.size) (hc : w.cell? ⟨gb, 0, none⟩ = some (.int .i64 fr)) (hg : gb ≠ g) :
    Calls Tryd.prog 73 #[.slice (some ⟨g, 0, none⟩) l.length cap, .func (.func 75) #[] #[.pointer (some ⟨gb, 0, none⟩)]] w fun e w' => ∃ v : Value, e = .returned v ∧ Kd.R k68 68 w' base (fun _ => True) v (lives fr l) ∧ Below base w0 w' := by
  obtain ⟨_, hcap, hC⟩ := Kd.R_reads' hR
  have hm := hC.2.1
  have HR := Aside0.mk hR
  have HB := Aside0.mk hB
  have HCC := Aside0.mk hc
  have HC := Aside0.mk hC
  clear hR hB hc hC
  rcases firstEnd_spec fr l 0 with ⟨hf, hl⟩ | ⟨k0, hk0, hf, hl, he⟩
  · have HF := Aside0.mk hf
    have HL := Aside0.mk hl
    clear hf hl
    go_enter Tryd.func73, Tryd.ntmps73
    go_wp2_with (go_at_call 97; refine (expire_index l fr gb _ _ _ HC.out HCC.out).mono ?_; rintro e w' ⟨rfl, hb⟩; rw [HF.out])
    go_ret
    refine ⟨_, rfl, ?_, ?_⟩
    · rw [HL.out]; exact Kd.R_below HR.out hb
    · exact HB.out.trans (hb.mono hbs)
  · have HF := Aside0.mk hf
    have HL := Aside0.mk hl
    have HE := Aside0.mk he
    simp only [Nat.zero_add] at HF
    clear hf hl he
    have hz1 : ((k0 : Int) == -1) = false := beq_eq_false_iff_ne.2 (by omega)
    go_enter Tryd.func73, Tryd.ntmps73
    go_wp2_with (go_at_call 97; refine (expire_index l fr gb _ _ _ HC.out HCC.out).mono ?_; rintro e w' ⟨rfl, hb⟩; rw [HF.out])
    clear hz1
    go_loopw [5, 6] (fun si sj wr => ∃ (i j : Nat) (ys : List S68), si = .int .i64 i ∧ sj = .int .i64 j ∧ i < j ∧ j ≤ l.length ∧ ys.length = l.length ∧ Aside0 (ys.take i = lives fr (l.take j)) ∧ Aside0 (∀ m, j ≤ m → rd_T68 ys m = rd_T68 l m) ∧ Aside0 (Kd.R k68 68 wr base (fun _ => True) (.slice (some ⟨g, 0, none⟩) ys.length cap) ys) ∧ Aside0 (Below base w0 wr) ∧ base ≤ wr.heap.size ∧ Aside0 (wr.cell? ⟨gb, 0, none⟩ = some (.int .i64 fr))) (fun _ sj _ => l.length - (intOf sj).toNat)
    case atStart =>
      refine ⟨k0, k0 + 1, l, rfl, by go_num, by omega, by omega, rfl, ⟨?_⟩, ⟨fun _ _ => rfl⟩, ⟨Kd.R_below HR.out hb⟩, ⟨HB.out.trans (hb.mono hbs)⟩, Nat.le_trans hbs hb.size, ⟨(hb.cell (p := ⟨gb, 0, none⟩) (World.block_lt_of_cell? _ _ HCC.out)).trans HCC.out⟩⟩
      rw [lives_snoc fr l k0 hk0, if_pos HE.out, List.append_nil, HL.out]
    case round =>
      obtain ⟨i, j, ys, rfl, rfl, hij, hj, hyl, HT, HX, HRy, HBr, hbr, HGB⟩ := hrel
      by_cases hlt : j < l.length
      · obtain ⟨_, hycap, hCy⟩ := Kd.R_reads' HRy.out
        have hx := HX.out j (Nat.le_refl _)
        obtain ⟨c0, c1, c2, c3, c4, c5⟩ := cells68 hCy j (by omega)
        rw [hx] at c0 c1 c2 c3 c4 c5
        clear hCy hx
        generalize hh : rd_T68 l j = h at c0 c1 c2 c3 c4 c5
        have HH := Aside0.mk hh
        clear hh
        by_cases ht : h.f3 < fr
        · have htd : decide (h.f3 < fr) = true := decide_eq_true ht
          have HT1 := Aside0.mk ht
          clear ht
          go_wp2_with (first | (go_at_call 75; refine (expire_del h fr gb _ ?hcl).mono ?_; (case hcl => exact Lib.cell?_alloc_some _ HGB.out); rintro e w' ⟨rfl, hb⟩; have hbx := fun o => hb.cell (p := ⟨wr.heap.size, o, none⟩) (by simp)))
          go_roundw
          case rel =>
            refine ⟨i, j + 1, ys, rfl, by go_num, by omega, by omega, hyl, ⟨?_⟩, ⟨fun m hm => HX.out m (by omega)⟩, ⟨Kd.R_below (Kd.R_alloc HRy.out _) hb⟩, ⟨(HBr.out.alloc hbr _).trans (hb.mono (by simp; omega))⟩, ?_, ⟨(hb.cell (p := ⟨gb, 0, none⟩) (World.block_lt_of_cell? _ _ (Lib.cell?_alloc_some _ HGB.out))).trans (Lib.cell?_alloc_some _ HGB.out)⟩⟩
            · rw [lives_snoc fr l j hlt, HH.out, if_pos HT1.out, List.append_nil]; exact HT.out
            · have := hb.size
              simp at this
              omega
          case measure => simp [intOf]; omega
        · have htd : decide (h.f3 < fr) = false := decide_eq_false ht
          have HT1 := Aside0.mk (Int.not_lt.1 ht)
          clear ht
          go_wp2_with (first
            | (go_at_call 75; refine (expire_del h fr gb _ ?hcl).mono ?_; (case hcl => exact Lib.cell?_alloc_some _ HGB.out); rintro e w' ⟨rfl, hb⟩; have hbx := fun o => hb.cell (p := ⟨wr.heap.size, o, none⟩) (by simp))
            | (refine gate_ (.store 68 (.tmp 33) (.tmp 32)) rfl ?_; have hRw := Kd.R_below (Kd.R_alloc HRy.out _) hb; have hcw := cells68 (Kd.R_reads' hRw).2.2 i (by omega); refine Kd.R_store k68 (w0 := w0) base rfl rfl 68 _ _ rfl 68 (i : Int) 0 ys h _ [.int .i64 h.f0, .int .i64 h.f1, .int .i64 h.f2, .int .i64 h.f3, .bool h.f4, .int .i64 h.f5] [.int .i64 (rd_T68 ys i).f0, .int .i64 (rd_T68 ys i).f1, .int .i64 (rd_T68 ys i).f2, .int .i64 (rd_T68 ys i).f3, .bool (rd_T68 ys i).f4, .int .i64 (rd_T68 ys i).f5] (fun _ => True) (fun _ => False) rfl ?s1 rfl rfl ?s2 ?s3 hRw ?s4 ?s5 rfl ?s6 ?s7 ?s8 (fun _ h_ => h_.elim) ((HBr.out.alloc hbr _).trans (hb.mono (by simp; omega))) ?s9))
          case s1 => show i * 6 = (i : Int).toNat * 6 + 0; omega
          case s2 => kernel_rfl
          case s3 => intro q hq; simp at hq; rcases hq with rfl | rfl | rfl | rfl | rfl | rfl <;> rfl
          case s4 => omega
          case s5 => omega
          case s6 =>
            obtain ⟨d0, d1, d2, d3, d4, d5⟩ := hcw
            intro m u hu
            rw [show (i : Int).toNat * k68.sz = i * 6 from rfl]
            rcases m with _ | _ | _ | _ | _ | _ | m
            · cases hu; exact d0
            · cases hu; exact d1
            · cases hu; exact d2
            · cases hu; exact d3
            · cases hu; exact d4
            · cases hu; exact d5
            · simp at hu
          case s7 => exact Nat.le_refl _
          case s8 => exact k68_mkM _ _ _ _
          case s9 =>
            have hcb := (hb.cell (p := ⟨gb, 0, none⟩) (World.block_lt_of_cell? _ _ (Lib.cell?_alloc_some _ HGB.out))).trans (Lib.cell?_alloc_some _ HGB.out)
            have HCB := Aside0.mk hcb
            clear hcb hcw hRw hbx
            intro w2 hR2 hB2 hg2
            have HR2 := Aside0.mk hR2
            have HB2 := Aside0.mk hB2
            have HG2 := Aside0.mk hg2
            clear hR2 hB2 hg2
            go_wp2
            go_roundw
            case rel =>
              refine ⟨i + 1, j + 1, ys.set i h, by go_num, by go_num, by omega, by omega, by simp [hyl], ⟨?_⟩, ⟨?_⟩, ⟨?_⟩, ⟨HB2.out⟩, ?_, ⟨cell_grown HCB.out HG2.out hg⟩⟩
              · rw [lives_snoc fr l j hlt, HH.out, if_neg (Int.not_lt.2 HT1.out), ← HT.out, List.take_succ_eq_append_getElem (by simp; omega)]
                congr 1
                · rw [List.take_set, List.set_eq_of_length_le (by simp; omega)]
                · simp
              · intro m hm
                rw [rd_set_ne _ _ _ _ (by omega)]
                exact HX.out m (by omega)
              · have := HR2.out
                simpa using this
              · have := HG2.out.size
                have := hb.size
                simp at this
                omega
            case measure => simp [intOf]; omega
      · have hjl : j = l.length := by omega
        obtain ⟨cur, hcur, hsz, hbg⟩ := R_block HRy.out
        have hyc := (Kd.R_reads' HRy.out).2.1
        obtain ⟨zs, hzl, hcl⟩ := run_clear_rows Tryd.prog wr 47 68 _ 6 Tryd.underlying47 zeroValue68 rfl (by decide) (by intro v hv; simp [Value.cells] at hv; rcases hv with rfl | rfl | rfl <;> rfl) g (i * 6) (l.length - i) (cap - i) (by omega)
          (fun m hm => isSome_of hcur (by omega))
          (fun m hm => blk_frozen hcur _)
        have HZ := Aside0.mk hcl
        clear hcur hsz
        have hcl' := HZ.out 0
        go_wp2
        go_ret
        refine ⟨_, rfl, ?_, below_setCells (o := 0) HBr.out hbg _ _ _ HBr.out⟩
        have h1 := Kd.R_take (m := i) HRy.out (by omega)
        have h2 := R_cut (o := i * 6) zs h1 (by rw [List.length_take]; omega)
        rw [HT.out, hjl, List.take_length] at h2
        exact h2
theorem R_none68 (w : World) : Kd.R k68 68 (w.alloc (.cells #[] 68)) w.heap.size (fun _ => True) (.slice (some ⟨w.heap.size, 0, none⟩) 0 0) [] :=
  ⟨fun _ _ => trivial, [], ⟨rfl, .inr ⟨w.heap.size, 0, #[], rfl, Nat.le_refl _, blk_new _ _, Nat.le_refl _, Nat.zero_le _, rfl, rfl⟩⟩, Reps.none _ _⟩
set_option maxHeartbeats 2000000 in
theorem clone68 (l : List S68) (A : Option Addr) (c : Nat) (w : World) (hr : Kd.C k68 w A l.length l) (hlim : l.length < 2932031007402) :
    Calls Tryd.prog 74 #[.slice A l.length c] w fun e w' => ∃ v : Value, e = .returned v ∧ Kd.R k68 68 w' w.heap.size (fun _ => True) v l ∧ Below w.heap.size w w' := by
  have HR := Aside0.mk hr
  have hA := hr.2.2
  clear hr
  cases A with
  | none =>
    have hl : l = [] := by
      cases l with
      | nil => rfl
      | cons x r => exact absurd (hA (by simp)) (by simp)
    subst hl
    have heq := fun w => Lib.run_eql_slice_nil (P := Tryd.prog) w 47 68 none 0 c 0 0 Tryd.underlying47
    clear hA
    go_enter Tryd.func74, Tryd.ntmps74
    go_wp2
    go_ret
    exact ⟨_, rfl, Kd.R_nil _ _ _ _ _, Below.refl _ _⟩
  | some ad =>
    have heq := fun w => Lib.run_eql_slice_nil (P := Tryd.prog) w 47 68 (some ad) l.length c 0 0 Tryd.underlying47
    clear hA
    go_enter Tryd.func74, Tryd.ntmps74
    go_wp2_with (at_builtin; refine Kd.R_append_rows k68 (Rr := k68.K (w.alloc (.cells #[] 68))) (w0 := w) w.heap.size rfl _ _ 47 68 _ 48 rfl Tryd.underlying47 info68 rfl (by decide) (by decide) _ [] l (some ad) l.length c (fun _ => True) (fun _ => False) rfl rfl (R_none68 w) (Kd.C_alloc HR.out _) (fun x cs h_ => by rw [k68_open h_]; exact k68_mkM _ _ _ _) (fun _ h_ => h_.elim) (fun _ _ => trivial) ((Below.refl _ _).alloc (Nat.le_refl _) _) (by simp) (by simp; omega) ?_; intro v1 w1 hR1 hB1 _ _; have HR1 := Aside0.mk hR1; have HB1 := Aside0.mk hB1; clear hR1 hB1)
    go_ret
    refine ⟨_, rfl, ?_, HB1.out⟩
    have := HR1.out
    simpa using this
theorem R_forms {w : World} {base : Nat} {v : Value} {xs : List S68} (h : Kd.R k68 68 w base (fun _ => True) v xs) : (v = .slice none 0 0 ∧ xs = []) ∨ ∃ g cap, v = .slice (some ⟨g, 0, none⟩) xs.length cap ∧ base ≤ g := by
  obtain ⟨h0, inner, ⟨hl, hown⟩, hr⟩ := h
  rcases hown with ⟨hv, hn⟩ | ⟨g, cap, cur, hv, hb, hh, hnc, hcm, hcs, hin⟩
  · exact .inl ⟨hv, List.length_eq_zero_iff.1 hn⟩
  · exact .inr ⟨g, cap, hv, hb⟩
theorem expire_delete_nil (fr : Int) (gb : Nat) (w : World) (hc : w.cell? ⟨gb, 0, none⟩ = some (.int .i64 fr)) :
    Calls Tryd.prog 73 #[.slice none 0 0, .func (.func 75) #[] #[.pointer (some ⟨gb, 0, none⟩)]] w fun e w' => e = .returned (.slice none 0 0) ∧ Below w.heap.size w w' := by
  have hi := expire_index [] fr gb none 0 w (Kd.C_nil _ _) hc
  have HI := Aside0.mk hi
  clear hi hc
  go_enter Tryd.func73, Tryd.ntmps73
  go_wp2_with (go_at_call 97; refine HI.out.mono ?_; rintro e w' ⟨rfl, hb⟩)
  go_ret
  exact ⟨rfl, hb⟩
theorem expire_any (l : List S68) (v : Value) (fr : Int) (gb : Nat) (w0 w : World) (base : Nat) (hR : Kd.R k68 68 w base (fun _ => True) v l) (hB : Below base w0 w) (hbs : base ≤ w.heap.size) (hc : w.cell? ⟨gb, 0, none⟩ = some (.int .i64 fr)) (hg : gb < base) :
    Calls Tryd.prog 73 #[v, .func (.func 75) #[] #[.pointer (some ⟨gb, 0, none⟩)]] w fun e w' => ∃ v : Value, e = .returned v ∧ Kd.R k68 68 w' base (fun _ => True) v (lives fr l) ∧ Below base w0 w' := by
  rcases R_forms hR with ⟨rfl, rfl⟩ | ⟨g, cap, rfl, hgb⟩
  · exact (expire_delete_nil fr gb w hc).mono fun e w' ⟨he, hb⟩ => ⟨_, he, Kd.R_nil _ _ _ _ _, hB.trans (hb.mono hbs)⟩
  · exact expire_delete w0 base l fr gb g cap w hR hB hbs hc (by omega)
/-- The joins that are still open in a frame. -/
theorem sponsor_Expire.calls (A0 : Option Addr) (c0 : Nat) (l0 : List (S68)) (a1 : Int) (r : List (S68)) (w : World) (hr0 : Kd.C k68 w A0 l0.length l0) (hc0 : l0.length ≤ c0) (h : sponsor_Expire.f l0 a1 = some r) :
    Calls Tryd.prog 31 #[.slice A0 l0.length c0, .int .i64 a1] w fun e w' => ∃ v0_ : Value, e = .returned (v0_) ∧ Kd.R k68 68 w' w.heap.size (fun _ => True) v0_ r ∧ Below w.heap.size w w' := by
  unfold sponsor_Expire.f at h
  by_cases hlim : l0.length < 2932031007402
  rotate_left
  · rw [if_neg hlim] at h; cases h
  rw [if_pos hlim] at h
  injection h with h
  have HH := Aside0.mk h
  have HR0 := Aside0.mk hr0
  clear h hr0
  go_enter Tryd.func31, Tryd.ntmps31
  go_wp2_with (first
    | (go_at_call 74; refine (clone68 l0 A0 c0 _ (Kd.C_alloc HR0.out _) hlim).mono ?_; rintro e w1 ⟨v, rfl, hR1, hb1⟩)
    | (go_at_call 73; refine (expire_any l0 v a1 w.heap.size (w.alloc (.cells #[.int .i64 a1] 3)) w1 (w.alloc (.cells #[.int .i64 a1] 3)).heap.size hR1 hb1 hb1.size ?hcl (by simp)).mono ?_; (case hcl => exact (hb1.cell (p := ⟨w.heap.size, 0, none⟩) (by simp)).trans (by simp [go_sem])); rintro e w2 ⟨v2, rfl, hR2, hb2⟩))
  go_ret
  refine ⟨_, rfl, ?_, ((Below.refl _ _).alloc (Nat.le_refl _) _).trans (hb2.mono (by simp))⟩
  have h3 := Kd.R_lower (base' := w.heap.size) hR2 (by simp)
  rw [← HH.out]
  exact h3

end Go.Proofs.YtncgeclkgmfppaaDoor.H
