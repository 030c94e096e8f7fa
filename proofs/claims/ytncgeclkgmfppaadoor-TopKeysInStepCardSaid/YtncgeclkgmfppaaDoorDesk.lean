/-
  Package sponsor: its table of half-open joins: what the map holds, read as a list; its keys in order.
-/
import Derived.Test.YtncgeclkgmfppaaDoorH0
import Derived.Test.YtncgeclkgmfppaaDoorRandom
import Derived.Test.YtncgeclkgmfppaaDoorLays
import Derived.Maps.OwnSet
import Derived.Maps.Ext
import Derived.Lib.Hide
import Derived.Outline
import Derived.Deep.DeepFit
namespace Go.Proofs.YtncgeclkgmfppaaDoor.H
open Go.RowKit Go.Proofs.YtncgeclkgmfppaaDoorW.PrintWords Go.Proofs.YtncgeclkgmfppaaDoorW.PrintLast Go.Proofs.YtncgeclkgmfppaaDoorW.PrintMore
open Go.Maps Go.Sort Go.Shelf
set_option linter.unusedVariables false
set_option linter.unusedSimpArgs false
theorem sortsA (m : Nat) : AnyZI.SortsIn Tryd.prog sortedA_ren Fence.wide m :=
  ⟨fun blk off cap ss W hH hblk hsz => callsIn_wide.2 (AnyM.slices_Sort_int sortA blk off cap ss W hH hblk hsz),
   fun p cap W => callsIn_wide.2 (AnyM.slices_Sort_int_none sortA p cap W)⟩
theorem keys_call (mb : Option Nat) (W : World) : Calls Tryd.prog 93 #[.map mb] W fun e w' => e = .returned (.func (.func 101) #[] #[.pointer (some ⟨W.heap.size, 0, none⟩)]) ∧ w' = W.alloc (.cells #[.map mb] 108) :=
  (callsIn_wide (n := 5)).1 (AnyZI.keys_in keysA Fence.wide 5 trivial rfl mb W)
theorem sorted_call {H : Type} (b nn : Nat) (D0 : DataW H) (R : Value → Option (DataW H × List MemPlace)) (w : World) (hown : w.ownsMap Tryd.prog 3 R b nn D0) (hmax : Maps.size D0 ≤ 100) :
    Calls Tryd.prog 92 #[.func (.func 101) #[] #[.pointer (some ⟨w.heap.size, 0, none⟩)]] (w.alloc (.cells #[.map (some b)] 108)) fun e w' => ∃ (v : Value) (ss : List Int), e = .returned v ∧ ss.Perm (intKeys D0) ∧
      w'.ownsRow (w.alloc (.cells #[.map (some b)] 108)).heap.size 3 1 v ss.length ((ss.mergeSort (fun x y => decide (x ≤ y))).map encZ) ∧ (v = .slice none 0 0 ↔ ss = []) ∧ Below (w.alloc (.cells #[.map (some b)] 108)).heap.size (w.alloc (.cells #[.map (some b)] 108)) w' := by
  refine (callsIn_wide (n := 5)).1 ?_
  have hbl := hown.lt
  have hseq : SeqGives Fence.wide 2 Tryd.prog 101 #[.pointer (some ⟨w.heap.size, 0, none⟩)] encZ (fun ss => ss.Perm (intKeys D0)) (Maps.size D0) (w.alloc (.cells #[.map (some b)] 108)) :=
    AnyZI.keys_gives (ρ := keysA_ren) { keysA with } Fence.wide _ trivial rfl (by omega) w.heap.size b nn D0 _ (by simp) (by simp) (by
      obtain ⟨es, clock, hb, Ft, hs, hD⟩ := hown
      exact ⟨es, clock, (Below.heap_alloc _ _ b hbl).trans hb, Ft, hs, hD⟩)
  have cS := AnyZI.sorted_in sortedA Fence.wide 5 trivial trivial trivial trivial rfl (by omega) (sortsA _) (enters_of Tryd.func100 (by kernel_rfl) rfl) 101 #[.pointer (some ⟨w.heap.size, 0, none⟩)] trivial (enters_of Tryd.func101 (by kernel_rfl) rfl) _ _ (by unfold maxLen; omega) (by omega) _ hseq
  change CallsIn _ _ Tryd.prog 92 _ _ _ at cS
  exact cS
/-! ### An element of the table, and the table as a list -/
def v68 (h : S68) : Value := .agg #[.int .i64 h.f0, .int .i64 h.f1, .int .i64 h.f2, .int .i64 h.f3, .bool h.f4, .int .i64 h.f5]
def halfD (h : S68) : DataW Unit := .agg [.lit (.int .i64 h.f0), .lit (.int .i64 h.f1), .lit (.int .i64 h.f2), .lit (.int .i64 h.f3), .lit (.bool h.f4), .lit (.int .i64 h.f5)]
def halfElem : Value → Option (DataW Unit × List MemPlace)
  | .agg cs => match cs.toList with
    | [.int .i64 a, .int .i64 b, .int .i64 c, .int .i64 d, .bool e, .int .i64 f] => some (halfD ⟨a, b, c, d, e, f⟩, [])
    | _ => none
  | _ => none
theorem halfElem_mk (h : S68) : halfElem (v68 h) = some (halfD h, []) := rfl
theorem halfD_inj {x y : S68} (h : halfD x = halfD y) : x = y := by
  cases x; cases y
  simp [halfD] at h
  simp [h]
theorem halfElem_inv {v : Value} {x : S68} {ps : List MemPlace} (h : halfElem v = some (halfD x, ps)) : v = v68 x := by
  unfold halfElem at h
  split at h
  · rename_i cs
    split at h
    · rename_i a b c d e f hcs
      simp only [Option.some.injEq, Prod.mk.injEq] at h
      have hx := halfD_inj h.1
      subst hx
      unfold v68
      have : cs = #[.int .i64 a, .int .i64 b, .int .i64 c, .int .i64 d, .bool e, .int .i64 f] := Array.toList_inj.1 hcs
      rw [this]
    · cases h
  · cases h
/-- The table's entries, in whatever order, are those of the list; no stranger stands there twice. -/
def Tab (D : DataW Unit) (l : List S68) : Prop := ∃ es : List (Lit × DataW Unit), D = .map es ∧ es.Perm (l.map fun h => (Lit.int .i64 h.f0, halfD h)) ∧ (l.map (·.f0)).Nodup
def findH (l : List S68) (s : Int) : Option S68 := l.find? fun h => h.f0 == s
theorem Tab.empty : Tab (.map []) [] := ⟨[], rfl, List.Perm.refl _, List.nodup_nil⟩
theorem findH_some {l : List S68} {s : Int} {h : S68} (hf : findH l s = some h) : h ∈ l ∧ h.f0 = s := by
  refine ⟨List.mem_of_find?_eq_some hf, ?_⟩
  have := List.find?_some hf
  simpa using this
theorem findH_none {l : List S68} {s : Int} (hf : findH l s = none) : ∀ h ∈ l, h.f0 ≠ s := by
  intro h hm he
  have := List.find?_eq_none.1 hf h hm
  simp [he] at this
theorem nodup_inj {l : List S68} (hn : (l.map (·.f0)).Nodup) {x y : S68} (hx : x ∈ l) (hy : y ∈ l) (h : x.f0 = y.f0) : x = y := by
  induction l with
  | nil => cases hx
  | cons a r ih =>
    simp only [List.map_cons, List.nodup_cons] at hn
    rcases List.mem_cons.1 hx with rfl | hx' <;> rcases List.mem_cons.1 hy with rfl | hy'
    · rfl
    · exact absurd (List.mem_map.2 ⟨y, hy', h.symm⟩) hn.1
    · exact absurd (List.mem_map.2 ⟨x, hx', h⟩) hn.1
    · exact ih hn.2 hx' hy'
theorem Tab.apart {D : DataW Unit} {l : List S68} (es : List (Lit × DataW Unit)) (hp : es.Perm (l.map fun h => (Lit.int .i64 h.f0, halfD h))) (hn : (l.map (·.f0)).Nodup) : es.Pairwise (fun p q => p.1 ≠ q.1) := by
  have h1 : (l.map fun h => (Lit.int .i64 h.f0, halfD h)).Pairwise (fun p q => p.1 ≠ q.1) := by
    rw [List.pairwise_map]
    have h2 : l.Pairwise (fun x y => x.f0 ≠ y.f0) := by
      have := hn
      rw [List.nodup_iff_pairwise_ne, List.pairwise_map] at this
      exact this
    exact h2.imp (fun h e => h (by simpa using e))
  exact (hp.pairwise_iff (fun {_ _} h => Ne.symm h)).2 h1
theorem Tab.at_some {D : DataW Unit} {l : List S68} (h : Tab D l) {s : Int} {x : S68} (hf : findH l s = some x) (z : DataW Unit) : D.atKey (.int .i64 s) z = halfD x := by
  obtain ⟨es, rfl, hp, hn⟩ := h
  obtain ⟨hm, rfl⟩ := findH_some hf
  exact WideAt.atKey_mem z trivial (Tab.apart (D := .map es) es hp hn) (hp.mem_iff.2 (List.mem_map.2 ⟨x, hm, rfl⟩))
theorem Tab.at_none {D : DataW Unit} {l : List S68} (h : Tab D l) {s : Int} (hf : findH l s = none) (z : DataW Unit) : D.atKey (.int .i64 s) z = z := by
  obtain ⟨es, rfl, hp, hn⟩ := h
  refine WideAt.atKey_none z (fun p hp' he => ?_)
  obtain ⟨x, hx, rfl⟩ := List.mem_map.1 (hp.mem_iff.1 hp')
  simp only [Lit.int.injEq, true_and] at he
  exact findH_none hf x hx he
theorem Tab.has {D : DataW Unit} {l : List S68} (h : Tab D l) (s : Int) : Maps.has D (.int .i64 s) = (findH l s).isSome := by
  obtain ⟨es, rfl, hp, hn⟩ := h
  rw [Maps.has_eq, hp.any_eq, List.any_map]
  unfold findH
  rw [Bool.eq_iff_iff, List.find?_isSome, List.any_eq_true]
  simp [Lit.sameKey]
theorem Tab.size {D : DataW Unit} {l : List S68} (h : Tab D l) : Maps.size D = l.length := by
  obtain ⟨es, rfl, hp, hn⟩ := h
  rw [Maps.size_eq, hp.length_eq, List.length_map]
theorem Tab.keys {D : DataW Unit} {l : List S68} (h : Tab D l) : (intKeys D).Perm (l.map (·.f0)) := by
  obtain ⟨es, rfl, hp, hn⟩ := h
  have := hp.map (fun p => Go.intOf p.1)
  simpa [intKeys, List.map_map, Function.comp_def, Go.intOf] using this
/-- The list with an element in the place of its stranger's. -/
def upd (l : List S68) (h : S68) : List S68 := h :: l.filter fun x => x.f0 != h.f0
theorem Tab.put {D : DataW Unit} {l : List S68} (h : Tab D l) (x : S68) : Tab (D.put (.int .i64 x.f0) (halfD x)) (upd l x) := by
  obtain ⟨es, rfl, hp, hn⟩ := h
  refine ⟨_, rfl, ?_, ?_⟩
  · refine (WideShapes.insert_perm _ _).trans ?_
    unfold upd
    rw [List.map_cons]
    refine List.Perm.cons _ ?_
    refine (hp.filter _).trans ?_
    rw [List.filter_map]
    refine List.Perm.of_eq ?_
    congr 1
    apply List.filter_congr
    intro y _
    simp [Function.comp_def, Lit.sameKey, bne]
    rw [Bool.eq_iff_iff]; simp
  · unfold upd
    rw [List.map_cons, List.nodup_cons]
    refine ⟨?_, ?_⟩
    · intro hm
      obtain ⟨y, hy, he⟩ := List.mem_map.1 hm
      have := (List.mem_filter.1 hy).2
      simp [he] at this
    · exact hn.sublist (List.filter_sublist.map _)
/-! ### The table's list, in order -/
def sortH (l : List S68) : List S68 := ((l.map (·.f0)).mergeSort (fun x y => decide (x ≤ y))).map fun s => (findH l s).getD z68
theorem zero68 (w : World) : (zeroValue 68).run Tryd.prog w = .ok (v68 z68) w := by kernel_rfl
theorem int_cells {w : World} {base n : Nat} {v : Value} {xs : List Int} (h : w.ownsRow base 3 1 v n (xs.map encZ)) (hn : xs.length = n) (h0 : 0 < n) : ∃ g cap, v = .slice (some ⟨g, 0, none⟩) n cap ∧ g < w.heap.size ∧ n ≤ cap ∧ ∀ k, k < n → w.cell? ⟨g, k, none⟩ = some (.int .i64 (xs.getD k 0)) := by
  obtain ⟨hl, ⟨_, hz⟩ | ⟨g, cap, cur, rfl, hb, hh, hnc, hcm, hcs, hin⟩⟩ := h
  · omega
  · refine ⟨g, cap, rfl, (Array.getElem?_eq_some_iff.1 hh).1, hnc, fun k hk => ?_⟩
    rw [cell_of_row w g k cur 3 (0, 0) hh]
    have h1 : cur.toList[k]? = (xs.map encZ)[k]? := by
      rw [← hin, List.getElem?_take, if_pos (by omega)]
    rw [← Array.getElem?_toList, h1, List.getElem?_map, List.getElem?_eq_getElem (by omega)]
    simp [encZ, List.getD, List.getElem?_eq_getElem (show k < xs.length by omega)]
theorem sorted_keys (b nn : Nat) (D : DataW Unit) (l : List S68) (w : World) (hown : w.ownsMap Tryd.prog 3 halfElem b nn D) (hT : Tab D l) (hl : l.length ≤ 10) :
    Calls Tryd.prog 92 #[.func (.func 101) #[] #[.pointer (some ⟨w.heap.size, 0, none⟩)]] (w.alloc (.cells #[.map (some b)] 108)) fun e w' => ∃ v : Value, e = .returned v ∧
      (l = [] → v = .slice none 0 0) ∧ (l ≠ [] → ∃ g cap, v = .slice (some ⟨g, 0, none⟩) l.length cap ∧ g < w'.heap.size ∧ l.length ≤ cap ∧ ∀ k, k < l.length → w'.cell? ⟨g, k, none⟩ = some (.int .i64 (((l.map (·.f0)).mergeSort leI).getD k 0))) ∧
      Below (w.alloc (.cells #[.map (some b)] 108)).heap.size (w.alloc (.cells #[.map (some b)] 108)) w' := by
  refine (sorted_call b nn D halfElem w hown (by have := hT.size; omega)).mono ?_
  rintro e w' ⟨v, ss, he, hp, hrow, hnil, hb⟩
  have hlen : ss.length = l.length := by rw [hp.length_eq, hT.keys.length_eq, List.length_map]
  refine ⟨v, he, fun h => hnil.2 (List.length_eq_zero_iff.1 (by rw [hlen, h]; rfl)), fun h => ?_, hb⟩
  have hpos : 0 < ss.length := by rw [hlen]; exact List.length_pos_iff.2 h
  obtain ⟨g, cap, hv, hg, hc, hcell⟩ := int_cells hrow (by rw [List.length_mergeSort]) hpos
  rw [hlen] at hv hc hcell
  refine ⟨g, cap, hv, hg, hc, fun k hk => ?_⟩
  rw [hcell k hk]
  have := mergeSort_of_perm_i (hp.trans hT.keys)
  rw [← this]
theorem sortH_length (l : List S68) : (sortH l).length = l.length := by simp [sortH]
theorem sortH_at (l : List S68) (k : Nat) (hk : k < l.length) : ∃ x, findH l (((l.map (·.f0)).mergeSort leI).getD k 0) = some x ∧ x ∈ l ∧ x.f0 = ((l.map (·.f0)).mergeSort leI).getD k 0 ∧ (sortH l).take (k + 1) = (sortH l).take k ++ [x] := by
  have hlen : ((l.map (·.f0)).mergeSort leI).length = l.length := by simp
  have hk' : k < ((l.map (·.f0)).mergeSort leI).length := by omega
  have hg : ((l.map (·.f0)).mergeSort leI).getD k 0 = ((l.map (·.f0)).mergeSort leI)[k] := by rw [List.getD_eq_getElem?_getD, List.getElem?_eq_getElem hk']; rfl
  have hm : ((l.map (·.f0)).mergeSort leI)[k] ∈ l.map (·.f0) := (List.mergeSort_perm _ _).mem_iff.1 (List.getElem_mem hk')
  rw [hg]
  generalize hs : ((l.map (·.f0)).mergeSort leI)[k] = s at hm
  obtain ⟨y, hy, rfl⟩ := List.mem_map.1 hm
  cases hf : findH l y.f0 with
  | none => exact absurd rfl (findH_none hf y hy)
  | some x =>
    refine ⟨x, rfl, (findH_some hf).1, (findH_some hf).2, ?_⟩
    rw [List.take_succ_eq_append_getElem (by rw [sortH_length]; exact hk)]
    congr 2
    have : (sortH l)[k]'(by rw [sortH_length]; exact hk) = (findH l (((l.map (·.f0)).mergeSort leI)[k])).getD z68 := by simp [sortH]
    rw [this, hs, hf]
    rfl
theorem ownsMap_below {b nn : Nat} {D : DataW Unit} {w W : World} (h : w.ownsMap Tryd.prog 3 halfElem b nn D) (hb : Below w.heap.size w W) : W.ownsMap Tryd.prog 3 halfElem b nn D := h.kept (grown_of_below hb none) (by simp)
theorem wf60 {s : Int} (h : 0 ≤ s ∧ s < 60) : (Lit.int .i64 s).wf = true := WalkArith.wf_i64 (by omega)
set_option maxHeartbeats 2000000 in
theorem list_nil (b nn : Nat) (D : DataW Unit) (w : World) (hown : w.ownsMap Tryd.prog 3 halfElem b nn D) (hT : Tab D []) :
    Calls Tryd.prog 67 #[.map (some b)] w fun e w' => e = .returned (.slice none 0 0) ∧ Below w.heap.size w w' := by
  have HS := Aside0.mk (sorted_keys b nn D [] w hown hT (by simp))
  clear hown hT
  go_enter Tryd.func67, Tryd.ntmps67
  go_wp2_with (first
    | (go_at_call 93; refine (keys_call _ _).mono ?_; rintro e w1 ⟨rfl, rfl⟩)
    | (go_at_call 92; refine HS.out.mono ?_; rintro e w1 ⟨vk, rfl, h1, h2, hb⟩; obtain rfl := h1 trivial; clear h1 h2))
  refine wp_loop_rounds 1 ?_
  rw [rounds_succ]
  go_wp2
  go_ret
  exact ⟨rfl, ((Below.refl _ _).alloc (Nat.le_refl _) _).trans (hb.mono (by simp))⟩
set_option maxHeartbeats 2000000 in
theorem list_any (b nn : Nat) (D : DataW Unit) (l : List S68) (w : World) (hown : w.ownsMap Tryd.prog 3 halfElem b nn D) (hT : Tab D l) (hl : l.length ≤ 10) (hwf : ∀ h ∈ l, 0 ≤ h.f0 ∧ h.f0 < 60) :
    Calls Tryd.prog 67 #[.map (some b)] w fun e w' => ∃ v : Value, e = .returned v ∧ Kd.R k68 68 w' w.heap.size (fun _ => True) v (sortH l) ∧ Below w.heap.size w w' := by
  by_cases hne : l = []
  · subst hne
    exact (list_nil b nn D w hown hT).mono fun e w' ⟨he, hb⟩ => ⟨_, he, (by rw [show sortH [] = [] from by simp [sortH]]; exact Kd.R_nil _ _ _ _ _), hb⟩
  have HS := Aside0.mk (sorted_keys b nn D l w hown hT hl)
  have HO := Aside0.mk hown
  have HT := Aside0.mk hT
  have HWF := Aside0.mk hwf
  have HNE := Aside0.mk hne
  clear hown hT hwf hne
  go_enter Tryd.func67, Tryd.ntmps67
  go_wp2_with (first
    | (go_at_call 93; refine (keys_call _ _).mono ?_; rintro e w1 ⟨rfl, rfl⟩)
    | (go_at_call 92; refine HS.out.mono ?_; rintro e w1 ⟨vk, rfl, h1, h2, hb⟩; obtain ⟨g, cap, rfl, hg, hcap, hkc⟩ := h2 HNE.out; have HK := Aside0.mk hkc; have HB1 := Aside0.mk hb; clear h1 h2 hkc hb))
  have hw1 : w.heap.size + 1 ≤ w1.heap.size := by have := HB1.out.size; simpa using this
  have HBw : Aside0 (Below w.heap.size w w1) := ⟨((Below.refl _ _).alloc (Nat.le_refl _) _).trans (HB1.out.mono (by simp))⟩
  go_loopw [3, 10] (fun so sk wr => ∃ k : Nat, k ≤ l.length ∧ sk = .int .i64 k ∧ Aside0 (Kd.R k68 68 wr w1.heap.size (fun _ => True) so ((sortH l).take k)) ∧ Aside0 (Below w1.heap.size w1 wr)) (fun _ sk _ => l.length - (intOf sk).toNat)
  case atStart => exact ⟨0, Nat.zero_le _, rfl, ⟨Kd.R_nil _ _ _ _ _⟩, ⟨Below.refl _ _⟩⟩
  case round =>
    obtain ⟨k, hk, rfl, HR, HB⟩ := hrel
    by_cases hlt : k < l.length
    · obtain ⟨x, hf, hxm, hx0, hts⟩ := sortH_at l k hlt
      have hkr := (HB.out.cell (p := ⟨g, k, none⟩) hg).trans (HK.out k hlt)
      have hbr := HB.out.size
      obtain ⟨v, ps, hrun, hv⟩ := (ownsMap_below HO.out (HBw.out.trans (HB.out.mono HBw.out.size))).lookup (Maps.int_keyed Tryd.underlying3) Tryd.underlying108 (zero68 _) (halfElem_mk z68) (key := .int .i64 (((l.map (·.f0)).mergeSort leI).getD k 0)) (kl := .int .i64 (((l.map (·.f0)).mergeSort leI).getD k 0)) (Maps.keyOf_int_mk Tryd.underlying3 (wf60 (by rw [← hx0]; exact HWF.out x hxm)))
      rw [HT.out.at_some hf] at hv
      obtain rfl := halfElem_inv hv
      generalize ((l.map (·.f0)).mergeSort leI).getD k 0 = s at hkr hrun
      have HTS := Aside0.mk hts
      clear hf hx0 hts hv
      simp only [v68] at hrun
      go_wp2_with (at_builtin; refine Kd.R_append k68 (w0 := w1) (W := wr) w1.heap.size rfl _ _ 47 68 _ 48 rfl Tryd.underlying47 info68 rfl (by decide) (by decide) u3 ((sortH l).take k) x [.int .i64 x.f0, .int .i64 x.f1, .int .i64 x.f2, .int .i64 x.f3, .bool x.f4, .int .i64 x.f5] (fun _ => True) (fun _ => False) rfl rfl (k68_mkM _ _ _ _) (fun _ h_ => h_.elim) (fun _ _ => trivial) HR.out HB.out hbr (by rw [List.length_take, sortH_length]; omega) ?_; intro v2 w2 hR2 hB2 _ _; have HR2 := Aside0.mk hR2; have HB2 := Aside0.mk hB2; clear hR2 hB2)
      go_roundw
      case rel => exact ⟨k + 1, by omega, by go_num, ⟨by rw [HTS.out]; exact HR2.out⟩, ⟨HB2.out⟩⟩
      case measure => simp [intOf]; omega
    · have hkl : k = l.length := by omega
      go_wp2
      go_ret
      refine ⟨_, rfl, ?_, HBw.out.trans (HB.out.mono HBw.out.size)⟩
      have := Kd.R_lower (base' := w.heap.size) HR.out HBw.out.size
      rw [hkl, ← sortH_length l, List.take_length] at this
      exact this
end Go.Proofs.YtncgeclkgmfppaaDoor.H
