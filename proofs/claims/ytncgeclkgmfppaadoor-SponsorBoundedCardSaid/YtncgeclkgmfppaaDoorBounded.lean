/-
  SponsorBounded: true, whatever the words and the steps.
-/
import Derived.Test.YtncgeclkgmfppaaDoorPlainRef
import Derived.Test.YtncgeclkgmfppaaDoorH16
namespace Go.Proofs.YtncgeclkgmfppaaDoor.H
open Go.RowKit Go.Proofs.YtncgeclkgmfppaaDoorW.PrintWords Go.Proofs.YtncgeclkgmfppaaDoorW.PrintLast Go.Proofs.YtncgeclkgmfppaaDoorW.PrintMore
set_option linter.unusedVariables false
set_option linter.unusedSimpArgs false
/-- A list in which each join ends within a dozen frames. -/
def Within (l : List S68) (t : Int) : Prop := valid68 l = true ∧ ∀ h ∈ l, t ≤ h.f3 ∧ h.f3 ≤ t + 12
theorem rd_mem {l : List S68} {j : Nat} (hj : j < l.length) : rd_T68 l (j : Int) ∈ l := by
  have : rd_T68 l (j : Int) = l[j] := by simp [rd_T68, List.getD, hj]
  rw [this]; exact List.getElem_mem hj
theorem bounded_l1 (x0 : Int) (x1 : List S54) (x2 : List Int) (l : List S68) (t : Int) (x10 : Int) (k : Nat) (h : Within l t) (ht : 0 ≤ t ∧ t ≤ 1000) :
    ∀ (m j : Nat), j + m = l.length → slotmeshlaw31_SponsorBounded.l1 (k + m + 1) x0 x1 x2 true l t x10 (j : Int) = slotmeshlaw31_SponsorBounded.l0 k x0 x1 x2 true l t (wrap64 (x10 + 1)) := by
  intro m
  have h4 := valid_short h.1
  induction m with
  | zero => intro j hj; rw [slotmeshlaw31_SponsorBounded.l1, if_neg (by omega)]
  | succ m ih =>
    intro j hj
    have hr := h.2 _ (rd_mem (l := l) (j := j) (by omega))
    have hw : wrap64 ((j : Int) + 1) = ((j + 1 : Nat) : Int) := by rw [IntWalk.wrap64_in _ (by omega)]; push_cast; rfl
    rw [slotmeshlaw31_SponsorBounded.l1, if_pos (by omega), if_pos rfl, if_pos (by omega), if_pos hr.1, hw, IntWalk.wrap64_in (t + 12) (by omega), decide_eq_true hr.2]
    exact ih (j + 1) (by omega)
theorem within_expire {l : List S68} {t u : Int} (h : Within l t) (hu : t ≤ u) : Within (l.filter fun h => !(decide (h.f3 < u))) u := by
  obtain ⟨h1, h2⟩ := h
  obtain ⟨a, b, c⟩ := (valid_iff l).1 h1
  refine ⟨(valid_iff _).2 ⟨fun x hx => a x (List.mem_filter.1 hx).1, b.sublist List.filter_sublist, Nat.le_trans (List.length_filter_le _ _) c⟩, fun x hx => ?_⟩
  obtain ⟨hx, hb⟩ := List.mem_filter.1 hx
  have := h2 x hx
  simp at hb
  omega
theorem within_hear {l : List S68} {u a1 x0 x1 x2 x3 x4 x5 x6 x7 : Int} {r : List S68} (h : Within l u) (he : sponsor_Hear.f l a1 x0 x1 x2 x3 x4 x5 x6 x7 u = some (r, 0)) : Within r u := by
  obtain ⟨_, hv, hfr, hm⟩ := hear_kept he
  refine ⟨hv, fun x hx => ?_⟩
  rcases hm x hx with hl | ⟨_, rfl⟩ | ⟨_, g, hg, rfl⟩
  · exact h.2 x hl
  · simp only [fresh68]; omega
  · exact h.2 g hg
theorem bounded_l0 (x0 : Int) (x1 : List S54) (x2 : List Int) (hx2 : ∀ x ∈ x2, 0 ≤ x ∧ x < 256) : ∀ (m i k : Nat) (l : List S68) (t : Int), 60 - i ≤ m → 20 * m + 20 ≤ k → i ≤ 60 → Within l t → 0 ≤ t ∧ t ≤ 7 * i →
    slotmeshlaw31_SponsorBounded.l0 k x0 x1 x2 true l t (i : Int) = some true := by
  intro m
  induction m with
  | zero =>
    intro i k l t hm hk hi hl ht
    obtain ⟨k, rfl⟩ : ∃ n, k = n + 2 := ⟨k - 2, by omega⟩
    have h60 : ¬ (i : Int) < 60 := by omega
    rw [slotmeshlaw31_SponsorBounded.l0]
    simp only [h60, decide_false]
    repeat' split
    all_goals simp [slotmeshlaw31_SponsorBounded.j1]
  | succ m ih =>
    intro i k l t hm hk hi hl ht
    obtain ⟨k, rfl⟩ : ∃ n, k = n + 9 := ⟨k - 9, by omega⟩
    rw [slotmeshlaw31_SponsorBounded.l0]
    by_cases c1 : (i : Int) < (x1.length : Int)
    · rw [if_pos c1]
      by_cases c2 : (i : Int) < (x2.length : Int)
      · rw [if_pos c2]
        by_cases c3 : (i : Int) < 60
        · have hb : 0 ≤ rd x2 (i : Int) ∧ rd x2 (i : Int) < 256 := by
            have hlt : i < x2.length := by omega
            have e : rd x2 (i : Int) = x2[i] := by simp [rd, List.getD, hlt]
            rw [e]; exact hx2 _ (List.getElem_mem hlt)
          have hd : 0 ≤ Int.tmod (wrap64 (rd x2 (i : Int))) 8 ∧ Int.tmod (wrap64 (rd x2 (i : Int))) 8 ≤ 7 := by
            rw [IntWalk.wrap64_in _ (by omega), Int.tmod_eq_emod_of_nonneg hb.1]
            omega
          rw [slotmeshlaw31_SponsorBounded.j1, decide_eq_true c3, if_pos rfl, if_pos (by omega), if_pos c2]
          generalize Int.tmod (wrap64 (rd x2 (i : Int))) 8 = d at hd
          rw [IntWalk.wrap64_in (t + d) (by omega)]
          have h4 := valid_short hl.1
          rw [sponsor_Expire.f, if_pos (by omega), Option.bind_some, if_pos c1]
          have hE := within_expire (u := t + d) hl (by omega)
          generalize (l.filter fun h => !(decide (h.f3 < t + d))) = l' at hE
          have h4' := valid_short hE.1
          obtain ⟨p, hp⟩ := hear_total l' x0 (rd_T54 x1 i).f0 (rd_T54 x1 i).f1 (rd_T54 x1 i).f2 (rd_T54 x1 i).f3 (rd_T54 x1 i).f4 (rd_T54 x1 i).f5 (rd_T54 x1 i).f6.f0 (rd_T54 x1 i).f6.f1 (t + d) (by omega)
          rw [hp, Option.bind_some]
          have hgo : ∀ r : List S68, Within r (t + d) → slotmeshlaw31_SponsorBounded.j2 (k + 7) x0 x1 x2 true r (t + d) (i : Int) = some true := by
            intro r hr
            have hr4 := valid_short hr.1
            rw [slotmeshlaw31_SponsorBounded.j2, refValid_f r _ (by omega) (by omega), Option.bind_some, if_pos rfl, hr.1, slotmeshlaw31_SponsorBounded.j3]
            obtain ⟨q, hq⟩ : ∃ q, k + 5 = q + r.length + 1 := ⟨k + 4 - r.length, by omega⟩
            have hw : Aside0 (wrap64 ((i : Int) + 1) = ((i + 1 : Nat) : Int)) := ⟨by rw [IntWalk.wrap64_in _ (by omega)]; push_cast; rfl⟩
            have e := bounded_l1 x0 x1 x2 r (t + d) i q hr (by omega) r.length 0 (by omega)
            rw [show ((0 : Nat) : Int) = 0 from rfl] at e
            rw [hq, e, hw.out]
            clear e hp
            exact ih (i + 1) q r (t + d) (by omega) (by omega) (by omega) hr ⟨by omega, by push_cast; omega⟩
          by_cases hc : p.2 = 0
          · rw [if_pos hc]
            exact hgo _ (within_hear hE (by rw [hp]; rw [← hc]))
          · rw [if_neg hc]
            exact hgo _ hE
        · rw [decide_eq_false c3, slotmeshlaw31_SponsorBounded.j1]; simp
      · rw [if_neg c2, slotmeshlaw31_SponsorBounded.j1]; simp
    · rw [if_neg c1, slotmeshlaw31_SponsorBounded.j1]; simp
theorem bounded_true (x0 : Int) (x1 : List S54) (x2 : List Int) (hx2 : ∀ x ∈ x2, 0 ≤ x ∧ x < 256) : slotmeshlaw31_SponsorBounded.f 1220 x0 x1 x2 = some true := by
  unfold slotmeshlaw31_SponsorBounded.f slotmeshlaw31_head.f
  rw [Option.bind_some]
  exact bounded_l0 x0 x1 x2 hx2 60 0 1220 [] 0 (by omega) (by omega) (by omega) ⟨by simp [valid68, rising], by simp⟩ (by omega)
theorem sponsorBounded_walk (a0 : Int) (A1 : Option Addr) (c1 : Nat) (l1 : List S54) (A2 : Option Addr) (c2 : Nat) (l2 : List Int) (W : World) (hG : Laid W) (_ : -9223372036854775808 ≤ a0 ∧ a0 ≤ 9223372036854775807)
    (hr1 : Kd.C k54 W A1 l1.length l1) (hc1 : l1.length ≤ c1) (_ : l1.length * 64 ≤ 140737488351232) (hr2 : Kd.C (Kd.int .u8) W A2 l2.length l2) (hc2 : l2.length ≤ c2) (_ : l2.length * 1 ≤ 140737488351232) (hq2 : ∀ x ∈ l2, 0 ≤ x ∧ x < 256) :
    Calls Tryd.prog 6 #[.int .i64 a0, .slice A1 l1.length c1, .slice A2 l2.length c2] W fun e w' => e = .returned (.bool true) ∧ Below W.heap.size W w' :=
  slotmeshlaw31_SponsorBounded.calls 1220 a0 A1 c1 l1 A2 c2 l2 true W hG hr1 hc1 hr2 hc2 (bounded_true a0 l1 l2 hq2)
end Go.Proofs.YtncgeclkgmfppaaDoor.H
