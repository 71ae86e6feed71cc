/- slices.Clone at []int and []Part. -/
import Derived.Test.YtkmaepefpcpckaaDoorCfgI
set_option linter.unusedVariables false
set_option linter.unusedSimpArgs false
namespace Go.Proofs.YtkmaepefpcpckaaDoor
open Go.RowKit

theorem Sl.news {w : World} {n sz : Nat} {cs : List Value} {v : Value} (h : Sl w v n sz cs) : (∀ {c}, v = .slice none n c → n = 0 ∧ cs = []) ∧ ∀ a {c}, v = .slice (some a) n c → ∀ j u, cs[j]? = some u → w.cell? (a.add j) = some u := by
  obtain ⟨h1, h2, A, c, rfl, h3⟩ := h
  constructor
  · intro c' hv
    by_cases hn : 0 < n
    · obtain ⟨b, o, rfl, -⟩ := h3 hn
      cases hv
    · have : n = 0 := by omega
      subst this
      exact ⟨rfl, List.eq_nil_of_length_eq_zero (by omega)⟩
  · intro a c' hv j u hu
    have hj := (List.getElem?_eq_some_iff.1 hu).1
    have hn : 0 < n := by
      rcases Nat.eq_zero_or_pos n with h0 | h0
      · subst h0; omega
      · exact h0
    obtain ⟨b, o, rfl, h4⟩ := h3 hn
    injection hv with hv
    injection hv with hv
    subst hv
    have := h4 j (by omega)
    rw [hu] at this
    rw [Addr.add_lit]
    exact this
theorem ints_one (l : List Int) : ∀ u ∈ Cf.ints l, u.oneCell' = true := by
  intro u hu
  obtain ⟨x, _, rfl⟩ := List.mem_map.1 hu
  rfl
theorem parts_ones (l : List Cf.Part) : ∀ u ∈ Cf.parts l, u.oneCell' = true := by
  intro u hu
  obtain ⟨p, _, hp⟩ := List.mem_flatMap.1 hu
  simp [Cf.partC] at hp
  rcases hp with rfl | rfl | rfl | rfl <;> rfl

theorem clone_int (xs : List Int) (v : Value) (w : World) (h : Sl w v xs.length 1 (Cf.ints xs)) (hn : xs.length ≤ 1000000) :
    Calls Tryd.prog 27 #[v] w fun e w' => ∃ v', e = .returned v' ∧ w'.ownsRow w.heap.size 3 1 v' xs.length (Cf.ints xs) ∧ Below w.heap.size w w' := by
  have hn0 := h.1
  have hnew := h.news
  obtain ⟨-, -, A, c, rfl, -⟩ := h
  obtain ⟨i0, hi, hz0, hz1, hz2⟩ := info_parts Tryd.info_int
  have qq : ∀ (w : World) (a : Option Addr) (n c n' c' : Nat), (binOp .eql 28 (.slice a n c) (.slice none n' c')).run Tryd.prog w = .ok (.bool a.isNone) w := fun w a n c n' c' => Lib.run_eql_slice_nil w _ _ a n c n' c' Tryd.underlying28
  cases A with
  | none =>
    have h0 := hnew.1 rfl
    clear hnew
    go_enter Tryd.func27, Tryd.ntmps27
    go_wp2
    go_ret
    refine ⟨_, rfl, ?_, Below.refl _ _⟩
    rw [h0.1, h0.2]
    exact World.ownsRow_nil _ _ _ _
  | some a =>
    have Hnew := Lib.hid (hnew.2 a rfl)
    clear hnew
    go_enter Tryd.func27, Tryd.ntmps27
    go_wp2_with (at_builtin; refine wpList_append_own _ rfl _ _ 28 rfl w.heap.size 3 i0 _ 1 8 Tryd.underlying28 hi hz0 hz1 hz2 rfl (by omega) _ _ _ rfl (World.ownsRow_made w #[] 0 (Nat.le_refl _) (Nat.zero_le _) rfl) a xs.length c (Cf.ints xs) rfl hn0 ?qc2 ?qc3 ?qc4 ?qc5 ?qc6 ?_)
    case qc2 =>
      intro j u hj
      exact Lib.cell?_alloc_some _ (Hnew.out j u hj)
    case qc3 => exact ints_one _
    case qc4 => unfold maxLen; omega
    case qc5 => omega
    case qc6 => simp
    intro v' w1 hown hgrow hnil
    go_wp2
    go_ret
    refine ⟨v', rfl, by simpa using hown, ?_⟩
    exact ((Below.refl _ w).alloc (Nat.le_refl _) _).grown hgrow (by simp) (by intro k hk; simp [Value.ownBlock] at hk; omega)

theorem clone_part (ps : List Cf.Part) (v : Value) (w : World) (h : Sl w v ps.length 4 (Cf.parts ps)) (hn : ps.length ≤ 1000000) :
    Calls Tryd.prog 28 #[v] w fun e w' => ∃ v', e = .returned v' ∧ w'.ownsRow w.heap.size 69 4 v' ps.length (Cf.parts ps) ∧ Below w.heap.size w w' := by
  have hn0 := h.1
  have hnew := h.news
  obtain ⟨-, -, A, c, rfl, -⟩ := h
  obtain ⟨i0, hi, hz0, hz1, hz2⟩ := info_parts Tryd.info_part
  have qq : ∀ (w : World) (a : Option Addr) (n c n' c' : Nat), (binOp .eql 29 (.slice a n c) (.slice none n' c')).run Tryd.prog w = .ok (.bool a.isNone) w := fun w a n c n' c' => Lib.run_eql_slice_nil w _ _ a n c n' c' Tryd.underlying29
  cases A with
  | none =>
    have h0 := hnew.1 rfl
    clear hnew
    go_enter Tryd.func28, Tryd.ntmps28
    go_wp2
    go_ret
    refine ⟨_, rfl, ?_, Below.refl _ _⟩
    rw [h0.1, h0.2]
    exact World.ownsRow_nil _ _ _ _
  | some a =>
    have Hnew := Lib.hid (hnew.2 a rfl)
    clear hnew
    go_enter Tryd.func28, Tryd.ntmps28
    go_wp2_with (at_builtin; refine wpList_append_own _ rfl _ _ 29 rfl w.heap.size 69 i0 _ 4 32 Tryd.underlying29 hi hz0 hz1 hz2 rfl (by omega) _ _ _ rfl (World.ownsRow_made w #[] 0 (Nat.le_refl _) (Nat.zero_le _) rfl) a ps.length c (Cf.parts ps) rfl hn0 ?qc2 ?qc3 ?qc4 ?qc5 ?qc6 ?_)
    case qc2 =>
      intro j u hj
      exact Lib.cell?_alloc_some _ (Hnew.out j u hj)
    case qc3 => exact parts_ones _
    case qc4 => unfold maxLen; omega
    case qc5 => omega
    case qc6 => simp
    intro v' w1 hown hgrow hnil
    go_wp2
    go_ret
    refine ⟨v', rfl, by simpa using hown, ?_⟩
    exact ((Below.refl _ w).alloc (Nat.le_refl _) _).grown hgrow (by simp) (by intro k hk; simp [Value.ownBlock] at hk; omega)
end Go.Proofs.YtkmaepefpcpckaaDoor
