/- Layer 12's Apply, plain. -/
import Derived.Test.YtkmaepefpcpckaaDoorCfgMathB
set_option linter.unusedVariables false
set_option linter.unusedSimpArgs false
namespace Go.Proofs.YtkmaepefpcpckaaDoor
open Go.RowKit

namespace Cf
def zero : Cfg := ⟨0, [], [], 0⟩
def run (c : Cfg) (o : Ord) : Int × Cfg := if o.k = 1 then come c o else if o.k = 2 then leave c o else if o.k = 3 then place c o else tables c o
def apply (c : Cfg) (o : Ord) : Cfg × Int :=
  if check c ≠ 0 then (zero, check c) else if c.ep = 1099511627776 then (zero, 6) else if withinB o.k 1 4 = false then (zero, 1)
  else if (run c o).1 ≠ 0 then (zero, (run c o).1) else ({ (run c o).2 with ep := (run c o).2.ep + 1 }, 0)
end Cf

theorem chkS_len : ∀ (l : List Int) (a : Int), Cf.chkS a l = true → a ≤ 7 → (l.length : Int) + a ≤ 7
  | [], a, _, h => by simpa using h
  | n :: r, a, h, ha => by
    unfold Cf.chkS at h
    by_cases e : n ≤ a ∨ n ≥ 8
    · rw [if_pos e] at h; cases h
    · rw [if_neg e] at h
      have := chkS_len r n h (by omega)
      simp; omega
theorem chkP_len (sv : List Int) : ∀ (l : List Cf.Part) (a b : Int), Cf.chkP sv a l = some b → a + l.length ≤ b
  | [], a, b, h => by unfold Cf.chkP at h; injection h with h; simp; omega
  | p :: r, a, b, h => by
    unfold Cf.chkP at h
    by_cases e : p.f ≠ a ∨ p.t ≤ a ∨ p.a = p.b ∨ Cf.hasB sv p.a = false ∨ Cf.hasB sv p.b = false
    · rw [if_pos e] at h; cases h
    · rw [if_neg e] at h
      have := chkP_len sv r p.t b h
      simp; omega
theorem check_zero (c : Cf.Cfg) (h : Cf.check c = 0) : Cf.withinB c.ep 1 1099511627776 = true ∧ Cf.withinB c.tb 1 8 = true ∧ 2 ≤ c.sv.length ∧ Cf.chkS (-1) c.sv = true ∧ Cf.chkP c.sv 0 c.pt = some 256 := by
  unfold Cf.check at h
  split at h
  · simp at h
  · rename_i h1
    split at h
    · simp at h
    · rename_i h2
      cases h3 : Cf.chkP c.sv 0 c.pt with
      | none => rw [h3] at h; simp at h
      | some a =>
        rw [h3] at h
        have : a = 256 := by
          by_cases e : a = 256
          · exact e
          · simp [e] at h
        subst this
        simp at h1 h2
        exact ⟨h1.1, h1.2.1, h1.2.2, h2, rfl⟩
theorem check_lens (c : Cf.Cfg) (h : Cf.check c = 0) : c.sv.length ≤ 8 ∧ c.pt.length ≤ 256 := by
  obtain ⟨-, -, -, h4, h5⟩ := check_zero c h
  have h6 := chkS_len _ _ h4 (by omega)
  have h7 := chkP_len _ _ _ _ h5
  omega
theorem come_ep (c : Cf.Cfg) (o : Cf.Ord) : (Cf.come c o).2.ep = c.ep := by unfold Cf.come; split; rfl; split <;> rfl
theorem leave_ep (c : Cf.Cfg) (o : Cf.Ord) : (Cf.leave c o).2.ep = c.ep := by unfold Cf.leave; split; rfl; split <;> rfl
theorem place_ep (c : Cf.Cfg) (o : Cf.Ord) : (Cf.place c o).2.ep = c.ep := by unfold Cf.place; split; rfl; split; rfl; split <;> rfl
theorem tables_ep (c : Cf.Cfg) (o : Cf.Ord) : (Cf.tables c o).2.ep = c.ep := by unfold Cf.tables; split <;> rfl
theorem come_len (c : Cf.Cfg) (o : Cf.Ord) : (Cf.come c o).2.sv.length ≤ c.sv.length + 1 ∧ (Cf.come c o).2.pt.length ≤ 3 * c.pt.length := by
  unfold Cf.come; split
  · exact ⟨by simp, by show c.pt.length ≤ _; omega⟩
  · split
    · exact ⟨by simp, by show c.pt.length ≤ _; omega⟩
    · exact ⟨by simp [Cf.sortI], by show c.pt.length ≤ _; omega⟩
theorem joined_le (l : List Cf.Part) : (Cf.joined l).length ≤ l.length := by have := joined_len l []; simpa [Cf.joined] using this
theorem leave_len (c : Cf.Cfg) (o : Cf.Ord) : (Cf.leave c o).2.sv.length ≤ c.sv.length + 1 ∧ (Cf.leave c o).2.pt.length ≤ 3 * c.pt.length := by
  unfold Cf.leave; split
  · exact ⟨by simp, by show c.pt.length ≤ _; omega⟩
  · split
    · exact ⟨by simp, by show c.pt.length ≤ _; omega⟩
    · refine ⟨?_, ?_⟩
      · have : (Cf.without c.sv o.n).length ≤ c.sv.length := List.length_filter_le _ _
        show (Cf.without c.sv o.n).length ≤ _; omega
      · have := joined_le (c.pt.map (Cf.replP (Cf.without c.sv o.n) o.n))
        simp at this
        show (Cf.joined _).length ≤ _; omega
theorem place_len (c : Cf.Cfg) (o : Cf.Ord) : (Cf.place c o).2.sv.length ≤ c.sv.length + 1 ∧ (Cf.place c o).2.pt.length ≤ 3 * c.pt.length := by
  unfold Cf.place; split
  · exact ⟨by simp, by show c.pt.length ≤ _; omega⟩
  · split
    · exact ⟨by simp, by show c.pt.length ≤ _; omega⟩
    · split
      · exact ⟨by simp, by show c.pt.length ≤ _; omega⟩
      · refine ⟨by simp, ?_⟩
        have := joined_le (c.pt.flatMap (Cf.cut3 o))
        rw [cut3_len] at this
        exact this
theorem tables_len (c : Cf.Cfg) (o : Cf.Ord) : (Cf.tables c o).2.sv.length ≤ c.sv.length + 1 ∧ (Cf.tables c o).2.pt.length ≤ 3 * c.pt.length := by
  unfold Cf.tables; split
  · exact ⟨by simp, by show c.pt.length ≤ _; omega⟩
  · exact ⟨by simp, by show c.pt.length ≤ _; omega⟩
theorem run_1 (c : Cf.Cfg) (o : Cf.Ord) (h : o.k = 1) : Cf.run c o = Cf.come c o := by unfold Cf.run; simp [h]
theorem run_2 (c : Cf.Cfg) (o : Cf.Ord) (h : o.k = 2) : Cf.run c o = Cf.leave c o := by unfold Cf.run; simp [h]
theorem run_3 (c : Cf.Cfg) (o : Cf.Ord) (h : o.k = 3) : Cf.run c o = Cf.place c o := by unfold Cf.run; simp [h]
theorem run_4 (c : Cf.Cfg) (o : Cf.Ord) (h : o.k = 4) : Cf.run c o = Cf.tables c o := by unfold Cf.run; simp [h]
theorem apply_bad (c : Cf.Cfg) (o : Cf.Ord) (r : Int × Cf.Cfg) (hck : Cf.check c = 0) (hep : ¬ c.ep = 1099511627776) (hkk : Cf.withinB o.k 1 4 = true) (hr : Cf.run c o = r) (h : r.1 ≠ 0) : Cf.apply c o = (Cf.zero, r.1) := by
  unfold Cf.apply; rw [if_neg (by rw [hck]; decide), if_neg hep, if_neg (by rw [hkk]; decide), hr, if_pos h]
theorem apply_good (c : Cf.Cfg) (o : Cf.Ord) (r : Int × Cf.Cfg) (hck : Cf.check c = 0) (hep : ¬ c.ep = 1099511627776) (hkk : Cf.withinB o.k 1 4 = true) (hr : Cf.run c o = r) (h : r.1 = 0) : Cf.apply c o = ({ r.2 with ep := r.2.ep + 1 }, 0) := by
  unfold Cf.apply; rw [if_neg (by rw [hck]; decide), if_neg hep, if_neg (by rw [hkk]; decide), hr, if_neg (by rw [h]; decide)]
end Go.Proofs.YtkmaepefpcpckaaDoor
