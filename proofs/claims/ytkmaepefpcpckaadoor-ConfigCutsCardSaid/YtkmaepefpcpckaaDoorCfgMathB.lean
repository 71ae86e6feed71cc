/- More plain lemmas of layer 12. -/
import Derived.Test.YtkmaepefpcpckaaDoorCfgMath
set_option linter.unusedVariables false
set_option linter.unusedSimpArgs false
namespace Go.Proofs.YtkmaepefpcpckaaDoor
open Go.RowKit

theorem parts_set4 (l : List Cf.Part) (k : Nat) (hk : k < l.length) (p : Cf.Part) :
    ((((Cf.parts l).set (k * 4) (.int .i64 p.f)).set (k * 4 + 1) (.int .i64 p.t)).set (k * 4 + 2) (.int .i64 p.a)).set (k * 4 + 3) (.int .i64 p.b) = Cf.parts (l.set k p) := by
  induction l generalizing k with
  | nil => simp at hk
  | cons q r ih =>
    have hpc : ∀ (x : Cf.Part) (s : List Cf.Part), Cf.parts (x :: s) = .int .i64 x.f :: .int .i64 x.t :: .int .i64 x.a :: .int .i64 x.b :: Cf.parts s := fun x s => rfl
    cases k with
    | zero => rw [List.set_cons_zero, hpc, hpc]; rfl
    | succ k =>
      have := ih k (by simpa using hk)
      rw [List.set_cons_succ, hpc, hpc, ← this]
      rw [show (k + 1) * 4 = k * 4 + 4 by omega, show k * 4 + 4 + 1 = k * 4 + 1 + 4 by omega, show k * 4 + 4 + 2 = k * 4 + 2 + 4 by omega, show k * 4 + 4 + 3 = k * 4 + 3 + 4 by omega]
      simp only [List.set_cons_succ]

/-- k of them done -/
def half (f : Cf.Part → Cf.Part) (ps : List Cf.Part) (k : Nat) : List Cf.Part := (ps.take k).map f ++ ps.drop k
theorem half_len (f : Cf.Part → Cf.Part) (ps : List Cf.Part) (k : Nat) : (half f ps k).length = ps.length := by simp [half]; omega
theorem half_zero (f : Cf.Part → Cf.Part) (ps : List Cf.Part) : half f ps 0 = ps := by simp [half]
theorem half_all (f : Cf.Part → Cf.Part) (ps : List Cf.Part) (k : Nat) (h : ps.length ≤ k) : half f ps k = ps.map f := by
  unfold half; rw [List.take_of_length_le h, List.drop_of_length_le h, List.append_nil]
theorem half_get (f : Cf.Part → Cf.Part) (ps : List Cf.Part) (k : Nat) (h : k < ps.length) : (half f ps k)[k]'(by rw [half_len]; exact h) = ps[k] := by
  unfold half
  rw [List.getElem_append_right (by simp; omega)]
  simp [List.length_take, Nat.min_eq_left (Nat.le_of_lt h)]
theorem half_set (f : Cf.Part → Cf.Part) (ps : List Cf.Part) (k : Nat) (h : k < ps.length) : (half f ps k).set k (f ps[k]) = half f ps (k + 1) := by
  unfold half
  rw [List.set_append_right _ _ (by simp; omega), List.take_succ_eq_append_getElem h, List.map_append, List.append_assoc]
  congr 1
  rw [show k - ((ps.take k).map f).length = 0 by simp; omega, List.drop_eq_getElem_cons h]
  rfl
end Go.Proofs.YtkmaepefpcpckaaDoor
