/- Walks of layer 12's small functions. -/
import Derived.Test.YtkmaepefpcpckaaDoorProg
import Derived.Test.YtkmaepefpcpckaaDoorLib
import Derived.Test.YtkmaepefpcpckaaDoorCfgMath
set_option linter.unusedVariables false
set_option linter.unusedSimpArgs false
namespace Go.Proofs.YtkmaepefpcpckaaDoor
open Go.RowKit

theorem within_any (n a b : Int) (w : World) : Calls Tryd.prog 26 #[.int .i64 n, .int .i64 a, .int .i64 b] w fun e w' => e = .returned (.bool (Cf.withinB n a b)) ∧ w = w' := by
  by_cases h1 : a ≤ n
  · have h1' : decide (a ≤ n) = true := by simpa using h1
    go_enter Tryd.func26, Tryd.ntmps26
    go_wp2
    go_ret
    exact ⟨by simp [Cf.withinB, h1'], rfl⟩
  · have h1' : decide (a ≤ n) = false := by simpa using h1
    go_enter Tryd.func26, Tryd.ntmps26
    go_wp2
    go_ret
    exact ⟨by simp [Cf.withinB, h1'], rfl⟩

theorem index_any (xs : List Int) (v : Int) (sv : Value) (w : World) (h : Sl w sv xs.length 1 (Cf.ints xs)) :
    Calls Tryd.prog 55 #[sv, .int .i64 v] w fun e w' => (∃ r : Int, e = .returned (.int .i64 r) ∧ decide (0 ≤ r) = Cf.hasB xs v) ∧ w = w' := by
  obtain ⟨-, hm, A, c, rfl, hc⟩ := h
  go_enter Tryd.func55, Tryd.ntmps55
  go_wp2
  go_loop [5, 8] (fun _ i => ∃ k : Nat, k ≤ xs.length ∧ i = .int .i64 k ∧ Cf.hasB (xs.drop k) v = Cf.hasB xs v) (fun _ i => xs.length - (intOf i).toNat)
  case atStart => exact ⟨0, by omega, rfl, rfl⟩
  case round =>
    obtain ⟨k, hk, rfl, hj⟩ := hrel
    have Hj := Lib.hid hj
    clear hj
    by_cases hlt : k < xs.length
    · obtain ⟨b, o, rfl, hcell⟩ := hc (by omega)
      have hck : w.cell? ⟨b, o + k, none⟩ = some (.int .i64 (xs.getD k 0)) := by rw [hcell k (by omega), ints_get xs k hlt]
      clear hcell hc
      obtain ⟨y, hy⟩ : ∃ y, y = xs.getD k 0 := ⟨_, rfl⟩
      rw [← hy] at hck
      have Hy := Lib.hid hy
      clear hy
      have hd := hasB_drop xs v y k hlt Hy.out
      have Hd := Lib.hid hd
      clear hd
      by_cases he : v = y
      · have he' : (v == y) = true := by simpa using he
        have hfin : decide ((0 : Int) ≤ (k : Int)) = Cf.hasB xs v := by rw [← Hj.out, Hd.out, he']; simp
        have Hf := Lib.hid hfin
        clear hfin he
        go_wp2
        go_ret
        exact ⟨⟨_, rfl, Hf.out⟩, rfl⟩
      · have he' : (v == y) = false := by simpa using he
        have hfin : Cf.hasB (xs.drop (k + 1)) v = Cf.hasB xs v := by rw [← Hj.out, Hd.out, he']; simp
        have Hf := Lib.hid hfin
        clear hfin he
        go_wp2
        go_round
        case rel => exact ⟨k + 1, by omega, by go_num, Hf.out⟩
        case measure => simp [intOf]; omega
    · have hfin : decide ((0 : Int) ≤ -1) = Cf.hasB xs v := by rw [← Hj.out, List.drop_of_length_le (by omega)]; simp [Cf.hasB]
      have Hf := Lib.hid hfin
      clear hfin
      go_wp2
      go_ret
      exact ⟨⟨_, rfl, Hf.out⟩, rfl⟩

theorem contains_any (xs : List Int) (v : Int) (sv : Value) (w : World) (h : Sl w sv xs.length 1 (Cf.ints xs)) :
    Calls Tryd.prog 45 #[sv, .int .i64 v] w fun e w' => e = .returned (.bool (Cf.hasB xs v)) ∧ w = w' := by
  go_enter Tryd.func45, Tryd.ntmps45
  go_wp2_with fail
  refine (index_any xs v sv w h).mono ?_
  rintro e w' ⟨⟨r, rfl, hr⟩, rfl⟩
  have Hr := Lib.hid hr
  clear hr
  go_wp2
  go_ret
  exact ⟨by rw [Hr.out]; rfl, rfl⟩

theorem has_any (xs : List Int) (v : Int) (ep tb : Int) (sv pv : Value) (m : Nat) (pc : List Value) (w : World) (h : Sl w sv xs.length 1 (Cf.ints xs)) (hp : Sl w pv m 4 pc) :
    Calls Tryd.prog 31 #[.agg #[.int .i64 ep, sv, pv, .int .i64 tb], .int .i64 v] w fun e w' => e = .returned (.bool (Cf.hasB xs v)) ∧ Below w.heap.size w w' := by
  have h' := h
  obtain ⟨-, -, A, c, rfl, -⟩ := h'
  obtain ⟨-, -, A2, c2, rfl, -⟩ := hp
  go_enter Tryd.func31, Tryd.ntmps31
  go_wp2_with fail
  refine (contains_any xs v _ _ (h.below ((Below.refl _ _).alloc (Nat.le_refl _) _))).mono ?_
  rintro e w' ⟨rfl, rfl⟩
  go_wp2
  go_ret
  exact ⟨rfl, (Below.refl _ _).alloc (Nat.le_refl _) _⟩

theorem has_is (xs : List Int) (v : Int) (r : Bool) (hr : Cf.hasB xs v = r) (ep tb : Int) (sv pv : Value) (m : Nat) (pc : List Value) (w : World) (h : Sl w sv xs.length 1 (Cf.ints xs)) (hp : Sl w pv m 4 pc) :
    Calls Tryd.prog 31 #[.agg #[.int .i64 ep, sv, pv, .int .i64 tb], .int .i64 v] w fun e w' => e = .returned (.bool r) ∧ Below w.heap.size w w' := by
  rw [← hr]; exact has_any xs v ep tb sv pv m pc w h hp
end Go.Proofs.YtkmaepefpcpckaaDoor
