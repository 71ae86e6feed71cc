/- Walks of what layer 12's leave calls: its two closures, the library's IndexFunc and DeleteFunc at []int. -/
import Derived.Test.YtkmaepefpcpckaaDoorCfgF
set_option linter.unusedVariables false
set_option linter.unusedSimpArgs false
namespace Go.Proofs.YtkmaepefpcpckaaDoor
open Go.RowKit

theorem leave1_any (x n : Int) (ob : Nat) (W : World) (hc : W.cell? ⟨ob, 1, none⟩ = some (.int .i64 n)) :
    Calls Tryd.prog 85 #[.int .i64 x, .pointer (some ⟨ob, 0, none⟩)] W fun e w' => e = .returned (.bool (x == n)) ∧ W = w' := by
  go_enter Tryd.func85, Tryd.ntmps85
  go_wp2
  go_ret
  exact ⟨rfl, rfl⟩

theorem leave2_any (x y : Int) (b c k : Nat) (W : World) (hp : W.cell? ⟨b, 1, none⟩ = some (.pointer (some ⟨c, k, none⟩))) (hc : W.cell? ⟨c, k, none⟩ = some (.int .i64 y)) :
    Calls Tryd.prog 87 #[.int .i64 x, .pointer (some ⟨b, 0, none⟩)] W fun e w' => e = .returned (.bool (x != y)) ∧ W = w' := by
  go_enter Tryd.func87, Tryd.ntmps87
  go_wp2
  go_ret
  exact ⟨rfl, rfl⟩

open Go.Shelf Go.Lib Go.Sort in
theorem del_own (w : World) (base g cap ob : Nat) (n : Int) (zs : List Int) (hH : w.ownsRow base 3 1 (.slice (some ⟨g, 0, none⟩) zs.length cap) zs.length (Cf.ints zs)) (hl : zs.length ≤ 140737488355328) (hne : ob ≠ g) (hc : w.cell? ⟨ob, 1, none⟩ = some (.int .i64 n)) :
    Calls Tryd.prog 84 #[.slice (some ⟨g, 0, none⟩) zs.length cap, .func (.func 85) #[] #[.pointer (some ⟨ob, 0, none⟩)]] w fun e w' =>
      e = .returned (.slice (some ⟨g, 0, none⟩) (zs.filter fun x => !(x == n)).length cap) ∧ w'.ownsRow base 3 1 (.slice (some ⟨g, 0, none⟩) (zs.filter fun x => !(x == n)).length cap) (zs.filter fun x => !(x == n)).length (Cf.ints (zs.filter fun x => !(x == n))) ∧ w.grownBy w' (some g) := by
  have hlt : g < w.heap.size := (hH.lt g rfl).2
  have hob : ob < w.heap.size := World.block_lt_of_cell? w _ hc
  have eg : ∀ args w, (callFunc 85 args).run Tryd.prog w = .ok (.enter 85 args) w := enters_of Tryd.func85 (by kernel_rfl) rfl
  have gives : ∀ (W : World) (x : Int), W.cell? ⟨ob, 1, none⟩ = some (.int .i64 n) → FnGives Tryd.prog 85 #[.pointer (some ⟨ob, 0, none⟩)] #[.int .i64 x] (.bool (x == n)) W := by
    intro W x hcW
    show Calls Tryd.prog 85 #[.int .i64 x, .pointer (some ⟨ob, 0, none⟩)] W _
    refine (leave1_any x n ob W hcW).mono ?_
    rintro e w' ⟨rfl, rfl⟩
    exact ⟨rfl, 0, rfl⟩
  have hcap : zs.length ≤ cap := by
    rcases hH.2 with ⟨h0, _⟩ | ⟨g', cap', cur, he, _, _, h1, _⟩
    · cases h0
    · injection he with _ _ hcc; omega
  have hh : Sort.Holds (Value.int .i64) w g 0 zs.toArray := by
    intro j hj
    have hj' : j < zs.length := by simpa using hj
    rw [Nat.zero_add, hH.cellAt j (by omega), hH.frozenAt j, ints_get zs j hj']
    simp [hj', List.getD_eq_getElem?_getD]
  have hcon := AnyE.slices_DeleteFunc Tryd.lDel (Value.int .i64) (fun _ => rfl) (fun x => x == n) 85 #[.pointer (some ⟨ob, 0, none⟩)] eg 0 Tryd.zeroValue3 g 0 cap zs.toArray w
    (fun W x hb => gives W x ((hb.cell (p := ⟨ob, 1, none⟩) hob).trans hc))
    (fun q os dk x _ => gives _ x (by
      unfold sortWorld
      rw [cell?_grow _ _ _ (by show ob < (putRow _ _ _ _ _).heap.size; rw [size_putRow]; exact hob), cell?_putRow_other _ _ g 0 _ _ (Or.inl hne)]
      exact hc)) hh (by simp; omega) (by simpa using hcap)
  refine Calls.mono hcon ?_
  rintro e w' ⟨rfl, q, rfl⟩
  generalize hr : (zs.filter fun x => !(x == n)) = r
  have hrl : r.length ≤ zs.length := by rw [← hr]; exact List.length_filter_le _ _
  have hso := sorted_own (ys := r ++ List.replicate (zs.length - r.length) 0) hH (by simp; omega) q #[]
  simp only [Sort.grow_empty] at hso
  have ec := own_cut hso.1 r.length hrl
  simp only [List.size_toArray, hr]
  refine ⟨trivial, ?_, hso.2⟩
  rw [List.map_append, List.take_append_of_le_length (by simp), List.take_of_length_le (by simp)] at ec
  exact ec

theorem ifunc2_any (y : Int) (b c k : Nat) (xs : List Int) (sv : Value) (w : World) (h : Sl w sv xs.length 1 (Cf.ints xs))
    (hp : w.cell? ⟨b, 1, none⟩ = some (.pointer (some ⟨c, k, none⟩))) (hc : w.cell? ⟨c, k, none⟩ = some (.int .i64 y)) :
    Calls Tryd.prog 86 #[sv, .func (.func 87) #[] #[.pointer (some ⟨b, 0, none⟩)]] w fun e w' => e = .returned (.int .i64 (Cf.firstNe y xs 0)) ∧ w = w' := by
  obtain ⟨-, hm, A, cc, rfl, hcl⟩ := h
  obtain ⟨r, hr⟩ : ∃ r, r = Cf.firstNe y xs 0 := ⟨_, rfl⟩
  rw [← hr]
  have Hr := Lib.hid hr
  clear hr
  go_enter Tryd.func86, Tryd.ntmps86
  go_wp2
  go_loop [5, 8] (fun _ i => ∃ j : Nat, j ≤ xs.length ∧ i = .int .i64 j ∧ Cf.firstNe y (xs.drop j) j = r) (fun _ i => xs.length - (intOf i).toNat)
  case atStart => exact ⟨0, by omega, rfl, Hr.out.symm⟩
  case round =>
    obtain ⟨j, hj, rfl, hrest⟩ := hrel
    have Hj := Lib.hid hrest
    clear hrest
    by_cases hlt : j < xs.length
    · obtain ⟨vb, vo, rfl, hcell⟩ := hcl (by omega)
      have hck : w.cell? ⟨vb, vo + j, none⟩ = some (.int .i64 (xs.getD j 0)) := by rw [hcell j (by omega), ints_get xs j hlt]
      clear hcell hcl
      obtain ⟨x, hx⟩ : ∃ x, x = xs.getD j 0 := ⟨_, rfl⟩
      rw [← hx] at hck
      have Hd := Lib.hid (firstNe_drop y x xs j hlt hx)
      clear hx
      by_cases he : x = y
      · have e1 : (x != y) = false := by simpa using he
        have Hf := Lib.hid (show Cf.firstNe y (xs.drop (j + 1)) (j + 1 : Nat) = r by rw [← Hj.out, Hd.out, if_pos he])
        clear he
        go_wp2_with fail
        refine (leave2_any x y b c k w hp hc).mono ?_
        rintro e w' ⟨rfl, rfl⟩
        go_wp2
        go_round
        case rel => exact ⟨j + 1, by omega, by go_num, Hf.out⟩
        case measure => simp [intOf]; omega
      · have e1 : (x != y) = true := by simpa using he
        have Hf := Lib.hid (show (j : Int) = r by rw [← Hj.out, Hd.out, if_neg he])
        clear he
        go_wp2_with fail
        refine (leave2_any x y b c k w hp hc).mono ?_
        rintro e w' ⟨rfl, rfl⟩
        go_wp2
        go_ret
        exact ⟨by rw [← Hf.out]; rfl, rfl⟩
    · have Hf := Lib.hid (show (-1 : Int) = r by rw [← Hj.out, List.drop_of_length_le (by omega)]; rfl)
      go_wp2
      go_ret
      exact ⟨by rw [← Hf.out]; rfl, rfl⟩
end Go.Proofs.YtkmaepefpcpckaaDoor
