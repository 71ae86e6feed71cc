/- Walk of layer 12's joined. -/
import Derived.Test.YtkmaepefpcpckaaDoorCfgC
set_option linter.unusedVariables false
set_option linter.unusedSimpArgs false
namespace Go.Proofs.YtkmaepefpcpckaaDoor
open Go.RowKit

/-- a new list of parts -/
def NewParts (w : World) (ps : List Cf.Part) (e : Ending) (w' : World) : Prop :=
  ∃ v, e = .returned v ∧ w'.ownsRow w.heap.size 69 4 v ps.length (Cf.parts ps) ∧ Below w.heap.size w w'

set_option maxRecDepth 100000 in
set_option maxHeartbeats 800000 in
theorem joined_any (ps : List Cf.Part) (lv : Value) (w : World) (hs : Sl w lv ps.length 4 (Cf.parts ps)) (hl : ps.length ≤ 1000000) :
    Calls Tryd.prog 88 #[lv] w (NewParts w (Cf.joined ps)) := by
  obtain ⟨-, hm, A, c, rfl, hc⟩ := id hs
  obtain ⟨i0, hi0, hz0, hz1, hz2⟩ := info_parts Tryd.info_part
  go_enter Tryd.func88, Tryd.ntmps88
  go_wp2
  go_loopw [3, 9] (fun o i wr => ∃ k : Nat, ∃ out : List Cf.Part, k ≤ ps.length ∧ i = .int .i64 k ∧ out = (ps.take k).foldl Cf.jstep [] ∧ out.length ≤ k ∧ wr.ownsRow w.heap.size 69 4 o out.length (Cf.parts out) ∧ Below w.heap.size w wr) (fun _ i _ => ps.length - (intOf i).toNat)
  case atStart => exact ⟨0, [], by omega, rfl, rfl, by simp, World.ownsRow_nil _ _ _ _, Below.refl _ _⟩
  case round =>
    obtain ⟨k, out, hk, rfl, hout, hol, hown, hbw⟩ := hrel
    have Hout := Lib.hid hout
    have Hown := Lib.hid hown
    have Hbw := Lib.hid hbw
    clear hout hown
    by_cases hlt : k < ps.length
    · obtain ⟨pb, po, hA, hcell⟩ := hc (by omega)
      subst hA
      obtain ⟨p, hp'⟩ : ∃ p, p = ps[k] := ⟨_, rfl⟩
      have hg := parts_get ps k hlt
      rw [← hp'] at hg
      have Hn := Lib.hid (show (ps.take (k + 1)).foldl Cf.jstep [] = Cf.jstep out p by rw [joined_take ps k hlt, Hout.out, hp'])
      clear hp'
      obtain ⟨pf, pt, pa, pbb⟩ := p
      dsimp only at hg
      have hbl : pb < w.heap.size := by
        have := hcell (k * 4) (by omega)
        rw [hg.1] at this
        exact World.block_lt_of_cell? w _ this
      obtain ⟨hbc, -⟩ := bcell hbw
      have p0 : wr.cell? ⟨pb, po + k * 4, none⟩ = some (.int .i64 pf) := by rw [hbc _ _ hbl, hcell (k * 4) (by omega), hg.1]
      have p1 : wr.cell? ⟨pb, po + k * 4 + 1, none⟩ = some (.int .i64 pt) := by rw [hbc _ _ hbl, Nat.add_assoc, hcell (k * 4 + 1) (by omega), hg.2.1]
      have p2 : wr.cell? ⟨pb, po + k * 4 + 2, none⟩ = some (.int .i64 pa) := by rw [hbc _ _ hbl, Nat.add_assoc, hcell (k * 4 + 2) (by omega), hg.2.2.1]
      have p3 : wr.cell? ⟨pb, po + k * 4 + 3, none⟩ = some (.int .i64 pbb) := by rw [hbc _ _ hbl, Nat.add_assoc, hcell (k * 4 + 3) (by omega), hg.2.2.2]
      have hsz : w.heap.size ≤ wr.heap.size := hbw.size
      clear hbc hg hcell hbw hc hbl
      by_cases e1 : pf ≥ pt
      · have Hj := Lib.hid (show (ps.take (k + 1)).foldl Cf.jstep [] = out by rw [Hn.out, jstep_skip _ _ e1])
        rcases Hown.out.2 with ⟨hv, h0⟩ | ⟨g, cap, cur, hv, -⟩
        all_goals
          have Hv := Lib.hid hv
          subst hv
          go_wp2
          go_roundw
          case rel => exact ⟨k + 1, out, by omega, by go_num, Hj.out.symm, by omega, Hown.out.alloc _, Hbw.out.alloc Hbw.out.size _⟩
          case measure => simp [intOf]; omega
      · have hone : ∀ u ∈ [Value.int .i64 pf, .int .i64 pt, .int .i64 pa, .int .i64 pbb], u.oneCell' = true := by intro u hu; simp at hu; rcases hu with rfl | rfl | rfl | rfl <;> rfl
        have e1' : ¬ pf ≥ pt := e1
        rcases List.eq_nil_or_concat out with hnil | ⟨init, q, hq⟩
        · subst hnil
          have Hj := Lib.hid (show (ps.take (k + 1)).foldl Cf.jstep [] = [⟨pf, pt, pa, pbb⟩] by rw [Hn.out, jstep_nil _ e1])
          rcases Hown.out.2 with ⟨hv, h0⟩ | ⟨g, cap, cur, hv, -⟩
          all_goals
            subst hv
            go_wp2
            go_quiet (fail)
            go_wp2_with (first | (at_builtin; refine wpList_append_lies _ rfl (.tmp 16) (.tmp 18) 29 rfl w.heap.size 69 i0 _ 4 32 Tryd.underlying29 hi0 hz0 hz1 hz2 rfl (by omega) _ 0 [] rfl (own_heap ((Hown.out.alloc _).alloc _) rfl) ⟨wr.heap.size + 1, 0, none⟩ 1 1 [.int .i64 pf, .int .i64 pt, .int .i64 pa, .int .i64 pbb] rfl rfl (news_new _ #[.int .i64 pf, .int .i64 pt, .int .i64 pa, .int .i64 pbb] 69 _ (by simp)) hone (by omega) (by unfold maxLen; omega) (by omega) (by simp; omega) _ rfl ?_; intro gg cap2 w2 hown2 hgrow hat hlt2))
            have Hown2 := Lib.hid hown2
            have Hb2 := Lib.hid ((belowN (Hbw.out.alloc Hbw.out.size _) nq).alloc (by simp; omega) _ |>.grown hgrow (by simp; omega) (fun k hk => (Hown.out.lt k hk).1))
            clear hown2 hgrow hat
            go_wp2
            go_roundw
            case rel => exact ⟨k + 1, [⟨pf, pt, pa, pbb⟩], by omega, by go_num, Hj.out.symm, by simp, by have := Hown2.out; simpa [parts_one] using this, Hb2.out⟩
            case measure => simp [intOf]; omega
        · rw [List.concat_eq_append] at hq
          obtain ⟨qf, qt, qa, qb⟩ := q
          have hq' : out = init ++ [⟨qf, qt, qa, qb⟩] := hq
          subst hq'
          obtain ⟨g, cap, hv, hgb, hgl⟩ := Hown.out.form (by simp)
          subst hv
          have hl1 : (init ++ [(⟨qf, qt, qa, qb⟩ : Cf.Part)]).length = init.length + 1 := by simp
          have hgA := parts_get (init ++ [⟨qf, qt, qa, qb⟩]) init.length (by simp)
          have g2 : wr.cell? ⟨g, init.length * 4 + 2, none⟩ = some (.int .i64 qa) := by rw [Hown.out.cellAt _ (by simp; omega), hgA.2.2.1]; simp
          have g3 : wr.cell? ⟨g, init.length * 4 + 3, none⟩ = some (.int .i64 qb) := by rw [Hown.out.cellAt _ (by simp; omega), hgA.2.2.2]; simp
          have g1 : wr.cell? ⟨g, init.length * 4 + 1, none⟩ = some (.int .i64 qt) := by rw [Hown.out.cellAt _ (by simp; omega), hgA.2.1]; simp
          have f1 : wr.frozen? ⟨g, init.length * 4 + 1, none⟩ = false := Hown.out.frozenAt _
          clear hgA hq
          rw [hl1] at hol
          rw [hl1] at Hown
          by_cases e2 : qa = pa ∧ qb = pbb
          · have Hj := Lib.hid (show (ps.take (k + 1)).foldl Cf.jstep [] = init ++ [⟨qf, pt, qa, qb⟩] by rw [Hn.out, jstep_same _ _ _ e1 e2.1 e2.2])
            obtain ⟨rfl, rfl⟩ := e2
            rw [hl1]
            have i1 : (init.length : Int) < (init.length : Int) + 1 := by omega
            have i2 : (0 : Int) ≤ (init.length : Int) := by omega
            go_wp2
            go_quiet (fail)
            go_wp2
            go_roundw
            case rel =>
              have h0 : ((wr.alloc (.cells #[.int .i64 pf, .int .i64 pt, .int .i64 qa, .int .i64 qb] 69)).drewN nq).ownsRow w.heap.size 69 4 (.slice (some ⟨g, 0, none⟩) (init.length + 1) cap) (init.length + 1) (Cf.parts (init ++ [⟨qf, qt, qa, qb⟩])) := own_heap (Hown.out.alloc _) rfl
              have hst := h0.stored (init.length * 4 + 1) (.int .i64 pt)
              rw [parts_set_last] at hst
              have hB := (belowN (Hbw.out.alloc Hbw.out.size (.cells #[.int .i64 pf, .int .i64 pt, .int .i64 qa, .int .i64 qb] 69)) nq).setCell (p := ⟨g, init.length * 4 + 1, none⟩) hgb (.int .i64 pt)
              exact ⟨k + 1, init ++ [⟨qf, pt, qa, qb⟩], by omega, by go_num, Hj.out.symm, by simp; omega, by simpa using hst.1, hB⟩
            case measure => simp [intOf]; omega
          · have Hj := Lib.hid (show (ps.take (k + 1)).foldl Cf.jstep [] = init ++ [⟨qf, qt, qa, qb⟩] ++ [⟨pf, pt, pa, pbb⟩] by rw [Hn.out, jstep_other _ _ _ e1 e2])
            have He2 := Lib.hid e2
            rw [hl1]
            have i1 : (init.length : Int) < (init.length : Int) + 1 := by omega
            have i2 : (0 : Int) ≤ (init.length : Int) := by omega
            by_cases e3 : qa = pa
            · subst e3
              have e4 : (qb == pbb) = false := by simpa using fun h => e2 ⟨rfl, h⟩
              clear e2
              go_wp2
              go_quiet (fail)
              go_wp2_with (first | (at_builtin; refine wpList_append_lies _ rfl (.tmp 16) (.tmp 18) 29 rfl w.heap.size 69 i0 _ 4 32 Tryd.underlying29 hi0 hz0 hz1 hz2 rfl (by omega) _ (init.length + 1) (Cf.parts (init ++ [⟨qf, qt, qa, qb⟩])) rfl (own_heap ((Hown.out.alloc _).alloc _) rfl) ⟨wr.heap.size + 1, 0, none⟩ 1 1 [.int .i64 pf, .int .i64 pt, .int .i64 qa, .int .i64 pbb] rfl rfl (news_new _ #[.int .i64 pf, .int .i64 pt, .int .i64 qa, .int .i64 pbb] 69 _ (by simp)) hone (by omega) (by unfold maxLen; omega) (by omega) (by simp; omega) _ rfl ?_; intro gg cap2 w2 hown2 hgrow hat hlt2))
              have Hown2 := Lib.hid hown2
              have Hb2 := Lib.hid ((belowN (Hbw.out.alloc Hbw.out.size _) nq).alloc (by simp; omega) _ |>.grown hgrow (by simp; omega) (fun k hk => (Hown.out.lt k hk).1))
              clear hown2 hgrow hat
              go_wp2
              go_roundw
              case rel => exact ⟨k + 1, init ++ [⟨qf, qt, qa, qb⟩] ++ [⟨pf, pt, qa, pbb⟩], by omega, by go_num, Hj.out.symm, by simp; omega, by have := Hown2.out; rw [parts_append, parts_one]; simpa using this, Hb2.out⟩
              case measure => simp [intOf]; omega
            · have e4 : (qa == pa) = false := by simpa using e3
              clear e2 e3
              go_wp2
              go_quiet (fail)
              go_wp2_with (first | (at_builtin; refine wpList_append_lies _ rfl (.tmp 16) (.tmp 18) 29 rfl w.heap.size 69 i0 _ 4 32 Tryd.underlying29 hi0 hz0 hz1 hz2 rfl (by omega) _ (init.length + 1) (Cf.parts (init ++ [⟨qf, qt, qa, qb⟩])) rfl (own_heap ((Hown.out.alloc _).alloc _) rfl) ⟨wr.heap.size + 1, 0, none⟩ 1 1 [.int .i64 pf, .int .i64 pt, .int .i64 pa, .int .i64 pbb] rfl rfl (news_new _ #[.int .i64 pf, .int .i64 pt, .int .i64 pa, .int .i64 pbb] 69 _ (by simp)) hone (by omega) (by unfold maxLen; omega) (by omega) (by simp; omega) _ rfl ?_; intro gg cap2 w2 hown2 hgrow hat hlt2))
              have Hown2 := Lib.hid hown2
              have Hb2 := Lib.hid ((belowN (Hbw.out.alloc Hbw.out.size _) nq).alloc (by simp; omega) _ |>.grown hgrow (by simp; omega) (fun k hk => (Hown.out.lt k hk).1))
              clear hown2 hgrow hat
              go_wp2
              go_roundw
              case rel => exact ⟨k + 1, init ++ [⟨qf, qt, qa, qb⟩] ++ [⟨pf, pt, pa, pbb⟩], by omega, by go_num, Hj.out.symm, by simp; omega, by have := Hown2.out; rw [parts_append, parts_one]; simpa using this, Hb2.out⟩
              case measure => simp [intOf]; omega
    · rcases Hown.out.2 with ⟨hv, h0⟩ | ⟨g, cap, cur, hv, -⟩
      all_goals
        have Hj := Lib.hid (show out = Cf.joined ps by rw [Hout.out, List.take_of_length_le (by omega)]; rfl)
        have Hv := Lib.hid hv
        subst hv
        go_wp2
        go_ret
        rw [← Hj.out]
        exact ⟨_, rfl, Hown.out, Hbw.out⟩
end Go.Proofs.YtkmaepefpcpckaaDoor
