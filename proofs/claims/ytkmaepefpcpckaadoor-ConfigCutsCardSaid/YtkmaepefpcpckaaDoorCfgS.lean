/- Walk of the law's theirs: the document's config out of the program's. -/
import Derived.Test.YtkmaepefpcpckaaDoorCfgX
namespace Go.Proofs.YtkmaepefpcpckaaDoor
open Go.RowKit

theorem Tryd.info_rpart : (Tryd.prog.info? 77).map (fun i => (i.zero, i.size, i.bytes)) = some (some (.agg #[.int .i64 0, .int .i64 0, .int .i64 0, .int .i64 0]), 4, 32) := by kernel_rfl
theorem alloc_at (w : World) (o : Obj) (k : Nat) (h : k = w.heap.size) : (w.alloc o).heap[k]? = some o := by rw [h]; exact heap_alloc_new w o
theorem parts_take (ps : List Cf.Part) (k : Nat) (hk : k < ps.length) (p : Cf.Part) (hp : p = ps[k]) : Cf.parts (ps.take (k + 1)) = Cf.parts (ps.take k) ++ [.int .i64 p.f, .int .i64 p.t, .int .i64 p.a, .int .i64 p.b] := by
  rw [List.take_succ_eq_append_getElem hk, parts_append, ← hp, parts_one]

theorem own_set4 {w : World} {base cb n sz : Nat} {e t : TypeId} {v : Value} {xs : List Value} {cs : Array Value} (h : w.ownsRow base e sz v n xs) (hb : w.heap[cb]? = some (.cells cs t (0, 0))) (hne : e ≠ t) (a0 a1 a2 a3 : Value) :
    ((((w.setCell ⟨cb, 0, none⟩ a0).setCell ⟨cb, 1, none⟩ a1).setCell ⟨cb, 2, none⟩ a2).setCell ⟨cb, 3, none⟩ a3).ownsRow base e sz v n xs ∧ ((((w.setCell ⟨cb, 0, none⟩ a0).setCell ⟨cb, 1, none⟩ a1).setCell ⟨cb, 2, none⟩ a2).setCell ⟨cb, 3, none⟩ a3).heap[cb]? = some (.cells ((((cs.setIfInBounds 0 a0).setIfInBounds 1 a1).setIfInBounds 2 a2).setIfInBounds 3 a3) t (0, 0)) ∧ Keep (fun k => k ≠ cb) w ((((w.setCell ⟨cb, 0, none⟩ a0).setCell ⟨cb, 1, none⟩ a1).setCell ⟨cb, 2, none⟩ a2).setCell ⟨cb, 3, none⟩ a3) := by
  have b1 := block_setCell (o := 0) hb a0
  have b2 := block_setCell (o := 1) b1 a1
  have b3 := block_setCell (o := 2) b2 a2
  have h1 := ownsRow_setCell_other (a := ⟨cb, 0, none⟩) h (own_ne_block h hb hne) a0
  have h2 := ownsRow_setCell_other (a := ⟨cb, 1, none⟩) h1 (own_ne_block h1 b1 hne) a1
  have h3 := ownsRow_setCell_other (a := ⟨cb, 2, none⟩) h2 (own_ne_block h2 b2 hne) a2
  exact ⟨ownsRow_setCell_other (a := ⟨cb, 3, none⟩) h3 (own_ne_block h3 b3 hne) a3, block_setCell (o := 3) b3 a3, ((((Keep.refl (fun k => k ≠ cb) w).setCell (p := ⟨cb, 0, none⟩) (fun h => h rfl) a0).setCell (p := ⟨cb, 1, none⟩) (fun h => h rfl) a1).setCell (p := ⟨cb, 2, none⟩) (fun h => h rfl) a2).setCell (p := ⟨cb, 3, none⟩) (fun h => h rfl) a3⟩

/-- The document's config, as it is read; its servers are the program's own slice. -/
def Theirs (w : World) (ep tb : Int) (sv : Value) (ps : List Cf.Part) (e : Ending) (w' : World) : Prop := ∃ pv', e = .returned (.agg #[.int .i64 ep, sv, pv', .int .i64 tb]) ∧ w'.ownsRow w.heap.size 77 4 pv' ps.length (Cf.parts ps) ∧ Below w.heap.size w w'

set_option maxRecDepth 100000 in
set_option maxHeartbeats 1600000 in
theorem theirs_any (w : World) (c : Cf.Cfg) (sv pv : Value) (hs : Sl w sv c.sv.length 1 (Cf.ints c.sv)) (hp : Sl w pv c.pt.length 4 (Cf.parts c.pt)) (hl : c.pt.length ≤ 1000) :
    Calls Tryd.prog 13 #[.agg #[.int .i64 c.ep, sv, pv, .int .i64 c.tb]] w (Theirs w c.ep c.tb sv c.pt) := by
  obtain ⟨ep, ss, ps, tb⟩ := c
  dsimp only at *
  obtain ⟨i0, hi0, hz0, hz1', hz2'⟩ := info_parts Tryd.info_rpart
  obtain ⟨-, hm1, A1, c1, rfl, -⟩ := hs
  obtain ⟨-, hm, A2, c2, rfl, hcl⟩ := hp
  obtain ⟨B, hB⟩ : ∃ B, B = w.heap.size := ⟨_, rfl⟩
  have HB := Lib.hid hB
  obtain ⟨w1, hw1⟩ : ∃ w1, w1 = ((w.alloc (.cells #[.int .i64 ep, .slice A1 ss.length c1, .slice A2 ps.length c2, .int .i64 tb] 31)).alloc (.cells #[.int .i64 0, .slice none 0 0, .slice none 0 0, .int .i64 0] 42)).alloc (.cells #[.int .i64 ep, .slice A1 ss.length c1, .slice none 0 0, .int .i64 tb] 42) := ⟨_, rfl⟩
  have HW1 := Lib.hid hw1
  have X1 : w1.heap[B]? = some (.cells #[.int .i64 ep, .slice A1 ss.length c1, .slice A2 ps.length c2, .int .i64 tb] 31 (0, 0)) := by
    rw [hw1, hB, heap_alloc_old _ _ (by simp; omega), heap_alloc_old _ _ (by simp)]; exact heap_alloc_new w _
  have X2 : w1.heap[B + 1]? = some (.cells #[.int .i64 0, .slice none 0 0, .slice none 0 0, .int .i64 0] 42 (0, 0)) := by
    rw [hw1, hB, heap_alloc_old _ _ (by simp)]; exact alloc_at _ _ _ (by simp)
  have X3 : w1.heap[B + 1 + 1]? = some (.cells #[.int .i64 ep, .slice A1 ss.length c1, .slice none 0 0, .int .i64 tb] 42 (0, 0)) := by
    rw [hw1, hB]; exact alloc_at _ _ _ (by simp)
  have X4 : Below w.heap.size w w1 := by rw [hw1]; exact (((Below.refl _ _).alloc (Nat.le_refl _) _).alloc (by simp) _).alloc (by simp; omega) _
  have X := Lib.hid (And.intro X1 (And.intro X2 (And.intro X3 X4)))
  clear X1 X2 X3 X4 hw1 hB
  go_enter Tryd.func13, Tryd.ntmps13
  go_wp2
  rw [← HW1.out, ← HB.out]
  clear HW1
  go_loopw [4] (fun i wr => ∃ (k : Nat) (pv : Value), k ≤ ps.length ∧ i = .int .i64 k ∧ wr.heap[B]? = some (.cells #[.int .i64 ep, .slice A1 ss.length c1, .slice A2 ps.length c2, .int .i64 tb] 31 (0, 0)) ∧ wr.heap[B + 1]? = some (.cells #[.int .i64 0, .slice none 0 0, .slice none 0 0, .int .i64 0] 42 (0, 0)) ∧
    wr.heap[B + 1 + 1]? = some (.cells #[.int .i64 ep, .slice A1 ss.length c1, pv, .int .i64 tb] 42 (0, 0)) ∧ wr.ownsRow w.heap.size 77 4 pv k (Cf.parts (ps.take k)) ∧ Below w.heap.size w wr) (fun i _ => ps.length - (intOf i).toNat)
  case atStart => exact ⟨0, .slice none 0 0, by omega, rfl, X.out.1, X.out.2.1, X.out.2.2.1, World.ownsRow_nil _ _ _ _, X.out.2.2.2⟩
  case round =>
    obtain ⟨k, pv, hk, rfl, h1, h2, h3, hown, hbw⟩ := hrel
    clear X
    obtain ⟨E, ce, rfl⟩ := own_form hown
    have H1 := Lib.hid h1
    have H2 := Lib.hid h2
    have H3 := Lib.hid h3
    have HO := Lib.hid hown
    have HBw := Lib.hid hbw
    have hz : w.heap.size ≤ wr.heap.size := hbw.size
    have hz3 : B + 1 + 1 < wr.heap.size := lt_of_blk h3
    have hz2 : B + 1 < wr.heap.size := by omega
    have hz1 : B < wr.heap.size := by omega
    have cb0 : wr.cell? ⟨B, 2, none⟩ = some (.slice A2 ps.length c2) := by rw [cell_of_block h1]; rfl
    have ob2 : wr.cell? ⟨B + 1 + 1, 2, none⟩ = some (.slice E k ce) := by rw [cell_of_block h3]; rfl
    clear h1 h2 h3 hown
    by_cases hlt : k < ps.length
    · obtain ⟨vb, vo, rfl, hcell⟩ := hcl (by omega)
      obtain ⟨p, hp⟩ : ∃ p, p = ps[k] := ⟨_, rfl⟩
      have hg := parts_get ps k hlt
      rw [← hp] at hg
      have HT := Lib.hid (parts_take ps k hlt p hp)
      clear hp
      obtain ⟨pf, pt, pa, pbb⟩ := p
      dsimp only at hg
      have hbl : vb < w.heap.size := by
        have := hcell (k * 4) (by omega)
        rw [hg.1] at this
        exact World.block_lt_of_cell? w _ this
      obtain ⟨hbc, -⟩ := bcell hbw
      have p0 : wr.cell? ⟨vb, vo + k * 4, none⟩ = some (.int .i64 pf) := by rw [hbc _ _ hbl, hcell (k * 4) (by omega), hg.1]
      have p1 : wr.cell? ⟨vb, vo + k * 4 + 1, none⟩ = some (.int .i64 pt) := by rw [hbc _ _ hbl, Nat.add_assoc, hcell (k * 4 + 1) (by omega), hg.2.1]
      have p2 : wr.cell? ⟨vb, vo + k * 4 + 2, none⟩ = some (.int .i64 pa) := by rw [hbc _ _ hbl, Nat.add_assoc, hcell (k * 4 + 2) (by omega), hg.2.2.1]
      have p3 : wr.cell? ⟨vb, vo + k * 4 + 3, none⟩ = some (.int .i64 pbb) := by rw [hbc _ _ hbl, Nat.add_assoc, hcell (k * 4 + 3) (by omega), hg.2.2.2]
      have hone : Hid (∀ u ∈ [Value.int .i64 pf, .int .i64 pt, .int .i64 pa, .int .i64 pbb], u.oneCell' = true) := Lib.hid (by intro u hu; simp at hu; rcases hu with rfl | rfl | rfl | rfl <;> rfl)
      have hk0 : (0 : Int) ≤ (k : Int) := by omega
      have hk1 : (k : Int) < (ps.length : Int) := by omega
      clear hbc hg hcell hcl hbw
      go_wp2
      refine wp_region_canon (fun p w' => (p = 1 → w'.cell? ⟨B + 1 + 1, 2, none⟩ = some (.slice E k ce)) ∧ (p = 3 → w'.cell? ⟨B, 2, none⟩ = some (.slice (some ⟨vb, vo, none⟩) ps.length c2)) ∧ (p = 6 → w'.cell? ⟨vb, vo + k * 4, none⟩ = some (.int .i64 pf) ∧ w'.cell? ⟨vb, vo + k * 4 + 1, none⟩ = some (.int .i64 pt) ∧ w'.cell? ⟨vb, vo + k * 4 + 2, none⟩ = some (.int .i64 pa) ∧ w'.cell? ⟨vb, vo + k * 4 + 3, none⟩ = some (.int .i64 pbb))) [7, 8, 10] (by kernel_rfl) ?_
      refine canon_ex 0 (some 19) rfl rfl rfl (by kernel_rfl) (by kernel_rfl) (by kernel_rfl) (fun _ _ _ _ h => h) rfl ⟨_, (fun w' hS => by go_simp; rfl), by simp [*, World.cell?_alloc_some], ?_⟩
      intro a' ha; simp only [Act.put, List.setIfInBounds_toArray, List.set_cons_zero, List.set_cons_succ] at ha; subst ha
      refine canon_ex 1 (some 20) rfl rfl rfl (by kernel_rfl) (by kernel_rfl) (by kernel_rfl) (fun _ _ _ _ h => h) rfl ⟨_, (fun w' hS => by go_simp; rfl), by simp [*, World.cell?_alloc_some], ?_⟩
      intro a' ha; simp only [Act.put, List.setIfInBounds_toArray, List.set_cons_zero, List.set_cons_succ] at ha; subst ha
      refine canon_ex 2 (some 21) rfl rfl rfl (by kernel_rfl) (by kernel_rfl) (by kernel_rfl) (fun _ _ _ _ h => h) rfl ⟨_, (fun w' hS => by go_simp; rfl), by simp [*, World.cell?_alloc_some], ?_⟩
      intro a' ha; simp only [Act.put, List.setIfInBounds_toArray, List.set_cons_zero, List.set_cons_succ] at ha; subst ha
      refine canon_ex 3 (some 22) rfl rfl rfl (by kernel_rfl) (by kernel_rfl) (by kernel_rfl) (fun _ _ _ _ h => h) rfl ⟨_, (fun w' hS => by go_simp; rfl), by simp [*, World.cell?_alloc_some], ?_⟩
      intro a' ha; simp only [Act.put, List.setIfInBounds_toArray, List.set_cons_zero, List.set_cons_succ] at ha; subst ha
      refine canon_ex 4 (some 23) rfl rfl rfl (by kernel_rfl) (by kernel_rfl) (by kernel_rfl) (fun _ _ _ _ h => h) rfl ⟨_, (fun w' hS => by go_simp; rfl), by simp [*, World.cell?_alloc_some], ?_⟩
      intro a' ha; simp only [Act.put, List.setIfInBounds_toArray, List.set_cons_zero, List.set_cons_succ] at ha; subst ha
      refine canon_ex 5 (some 24) rfl rfl rfl (by kernel_rfl) (by kernel_rfl) (by kernel_rfl) (fun _ _ _ _ h => h) rfl ⟨_, (fun w' hS => by go_simp; rfl), by simp [*, World.cell?_alloc_some], ?_⟩
      intro a' ha; simp only [Act.put, List.setIfInBounds_toArray, List.set_cons_zero, List.set_cons_succ] at ha; subst ha
      refine canon_ex 6 (some 25) rfl rfl rfl (by kernel_rfl) (by kernel_rfl) (by kernel_rfl) (fun _ _ _ _ h => h) rfl ⟨_, (fun w' hS => by go_simp; rfl), by simp [*, World.cell?_alloc_some], ?_⟩
      intro a' ha; simp only [Act.put, List.setIfInBounds_toArray, List.set_cons_zero, List.set_cons_succ] at ha; subst ha
      refine canon_act 7 [1, 3, 6] [1] rfl (by kernel_rfl) (fun p w h => by simp at h; simp [h]) (by kernel_rfl) ?_
      intro K hK
      go_wp2
      refine hK _ _ (by first | (simp [*, World.cell?_alloc_some]; done) | (simp; go_simp; done)) ?_
      clear hK
      refine canon_act 8 [1, 3, 6] [] rfl (by kernel_rfl) (fun p w h => by simp at h; simp [h]) (by kernel_rfl) ?_
      intro K hK
      go_wp2_with (first | (at_builtin; go_loud (refine wpList_append_lies _ rfl (.tmp 20) (.tmp 26) 40 rfl w.heap.size 77 i0 _ 4 32 Tryd.underlying40 hi0 hz0 hz1' hz2' rfl (by omega) (.slice E k ce) k _ rfl (own_heap (HO.out.alloc _) rfl) ⟨wr.heap.size, 0, none⟩ 1 1 [.int .i64 pf, .int .i64 pt, .int .i64 pa, .int .i64 pbb] rfl rfl (news_new _ #[.int .i64 pf, .int .i64 pt, .int .i64 pa, .int .i64 pbb] 77 _ (by simp)) hone.out (by omega) (by unfold maxLen; omega) (by omega) (by simp; omega) _ rfl ?_); intro gg cap2 w4 hown4 hgrow4 hat4 hlt4))
      have HO4 := Lib.hid hown4
      have HG4 := Lib.hid hgrow4
      have G1 := Lib.hid ((hgrow4.block B (by simp; omega) (fun e => own_ne_block HO.out H1.out (by decide) e.symm)).trans ((heap_alloc_old _ _ (by exact hz1)).trans H1.out))
      have G2 := Lib.hid ((hgrow4.block (B + 1) (by simp; omega) (fun e => own_ne_block HO.out H2.out (by decide) e.symm)).trans ((heap_alloc_old _ _ (by exact hz2)).trans H2.out))
      have G3 := Lib.hid ((hgrow4.block (B + 1 + 1) (by simp; omega) (fun e => own_ne_block HO.out H3.out (by decide) e.symm)).trans ((heap_alloc_old _ _ (by exact hz3)).trans H3.out))
      have HB4 := Lib.hid (Below.grown (HBw.out.drew.alloc (by exact hz) _) hgrow4 (by simp; omega) (fun k hk => (HO.out.lt k hk).1))
      have c42 : w4.cell? ⟨B + 1 + 1, 2, none⟩ = some (.slice E k ce) := by rw [cell_of_block G3.out]; rfl
      have f42 : ∀ j, w4.frozen? ⟨B + 1 + 1, j, none⟩ = false := fun j => free_of_block G3.out
      clear hown4 hgrow4 hat4
      refine hK _ _ (by first | (simp [*, World.cell?_alloc_some]; done) | (simp; go_simp; done)) ?_
      clear hK
      refine canon_ex 9 (some 28) rfl rfl rfl (by kernel_rfl) (by kernel_rfl) (by kernel_rfl) (fun _ _ _ _ h => h) rfl ⟨_, (fun w' hS => by go_simp; rfl), by simp [*, World.cell?_alloc_some], ?_⟩
      intro a' ha; simp only [Act.put, List.setIfInBounds_toArray, List.set_cons_zero, List.set_cons_succ] at ha; subst ha
      refine canon_act 10 [1, 3, 6] [] rfl (by kernel_rfl) (fun p w h => by simp at h; simp [h]) (by kernel_rfl) ?_
      intro K hK
      go_wp2
      refine hK _ _ (by first | (simp [*, World.cell?_alloc_some]; done) | (simp; go_simp; done)) ?_
      clear hK
      refine canon_done ?_ ?_
      · kernel_rfl
      go_wp2
      go_roundw
      case rel =>
        have hst := block_setCell (o := 2) G3.out (.slice (some ⟨gg, 0, none⟩) (k + 1) cap2)
        exact ⟨k + 1, _, by omega, by go_num, (Below.heap_setCell w4 ⟨B + 1 + 1, 2, none⟩ _ B (by dsimp only; omega)).trans G1.out, (Below.heap_setCell w4 ⟨B + 1 + 1, 2, none⟩ _ (B + 1) (by dsimp only; omega)).trans G2.out, hst, by have := ownsRow_setCell_other (a := ⟨B + 1 + 1, 2, none⟩) HO4.out (own_ne_block HO4.out G3.out (by decide)) (.slice (some ⟨gg, 0, none⟩) (k + 1) cap2); rw [HT.out]; exact this, HB4.out.setCell (by have := HB.out; dsimp only; omega) _⟩
      case measure => simp [intOf]; omega
    · have hkk : k = ps.length := by omega
      subst hkk
      have hfr : ∀ j, wr.frozen? ⟨B + 1, j, none⟩ = false := fun j => free_of_block H2.out
      have r0 : wr.cell? ⟨B + 1, 0, none⟩ = some (.int .i64 0) := by rw [cell_of_block H2.out]; rfl
      have r1 : wr.cell? ⟨B + 1, 1, none⟩ = some (.slice none 0 0) := by rw [cell_of_block H2.out]; rfl
      have r2 : wr.cell? ⟨B + 1, 2, none⟩ = some (.slice none 0 0) := by rw [cell_of_block H2.out]; rfl
      have r3 : wr.cell? ⟨B + 1, 3, none⟩ = some (.int .i64 0) := by rw [cell_of_block H2.out]; rfl
      have o0 : wr.cell? ⟨B + 1 + 1, 0, none⟩ = some (.int .i64 ep) := by rw [cell_of_block H3.out]; rfl
      have o1 : wr.cell? ⟨B + 1 + 1, 1, none⟩ = some (.slice A1 ss.length c1) := by rw [cell_of_block H3.out]; rfl
      have o3 : wr.cell? ⟨B + 1 + 1, 3, none⟩ = some (.int .i64 tb) := by rw [cell_of_block H3.out]; rfl
      have HS4 := Lib.hid (own_set4 HO.out H2.out (by decide) (.int .i64 ep) (.slice A1 ss.length c1) (.slice E ps.length ce) (.int .i64 tb))
      go_wp2
      (try simp only [Exit.inBlock, Exit.then])
      refine bodyPost_ret (results_cell_row rfl _ _ (B + 1) _ _ _ _ rfl HS4.out.2.1 Tryd.underlying42 rfl (by kernel_rfl)) rfl ?_
      refine ⟨_, rfl, ?_, HBw.out.trans (HS4.out.2.2.below (fun j hj => by have := HB.out; omega))⟩
      have := HS4.out.1
      rw [List.take_of_length_le (Nat.le_refl _)] at this
      exact this
end Go.Proofs.YtkmaepefpcpckaaDoor
