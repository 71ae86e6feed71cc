/- Walks of layer 12's orders: come, tables. -/
import Derived.Test.YtkmaepefpcpckaaDoorCfgB
import Derived.Test.YtkmaepefpcpckaaDoorShelf
import Derived.Test.YtkmaepefpcpckaaDoorCanon
set_option linter.unusedVariables false
set_option linter.unusedSimpArgs false
namespace Go.Proofs.YtkmaepefpcpckaaDoor
open Go.RowKit

theorem Tryd.info_int : (Tryd.prog.info? 3).map (fun i => (i.zero, i.size, i.bytes)) = some (some (.int .i64 0), 1, 8) := by kernel_rfl
theorem Tryd.info_part : (Tryd.prog.info? 69).map (fun i => (i.zero, i.size, i.bytes)) = some (some (.agg #[.int .i64 0, .int .i64 0, .int .i64 0, .int .i64 0]), 4, 32) := by kernel_rfl

/-- The config behind a pointer, its lists its own. -/
def CBox (w : World) (cb base : Nat) (c : Cf.Cfg) (sv pv : Value) : Prop :=
  w.heap[cb]? = some (.cells #[.int .i64 c.ep, sv, pv, .int .i64 c.tb] 31 (0, 0)) ∧ w.ownsRow base 3 1 sv c.sv.length (Cf.ints c.sv) ∧ w.ownsRow base 69 4 pv c.pt.length (Cf.parts c.pt) ∧ cb < base ∧ base ≤ w.heap.size

/-- What a change of the config behind a pointer leaves. -/
def Did (w : World) (cb base : Nat) (r : Int × Cf.Cfg) (e : Ending) (w' : World) : Prop :=
  e = .returned (.int .i64 r.1) ∧ Keep (fun k => k < base ∧ k ≠ cb) w w' ∧ (r.1 = 0 → ∃ sv' pv', CBox w' cb base r.2 sv' pv')

def ordV (o : Cf.Ord) : Value := .agg #[.int .i64 o.k, .int .i64 o.n, .int .i64 o.m, .int .i64 o.f, .int .i64 o.t]

theorem sort_own (w : World) (base g cap : Nat) (zs : List Int) (hH : w.ownsRow base 3 1 (.slice (some ⟨g, 0, none⟩) zs.length cap) zs.length (Cf.ints zs)) (hl : zs.length ≤ 140737488355328) :
    Calls Tryd.prog 83 #[.slice (some ⟨g, 0, none⟩) zs.length cap] w fun e w' => e = .returned (.tuple #[]) ∧ w'.ownsRow base 3 1 (.slice (some ⟨g, 0, none⟩) zs.length cap) zs.length (Cf.ints (Cf.sortI zs)) ∧ w.grownBy w' (some g) := by
  have hlt : g < w.heap.size := (hH.lt g rfl).2
  refine (Tryd.slices_Sort_int g 0 cap zs w ?_ hlt (by omega)).mono ?_
  · intro j hj
    have hj' : j < zs.length := by simpa using hj
    rw [Nat.zero_add, hH.cellAt j (by omega), hH.frozenAt j, ints_get zs j hj']
    simp [hj', List.getD_eq_getElem?_getD]
  · rintro e w' ⟨rfl, n, os, rfl⟩
    have hs : (Cf.sortI zs).length = zs.length := List.length_mergeSort _
    have := sorted_own (ys := Cf.sortI zs) hH hs n os
    exact ⟨rfl, this.1, this.2⟩

set_option maxHeartbeats 400000 in
theorem come_any (w : World) (cb base : Nat) (c : Cf.Cfg) (o : Cf.Ord) (sv pv : Value) (h : CBox w cb base c sv pv) (hl : c.sv.length ≤ 1000) (hp : c.pt.length ≤ 140737488355328) :
    Calls Tryd.prog 79 #[.pointer (some ⟨cb, 0, none⟩), ordV o] w (Did w cb base (Cf.come c o)) := by
  obtain ⟨ep, ss, ps, tb⟩ := c
  obtain ⟨ok, on, om, of, ot⟩ := o
  obtain ⟨hbox, hsv, hpv, hcb, hbase⟩ := h
  dsimp only at *
  unfold ordV
  dsimp only
  have hlt := lt_of_blk hbox
  have q0 : w.cell? ⟨cb, 0, none⟩ = some (.int .i64 ep) := by rw [cell_of_block hbox]; rfl
  have q1 : w.cell? ⟨cb, 1, none⟩ = some sv := by rw [cell_of_block hbox]; rfl
  have q2 : w.cell? ⟨cb, 2, none⟩ = some pv := by rw [cell_of_block hbox]; rfl
  have q3 : w.cell? ⟨cb, 3, none⟩ = some (.int .i64 tb) := by rw [cell_of_block hbox]; rfl
  have hs := own_sl hsv (by omega)
  have hp' := own_sl hpv hp
  have f1 : w.frozen? ⟨cb, 1, none⟩ = false := free_of_block hbox
  obtain ⟨r, hr⟩ : ∃ r, r = Cf.come ⟨ep, ss, ps, tb⟩ ⟨ok, on, om, of, ot⟩ := ⟨_, rfl⟩
  have Hr := Lib.hid hr
  rw [← hr]
  clear hr
  cases k1 : Cf.withinB on 0 7
  case false =>
    have Hf := Lib.hid (show r = (1, ⟨ep, ss, ps, tb⟩) by rw [Hr.out]; simp [Cf.come, k1])
    go_enter Tryd.func79, Tryd.ntmps79
    go_wp2_with (go_at_call 26; refine (within_any _ _ _ _).mono ?_; rintro e w' ⟨rfl, rfl⟩)
    go_ret
    exact ⟨by rw [Hf.out]; rfl, (Keep.refl _ _).alloc (fun k hk => by omega) _, by rw [Hf.out]; simp⟩
  case true =>
  obtain ⟨i0, hi0, hz0, hz1, hz2⟩ := info_parts Tryd.info_int
  cases k2 : Cf.hasB ss on
  case true =>
    go_enter Tryd.func79, Tryd.ntmps79
    go_wp2_with (go_at_call 26; refine (within_any _ _ _ _).mono ?_; rintro e w' ⟨rfl, rfl⟩)
    go_region_held3 (fun w' => w'.cell? ⟨cb, 0, none⟩ = some (.int .i64 ep) ∧ w'.cell? ⟨cb, 1, none⟩ = some sv ∧ w'.cell? ⟨cb, 2, none⟩ = some pv ∧ w'.cell? ⟨cb, 3, none⟩ = some (.int .i64 tb) ∧ w'.cell? ⟨w.heap.size, 1, none⟩ = some (.int .i64 on)) (go_keep)
      (first | (go_at_call 31; refine (has_any ss on ep tb sv pv ps.length (Cf.parts ps) _ (by exact hs.alloc _) (by exact hp'.alloc _)).mono ?_; rintro e w1 ⟨rfl, hb1⟩; have hcc : ∀ o, w1.cell? ⟨cb, o, none⟩ = w.cell? ⟨cb, o, none⟩ := (fun o => by rw [(bcell hb1).1 _ _ (by simp; omega)]; go_simp); have hco : w1.cell? ⟨w.heap.size, 1, none⟩ = some (.int .i64 on) := (by rw [(bcell hb1).1 _ _ (by simp)]; go_simp)))
    have Hf := Lib.hid (show r = (4, ⟨ep, ss, ps, tb⟩) by rw [Hr.out]; simp [Cf.come, k1, k2])
    go_wp2
    go_ret
    exact ⟨by rw [Hf.out]; rfl, (Keep.refl _ _).alloc (fun k hk => by omega) _ |>.drew.trans (Keep.of_below hb1 (fun k hk => by simp only [World.drew, World.size_alloc]; omega)), by rw [Hf.out]; simp⟩
  case false =>
    go_enter Tryd.func79, Tryd.ntmps79
    go_wp2_with (go_at_call 26; refine (within_any _ _ _ _).mono ?_; rintro e w' ⟨rfl, rfl⟩)
    go_region_held3 (fun w' => w'.cell? ⟨cb, 0, none⟩ = some (.int .i64 ep) ∧ w'.cell? ⟨cb, 1, none⟩ = some sv ∧ w'.cell? ⟨cb, 2, none⟩ = some pv ∧ w'.cell? ⟨cb, 3, none⟩ = some (.int .i64 tb) ∧ w'.cell? ⟨w.heap.size, 1, none⟩ = some (.int .i64 on)) (go_keep)
      (first | (go_at_call 31; refine (has_any ss on ep tb sv pv ps.length (Cf.parts ps) _ (by exact hs.alloc _) (by exact hp'.alloc _)).mono ?_; rintro e w1 ⟨rfl, hb1⟩; have hcc : ∀ o, w1.cell? ⟨cb, o, none⟩ = w.cell? ⟨cb, o, none⟩ := (fun o => by rw [(bcell hb1).1 _ _ (by simp; omega)]; go_simp); have hco : w1.cell? ⟨w.heap.size, 1, none⟩ = some (.int .i64 on) := (by rw [(bcell hb1).1 _ _ (by simp)]; go_simp)))
    have Hf := Lib.hid (show r = (0, ⟨ep, Cf.sortI (ss ++ [on]), ps, tb⟩) by rw [Hr.out]; simp [Cf.come, k1, k2])
    have hz : w.heap.size < w1.heap.size := by have := hb1.size; simp at this; omega
    have K1 : Keep (fun k => k < w.heap.size) w w1 := ((Keep.refl _ _).alloc (fun k hk => hk) _).drew.trans (Keep.of_below hb1 (fun k hk => by simp; omega))
    have hsv1 := Lib.hid (K1.owns hsv (fun k hk => (hsv.lt k hk).2))
    have hpv1 := Lib.hid (K1.owns hpv (fun k hk => (hpv.lt k hk).2))
    have hbox1 := Lib.hid ((K1.block cb hlt).trans hbox)
    have hK1 := Lib.hid K1
    have g1 : w1.cell? ⟨cb, 1, none⟩ = some sv := by rw [hcc, q1]
    have g2 : w1.frozen? ⟨cb, 1, none⟩ = false := free_of_block hbox1.out
    have hnb := own_ne_block hsv hbox (by decide)
    have hnw : sv.ownBlock ≠ some w.heap.size := fun e => by have := (hsv.lt _ e).2; omega
    have hone : ∀ u ∈ [Value.int .i64 on], u.oneCell' = true := by intro u hu; simp at hu; subst hu; rfl
    have hbs : base ≤ w1.heap.size := by omega
    clear K1 hb1 hcc q0 q1 q2 q3 f1 hs hp' hbox hsv hpv
    go_wp2
    refine wp_region_canon (fun p w' => (p = 4 → w'.cell? ⟨cb, 1, none⟩ = some sv) ∧ (p = 6 → w'.cell? ⟨w.heap.size, 1, none⟩ = some (.int .i64 on))) [7, 8, 11] (by kernel_rfl) ?_
    refine canon_ex 0 (some 17) rfl rfl rfl (by kernel_rfl) (by kernel_rfl) (by kernel_rfl) (fun _ _ _ _ h => h) rfl ⟨_, (fun w' hS => by go_simp; rfl), by simp [*], ?_⟩
    intro a' ha; simp only [Act.put, List.setIfInBounds_toArray, List.set_cons_zero, List.set_cons_succ] at ha; subst ha
    refine canon_ex 1 (some 18) rfl rfl rfl (by kernel_rfl) (by kernel_rfl) (by kernel_rfl) (fun _ _ _ _ h => h) rfl ⟨_, (fun w' hS => by go_simp; rfl), by simp [*], ?_⟩
    intro a' ha; simp only [Act.put, List.setIfInBounds_toArray, List.set_cons_zero, List.set_cons_succ] at ha; subst ha
    refine canon_ex 2 (some 19) rfl rfl rfl (by kernel_rfl) (by kernel_rfl) (by kernel_rfl) (fun _ _ _ _ h => h) rfl ⟨_, (fun w' hS => by go_simp; rfl), by simp [*], ?_⟩
    intro a' ha; simp only [Act.put, List.setIfInBounds_toArray, List.set_cons_zero, List.set_cons_succ] at ha; subst ha
    refine canon_ex 3 (some 20) rfl rfl rfl (by kernel_rfl) (by kernel_rfl) (by kernel_rfl) (fun _ _ _ _ h => h) rfl ⟨_, (fun w' hS => by go_simp; rfl), by simp [*], ?_⟩
    intro a' ha; simp only [Act.put, List.setIfInBounds_toArray, List.set_cons_zero, List.set_cons_succ] at ha; subst ha
    refine canon_ex 4 (some 21) rfl rfl rfl (by kernel_rfl) (by kernel_rfl) (by kernel_rfl) (fun _ _ _ _ h => h) rfl ⟨_, (fun w' hS => by go_simp; rfl), by simp [*], ?_⟩
    intro a' ha; simp only [Act.put, List.setIfInBounds_toArray, List.set_cons_zero, List.set_cons_succ] at ha; subst ha
    refine canon_ex 5 (some 22) rfl rfl rfl (by kernel_rfl) (by kernel_rfl) (by kernel_rfl) (fun _ _ _ _ h => h) rfl ⟨_, (fun w' hS => by go_simp; rfl), by simp [*], ?_⟩
    intro a' ha; simp only [Act.put, List.setIfInBounds_toArray, List.set_cons_zero, List.set_cons_succ] at ha; subst ha
    refine canon_ex 6 (some 23) rfl rfl rfl (by kernel_rfl) (by kernel_rfl) (by kernel_rfl) (fun _ _ _ _ h => h) rfl ⟨_, (fun w' hS => by go_simp; rfl), by simp [*], ?_⟩
    intro a' ha; simp only [Act.put, List.setIfInBounds_toArray, List.set_cons_zero, List.set_cons_succ] at ha; subst ha
    refine canon_act 7 [4, 6] [4] rfl (by kernel_rfl) (fun p w h => by simp at h; simp [h]) (by kernel_rfl) ?_
    intro K hK
    go_wp2
    refine hK _ _ (by simp [*, World.cell?_alloc_some]) ?_
    clear hK
    refine canon_act 8 [4, 6] [] rfl (by kernel_rfl) (fun p w h => by simp at h; simp [h]) (by kernel_rfl) ?_
    intro K hK
    refine wpList_append_lies _ rfl (.tmp 21) (.tmp 24) 28 rfl base 3 i0 (.int .i64 0) 1 8 Tryd.underlying28 hi0 hz0 hz1 hz2 rfl (by omega) sv ss.length (Cf.ints ss) (by simp [Act.eval, Act.put]) ((hsv1.out.alloc _).drew) ⟨w1.heap.size, 0, none⟩ 1 1 [.int .i64 on] (by simp [Act.eval, Act.put]) rfl (World.news_of_block (cs := #[.int .i64 on]) (t := 3) (fr := (0, 0)) (heap_alloc_new w1 _)) hone (by omega) (by unfold maxLen; omega) (by omega) (by simp only [World.drew, World.size_alloc]; omega) _ rfl ?_
    intro gg cap w2 hown2 hgrow hat hlt2
    have e1 : w2.cell? ⟨cb, 1, none⟩ = some sv := by rw [hgrow.cell_far _ (by simp; omega) (Ne.symm hnb)]; simp [*, World.cell?_alloc_some]
    have e3 : w2.frozen? ⟨cb, 1, none⟩ = false := by rw [hgrow.frozen_far _ (by simp; omega) (Ne.symm hnb)]; simp only [World.frozen?_drew]; rw [World.frozen?_alloc_old _ _ _ (by simp; omega)]; exact g2
    go_wp2
    refine hK _ _ (by simp [*, World.cell?_alloc_some]) ?_
    clear hK
    refine canon_ex 9 (some 26) rfl rfl rfl (by kernel_rfl) (by kernel_rfl) (by kernel_rfl) (fun _ _ _ _ h => h) rfl ⟨_, (fun w' hS => by go_simp; rfl), by simp [*], ?_⟩
    intro a' ha; simp only [Act.put, List.setIfInBounds_toArray, List.set_cons_zero, List.set_cons_succ] at ha; subst ha
    refine canon_ex 10 (some 27) rfl rfl rfl (by kernel_rfl) (by kernel_rfl) (by kernel_rfl) (fun _ _ _ _ h => h) rfl ⟨_, (fun w' hS => by go_simp; rfl), by simp [*], ?_⟩
    intro a' ha; simp only [Act.put, List.setIfInBounds_toArray, List.set_cons_zero, List.set_cons_succ] at ha; subst ha
    refine canon_act 11 [4, 6] [] rfl (by kernel_rfl) (fun p w h => by simp at h; simp [h]) (by kernel_rfl) ?_
    intro K hK
    go_wp2
    refine hK _ _ (by simp [*, World.cell?_alloc_some]) ?_
    clear hK
    refine canon_done (by kernel_rfl) ?_
    have K2 : Keep (fun k => k < base ∧ k ≠ cb) w w2 := (hK1.out.mono (fun k hk => by omega)).trans ((((Keep.refl _ w1).alloc (fun k hk => by omega) _).drew).grown hgrow (fun k hk => by simp only [World.drew, World.size_alloc]; omega) (fun k hk => by have := (hsv1.out.lt k hk).1; omega))
    have B2 : w2.heap[cb]? = some (.cells #[.int .i64 ep, sv, pv, .int .i64 tb] 31 (0, 0)) := by
      rw [hgrow.block cb (by simp only [World.drew, World.size_alloc]; omega) (Ne.symm hnb)]
      exact (heap_alloc_old w1 _ (by omega)).trans hbox1.out
    have P2 : w2.ownsRow base 69 4 pv ps.length (Cf.parts ps) := by
      have h1 : (w1.alloc (.cells #[.int .i64 on] 3)).drew.ownsRow base 69 4 pv ps.length (Cf.parts ps) := (hpv1.out.alloc _).drew
      exact h1.kept hgrow (own_ne h1 ((hsv1.out.alloc _).drew) (by decide))
    have hne2 := own_ne_block hown2 B2 (by decide)
    have H2 := Lib.hid (ownsRow_setCell_other (a := ⟨cb, 1, none⟩) hown2 hne2 (.slice (some ⟨gg, 0, none⟩) (ss.length + 1) cap))
    have P3 := Lib.hid (ownsRow_setCell_other (a := ⟨cb, 1, none⟩) P2 (own_ne_block P2 B2 (by decide)) (.slice (some ⟨gg, 0, none⟩) (ss.length + 1) cap))
    have B3 := Lib.hid (block_setCell (o := 1) B2 (.slice (some ⟨gg, 0, none⟩) (ss.length + 1) cap))
    have hne3 := own_ne P3.out H2.out (by decide)
    have HK2 := Lib.hid K2
    have Hgb := Lib.hid (hown2.lt gg rfl).1
    have hsz2 : w1.heap.size < w2.heap.size := by have := hgrow.size; simp only [World.drew, World.size_alloc] at this; omega
    have Hne2 := Lib.hid hne2
    clear K2 B2 P2 hne2 hown2 hgrow hat
    go_wp2_with fail
    rw [show ss.length + 1 = (ss ++ [on]).length by simp]
    refine (sort_own _ base gg cap (ss ++ [on]) ?_ ?_).mono ?_
    · have := H2.out; rw [show ss.length + 1 = (ss ++ [on]).length by simp] at this; simpa [Cf.ints] using this
    · simp; omega
    · rintro e w3 ⟨rfl, hown3, hg3⟩
      have K3 : Keep (fun k => k < base ∧ k ≠ cb) w w3 := (HK2.out.setCell (fun h => h.2 rfl) _).grown hg3 (fun k hk => by simp only [World.size_setCell]; omega) (fun k hk => by have := Hgb.out; cases hk; omega)
      have hcg : cb ≠ gg := fun e => Hne2.out (by rw [e]; rfl)
      have B4 : w3.heap[cb]? = some (.cells #[.int .i64 ep, .slice (some ⟨gg, 0, none⟩) (ss ++ [on]).length cap, pv, .int .i64 tb] 31 (0, 0)) := by
        have hlt2 : cb < w2.heap.size := by omega
        rw [hg3.block cb (by simp only [World.size_setCell]; exact hlt2) (fun e => hcg (by injection e))]
        have h := B3.out
        rw [show (ss ++ [on]).length = ss.length + 1 by simp]
        exact h
      have P4 : w3.ownsRow base 69 4 pv ps.length (Cf.parts ps) := by
        have h := P3.out
        rw [show ss.length + 1 = (ss ++ [on]).length by simp] at h
        exact h.kept hg3 hne3
      have hsz3 : base ≤ w3.heap.size := by have := hg3.size; simp only [World.size_setCell] at this; omega
      have hl3 : (Cf.sortI (ss ++ [on])).length = (ss ++ [on]).length := List.length_mergeSort _
      have HD : Hid (Keep (fun k => k < base ∧ k ≠ cb) w w3 ∧ (r.1 = 0 → ∃ sv' pv', CBox w3 cb base r.2 sv' pv')) := by
        refine ⟨K3, fun _ => ⟨.slice (some ⟨gg, 0, none⟩) (ss ++ [on]).length cap, pv, ?_⟩⟩
        rw [Hf.out]
        exact ⟨B4, by dsimp only; rw [hl3]; exact hown3, P4, hcb, hsz3⟩
      clear K3 B4 P4 hown3 hg3 hl3
      go_wp2
      go_ret
      exact ⟨by rw [Hf.out]; rfl, HD.out.1, HD.out.2⟩

theorem tables_any (w : World) (cb base : Nat) (c : Cf.Cfg) (o : Cf.Ord) (sv pv : Value) (h : CBox w cb base c sv pv) :
    Calls Tryd.prog 82 #[.pointer (some ⟨cb, 0, none⟩), ordV o] w (Did w cb base (Cf.tables c o)) := by
  obtain ⟨ep, ss, ps, tb⟩ := c
  obtain ⟨ok, on, om, of, ot⟩ := o
  obtain ⟨hbox, hsv, hpv, hcb, hbase⟩ := h
  dsimp only at *
  unfold ordV
  dsimp only
  have hlt := lt_of_blk hbox
  have q3 : w.cell? ⟨cb, 3, none⟩ = some (.int .i64 tb) := by rw [cell_of_block hbox]; rfl
  have f3 : w.frozen? ⟨cb, 3, none⟩ = false := free_of_block hbox
  obtain ⟨r, hr⟩ : ∃ r, r = Cf.tables ⟨ep, ss, ps, tb⟩ ⟨ok, on, om, of, ot⟩ := ⟨_, rfl⟩
  have Hr := Lib.hid hr
  rw [← hr]
  clear hr
  have Hbox := Lib.hid hbox
  have Hsv := Lib.hid hsv
  have Hpv := Lib.hid hpv
  clear hbox hsv hpv
  cases k1 : Cf.withinB on 1 8
  case false =>
    have Hf := Lib.hid (show r = (1, ⟨ep, ss, ps, tb⟩) by rw [Hr.out]; simp [Cf.tables, k1])
    go_enter Tryd.func82, Tryd.ntmps82
    go_wp2_with (go_at_call 26; refine (within_any _ _ _ _).mono ?_; rintro e w' ⟨rfl, rfl⟩)
    go_ret
    exact ⟨by rw [Hf.out]; rfl, (Keep.refl _ _).alloc (fun k hk => by omega) _, by rw [Hf.out]; simp⟩
  case true =>
    have Hf := Lib.hid (show r = (0, ⟨ep, ss, ps, on⟩) by rw [Hr.out]; simp [Cf.tables, k1])
    go_enter Tryd.func82, Tryd.ntmps82
    go_wp2_with (go_at_call 26; refine (within_any _ _ _ _).mono ?_; rintro e w' ⟨rfl, rfl⟩)
    go_ret
    refine ⟨by rw [Hf.out]; rfl, ?_⟩
    refine ⟨((Keep.refl _ _).setCell (p := ⟨cb, 3, none⟩) (fun (h : cb < base ∧ cb ≠ cb) => h.2 rfl) _).alloc (fun k hk => by simp only [World.size_setCell]; omega) _, fun _ => ⟨sv, pv, ?_⟩⟩
    rw [Hf.out]
    have e1 := block_setCell (o := 3) Hbox.out (.int .i64 on)
    refine ⟨(heap_alloc_old _ _ (by simp only [World.size_setCell]; exact hlt)).trans e1, ?_, ?_, hcb, ?_⟩
    · exact (ownsRow_setCell_other (a := ⟨cb, 3, none⟩) Hsv.out (own_ne_block Hsv.out Hbox.out (by decide)) _).alloc _
    · exact (ownsRow_setCell_other (a := ⟨cb, 3, none⟩) Hpv.out (own_ne_block Hpv.out Hbox.out (by decide)) _).alloc _
    · simp only [World.size_setCell, World.size_alloc]; omega
end Go.Proofs.YtkmaepefpcpckaaDoor
