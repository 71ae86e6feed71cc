/- Walks of layer 12's leave where it refuses; slices.Clone at []int and []Part. -/
import Derived.Test.YtkmaepefpcpckaaDoorCfgH
set_option linter.unusedVariables false
set_option linter.unusedSimpArgs false
namespace Go.Proofs.YtkmaepefpcpckaaDoor
open Go.RowKit

set_option maxRecDepth 100000 in
set_option maxHeartbeats 800000 in
theorem leave_e1 (w : World) (cb base : Nat) (c : Cf.Cfg) (o : Cf.Ord) (sv pv : Value) (h : CBox w cb base c sv pv) (hl : c.sv.length ≤ 1000) (hp : c.pt.length ≤ 1000) (k1 : Cf.hasB c.sv o.n = false) :
    Calls Tryd.prog 80 #[.pointer (some ⟨cb, 0, none⟩), ordV o] w (Did w cb base (Cf.leave c o)) := by
  obtain ⟨ep, ss, ps, tb⟩ := c
  obtain ⟨ok, on, om, of, ot⟩ := o
  obtain ⟨hbox, hsv, hpv, hcb, hbase⟩ := h
  dsimp only at *
  unfold ordV
  dsimp only
  have hlt := lt_of_blk hbox
  have q0 : w.cell? ⟨cb, 0, none⟩ = some (.int .i64 ep) := by rw [cell_of_block hbox]; rfl
  have q1 : w.cell? ⟨cb, 1, none⟩ = some sv := by rw [cell_of_block hbox]; rfl
  have q2 : w.cell? ⟨cb, 2, none⟩ = some pv := by rw [cell_of_block hbox]; rfl
  have q3 : w.cell? ⟨cb, 3, none⟩ = some (.int .i64 tb) := by rw [cell_of_block hbox]; rfl
  have hs := own_sl hsv (by omega)
  have hp' := own_sl hpv (by omega)
  obtain ⟨r, hr⟩ : ∃ r, r = Cf.leave ⟨ep, ss, ps, tb⟩ ⟨ok, on, om, of, ot⟩ := ⟨_, rfl⟩
  have Hf := Lib.hid (show r = (3, ⟨ep, ss, ps, tb⟩) by rw [hr]; simp [Cf.leave, k1])
  rw [← hr]
  clear hr
  go_enter Tryd.func80, Tryd.ntmps80
  go_wp2_with fail
  go_region_held3 (fun w' => w'.cell? ⟨cb, 0, none⟩ = some (.int .i64 ep) ∧ w'.cell? ⟨cb, 1, none⟩ = some sv ∧ w'.cell? ⟨cb, 2, none⟩ = some pv ∧ w'.cell? ⟨cb, 3, none⟩ = some (.int .i64 tb) ∧ w'.cell? ⟨w.heap.size, 1, none⟩ = some (.int .i64 on)) (go_keep)
    (first | (go_at_call 31; refine (has_is ss on false k1 ep tb _ pv ps.length (Cf.parts ps) _ (by exact hs.alloc _) (by exact hp'.alloc _)).mono ?_; rintro e w1 ⟨rfl, hb1⟩; have hcc : ∀ o, w1.cell? ⟨cb, o, none⟩ = w.cell? ⟨cb, o, none⟩ := (fun o => by rw [(bcell hb1).1 _ _ (by simp; omega)]; go_simp); have hco : w1.cell? ⟨w.heap.size, 1, none⟩ = some (.int .i64 on) := (by rw [(bcell hb1).1 _ _ (by simp)]; go_simp)))
  go_wp2
  go_ret
  exact ⟨by rw [Hf.out]; rfl, (((Keep.refl _ _).alloc (fun k hk => by omega) _).drew.trans (Keep.of_below hb1 (fun k hk => by simp only [World.drew, World.size_alloc]; omega))), by rw [Hf.out]; simp⟩

set_option maxRecDepth 100000 in
set_option maxHeartbeats 800000 in
theorem leave_e2 (w : World) (cb base : Nat) (c : Cf.Cfg) (o : Cf.Ord) (sv pv : Value) (h : CBox w cb base c sv pv) (hl : c.sv.length ≤ 1000) (hp : c.pt.length ≤ 1000) (k1 : Cf.hasB c.sv o.n = true) (k2 : c.sv.length ≤ 2) :
    Calls Tryd.prog 80 #[.pointer (some ⟨cb, 0, none⟩), ordV o] w (Did w cb base (Cf.leave c o)) := by
  obtain ⟨ep, ss, ps, tb⟩ := c
  obtain ⟨ok, on, om, of, ot⟩ := o
  obtain ⟨hbox, hsv, hpv, hcb, hbase⟩ := h
  dsimp only at *
  unfold ordV
  dsimp only
  have hlt := lt_of_blk hbox
  have q0 : w.cell? ⟨cb, 0, none⟩ = some (.int .i64 ep) := by rw [cell_of_block hbox]; rfl
  have q1 : w.cell? ⟨cb, 1, none⟩ = some sv := by rw [cell_of_block hbox]; rfl
  have q2 : w.cell? ⟨cb, 2, none⟩ = some pv := by rw [cell_of_block hbox]; rfl
  have q3 : w.cell? ⟨cb, 3, none⟩ = some (.int .i64 tb) := by rw [cell_of_block hbox]; rfl
  have hs := own_sl hsv (by omega)
  have hp' := own_sl hpv (by omega)
  obtain ⟨r, hr⟩ : ∃ r, r = Cf.leave ⟨ep, ss, ps, tb⟩ ⟨ok, on, om, of, ot⟩ := ⟨_, rfl⟩
  have Hf := Lib.hid (show r = (110, ⟨ep, ss, ps, tb⟩) by rw [hr]; simp [Cf.leave, k1, k2])
  rw [← hr]
  clear hr
  obtain ⟨sA, sC, hsf⟩ : ∃ sA sC, sv = .slice sA ss.length sC := by
    rcases hsv.2 with ⟨hv, h0⟩ | ⟨g, cap, cur, hv, -⟩
    · exact ⟨none, 0, by rw [h0]; exact hv⟩
    · exact ⟨_, cap, hv⟩
  subst hsf
  go_enter Tryd.func80, Tryd.ntmps80
  go_wp2_with fail
  go_region_held3 (fun w' => w'.cell? ⟨cb, 0, none⟩ = some (.int .i64 ep) ∧ w'.cell? ⟨cb, 1, none⟩ = some (.slice sA ss.length sC) ∧ w'.cell? ⟨cb, 2, none⟩ = some pv ∧ w'.cell? ⟨cb, 3, none⟩ = some (.int .i64 tb) ∧ w'.cell? ⟨w.heap.size, 1, none⟩ = some (.int .i64 on)) (go_keep)
    (first | (go_at_call 31; refine (has_is ss on true k1 ep tb _ pv ps.length (Cf.parts ps) _ (by exact hs.alloc _) (by exact hp'.alloc _)).mono ?_; rintro e w1 ⟨rfl, hb1⟩; have hcc : ∀ o, w1.cell? ⟨cb, o, none⟩ = w.cell? ⟨cb, o, none⟩ := (fun o => by rw [(bcell hb1).1 _ _ (by simp; omega)]; go_simp); have hco : w1.cell? ⟨w.heap.size, 1, none⟩ = some (.int .i64 on) := (by rw [(bcell hb1).1 _ _ (by simp)]; go_simp)))
  have g1 : w1.cell? ⟨cb, 1, none⟩ = some (.slice sA ss.length sC) := by rw [hcc, q1]
  clear hcc
  go_wp2
  go_ret
  exact ⟨by rw [Hf.out]; rfl, (((Keep.refl _ _).alloc (fun k hk => by omega) _).drew.trans (Keep.of_below hb1 (fun k hk => by simp only [World.drew, World.size_alloc]; omega))), by rw [Hf.out]; simp⟩
end Go.Proofs.YtkmaepefpcpckaaDoor
