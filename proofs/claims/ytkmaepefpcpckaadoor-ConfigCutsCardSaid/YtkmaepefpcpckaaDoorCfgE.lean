/- Walk of layer 12's place. -/
import Derived.Test.YtkmaepefpcpckaaDoorCfgD
import Derived.Deep.Cut
import Derived.Deep.RegionWith
set_option linter.unusedVariables false
set_option linter.unusedSimpArgs false
namespace Go.Proofs.YtkmaepefpcpckaaDoor
open Go.RowKit

theorem place_a (c : Cf.Cfg) (o : Cf.Ord) (h : o.f < 0 ∨ o.f ≥ o.t ∨ o.t > 256) : Cf.place c o = (71, c) := by unfold Cf.place; rw [if_pos h]
theorem place_b (c : Cf.Cfg) (o : Cf.Ord) (h : ¬ (o.f < 0 ∨ o.f ≥ o.t ∨ o.t > 256)) (h2 : o.n = o.m) : Cf.place c o = (1, c) := by unfold Cf.place; rw [if_neg h, if_pos h2]
theorem place_c (c : Cf.Cfg) (o : Cf.Ord) (h : ¬ (o.f < 0 ∨ o.f ≥ o.t ∨ o.t > 256)) (h2 : ¬ o.n = o.m) (h3 : Cf.hasB c.sv o.n = false ∨ Cf.hasB c.sv o.m = false) : Cf.place c o = (3, c) := by unfold Cf.place; rw [if_neg h, if_neg h2, if_pos h3]
theorem place_d (c : Cf.Cfg) (o : Cf.Ord) (h : ¬ (o.f < 0 ∨ o.f ≥ o.t ∨ o.t > 256)) (h2 : ¬ o.n = o.m) (h3 : Cf.hasB c.sv o.n = true) (h4 : Cf.hasB c.sv o.m = true) : Cf.place c o = (0, { c with pt := Cf.joined (c.pt.flatMap (Cf.cut3 o)) }) := by unfold Cf.place; rw [if_neg h, if_neg h2, if_neg (by simp [h3, h4])]

set_option maxRecDepth 100000 in
set_option maxHeartbeats 800000 in
theorem place_e1 (w : World) (cb base : Nat) (c : Cf.Cfg) (o : Cf.Ord) (sv pv : Value) (h : CBox w cb base c sv pv) (hl : c.sv.length ≤ 1000) (hp : c.pt.length ≤ 1000) (cc : (o.f < 0 ∨ o.f ≥ o.t ∨ o.t > 256) ∨ o.n = o.m) :
    Calls Tryd.prog 81 #[.pointer (some ⟨cb, 0, none⟩), ordV o] w (Did w cb base (Cf.place c o)) := by
  obtain ⟨ep, ss, ps, tb⟩ := c
  obtain ⟨ok, on, om, of, ot⟩ := o
  obtain ⟨hbox, hsv, hpv, hcb, hbase⟩ := h
  dsimp only at *
  unfold ordV
  dsimp only
  have hlt := lt_of_blk hbox
  have q0 : w.cell? ⟨cb, 0, none⟩ = some (.int .i64 ep) := by rw [cell_of_block hbox]; rfl
  have q1 : w.cell? ⟨cb, 1, none⟩ = some sv := by rw [cell_of_block hbox]; rfl
  have q2 : w.cell? ⟨cb, 2, none⟩ = some pv := by rw [cell_of_block hbox]; rfl
  have q3 : w.cell? ⟨cb, 3, none⟩ = some (.int .i64 tb) := by rw [cell_of_block hbox]; rfl
  have hs := own_sl hsv (by omega)
  have hp' := own_sl hpv (by omega)
  obtain ⟨r, hr⟩ : ∃ r, r = Cf.place ⟨ep, ss, ps, tb⟩ ⟨ok, on, om, of, ot⟩ := ⟨_, rfl⟩
  have Hr := Lib.hid hr
  rw [← hr]
  clear hr
  by_cases c1 : of < 0 ∨ of ≥ ot ∨ ot > 256
  · have Hf := Lib.hid (Hr.out.trans (place_a _ _ c1))
    clear cc
    by_cases d1 : of < 0
    · go_enter Tryd.func81, Tryd.ntmps81
      go_wp2
      go_ret
      exact ⟨by rw [Hf.out]; rfl, (Keep.refl _ _).alloc (fun k hk => by omega) _, by rw [Hf.out]; simp⟩
    · by_cases d2 : of ≥ ot
      · go_enter Tryd.func81, Tryd.ntmps81
        go_wp2
        go_ret
        exact ⟨by rw [Hf.out]; rfl, (Keep.refl _ _).alloc (fun k hk => by omega) _, by rw [Hf.out]; simp⟩
      · have d3 : ot > 256 := by omega
        go_enter Tryd.func81, Tryd.ntmps81
        go_wp2
        go_ret
        exact ⟨by rw [Hf.out]; rfl, (Keep.refl _ _).alloc (fun k hk => by omega) _, by rw [Hf.out]; simp⟩
  have d1 : ¬ of < 0 := by omega
  have d2 : ¬ of ≥ ot := by omega
  have d3 : ¬ ot > 256 := by omega
  have c2 : on = om := by rcases cc with h | h; exact absurd h c1; exact h
  · have Hf := Lib.hid (Hr.out.trans (place_b _ _ c1 c2))
    clear cc
    have e2 : (on == om) = true := by simpa using c2
    clear c1 c2
    go_enter Tryd.func81, Tryd.ntmps81
    go_wp2
    go_ret
    exact ⟨by rw [Hf.out]; rfl, (Keep.refl _ _).alloc (fun k hk => by omega) _, by rw [Hf.out]; simp⟩

set_option maxRecDepth 100000 in
set_option maxHeartbeats 800000 in
theorem place_e2 (w : World) (cb base : Nat) (c : Cf.Cfg) (o : Cf.Ord) (sv pv : Value) (h : CBox w cb base c sv pv) (hl : c.sv.length ≤ 1000) (hp : c.pt.length ≤ 1000) (c1 : ¬ (o.f < 0 ∨ o.f ≥ o.t ∨ o.t > 256)) (c2 : ¬ o.n = o.m) (k1 : Cf.hasB c.sv o.n = false) :
    Calls Tryd.prog 81 #[.pointer (some ⟨cb, 0, none⟩), ordV o] w (Did w cb base (Cf.place c o)) := by
  obtain ⟨ep, ss, ps, tb⟩ := c
  obtain ⟨ok, on, om, of, ot⟩ := o
  obtain ⟨hbox, hsv, hpv, hcb, hbase⟩ := h
  dsimp only at *
  unfold ordV
  dsimp only
  have hlt := lt_of_blk hbox
  have q0 : w.cell? ⟨cb, 0, none⟩ = some (.int .i64 ep) := by rw [cell_of_block hbox]; rfl
  have q1 : w.cell? ⟨cb, 1, none⟩ = some sv := by rw [cell_of_block hbox]; rfl
  have q2 : w.cell? ⟨cb, 2, none⟩ = some pv := by rw [cell_of_block hbox]; rfl
  have q3 : w.cell? ⟨cb, 3, none⟩ = some (.int .i64 tb) := by rw [cell_of_block hbox]; rfl
  have hs := own_sl hsv (by omega)
  have hp' := own_sl hpv (by omega)
  obtain ⟨r, hr⟩ : ∃ r, r = Cf.place ⟨ep, ss, ps, tb⟩ ⟨ok, on, om, of, ot⟩ := ⟨_, rfl⟩
  have Hr := Lib.hid hr
  rw [← hr]
  clear hr
  have d1 : ¬ of < 0 := by omega
  have d2 : ¬ of ≥ ot := by omega
  have d3 : ¬ ot > 256 := by omega
  have e2 : (on == om) = false := by simpa using c2
  have Hf := Lib.hid (Hr.out.trans (place_c _ _ c1 c2 (.inl k1)))
  clear c1 c2
  go_enter Tryd.func81, Tryd.ntmps81
  go_wp2_with fail
  refine wp_region_canon (fun p w' => (p = 2 → w'.cell? ⟨cb, 0, none⟩ = some (.int .i64 ep) ∧ w'.cell? ⟨cb, 1, none⟩ = some sv ∧ w'.cell? ⟨cb, 2, none⟩ = some pv ∧ w'.cell? ⟨cb, 3, none⟩ = some (.int .i64 tb)) ∧ (p = 4 → w'.cell? ⟨w.heap.size, 1, none⟩ = some (.int .i64 on))) [5] (by kernel_rfl) ?_
  refine canon_ex 0 (some 38) rfl rfl rfl (by kernel_rfl) (by kernel_rfl) (by kernel_rfl) (fun _ _ _ _ h => h) rfl ⟨_, (fun w' hS => by go_simp; rfl), by simp [*, World.cell?_alloc_some], ?_⟩
  intro a' ha; simp only [Act.put, List.setIfInBounds_toArray, List.set_cons_zero, List.set_cons_succ] at ha; subst ha
  refine canon_ex 1 (some 39) rfl rfl rfl (by kernel_rfl) (by kernel_rfl) (by kernel_rfl) (fun _ _ _ _ h => h) rfl ⟨_, (fun w' hS => by go_simp; rfl), by simp [*, World.cell?_alloc_some], ?_⟩
  intro a' ha; simp only [Act.put, List.setIfInBounds_toArray, List.set_cons_zero, List.set_cons_succ] at ha; subst ha
  refine canon_ex 2 (some 40) rfl rfl rfl (by kernel_rfl) (by kernel_rfl) (by kernel_rfl) (fun _ _ _ _ h => h) rfl ⟨_, (fun w' hS => by go_simp; rfl), by simp [*, World.cell?_alloc_some], ?_⟩
  intro a' ha; simp only [Act.put, List.setIfInBounds_toArray, List.set_cons_zero, List.set_cons_succ] at ha; subst ha
  refine canon_ex 3 (some 41) rfl rfl rfl (by kernel_rfl) (by kernel_rfl) (by kernel_rfl) (fun _ _ _ _ h => h) rfl ⟨_, (fun w' hS => by go_simp; rfl), by simp [*, World.cell?_alloc_some], ?_⟩
  intro a' ha; simp only [Act.put, List.setIfInBounds_toArray, List.set_cons_zero, List.set_cons_succ] at ha; subst ha
  refine canon_ex 4 (some 42) rfl rfl rfl (by kernel_rfl) (by kernel_rfl) (by kernel_rfl) (fun _ _ _ _ h => h) rfl ⟨_, (fun w' hS => by go_simp; rfl), by simp [*, World.cell?_alloc_some], ?_⟩
  intro a' ha; simp only [Act.put, List.setIfInBounds_toArray, List.set_cons_zero, List.set_cons_succ] at ha; subst ha
  refine canon_act 5 [2, 4] [] rfl (by kernel_rfl) (fun p w h => by simp at h; simp [h]) (by kernel_rfl) ?_
  intro K hK
  go_wp2_with fail
  refine (has_is ss on false k1 ep tb sv pv ps.length (Cf.parts ps) _ (by exact hs.alloc _) (by exact hp'.alloc _)).mono ?_
  rintro e w1 ⟨rfl, hb1⟩
  go_wp2
  refine hK _ _ (by simp) ?_
  clear hK
  refine canon_ex 6 (some 44) rfl rfl rfl (by kernel_rfl) (by kernel_rfl) (by kernel_rfl) (fun _ _ _ _ h => h) rfl ⟨_, (fun w' hS => by go_simp; rfl), by simp [*, World.cell?_alloc_some], ?_⟩
  intro a' ha; simp only [Act.put, List.setIfInBounds_toArray, List.set_cons_zero, List.set_cons_succ] at ha; subst ha
  refine canon_ex 7 (some 45) rfl rfl rfl (by kernel_rfl) (by kernel_rfl) (by kernel_rfl) (fun _ _ _ _ h => h) rfl ⟨_, (fun w' hS => by go_simp; rfl), by simp [*, World.cell?_alloc_some], ?_⟩
  intro a' ha; simp only [Act.put, List.setIfInBounds_toArray, List.set_cons_zero, List.set_cons_succ] at ha; subst ha
  refine canon_no 8 (some 46) rfl rfl rfl (by kernel_rfl) (by kernel_rfl) (by kernel_rfl) (fun _ _ _ _ h => h) (by kernel_rfl) (by simp [*]) ?_
  intro a' ha; simp only [Act.put, List.setIfInBounds_toArray, List.set_cons_zero, List.set_cons_succ] at ha; subst ha
  refine canon_no 9 (some 47) rfl rfl rfl (by kernel_rfl) (by kernel_rfl) (by kernel_rfl) (fun _ _ _ _ h => h) (by kernel_rfl) (by simp [*]) ?_
  intro a' ha; simp only [Act.put, List.setIfInBounds_toArray, List.set_cons_zero, List.set_cons_succ] at ha; subst ha
  refine canon_no 10 (some 48) rfl rfl rfl (by kernel_rfl) (by kernel_rfl) (by kernel_rfl) (fun _ _ _ _ h => h) (by kernel_rfl) (by simp [*]) ?_
  intro a' ha; simp only [Act.put, List.setIfInBounds_toArray, List.set_cons_zero, List.set_cons_succ] at ha; subst ha
  refine canon_no 11 (some 49) rfl rfl rfl (by kernel_rfl) (by kernel_rfl) (by kernel_rfl) (fun _ _ _ _ h => h) (by kernel_rfl) (by simp [*]) ?_
  intro a' ha; simp only [Act.put, List.setIfInBounds_toArray, List.set_cons_zero, List.set_cons_succ] at ha; subst ha
  refine canon_no 12 (some 50) rfl rfl rfl (by kernel_rfl) (by kernel_rfl) (by kernel_rfl) (fun _ _ _ _ h => h) (by kernel_rfl) (by simp [*]) ?_
  intro a' ha; simp only [Act.put, List.setIfInBounds_toArray, List.set_cons_zero, List.set_cons_succ] at ha; subst ha
  refine canon_no 13 (some 51) rfl rfl rfl (by kernel_rfl) (by kernel_rfl) (by kernel_rfl) (fun _ _ _ _ h => h) (by kernel_rfl) (by simp [*]) ?_
  intro a' ha; simp only [Act.put, List.setIfInBounds_toArray, List.set_cons_zero, List.set_cons_succ] at ha; subst ha
  refine canon_no 14 (some 52) rfl rfl rfl (by kernel_rfl) (by kernel_rfl) (by kernel_rfl) (fun _ _ _ _ h => h) (by kernel_rfl) (by simp [*]) ?_
  intro a' ha; simp only [Act.put, List.setIfInBounds_toArray, List.set_cons_zero, List.set_cons_succ] at ha; subst ha
  refine canon_ex 15 (some 53) rfl rfl rfl (by kernel_rfl) (by kernel_rfl) (by kernel_rfl) (fun _ _ _ _ h => h) rfl ⟨_, (fun w' hS => by go_simp; rfl), by simp [*, World.cell?_alloc_some], ?_⟩
  intro a' ha; simp only [Act.put, List.setIfInBounds_toArray, List.set_cons_zero, List.set_cons_succ] at ha; subst ha
  refine canon_ex 16 (some 37) rfl rfl rfl (by kernel_rfl) (by kernel_rfl) (by kernel_rfl) (fun _ _ _ _ h => h) rfl ⟨_, (fun w' hS => by go_simp; rfl), by simp [*, World.cell?_alloc_some], ?_⟩
  intro a' ha; simp only [Act.put, List.setIfInBounds_toArray, List.set_cons_zero, List.set_cons_succ] at ha; subst ha
  refine canon_done ?_ ?_
  · kernel_rfl
  go_wp2
  go_ret
  exact ⟨by rw [Hf.out]; rfl, (((Keep.refl _ _).alloc (fun k hk => by omega) _).drew.trans (Keep.of_below hb1 (fun k hk => by simp only [World.drew, World.size_alloc]; omega))), by rw [Hf.out]; simp⟩

set_option maxRecDepth 100000 in
set_option maxHeartbeats 800000 in
theorem place_e3 (w : World) (cb base : Nat) (c : Cf.Cfg) (o : Cf.Ord) (sv pv : Value) (h : CBox w cb base c sv pv) (hl : c.sv.length ≤ 1000) (hp : c.pt.length ≤ 1000) (c1 : ¬ (o.f < 0 ∨ o.f ≥ o.t ∨ o.t > 256)) (c2 : ¬ o.n = o.m) (k1 : Cf.hasB c.sv o.n = true) (k2 : Cf.hasB c.sv o.m = false) :
    Calls Tryd.prog 81 #[.pointer (some ⟨cb, 0, none⟩), ordV o] w (Did w cb base (Cf.place c o)) := by
  obtain ⟨ep, ss, ps, tb⟩ := c
  obtain ⟨ok, on, om, of, ot⟩ := o
  obtain ⟨hbox, hsv, hpv, hcb, hbase⟩ := h
  dsimp only at *
  unfold ordV
  dsimp only
  have hlt := lt_of_blk hbox
  have q0 : w.cell? ⟨cb, 0, none⟩ = some (.int .i64 ep) := by rw [cell_of_block hbox]; rfl
  have q1 : w.cell? ⟨cb, 1, none⟩ = some sv := by rw [cell_of_block hbox]; rfl
  have q2 : w.cell? ⟨cb, 2, none⟩ = some pv := by rw [cell_of_block hbox]; rfl
  have q3 : w.cell? ⟨cb, 3, none⟩ = some (.int .i64 tb) := by rw [cell_of_block hbox]; rfl
  have hs := own_sl hsv (by omega)
  have hp' := own_sl hpv (by omega)
  obtain ⟨r, hr⟩ : ∃ r, r = Cf.place ⟨ep, ss, ps, tb⟩ ⟨ok, on, om, of, ot⟩ := ⟨_, rfl⟩
  have Hr := Lib.hid hr
  rw [← hr]
  clear hr
  have d1 : ¬ of < 0 := by omega
  have d2 : ¬ of ≥ ot := by omega
  have d3 : ¬ ot > 256 := by omega
  have e2 : (on == om) = false := by simpa using c2
  have Hf := Lib.hid (Hr.out.trans (place_c _ _ c1 c2 (.inr k2)))
  clear c1 c2
  go_enter Tryd.func81, Tryd.ntmps81
  go_wp2_with fail
  go_region_held3 (fun w' => w'.cell? ⟨cb, 0, none⟩ = some (.int .i64 ep) ∧ w'.cell? ⟨cb, 1, none⟩ = some sv ∧ w'.cell? ⟨cb, 2, none⟩ = some pv ∧ w'.cell? ⟨cb, 3, none⟩ = some (.int .i64 tb) ∧ w'.cell? ⟨w.heap.size, 1, none⟩ = some (.int .i64 on) ∧ w'.cell? ⟨w.heap.size, 2, none⟩ = some (.int .i64 om)) (go_keep)
    (first
      | (go_at_call_of 31 (Value.int IntKind.i64 on); refine (has_is ss on true k1 ep tb sv pv ps.length (Cf.parts ps) _ (by exact hs.alloc _) (by exact hp'.alloc _)).mono ?_; rintro e w1 ⟨rfl, hb1⟩; have hz1 : w.heap.size < w1.heap.size := (by have := hb1.size; simp at this; omega); have hcc : ∀ o, w1.cell? ⟨cb, o, none⟩ = w.cell? ⟨cb, o, none⟩ := (fun o => by rw [(bcell hb1).1 _ _ (by simp; omega)]; go_simp); have hco : w1.cell? ⟨w.heap.size, 1, none⟩ = some (.int .i64 on) := (by rw [(bcell hb1).1 _ _ (by simp)]; go_simp); have hco2 : w1.cell? ⟨w.heap.size, 2, none⟩ = some (.int .i64 om) := (by rw [(bcell hb1).1 _ _ (by simp)]; go_simp); have HB1 : Below w.heap.size w w1 := ((Below.refl _ _).alloc (Nat.le_refl _) _).drew.trans (hb1.mono (by simp)); have HC1 := Lib.hid (bcell hb1).1)
      | (go_at_call_of 31 (Value.int IntKind.i64 om); refine (has_is ss om false k2 ep tb sv pv ps.length (Cf.parts ps) _ (by exact hs.below HB1) (by exact hp'.below HB1)).mono ?_; rintro e w2 ⟨rfl, hb2⟩; have hdd : ∀ o, w2.cell? ⟨cb, o, none⟩ = w.cell? ⟨cb, o, none⟩ := (fun o => by rw [(bcell hb2).1 _ _ (by omega), hcc]); have hdo : w2.cell? ⟨w.heap.size, 1, none⟩ = some (.int .i64 on) := (by rw [(bcell hb2).1 _ _ hz1, hco]); have hdo2 : w2.cell? ⟨w.heap.size, 2, none⟩ = some (.int .i64 om) := (by rw [(bcell hb2).1 _ _ hz1, hco2])))
  go_wp2
  go_ret
  exact ⟨by rw [Hf.out]; rfl, Keep.of_below (HB1.trans (hb2.mono HB1.size)) (fun k hk => by omega), by rw [Hf.out]; simp⟩
end Go.Proofs.YtkmaepefpcpckaaDoor
