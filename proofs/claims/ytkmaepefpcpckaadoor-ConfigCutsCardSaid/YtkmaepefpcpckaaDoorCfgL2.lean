/- Walk of layer 12's Apply, where it goes to its table. -/
import Derived.Test.YtkmaepefpcpckaaDoorCfgK
set_option linter.unusedVariables false
set_option linter.unusedSimpArgs false
namespace Go.Proofs.YtkmaepefpcpckaaDoor
open Go.RowKit

set_option maxRecDepth 100000 in
set_option maxHeartbeats 800000 in
theorem apply_leave (w : World) (v : Value) (c : Cf.Cfg) (o : Cf.Ord) (h : CIn w v c) (hck : Cf.check c = 0) (hep : ¬ c.ep = 1099511627776) (hok : o.k = 2) (hK : Kinds w) :
    Calls Tryd.prog 10 #[v, ordV o] w (Applied w (Cf.apply c o)) := by
  have hkk : Cf.withinB o.k 1 4 = true := by rw [hok]; rfl
  obtain ⟨r, hr⟩ : ∃ r, r = Cf.leave c o := ⟨_, rfl⟩
  have hrun : Cf.run c o = r := by rw [run_2 c o hok, hr]
  have Hbad := Lib.hid (fun h => apply_bad c o r hck hep hkk hrun h)
  have Hgood := Lib.hid (fun h => apply_good c o r hck hep hkk hrun h)
  have hrep : r.2.ep = c.ep := by rw [hr]; exact leave_ep c o
  have hlen := check_lens c hck
  have hlen2 : r.2.sv.length ≤ c.sv.length + 1 ∧ r.2.pt.length ≤ 3 * c.pt.length := by rw [hr]; exact leave_len c o
  obtain ⟨hz1, -, -, hz4, -⟩ := check_zero c hck
  have Hck3 := Lib.hid hz4
  have heps : 1 ≤ c.ep ∧ c.ep ≤ 1099511627776 := by simpa [Cf.withinB] using hz1
  have hk0 := hK.lt
  clear hrun hz1 hz4
  obtain ⟨ep, ss, ps, tb⟩ := c
  obtain ⟨ok, on, om, of, ot⟩ := o
  obtain ⟨sv, pv, rfl, hs, hp'⟩ := h
  unfold ordV
  dsimp only at hs hp' hep hkk hok hrep hlen hlen2 heps Hck3 hr
  have B3 := Lib.hid ((((Below.refl w.heap.size w).alloc (Nat.le_refl _) (.cells #[.int .i64 ep, sv, pv, .int .i64 tb] 31)).alloc (by simp) (.cells #[.int .i64 ok, .int .i64 on, .int .i64 om, .int .i64 of, .int .i64 ot] 26)).alloc (by simp; omega) (.cells #[.int .i64 0, .slice none 0 0, .slice none 0 0, .int .i64 0] 31))
  have H3 := Lib.hid (heap3 w (.cells #[.int .i64 ep, sv, pv, .int .i64 tb] 31) (.cells #[.int .i64 ok, .int .i64 on, .int .i64 om, .int .i64 of, .int .i64 ot] 26) (.cells #[.int .i64 0, .slice none 0 0, .slice none 0 0, .int .i64 0] 31) w.heap.size rfl)
  subst hok
  obtain ⟨q1, q2⟩ := r
  dsimp only at hrep
  have Hr := Lib.hid hr
  have d1 : (ep == 1099511627776) = false := by simpa using hep
  clear hep hr
  go_enter Tryd.func10, Tryd.ntmps10
  go_wp2_with fail
  refine (check_is ⟨ep, ss, ps, tb⟩ 0 hck sv pv _ (by exact hs.below B3.out) (by exact hp'.below B3.out)).mono ?_
  rintro e w1 ⟨rfl, hb1⟩
  have hz1 : w.heap.size + 2 < w1.heap.size := by have := hb1.size; simp at this; omega
  have C1 := Lib.hid ((hb1.block w.heap.size (by simp; omega)).trans H3.out.1)
  have O1 := Lib.hid ((hb1.block (w.heap.size + 1) (by simp)).trans H3.out.2.1)
  have R1' := Lib.hid ((hb1.block (w.heap.size + 2) (by simp)).trans H3.out.2.2.1)
  have HB1 := Lib.hid (B3.out.trans (hb1.mono (by simp; omega)))
  have x0 : w1.cell? ⟨w.heap.size, 0, none⟩ = some (.int .i64 ep) := by rw [cell_of_block C1.out]; rfl
  have x1 : w1.cell? ⟨w.heap.size, 1, none⟩ = some sv := by rw [cell_of_block C1.out]; rfl
  have x2 : w1.cell? ⟨w.heap.size, 2, none⟩ = some pv := by rw [cell_of_block C1.out]; rfl
  have x3 : w1.cell? ⟨w.heap.size, 3, none⟩ = some (.int .i64 tb) := by rw [cell_of_block C1.out]; rfl
  have o0 : w1.cell? ⟨w.heap.size + 1, 0, none⟩ = some (.int .i64 2) := by rw [cell_of_block O1.out]; rfl
  have r0 : w1.cell? ⟨w.heap.size + 2, 0, none⟩ = some (.int .i64 0) := by rw [cell_of_block R1'.out]; rfl
  have r1 : w1.cell? ⟨w.heap.size + 2, 1, none⟩ = some (.slice none 0 0) := by rw [cell_of_block R1'.out]; rfl
  have r2 : w1.cell? ⟨w.heap.size + 2, 2, none⟩ = some (.slice none 0 0) := by rw [cell_of_block R1'.out]; rfl
  have r3 : w1.cell? ⟨w.heap.size + 2, 3, none⟩ = some (.int .i64 0) := by rw [cell_of_block R1'.out]; rfl
  have fr : ∀ j, w1.frozen? ⟨w.heap.size + 2, j, none⟩ = false := fun j => free_of_block R1'.out
  clear hb1
  have Kd := Lib.hid (hK.below HB1.out hk0)
  have l1 := hs.below HB1.out
  have l2 := hp'.below HB1.out
  clear hK hs hp' hck r0 r1 r2 r3 fr
  go_wp2_with (go_at_call 26; refine (within_is _ _ _ _ hkk _).mono ?_; rintro e w' ⟨rfl, rfl⟩)
  refine wp_region_canon (fun p w' => (p = 1 → w'.cell? ⟨w.heap.size, 1, none⟩ = some sv) ∧ (p = 4 → w'.cell? ⟨w.heap.size, 2, none⟩ = some pv)) [2, 5, 7, 9] (by kernel_rfl) ?_
  refine canon_ex 0 (some 26) rfl rfl rfl (by kernel_rfl) (by kernel_rfl) (by kernel_rfl) (fun _ _ _ _ h => h) rfl ⟨_, (fun w' hS => by go_simp; rfl), by simp [*, World.cell?_alloc_some], ?_⟩
  intro a' ha; simp only [Act.put, List.setIfInBounds_toArray, List.set_cons_zero, List.set_cons_succ] at ha; subst ha
  refine canon_ex 1 (some 27) rfl rfl rfl (by kernel_rfl) (by kernel_rfl) (by kernel_rfl) (fun _ _ _ _ h => h) rfl ⟨_, (fun w' hS => by go_simp; rfl), by simp [*, World.cell?_alloc_some], ?_⟩
  intro a' ha; simp only [Act.put, List.setIfInBounds_toArray, List.set_cons_zero, List.set_cons_succ] at ha; subst ha
  refine canon_ex 3 (some 29) rfl rfl rfl (by kernel_rfl) (by kernel_rfl) (by kernel_rfl) (fun _ _ _ _ h => h) rfl ⟨_, (fun w' hS => by go_simp; rfl), by simp [*, World.cell?_alloc_some], ?_⟩
  intro a' ha; simp only [Act.put, List.setIfInBounds_toArray, List.set_cons_zero, List.set_cons_succ] at ha; subst ha
  refine canon_ex 4 (some 30) rfl rfl rfl (by kernel_rfl) (by kernel_rfl) (by kernel_rfl) (fun _ _ _ _ h => h) rfl ⟨_, (fun w' hS => by go_simp; rfl), by simp [*, World.cell?_alloc_some], ?_⟩
  intro a' ha; simp only [Act.put, List.setIfInBounds_toArray, List.set_cons_zero, List.set_cons_succ] at ha; subst ha
  refine canon_act 2 [1, 4] [4] rfl (by kernel_rfl) (fun p w h => by simp at h; simp [h]) (by kernel_rfl) ?_
  intro K hK
  go_wp2_with fail
  refine (clone_int ss sv _ (Sl.drew l1) (by omega)).mono ?_
  rintro e w2 ⟨sv2, rfl, hown2, hb2⟩
  have Hown2 := Lib.hid hown2
  have Hb2 := Lib.hid hb2
  have hz2 : w1.heap.size ≤ w2.heap.size := hb2.size
  have y2 : w2.cell? ⟨w.heap.size, 2, none⟩ = some pv := by rw [(bcell hb2).1 _ _ (by show w.heap.size < w1.heap.size; omega)]; exact x2
  have l3 := Sl.below (Sl.drew l2) hb2
  clear hown2 hb2 l1 l2 x0 x1 x2 x3
  go_wp2
  refine hK _ _ (by first | (simp [*, World.cell?_alloc_some]; done) | (simp; go_simp; done)) ?_
  clear hK
  refine canon_act 5 [1, 4] [] rfl (by kernel_rfl) (fun p w h => by simp at h; simp [h]) (by kernel_rfl) ?_
  intro K hK
  go_wp2_with fail
  refine (clone_part ps pv _ l3 (by omega)).mono ?_
  rintro e w3 ⟨pv2, rfl, hown3, hb3⟩
  have Hown3 := Lib.hid hown3
  have Hb3 := Lib.hid hb3
  have hz3 : w2.heap.size ≤ w3.heap.size := hb3.size
  have HB3 := Lib.hid ((HB1.out.drew.trans (Hb2.out.mono (show w.heap.size ≤ w1.heap.size by omega))).trans (hb3.mono (show w.heap.size ≤ w2.heap.size by omega)))
  have BB := Lib.hid (Below.trans (B := w1.heap.size) (Hb2.out.mono (show w1.heap.size ≤ w1.heap.size by omega)) (hb3.mono hz2))
  have HBQ := Lib.hid BB.out
  have C3 := Lib.hid ((BB.out.block _ (show w.heap.size < w1.heap.size by omega)).trans C1.out)
  have O3 := Lib.hid ((BB.out.block _ (show w.heap.size + 1 < w1.heap.size by omega)).trans O1.out)
  have R3 := Lib.hid ((BB.out.block _ (show w.heap.size + 2 < w1.heap.size by omega)).trans R1'.out)
  have z1 : w3.cell? ⟨w.heap.size, 1, none⟩ = some sv := by rw [cell_of_block C3.out]; rfl
  have z2 : w3.cell? ⟨w.heap.size, 2, none⟩ = some pv := by rw [cell_of_block C3.out]; rfl
  have fz : ∀ j, w3.frozen? ⟨w.heap.size, j, none⟩ = false := fun j => free_of_block C3.out
  have Sv3 := Lib.hid (own_base ((Keep.of_below (S := fun k => k < w2.heap.size) hb3 (fun k hk => hk)).owns Hown2.out (fun k hk => (Hown2.out.lt k hk).2)) (show w.heap.size + 3 ≤ w1.heap.size by omega))
  have Pv3 := Lib.hid (own_base Hown3.out (show w.heap.size + 3 ≤ w2.heap.size by omega))
  obtain ⟨A2, c2, hv2⟩ : ∃ A2 c2, sv2 = .slice A2 ss.length c2 := by
    rcases Hown2.out.2 with ⟨hv, h0⟩ | ⟨g, cap, cur, hv, -⟩
    · exact ⟨none, 0, by rw [h0]; exact hv⟩
    · exact ⟨_, cap, hv⟩
  obtain ⟨A3, c3, hv3⟩ : ∃ A3 c3, pv2 = .slice A3 ps.length c3 := by
    rcases Hown3.out.2 with ⟨hv, h0⟩ | ⟨g, cap, cur, hv, -⟩
    · exact ⟨none, 0, by rw [h0]; exact hv⟩
    · exact ⟨_, cap, hv⟩
  subst hv2
  subst hv3
  clear hown3 hb3 l3 y2 Hown2 Hown3 Hb2 Hb3 BB C1 O1 R1'
  go_wp2
  refine hK _ _ (by first | (simp [*, World.cell?_alloc_some]; done) | (simp; go_simp; done)) ?_
  clear hK
  refine canon_ex 6 (some 32) rfl rfl rfl (by kernel_rfl) (by kernel_rfl) (by kernel_rfl) (fun _ _ _ _ h => h) rfl ⟨_, (fun w' hS => by go_simp; rfl), by simp [*, World.cell?_alloc_some], ?_⟩
  intro a' ha; simp only [Act.put, List.setIfInBounds_toArray, List.set_cons_zero, List.set_cons_succ] at ha; subst ha
  refine canon_act 7 [1, 4] [] rfl (by kernel_rfl) (fun p w h => by simp at h; simp [h]) (by kernel_rfl) ?_
  intro K hK
  go_wp2
  refine hK _ _ (by first | (simp [*, World.cell?_alloc_some]; done) | (simp; go_simp; done)) ?_
  clear hK
  refine canon_ex 8 (some 33) rfl rfl rfl (by kernel_rfl) (by kernel_rfl) (by kernel_rfl) (fun _ _ _ _ h => h) rfl ⟨_, (fun w' hS => by go_simp; rfl), by simp [*, World.cell?_alloc_some], ?_⟩
  intro a' ha; simp only [Act.put, List.setIfInBounds_toArray, List.set_cons_zero, List.set_cons_succ] at ha; subst ha
  refine canon_act 9 [1, 4] [] rfl (by kernel_rfl) (fun p w h => by simp at h; simp [h]) (by kernel_rfl) ?_
  intro K hK
  go_wp2
  refine hK _ _ (by first | (simp [*, World.cell?_alloc_some]; done) | (simp; go_simp; done)) ?_
  clear hK
  refine canon_done ?_ ?_
  · kernel_rfl
  obtain ⟨w4, hw4⟩ : ∃ x, x = (w3.setCell ⟨w.heap.size, 1, none⟩ (.slice A2 ss.length c2)).setCell ⟨w.heap.size, 2, none⟩ (.slice A3 ps.length c3) := ⟨_, rfl⟩
  rw [← hw4]
  have C4 := Lib.hid (block_setCell (o := 2) (block_setCell (o := 1) C3.out (.slice A2 ss.length c2)) (.slice A3 ps.length c3))
  have K4 := (((Keep.refl (fun k => k ≠ w.heap.size) w3).setCell (p := ⟨w.heap.size, 1, none⟩) (fun h => h rfl) (.slice A2 ss.length c2)).setCell (p := ⟨w.heap.size, 2, none⟩) (fun h => h rfl) (.slice A3 ps.length c3))
  rw [← hw4] at C4 K4
  have HK4 := Lib.hid K4
  have O4 := Lib.hid ((K4.block _ (show w.heap.size + 1 ≠ w.heap.size by omega)).trans O3.out)
  have R4 := Lib.hid ((K4.block _ (show w.heap.size + 2 ≠ w.heap.size by omega)).trans R3.out)
  have Sv4 := Lib.hid (K4.owns Sv3.out (fun k hk => by have := (Sv3.out.lt k hk).1; omega))
  have Pv4 := Lib.hid (K4.owns Pv3.out (fun k hk => by have := (Pv3.out.lt k hk).1; omega))
  have hz4 : w3.heap.size ≤ w4.heap.size := K4.size
  have kc : w4.cell? ⟨0, 2, none⟩ = some (.func (.func 80) #[] #[]) := by
    rw [K4.cell 0 2 (show (0 : Nat) ≠ w.heap.size by omega)]
    exact ((show Kinds w1.drew from Kd.out).below HBQ.out (show 0 < w1.heap.size by omega)).2.1
  have HCB := Lib.hid (show CBox w4.drew w.heap.size (w.heap.size + 3) ⟨ep, ss, ps, tb⟩ (.slice A2 ss.length c2) (.slice A3 ps.length c3) from ⟨C4.out, Sv4.out, Pv4.out, by omega, by show _ ≤ w4.heap.size; omega⟩)
  have p0 : w4.cell? ⟨w.heap.size + 1, 0, none⟩ = some (.int .i64 2) := by rw [cell_of_block O4.out]; rfl
  have p1 : w4.cell? ⟨w.heap.size + 1, 1, none⟩ = some (.int .i64 on) := by rw [cell_of_block O4.out]; rfl
  have p2 : w4.cell? ⟨w.heap.size + 1, 2, none⟩ = some (.int .i64 om) := by rw [cell_of_block O4.out]; rfl
  have p3 : w4.cell? ⟨w.heap.size + 1, 3, none⟩ = some (.int .i64 of) := by rw [cell_of_block O4.out]; rfl
  have p4 : w4.cell? ⟨w.heap.size + 1, 4, none⟩ = some (.int .i64 ot) := by rw [cell_of_block O4.out]; rfl
  clear hw4 z1 z2 fz C3 O3 R3 Sv3 Pv3 K4 C4 Sv4 Pv4
  go_wp2
  refine wp_region_canon (fun p w' => (p = 1 → w'.cell? ⟨w.heap.size + 1, 0, none⟩ = some (.int .i64 2)) ∧ (p = 4 → w'.cell? ⟨0, 2, none⟩ = some (.func (.func 80) #[] #[])) ∧ (p = 5 → w'.cell? ⟨w.heap.size + 1, 0, none⟩ = some (.int .i64 2) ∧ w'.cell? ⟨w.heap.size + 1, 1, none⟩ = some (.int .i64 on) ∧ w'.cell? ⟨w.heap.size + 1, 2, none⟩ = some (.int .i64 om) ∧ w'.cell? ⟨w.heap.size + 1, 3, none⟩ = some (.int .i64 of) ∧ w'.cell? ⟨w.heap.size + 1, 4, none⟩ = some (.int .i64 ot))) [6] (by kernel_rfl) ?_
  refine canon_ex 0 (some 34) rfl rfl rfl (by kernel_rfl) (by kernel_rfl) (by kernel_rfl) (fun _ _ _ _ h => h) rfl ⟨_, (fun w' hS => by go_simp; rfl), by simp [*, World.cell?_alloc_some], ?_⟩
  intro a' ha; simp only [Act.put, List.setIfInBounds_toArray, List.set_cons_zero, List.set_cons_succ] at ha; subst ha
  refine canon_ex 1 (some 35) rfl rfl rfl (by kernel_rfl) (by kernel_rfl) (by kernel_rfl) (fun _ _ _ _ h => h) rfl ⟨_, (fun w' hS => by go_simp; rfl), by simp [*, World.cell?_alloc_some], ?_⟩
  intro a' ha; simp only [Act.put, List.setIfInBounds_toArray, List.set_cons_zero, List.set_cons_succ] at ha; subst ha
  refine canon_ex 2 (some 36) rfl rfl rfl (by kernel_rfl) (by kernel_rfl) (by kernel_rfl) (fun _ _ _ _ h => h) rfl ⟨_, (fun w' hS => by go_simp; rfl), by simp [*, World.cell?_alloc_some], ?_⟩
  intro a' ha; simp only [Act.put, List.setIfInBounds_toArray, List.set_cons_zero, List.set_cons_succ] at ha; subst ha
  refine canon_ex 3 (some 37) rfl rfl rfl (by kernel_rfl) (by kernel_rfl) (by kernel_rfl) (fun _ _ _ _ h => h) rfl ⟨_, (fun w' hS => by go_simp; rfl), by simp [*, World.cell?_alloc_some], ?_⟩
  intro a' ha; simp only [Act.put, List.setIfInBounds_toArray, List.set_cons_zero, List.set_cons_succ] at ha; subst ha
  refine canon_ex 4 (some 38) rfl rfl rfl (by kernel_rfl) (by kernel_rfl) (by kernel_rfl) (fun _ _ _ _ h => h) rfl ⟨_, (fun w' hS => by go_simp; rfl), by simp [*, World.cell?_alloc_some], ?_⟩
  intro a' ha; simp only [Act.put, List.setIfInBounds_toArray, List.set_cons_zero, List.set_cons_succ] at ha; subst ha
  refine canon_ex 5 (some 39) rfl rfl rfl (by kernel_rfl) (by kernel_rfl) (by kernel_rfl) (fun _ _ _ _ h => h) rfl ⟨_, (fun w' hS => by go_simp; rfl), by simp [*, World.cell?_alloc_some], ?_⟩
  intro a' ha; simp only [Act.put, List.setIfInBounds_toArray, List.set_cons_zero, List.set_cons_succ] at ha; subst ha
  refine canon_act 6 [1, 4, 5] [] rfl (by kernel_rfl) (fun p w h => by simp at h; simp [h]) (by kernel_rfl) ?_
  intro K hK
  go_wp2_with fail
  refine (leave_any w4.drew w.heap.size (w.heap.size + 3) ⟨ep, ss, ps, tb⟩ ⟨2, on, om, of, ot⟩ _ _ HCB.out (by show ss.length ≤ 1000; omega) (by show ps.length ≤ _; omega) Hck3.out).mono ?_
  rintro e w5 ⟨rfl, hK5, hbox5⟩
  rw [← Hr.out] at hbox5 ⊢
  dsimp only at hbox5 ⊢
  go_wp2
  refine hK _ _ (by first | (simp [*, World.cell?_alloc_some]; done) | (simp; go_simp; done)) ?_
  clear hK
  refine canon_ex 7 (some 7) rfl rfl rfl (by kernel_rfl) (by kernel_rfl) (by kernel_rfl) (fun _ _ _ _ h => h) rfl ⟨_, (fun w' hS => by go_simp; rfl), by simp [*, World.cell?_alloc_some], ?_⟩
  intro a' ha; simp only [Act.put, List.setIfInBounds_toArray, List.set_cons_zero, List.set_cons_succ] at ha; subst ha
  refine canon_done ?_ ?_
  · kernel_rfl
  have R5 := Lib.hid ((hK5.block _ ⟨by omega, by omega⟩).trans R4.out)
  have HB5 := Lib.hid (HB3.out.trans ((HK4.out.mono (S' := fun k => k < w.heap.size) (fun k hk => by omega)).drew.trans (hK5.mono (fun k hk => ⟨by omega, by omega⟩)) |>.below (fun k hk => hk)))
  have r0 : w5.cell? ⟨w.heap.size + 2, 0, none⟩ = some (.int .i64 0) := by rw [cell_of_block R5.out]; rfl
  have r1 : w5.cell? ⟨w.heap.size + 2, 1, none⟩ = some (.slice none 0 0) := by rw [cell_of_block R5.out]; rfl
  have r2 : w5.cell? ⟨w.heap.size + 2, 2, none⟩ = some (.slice none 0 0) := by rw [cell_of_block R5.out]; rfl
  have r3 : w5.cell? ⟨w.heap.size + 2, 3, none⟩ = some (.int .i64 0) := by rw [cell_of_block R5.out]; rfl
  have fr : ∀ j, w5.frozen? ⟨w.heap.size + 2, j, none⟩ = false := fun j => free_of_block R5.out
  by_cases hq : q1 = 0
  · have d2 : (q1 != 0) = false := by simpa using hq
    have Hf := Lib.hid (Hgood.out hq)
    obtain ⟨sv5, pv5, hb5, hs5, hp5, -, hz5⟩ := hbox5 hq
    clear hbox5 hq Hgood Hbad p0 p1 p2 p3 p4 kc
    obtain ⟨ep5, ss5, ps5, tb5⟩ := q2
    dsimp only at hrep hlen2 hb5 hs5 hp5 Hf
    subst hrep
    obtain ⟨A5, c5, hv5⟩ : ∃ A5 c5, sv5 = .slice A5 ss5.length c5 := by
      rcases hs5.2 with ⟨hv, h0⟩ | ⟨g, cap, cur, hv, -⟩
      · exact ⟨none, 0, by rw [h0]; exact hv⟩
      · exact ⟨_, cap, hv⟩
    obtain ⟨A6, c6, hv6⟩ : ∃ A6 c6, pv5 = .slice A6 ps5.length c6 := by
      rcases hp5.2 with ⟨hv, h0⟩ | ⟨g, cap, cur, hv, -⟩
      · exact ⟨none, 0, by rw [h0]; exact hv⟩
      · exact ⟨_, cap, hv⟩
    subst hv5
    subst hv6
    have y0 : w5.cell? ⟨w.heap.size, 0, none⟩ = some (.int .i64 ep5) := by rw [cell_of_block hb5]; rfl
    have y1 : w5.cell? ⟨w.heap.size, 1, none⟩ = some (.slice A5 ss5.length c5) := by rw [cell_of_block hb5]; rfl
    have y2 : w5.cell? ⟨w.heap.size, 2, none⟩ = some (.slice A6 ps5.length c6) := by rw [cell_of_block hb5]; rfl
    have y3 : w5.cell? ⟨w.heap.size, 3, none⟩ = some (.int .i64 tb5) := by rw [cell_of_block hb5]; rfl
    have fy : ∀ j, w5.frozen? ⟨w.heap.size, j, none⟩ = false := fun j => free_of_block hb5
    have Hs5 := Lib.hid hs5
    have Hp5 := Lib.hid hp5
    clear hs5 hp5 hb5 hK5
    have hlt5 : w.heap.size + 2 < w5.heap.size := lt_of_blk R5.out
    have R6 := Lib.hid ((((Keep.refl (fun k => k ≠ w.heap.size) w5).setCell (p := ⟨w.heap.size, 0, none⟩) (fun h => h rfl) (.int .i64 (ep5 + 1))).block _ (show w.heap.size + 2 ≠ w.heap.size by omega)).trans R5.out)
    have he1 : (1 : Int) ≤ ep5 := heps.1
    have he2 : ep5 ≤ 1099511627776 := heps.2
    go_wp2
    (try simp only [Exit.inBlock, Exit.then])
    refine bodyPost_ret (results_ct rfl _ _ (w.heap.size + 2) _ _ _ _ rfl (block_setCell (o := 3) (block_setCell (o := 2) (block_setCell (o := 1) (block_setCell (o := 0) R6.out _) _) _) _) Tryd.underlying31 rfl (by kernel_rfl)) rfl ?_
    rw [Hf.out]
    have K6 := fun a b c d e => (((((Keep.refl (fun k => w.heap.size + 3 ≤ k) w5).setCell (p := ⟨w.heap.size, 0, none⟩) (by show ¬ (w.heap.size + 3 ≤ w.heap.size); omega) a).setCell (p := ⟨w.heap.size + 2, 0, none⟩) (by show ¬ (w.heap.size + 3 ≤ w.heap.size + 2); omega) b).setCell (p := ⟨w.heap.size + 2, 1, none⟩) (by show ¬ (w.heap.size + 3 ≤ w.heap.size + 2); omega) c).setCell (p := ⟨w.heap.size + 2, 2, none⟩) (by show ¬ (w.heap.size + 3 ≤ w.heap.size + 2); omega) d).setCell (p := ⟨w.heap.size + 2, 3, none⟩) (by show ¬ (w.heap.size + 3 ≤ w.heap.size + 2); omega) e
    refine ⟨_, rfl, ⟨.slice A5 ss5.length c5, .slice A6 ps5.length c6, rfl, own_base ((K6 _ _ _ _ _).owns Hs5.out (fun k hk => (Hs5.out.lt k hk).1)) (Nat.le_add_right _ 3), own_base ((K6 _ _ _ _ _).owns Hp5.out (fun k hk => (Hp5.out.lt k hk).1)) (Nat.le_add_right _ 3), ?_, ?_⟩, ?_⟩
    · show ss5.length ≤ _; omega
    · show ps5.length ≤ _; omega
    · exact ((((HB5.out.setCell (p := ⟨w.heap.size, 0, none⟩) (Nat.le_refl _) _).setCell (p := ⟨w.heap.size + 2, 0, none⟩) (Nat.le_add_right _ 2) _).setCell (p := ⟨w.heap.size + 2, 1, none⟩) (Nat.le_add_right _ 2) _).setCell (p := ⟨w.heap.size + 2, 2, none⟩) (Nat.le_add_right _ 2) _).setCell (p := ⟨w.heap.size + 2, 3, none⟩) (Nat.le_add_right _ 2) _
  · have d2 : (q1 != 0) = true := by simpa using hq
    have Hf := Lib.hid (Hbad.out hq)
    clear hbox5 hq Hgood Hbad p0 p1 p2 p3 p4 kc hK5
    go_wp2
    (try simp only [Exit.inBlock, Exit.then])
    refine bodyPost_ret (results_ct rfl _ _ (w.heap.size + 2) _ _ _ _ rfl (block_setCell (o := 3) (block_setCell (o := 2) (block_setCell (o := 1) (block_setCell (o := 0) R5.out _) _) _) _) Tryd.underlying31 rfl (by kernel_rfl)) rfl ?_
    rw [Hf.out]
    refine ⟨_, rfl, COwn.zero _ _, ?_⟩
    exact (((HB5.out.setCell (p := ⟨w.heap.size + 2, 0, none⟩) (Nat.le_add_right _ 2) _).setCell (p := ⟨w.heap.size + 2, 1, none⟩) (Nat.le_add_right _ 2) _).setCell (p := ⟨w.heap.size + 2, 2, none⟩) (Nat.le_add_right _ 2) _).setCell (p := ⟨w.heap.size + 2, 3, none⟩) (Nat.le_add_right _ 2) _
end Go.Proofs.YtkmaepefpcpckaaDoor
