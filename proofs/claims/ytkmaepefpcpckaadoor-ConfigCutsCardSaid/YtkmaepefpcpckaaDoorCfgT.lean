/- Walk of the law ConfigTables. -/
import Derived.Test.YtkmaepefpcpckaaDoorCfgX
set_option linter.unusedVariables false
set_option linter.unusedSimpArgs false
namespace Go.Proofs.YtkmaepefpcpckaaDoor
open Go.RowKit

def Cf.tabF (tb b : Int) : Int := if tb < 1 ∨ b < 1 then 0 else b % tb

set_option maxRecDepth 100000 in
theorem table_any (w : World) (v : Value) (c : Cf.Cfg) (b : Int) (h : CIn w v c) (r : Int) (hr : Cf.tabF c.tb b = r) (h8 : c.tb ≤ 8) :
    Calls Tryd.prog 16 #[v, .int .i64 b] w fun e w' => e = .returned (.int .i64 r) ∧ Below w.heap.size w w' := by
  obtain ⟨ep, ss, ps, tb⟩ := c
  obtain ⟨sv, pv, rfl, hs, hp'⟩ := h
  dsimp only at *
  clear hs hp'
  have HR := Lib.hid hr
  clear hr
  by_cases h1 : tb < 1
  · have Hf := Lib.hid (show r = 0 by rw [← HR.out]; unfold Cf.tabF; rw [if_pos (.inl h1)])
    go_enter Tryd.func16, Tryd.ntmps16
    go_wp2
    go_ret
    exact ⟨by rw [Hf.out]; rfl, (Below.refl _ _).alloc (Nat.le_refl _) _⟩
  · by_cases h2 : b < 1
    · have Hf := Lib.hid (show r = 0 by rw [← HR.out]; unfold Cf.tabF; rw [if_pos (.inr h2)])
      go_enter Tryd.func16, Tryd.ntmps16
      go_wp2
      go_ret
      exact ⟨by rw [Hf.out]; rfl, (Below.refl _ _).alloc (Nat.le_refl _) _⟩
    · have Hf := Lib.hid (show r = b % tb by rw [← HR.out]; unfold Cf.tabF; rw [if_neg (by omega)])
      have h0 : (tb == 0) = false := by simp; omega
      go_enter Tryd.func16, Tryd.ntmps16
      go_wp2
      go_ret
      exact ⟨by rw [Hf.out]; rfl, (Below.refl _ _).alloc (Nat.le_refl _) _⟩

theorem tabF_mod (n b : Int) (hn : 1 ≤ n) (hb : 0 ≤ b) : Cf.tabF n b = b % n ∧ 0 ≤ b % n ∧ b % n < n := by
  refine ⟨?_, Int.emod_nonneg _ (by omega), Int.emod_lt_of_pos _ (by omega)⟩
  unfold Cf.tabF
  by_cases e : n < 1 ∨ b < 1
  · have : b = 0 := by omega
    subst this
    rw [if_pos e]; simp
  · rw [if_neg e]
/-- what an order of the fourth kind does -/
theorem tables_apply (c : Cf.Cfg) (n : Int) (h : Cf.check c = 0) (hep : c.ep ≤ 61) : Cf.apply c ⟨4, n, 0, 0, 0⟩ = if 1 ≤ n ∧ n ≤ 8 then ({ c with tb := n, ep := c.ep + 1 }, 0) else (Cf.zero, 1) := by
  have hk : Cf.withinB 4 1 4 = true := rfl
  have hr : Cf.run c ⟨4, n, 0, 0, 0⟩ = Cf.tables c ⟨4, n, 0, 0, 0⟩ := run_4 c ⟨4, n, 0, 0, 0⟩ rfl
  by_cases e : 1 ≤ n ∧ n ≤ 8
  · have ht : Cf.tables c ⟨4, n, 0, 0, 0⟩ = (0, { c with tb := n }) := by unfold Cf.tables; rw [if_neg (by simp [Cf.withinB]; omega)]
    rw [if_pos e, apply_good c ⟨4, n, 0, 0, 0⟩ (0, { c with tb := n }) h (by omega) hk (hr.trans ht) rfl]
  · have ht : Cf.tables c ⟨4, n, 0, 0, 0⟩ = (1, c) := by unfold Cf.tables; rw [if_pos (by simp [Cf.withinB]; omega)]
    rw [if_neg e, apply_bad c ⟨4, n, 0, 0, 0⟩ (1, c) h (by omega) hk (hr.trans ht) (by show (1 : Int) ≠ 0; decide)]

set_option maxRecDepth 100000 in
set_option maxHeartbeats 1600000 in
theorem tables_law (w : World) (v : Value) (os : List Cf.Ord) (n b y : Int) (hb : 0 ≤ b ∧ b < 256) (hy : 0 ≤ y ∧ y < 256) (h : Sl w v os.length 5 (ordsC os)) (hK : Kinds w) :
    Calls Tryd.prog 6 #[v, .int .i64 n, .int .u8 b, .int .u8 y] w fun e w' => e = .returned (.bool true) ∧ Below w.heap.size w w' := by
  have hk0 := hK.lt
  go_enter Tryd.func6, Tryd.ntmps6
  go_wp2_with fail
  refine (shown_any _).mono ?_
  rintro e w1 ⟨rfl, hb1⟩
  have B1 := Lib.hid hb1
  have hz1 := hb1.size
  clear hb1
  go_wp2_with fail
  refine (after_is w1 v os (h.below B1.out) (hK.below B1.out hk0)).mono ?_
  rintro e w2 ⟨c, v', rfl, hown, hgood, hb2⟩
  have hck := hgood.1
  have hep := hgood.2
  have hz2 := hb2.size
  have B2 := Lib.hid (B1.out.trans (hb2.mono (by omega)))
  obtain ⟨A1, c1, A2, c2, hv⟩ := hown.form
  subst hv
  obtain ⟨ep, ss, ps, tb⟩ := c
  dsimp only at hown hep ⊢
  have K2 := Lib.hid (hK.below B2.out hk0)
  obtain ⟨cb, hcb⟩ : ∃ cb, cb = w2.heap.size := ⟨_, rfl⟩
  obtain ⟨w3, hw3⟩ : ∃ w3, w3 = w2.alloc (.cells #[.int .i64 ep, .slice A1 ss.length c1, .slice A2 ps.length c2, .int .i64 tb] 31) := ⟨_, rfl⟩
  have C3 := Lib.hid (show w3.heap[cb]? = some (.cells #[.int .i64 ep, .slice A1 ss.length c1, .slice A2 ps.length c2, .int .i64 tb] 31 (0, 0)) by rw [hw3, hcb]; exact heap_alloc_new w2 _)
  have hb3 : Below w2.heap.size w2 w3 := by rw [hw3]; exact (Below.refl _ _).alloc (Nat.le_refl _) _
  have B3 := Lib.hid (B2.out.trans (hb3.mono (by omega)))
  have I3 := Lib.hid (hown.inn.below hb3)
  have Kd3 := Lib.hid (K2.out.below hb3 (by omega))
  have hcb3 : cb < w3.heap.size := lt_of_blk C3.out
  have q0 : w3.cell? ⟨cb, 0, none⟩ = some (.int .i64 ep) := by rw [cell_of_block C3.out]; rfl
  have q1 : w3.cell? ⟨cb, 1, none⟩ = some (.slice A1 ss.length c1) := by rw [cell_of_block C3.out]; rfl
  have q2 : w3.cell? ⟨cb, 2, none⟩ = some (.slice A2 ps.length c2) := by rw [cell_of_block C3.out]; rfl
  have q3 : w3.cell? ⟨cb, 3, none⟩ = some (.int .i64 tb) := by rw [cell_of_block C3.out]; rfl
  clear hown hb2 hb3 B1 K2 hgood
  have HTA := Lib.hid (tables_apply ⟨ep, ss, ps, tb⟩ n hck hep)
  go_upto_region 4 with fail
  rw [← hw3, ← hcb]
  clear hw3 hcb
  have hz3 : w.heap.size ≤ w3.heap.size := B3.out.size
  go_wp2_with fail
  refine (apply_any w3 _ ⟨ep, ss, ps, tb⟩ ⟨4, n, 0, 0, 0⟩ I3.out Kd3.out).mono ?_
  rintro e w4 ⟨v4, rfl, hown4, hb4⟩
  rw [HTA.out] at hown4 ⊢
  by_cases hn : 1 ≤ n ∧ n ≤ 8
  · rw [if_pos hn] at hown4 ⊢
    dsimp only at hown4 ⊢
    obtain ⟨D1, d1, D2, d2, hv4⟩ := hown4.form
    dsimp only at hv4
    subst hv4
    have hz4 := hb4.size
    have C4 := Lib.hid ((hb4.block cb hcb3).trans C3.out)
    have B4 := Lib.hid (B3.out.trans (hb4.mono (by omega)))
    have I4 := Lib.hid (I3.out.below hb4)
    obtain ⟨db, hdb⟩ : ∃ db, db = w4.heap.size := ⟨_, rfl⟩
    obtain ⟨w5, hw5⟩ : ∃ w5, w5 = w4.alloc (.cells #[.int .i64 (ep + 1), .slice D1 ss.length d1, .slice D2 ps.length d2, .int .i64 n] 31) := ⟨_, rfl⟩
    have D5 := Lib.hid (show w5.heap[db]? = some (.cells #[.int .i64 (ep + 1), .slice D1 ss.length d1, .slice D2 ps.length d2, .int .i64 n] 31 (0, 0)) by rw [hw5, hdb]; exact heap_alloc_new w4 _)
    have hb5 : Below w4.heap.size w4 w5 := by rw [hw5]; exact (Below.refl _ _).alloc (Nat.le_refl _) _
    have hz5 := hb5.size
    have C5 := Lib.hid ((hb5.block cb (by omega)).trans C4.out)
    have B5 := Lib.hid (B4.out.trans (hb5.mono (by omega)))
    have I5 := Lib.hid (I4.out.below hb5)
    have J5 := Lib.hid (hown4.inn.below hb5)
    have hdb5 : db < w5.heap.size := lt_of_blk D5.out
    have hcb5 : cb < w5.heap.size := lt_of_blk C5.out
    clear hown4 hb4 hb5 q0 q1 q2 q3 C3 I3 Kd3 B3 C4 B4 I4 B2
    go_upto_region 9 with fail
    rw [← hw5, ← hdb]
    clear hw5 hdb
    -- the good road
    have hckd : Cf.check ⟨ep + 1, ss, ps, n⟩ = 0 := by
      have := (apply_valid ⟨ep, ss, ps, tb⟩ ⟨4, n, 0, 0, 0⟩ hck (by rw [HTA.out, if_pos hn])).1
      rw [HTA.out, if_pos hn] at this
      exact this
    obtain ⟨⟨oa, ob⟩, hoc⟩ := cs_own (ck_parts ⟨ep, ss, ps, tb⟩ hck).2.2.2.2.2.1 b hb.1 hb.2
    have hoc' : Cf.own ps b = some (oa, ob) := hoc
    obtain ⟨t1, t2, t3⟩ := tabF_mod n b hn.1 hb.1
    obtain ⟨u1, u2, u3⟩ := tabF_mod n y hn.1 hy.1
    have hn1 := hn.1
    have hn2 := hn.2
    have hb0 := hb.1
    have hb1' := hb.2
    have hy0 := hy.1
    have hy1' := hy.2
    have hn0 : (n == 0) = false := by simp; omega
    have hnn : (n == n) = true := by simp
    have haa : (oa == oa) = true := by simp
    have hbb : (ob == ob) = true := by simp
    have hg1 : Cf.withinB n 1 8 = true := by simp [Cf.withinB]; omega
    have hw0 : w.heap.size ≤ w5.heap.size := by omega
    clear hn HTA hoc
    have cq5_0 : w5.cell? ⟨cb, 0, none⟩ = some (.int .i64 ep) := by rw [cell_of_block C5.out]; rfl
    have cq5_1 : w5.cell? ⟨cb, 1, none⟩ = some (.slice A1 ss.length c1) := by rw [cell_of_block C5.out]; rfl
    have cq5_2 : w5.cell? ⟨cb, 2, none⟩ = some (.slice A2 ps.length c2) := by rw [cell_of_block C5.out]; rfl
    have cq5_3 : w5.cell? ⟨cb, 3, none⟩ = some (.int .i64 tb) := by rw [cell_of_block C5.out]; rfl
    have dq5_0 : w5.cell? ⟨db, 0, none⟩ = some (.int .i64 (ep + 1)) := by rw [cell_of_block D5.out]; rfl
    have dq5_1 : w5.cell? ⟨db, 1, none⟩ = some (.slice D1 ss.length d1) := by rw [cell_of_block D5.out]; rfl
    have dq5_2 : w5.cell? ⟨db, 2, none⟩ = some (.slice D2 ps.length d2) := by rw [cell_of_block D5.out]; rfl
    have dq5_3 : w5.cell? ⟨db, 3, none⟩ = some (.int .i64 n) := by rw [cell_of_block D5.out]; rfl
    go_wp2_with fail
    refine (table_any w5 _ ⟨ep + 1, ss, ps, n⟩ b J5.out (b % n) t1 hn2).mono ?_
    rintro e w6 ⟨rfl, hb6⟩
    have hz6 := hb6.size
    have C6 := Lib.hid ((hb6.block cb (by omega)).trans C5.out)
    have D6 := Lib.hid ((hb6.block db (by omega)).trans D5.out)
    have B6 := Lib.hid (B5.out.trans (hb6.mono (by omega)))
    have I6 := Lib.hid (I5.out.below hb6)
    have J6 := Lib.hid (J5.out.below hb6)
    have cq6_0 : w6.cell? ⟨cb, 0, none⟩ = some (.int .i64 ep) := by rw [cell_of_block C6.out]; rfl
    have cq6_1 : w6.cell? ⟨cb, 1, none⟩ = some (.slice A1 ss.length c1) := by rw [cell_of_block C6.out]; rfl
    have cq6_2 : w6.cell? ⟨cb, 2, none⟩ = some (.slice A2 ps.length c2) := by rw [cell_of_block C6.out]; rfl
    have cq6_3 : w6.cell? ⟨cb, 3, none⟩ = some (.int .i64 tb) := by rw [cell_of_block C6.out]; rfl
    have dq6_0 : w6.cell? ⟨db, 0, none⟩ = some (.int .i64 (ep + 1)) := by rw [cell_of_block D6.out]; rfl
    have dq6_1 : w6.cell? ⟨db, 1, none⟩ = some (.slice D1 ss.length d1) := by rw [cell_of_block D6.out]; rfl
    have dq6_2 : w6.cell? ⟨db, 2, none⟩ = some (.slice D2 ps.length d2) := by rw [cell_of_block D6.out]; rfl
    have dq6_3 : w6.cell? ⟨db, 3, none⟩ = some (.int .i64 n) := by rw [cell_of_block D6.out]; rfl
    clear hb6
    clear cq5_0 cq5_1 cq5_2 cq5_3 dq5_0 dq5_1 dq5_2 dq5_3 C5 D5 B5 I5 J5
    go_wp2_with fail
    refine (table_any w6 _ ⟨ep + 1, ss, ps, n⟩ y J6.out (y % n) u1 hn2).mono ?_
    rintro e w7 ⟨rfl, hb7⟩
    have hz7 := hb7.size
    have C7 := Lib.hid ((hb7.block cb (by omega)).trans C6.out)
    have D7 := Lib.hid ((hb7.block db (by omega)).trans D6.out)
    have B7 := Lib.hid (B6.out.trans (hb7.mono (by omega)))
    have I7 := Lib.hid (I6.out.below hb7)
    have J7 := Lib.hid (J6.out.below hb7)
    have cq7_0 : w7.cell? ⟨cb, 0, none⟩ = some (.int .i64 ep) := by rw [cell_of_block C7.out]; rfl
    have cq7_1 : w7.cell? ⟨cb, 1, none⟩ = some (.slice A1 ss.length c1) := by rw [cell_of_block C7.out]; rfl
    have cq7_2 : w7.cell? ⟨cb, 2, none⟩ = some (.slice A2 ps.length c2) := by rw [cell_of_block C7.out]; rfl
    have cq7_3 : w7.cell? ⟨cb, 3, none⟩ = some (.int .i64 tb) := by rw [cell_of_block C7.out]; rfl
    have dq7_0 : w7.cell? ⟨db, 0, none⟩ = some (.int .i64 (ep + 1)) := by rw [cell_of_block D7.out]; rfl
    have dq7_1 : w7.cell? ⟨db, 1, none⟩ = some (.slice D1 ss.length d1) := by rw [cell_of_block D7.out]; rfl
    have dq7_2 : w7.cell? ⟨db, 2, none⟩ = some (.slice D2 ps.length d2) := by rw [cell_of_block D7.out]; rfl
    have dq7_3 : w7.cell? ⟨db, 3, none⟩ = some (.int .i64 n) := by rw [cell_of_block D7.out]; rfl
    clear hb7
    clear cq6_0 cq6_1 cq6_2 cq6_3 dq6_0 dq6_1 dq6_2 dq6_3 C6 D6 B6 I6 J6
    go_wp2_with fail
    refine (where_is w7 _ ⟨ep, ss, ps, tb⟩ b I7.out hck (some (oa, ob)) hoc' (oa, ob, 0) rfl).mono ?_
    rintro e w8 ⟨rfl, hb8⟩
    have hz8 := hb8.size
    have C8 := Lib.hid ((hb8.block cb (by omega)).trans C7.out)
    have D8 := Lib.hid ((hb8.block db (by omega)).trans D7.out)
    have B8 := Lib.hid (B7.out.trans (hb8.mono (by omega)))
    have I8 := Lib.hid (I7.out.below hb8)
    have J8 := Lib.hid (J7.out.below hb8)
    have cq8_0 : w8.cell? ⟨cb, 0, none⟩ = some (.int .i64 ep) := by rw [cell_of_block C8.out]; rfl
    have cq8_1 : w8.cell? ⟨cb, 1, none⟩ = some (.slice A1 ss.length c1) := by rw [cell_of_block C8.out]; rfl
    have cq8_2 : w8.cell? ⟨cb, 2, none⟩ = some (.slice A2 ps.length c2) := by rw [cell_of_block C8.out]; rfl
    have cq8_3 : w8.cell? ⟨cb, 3, none⟩ = some (.int .i64 tb) := by rw [cell_of_block C8.out]; rfl
    have dq8_0 : w8.cell? ⟨db, 0, none⟩ = some (.int .i64 (ep + 1)) := by rw [cell_of_block D8.out]; rfl
    have dq8_1 : w8.cell? ⟨db, 1, none⟩ = some (.slice D1 ss.length d1) := by rw [cell_of_block D8.out]; rfl
    have dq8_2 : w8.cell? ⟨db, 2, none⟩ = some (.slice D2 ps.length d2) := by rw [cell_of_block D8.out]; rfl
    have dq8_3 : w8.cell? ⟨db, 3, none⟩ = some (.int .i64 n) := by rw [cell_of_block D8.out]; rfl
    clear hb8
    clear cq7_0 cq7_1 cq7_2 cq7_3 dq7_0 dq7_1 dq7_2 dq7_3 C7 D7 B7 I7 J7
    go_wp2_with fail
    refine (where_is w8 _ ⟨ep + 1, ss, ps, n⟩ b J8.out hckd (some (oa, ob)) hoc' (oa, ob, 0) rfl).mono ?_
    rintro e w9 ⟨rfl, hb9⟩
    have hz9 := hb9.size
    have C9 := Lib.hid ((hb9.block cb (by omega)).trans C8.out)
    have D9 := Lib.hid ((hb9.block db (by omega)).trans D8.out)
    have B9 := Lib.hid (B8.out.trans (hb9.mono (by omega)))
    have I9 := Lib.hid (I8.out.below hb9)
    have J9 := Lib.hid (J8.out.below hb9)
    have cq9_0 : w9.cell? ⟨cb, 0, none⟩ = some (.int .i64 ep) := by rw [cell_of_block C9.out]; rfl
    have cq9_1 : w9.cell? ⟨cb, 1, none⟩ = some (.slice A1 ss.length c1) := by rw [cell_of_block C9.out]; rfl
    have cq9_2 : w9.cell? ⟨cb, 2, none⟩ = some (.slice A2 ps.length c2) := by rw [cell_of_block C9.out]; rfl
    have cq9_3 : w9.cell? ⟨cb, 3, none⟩ = some (.int .i64 tb) := by rw [cell_of_block C9.out]; rfl
    have dq9_0 : w9.cell? ⟨db, 0, none⟩ = some (.int .i64 (ep + 1)) := by rw [cell_of_block D9.out]; rfl
    have dq9_1 : w9.cell? ⟨db, 1, none⟩ = some (.slice D1 ss.length d1) := by rw [cell_of_block D9.out]; rfl
    have dq9_2 : w9.cell? ⟨db, 2, none⟩ = some (.slice D2 ps.length d2) := by rw [cell_of_block D9.out]; rfl
    have dq9_3 : w9.cell? ⟨db, 3, none⟩ = some (.int .i64 n) := by rw [cell_of_block D9.out]; rfl
    clear hb9
    clear cq8_0 cq8_1 cq8_2 cq8_3 dq8_0 dq8_1 dq8_2 dq8_3 C8 D8 B8 I8 J8
    have hww : w.heap.size ≤ w9.heap.size := by omega
    have hd9 : db < w9.heap.size := lt_of_blk D9.out
    go_wp2
    have hnz : ¬ n = 0 := by omega
    have htn : Cf.tabF n (-4) = 0 := by unfold Cf.tabF; rw [if_pos (.inr (by decide))]
    have hwb : IntKind.i64.wrap b = b := IntWalk.i64_in _ ⟨by omega, by omega⟩
    have hwy : IntKind.i64.wrap y = y := IntWalk.i64_in _ ⟨by omega, by omega⟩
    have htb : b.tmod n = b % n := Int.tmod_eq_emod_of_nonneg hb0
    have hty : y.tmod n = y % n := Int.tmod_eq_emod_of_nonneg hy0
    by_cases hxy : b % n = y % n
    · have hp1 : (b % n == y % n) = true := by simpa using hxy
      clear hxy
      refine wp_region_canon (fun p w' => (p = 1 → w'.cell? ⟨db, 3, none⟩ = some (.int .i64 n)) ∧ (p = 47 → w'.cell? ⟨db, 0, none⟩ = some (.int .i64 (ep + 1)) ∧ w'.cell? ⟨db, 1, none⟩ = some (.slice D1 ss.length d1) ∧ w'.cell? ⟨db, 2, none⟩ = some (.slice D2 ps.length d2) ∧ w'.cell? ⟨db, 3, none⟩ = some (.int .i64 n))) [48] (by kernel_rfl) ?_
      refine canon_ex 0 (some 68) rfl rfl rfl (by kernel_rfl) (by kernel_rfl) (by kernel_rfl) (fun _ _ _ _ h => h) rfl ⟨_, (fun w' hS => by go_simp; rfl), by simp [*, World.cell?_alloc_some], ?_⟩
      intro a' ha; simp only [Act.put, List.setIfInBounds_toArray, List.set_cons_zero, List.set_cons_succ] at ha; subst ha
      refine canon_ex 1 (some 69) rfl rfl rfl (by kernel_rfl) (by kernel_rfl) (by kernel_rfl) (fun _ _ _ _ h => h) rfl ⟨_, (fun w' hS => by go_simp; rfl), by simp [*, World.cell?_alloc_some], ?_⟩
      intro a' ha; simp only [Act.put, List.setIfInBounds_toArray, List.set_cons_zero, List.set_cons_succ] at ha; subst ha
      refine canon_ex 2 (some 70) rfl rfl rfl (by kernel_rfl) (by kernel_rfl) (by kernel_rfl) (fun _ _ _ _ h => h) rfl ⟨_, (fun w' hS => by go_simp; rfl), by simp [*, World.cell?_alloc_some], ?_⟩
      intro a' ha; simp only [Act.put, List.setIfInBounds_toArray, List.set_cons_zero, List.set_cons_succ] at ha; subst ha
      refine canon_ex 3 (some 71) rfl rfl rfl (by kernel_rfl) (by kernel_rfl) (by kernel_rfl) (fun _ _ _ _ h => h) rfl ⟨_, (fun w' hS => by go_simp; rfl), by simp [*, World.cell?_alloc_some], ?_⟩
      intro a' ha; simp only [Act.put, List.setIfInBounds_toArray, List.set_cons_zero, List.set_cons_succ] at ha; subst ha
      refine canon_ex 4 (some 72) rfl rfl rfl (by kernel_rfl) (by kernel_rfl) (by kernel_rfl) (fun _ _ _ _ h => h) rfl ⟨_, (fun w' hS => by go_simp; rfl), by simp [*, World.cell?_alloc_some], ?_⟩
      intro a' ha; simp only [Act.put, List.setIfInBounds_toArray, List.set_cons_zero, List.set_cons_succ] at ha; subst ha
      refine canon_gd 5 (some 73) rfl rfl rfl (by kernel_rfl) (by kernel_rfl) (by kernel_rfl) (fun _ _ _ _ h => h) (by kernel_rfl) ⟨_, (fun w' hS => by go_simp; rfl), by simp [*, World.cell?_alloc_some], ?_⟩
      intro a' ha; simp only [Act.put, List.setIfInBounds_toArray, List.set_cons_zero, List.set_cons_succ] at ha; subst ha
      refine canon_gd 6 (some 74) rfl rfl rfl (by kernel_rfl) (by kernel_rfl) (by kernel_rfl) (fun _ _ _ _ h => h) (by kernel_rfl) ⟨_, (fun w' hS => by go_simp; rfl), by simp [*, World.cell?_alloc_some], ?_⟩
      intro a' ha; simp only [Act.put, List.setIfInBounds_toArray, List.set_cons_zero, List.set_cons_succ] at ha; subst ha
      refine canon_ex 7 (some 75) rfl rfl rfl (by kernel_rfl) (by kernel_rfl) (by kernel_rfl) (fun _ _ _ _ h => h) rfl ⟨_, (fun w' hS => by go_simp; rfl), by simp [*, World.cell?_alloc_some], ?_⟩
      intro a' ha; simp only [Act.put, List.setIfInBounds_toArray, List.set_cons_zero, List.set_cons_succ] at ha; subst ha
      refine canon_ex 8 (some 76) rfl rfl rfl (by kernel_rfl) (by kernel_rfl) (by kernel_rfl) (fun _ _ _ _ h => h) rfl ⟨_, (fun w' hS => by go_simp; rfl), by simp [*, World.cell?_alloc_some], ?_⟩
      intro a' ha; simp only [Act.put, List.setIfInBounds_toArray, List.set_cons_zero, List.set_cons_succ] at ha; subst ha
      refine canon_gd 9 (some 77) rfl rfl rfl (by kernel_rfl) (by kernel_rfl) (by kernel_rfl) (fun _ _ _ _ h => h) (by kernel_rfl) ⟨_, (fun w' hS => by go_simp; rfl), by simp [*, World.cell?_alloc_some], ?_⟩
      intro a' ha; simp only [Act.put, List.setIfInBounds_toArray, List.set_cons_zero, List.set_cons_succ] at ha; subst ha
      refine canon_gd 10 (some 78) rfl rfl rfl (by kernel_rfl) (by kernel_rfl) (by kernel_rfl) (fun _ _ _ _ h => h) (by kernel_rfl) ⟨_, (fun w' hS => by go_simp; rfl), by simp [*, World.cell?_alloc_some], ?_⟩
      intro a' ha; simp only [Act.put, List.setIfInBounds_toArray, List.set_cons_zero, List.set_cons_succ] at ha; subst ha
      refine canon_gd 11 (some 79) rfl rfl rfl (by kernel_rfl) (by kernel_rfl) (by kernel_rfl) (fun _ _ _ _ h => h) (by kernel_rfl) ⟨_, (fun w' hS => by go_simp; rfl), by simp [*, World.cell?_alloc_some], ?_⟩
      intro a' ha; simp only [Act.put, List.setIfInBounds_toArray, List.set_cons_zero, List.set_cons_succ] at ha; subst ha
      refine canon_ex 12 (some 80) rfl rfl rfl (by kernel_rfl) (by kernel_rfl) (by kernel_rfl) (fun _ _ _ _ h => h) rfl ⟨_, (fun w' hS => by go_simp; rfl), by simp [*, World.cell?_alloc_some], ?_⟩
      intro a' ha; simp only [Act.put, List.setIfInBounds_toArray, List.set_cons_zero, List.set_cons_succ] at ha; subst ha
      refine canon_ex 13 (some 81) rfl rfl rfl (by kernel_rfl) (by kernel_rfl) (by kernel_rfl) (fun _ _ _ _ h => h) rfl ⟨_, (fun w' hS => by go_simp; rfl), by simp [*, World.cell?_alloc_some], ?_⟩
      intro a' ha; simp only [Act.put, List.setIfInBounds_toArray, List.set_cons_zero, List.set_cons_succ] at ha; subst ha
      refine canon_gd 14 (some 82) rfl rfl rfl (by kernel_rfl) (by kernel_rfl) (by kernel_rfl) (fun _ _ _ _ h => h) (by kernel_rfl) ⟨_, (fun w' hS => by go_simp; rfl), by simp [*, World.cell?_alloc_some], ?_⟩
      intro a' ha; simp only [Act.put, List.setIfInBounds_toArray, List.set_cons_zero, List.set_cons_succ] at ha; subst ha
      refine canon_gd 15 (some 83) rfl rfl rfl (by kernel_rfl) (by kernel_rfl) (by kernel_rfl) (fun _ _ _ _ h => h) (by kernel_rfl) ⟨_, (fun w' hS => by go_simp; rfl), by simp [*, World.cell?_alloc_some], ?_⟩
      intro a' ha; simp only [Act.put, List.setIfInBounds_toArray, List.set_cons_zero, List.set_cons_succ] at ha; subst ha
      refine canon_gd 16 (some 84) rfl rfl rfl (by kernel_rfl) (by kernel_rfl) (by kernel_rfl) (fun _ _ _ _ h => h) (by kernel_rfl) ⟨_, (fun w' hS => by go_simp; rfl), by simp [*, World.cell?_alloc_some], ?_⟩
      intro a' ha; simp only [Act.put, List.setIfInBounds_toArray, List.set_cons_zero, List.set_cons_succ] at ha; subst ha
      refine canon_gd 17 (some 85) rfl rfl rfl (by kernel_rfl) (by kernel_rfl) (by kernel_rfl) (fun _ _ _ _ h => h) (by kernel_rfl) ⟨_, (fun w' hS => by go_simp; rfl), by simp [*, World.cell?_alloc_some], ?_⟩
      intro a' ha; simp only [Act.put, List.setIfInBounds_toArray, List.set_cons_zero, List.set_cons_succ] at ha; subst ha
      refine canon_gd 18 (some 86) rfl rfl rfl (by kernel_rfl) (by kernel_rfl) (by kernel_rfl) (fun _ _ _ _ h => h) (by kernel_rfl) ⟨_, (fun w' hS => by go_simp; rfl), by simp [*, World.cell?_alloc_some], ?_⟩
      intro a' ha; simp only [Act.put, List.setIfInBounds_toArray, List.set_cons_zero, List.set_cons_succ] at ha; subst ha
      refine canon_gd 19 (some 87) rfl rfl rfl (by kernel_rfl) (by kernel_rfl) (by kernel_rfl) (fun _ _ _ _ h => h) (by kernel_rfl) ⟨_, (fun w' hS => by go_simp; rfl), by simp [*, World.cell?_alloc_some], ?_⟩
      intro a' ha; simp only [Act.put, List.setIfInBounds_toArray, List.set_cons_zero, List.set_cons_succ] at ha; subst ha
      refine canon_gd 20 (some 88) rfl rfl rfl (by kernel_rfl) (by kernel_rfl) (by kernel_rfl) (fun _ _ _ _ h => h) (by kernel_rfl) ⟨.int .i64 (b % n), (fun w' hS => by first | (go_simp; done) | (go_simp; rw [if_neg hnz, hwb, htb])), by simp [*, World.cell?_alloc_some], ?_⟩
      intro a' ha; simp only [Act.put, List.setIfInBounds_toArray, List.set_cons_zero, List.set_cons_succ] at ha; subst ha
      refine canon_gd 21 (some 89) rfl rfl rfl (by kernel_rfl) (by kernel_rfl) (by kernel_rfl) (fun _ _ _ _ h => h) (by kernel_rfl) ⟨_, (fun w' hS => by go_simp; rfl), by simp [*, World.cell?_alloc_some], ?_⟩
      intro a' ha; simp only [Act.put, List.setIfInBounds_toArray, List.set_cons_zero, List.set_cons_succ] at ha; subst ha
      refine canon_gd 22 (some 90) rfl rfl rfl (by kernel_rfl) (by kernel_rfl) (by kernel_rfl) (fun _ _ _ _ h => h) (by kernel_rfl) ⟨_, (fun w' hS => by go_simp; rfl), by simp [*, World.cell?_alloc_some], ?_⟩
      intro a' ha; simp only [Act.put, List.setIfInBounds_toArray, List.set_cons_zero, List.set_cons_succ] at ha; subst ha
      refine canon_gd 23 (some 91) rfl rfl rfl (by kernel_rfl) (by kernel_rfl) (by kernel_rfl) (fun _ _ _ _ h => h) (by kernel_rfl) ⟨_, (fun w' hS => by go_simp; rfl), by simp [*, World.cell?_alloc_some], ?_⟩
      intro a' ha; simp only [Act.put, List.setIfInBounds_toArray, List.set_cons_zero, List.set_cons_succ] at ha; subst ha
      refine canon_gd 24 (some 92) rfl rfl rfl (by kernel_rfl) (by kernel_rfl) (by kernel_rfl) (fun _ _ _ _ h => h) (by kernel_rfl) ⟨.int .i64 (y % n), (fun w' hS => by first | (go_simp; done) | (go_simp; rw [if_neg hnz, hwy, hty])), by simp [*, World.cell?_alloc_some], ?_⟩
      intro a' ha; simp only [Act.put, List.setIfInBounds_toArray, List.set_cons_zero, List.set_cons_succ] at ha; subst ha
      refine canon_gd 25 (some 93) rfl rfl rfl (by kernel_rfl) (by kernel_rfl) (by kernel_rfl) (fun _ _ _ _ h => h) (by kernel_rfl) ⟨_, (fun w' hS => by go_simp; rfl), by simp [*, World.cell?_alloc_some], ?_⟩
      intro a' ha; simp only [Act.put, List.setIfInBounds_toArray, List.set_cons_zero, List.set_cons_succ] at ha; subst ha
      refine canon_gd 26 (some 94) rfl rfl rfl (by kernel_rfl) (by kernel_rfl) (by kernel_rfl) (fun _ _ _ _ h => h) (by kernel_rfl) ⟨_, (fun w' hS => by go_simp; rfl), by simp [*, World.cell?_alloc_some], ?_⟩
      intro a' ha; simp only [Act.put, List.setIfInBounds_toArray, List.set_cons_zero, List.set_cons_succ] at ha; subst ha
      refine canon_ex 27 (some 95) rfl rfl rfl (by kernel_rfl) (by kernel_rfl) (by kernel_rfl) (fun _ _ _ _ h => h) rfl ⟨_, (fun w' hS => by go_simp; rfl), by simp [*, World.cell?_alloc_some], ?_⟩
      intro a' ha; simp only [Act.put, List.setIfInBounds_toArray, List.set_cons_zero, List.set_cons_succ] at ha; subst ha
      refine canon_ex 28 (some 96) rfl rfl rfl (by kernel_rfl) (by kernel_rfl) (by kernel_rfl) (fun _ _ _ _ h => h) rfl ⟨_, (fun w' hS => by go_simp; rfl), by simp [*, World.cell?_alloc_some], ?_⟩
      intro a' ha; simp only [Act.put, List.setIfInBounds_toArray, List.set_cons_zero, List.set_cons_succ] at ha; subst ha
      refine canon_gd 29 (some 97) rfl rfl rfl (by kernel_rfl) (by kernel_rfl) (by kernel_rfl) (fun _ _ _ _ h => h) (by kernel_rfl) ⟨_, (fun w' hS => by go_simp; rfl), by simp [*, World.cell?_alloc_some], ?_⟩
      intro a' ha; simp only [Act.put, List.setIfInBounds_toArray, List.set_cons_zero, List.set_cons_succ] at ha; subst ha
      refine canon_gd 30 (some 98) rfl rfl rfl (by kernel_rfl) (by kernel_rfl) (by kernel_rfl) (fun _ _ _ _ h => h) (by kernel_rfl) ⟨_, (fun w' hS => by go_simp; rfl), by simp [*, World.cell?_alloc_some], ?_⟩
      intro a' ha; simp only [Act.put, List.setIfInBounds_toArray, List.set_cons_zero, List.set_cons_succ] at ha; subst ha
      refine canon_gd 31 (some 99) rfl rfl rfl (by kernel_rfl) (by kernel_rfl) (by kernel_rfl) (fun _ _ _ _ h => h) (by kernel_rfl) ⟨_, (fun w' hS => by go_simp; rfl), by simp [*, World.cell?_alloc_some], ?_⟩
      intro a' ha; simp only [Act.put, List.setIfInBounds_toArray, List.set_cons_zero, List.set_cons_succ] at ha; subst ha
      refine canon_ex 32 (some 100) rfl rfl rfl (by kernel_rfl) (by kernel_rfl) (by kernel_rfl) (fun _ _ _ _ h => h) rfl ⟨_, (fun w' hS => by go_simp; rfl), by simp [*, World.cell?_alloc_some], ?_⟩
      intro a' ha; simp only [Act.put, List.setIfInBounds_toArray, List.set_cons_zero, List.set_cons_succ] at ha; subst ha
      refine canon_ex 33 (some 101) rfl rfl rfl (by kernel_rfl) (by kernel_rfl) (by kernel_rfl) (fun _ _ _ _ h => h) rfl ⟨_, (fun w' hS => by go_simp; rfl), by simp [*, World.cell?_alloc_some], ?_⟩
      intro a' ha; simp only [Act.put, List.setIfInBounds_toArray, List.set_cons_zero, List.set_cons_succ] at ha; subst ha
      refine canon_gd 34 (some 102) rfl rfl rfl (by kernel_rfl) (by kernel_rfl) (by kernel_rfl) (fun _ _ _ _ h => h) (by kernel_rfl) ⟨_, (fun w' hS => by go_simp; rfl), by simp [*, World.cell?_alloc_some], ?_⟩
      intro a' ha; simp only [Act.put, List.setIfInBounds_toArray, List.set_cons_zero, List.set_cons_succ] at ha; subst ha
      refine canon_gd 35 (some 103) rfl rfl rfl (by kernel_rfl) (by kernel_rfl) (by kernel_rfl) (fun _ _ _ _ h => h) (by kernel_rfl) ⟨_, (fun w' hS => by go_simp; rfl), by simp [*, World.cell?_alloc_some], ?_⟩
      intro a' ha; simp only [Act.put, List.setIfInBounds_toArray, List.set_cons_zero, List.set_cons_succ] at ha; subst ha
      refine canon_gd 36 (some 104) rfl rfl rfl (by kernel_rfl) (by kernel_rfl) (by kernel_rfl) (fun _ _ _ _ h => h) (by kernel_rfl) ⟨_, (fun w' hS => by go_simp; rfl), by simp [*, World.cell?_alloc_some], ?_⟩
      intro a' ha; simp only [Act.put, List.setIfInBounds_toArray, List.set_cons_zero, List.set_cons_succ] at ha; subst ha
      refine canon_ex 37 (some 105) rfl rfl rfl (by kernel_rfl) (by kernel_rfl) (by kernel_rfl) (fun _ _ _ _ h => h) rfl ⟨_, (fun w' hS => by go_simp; rfl), by simp [*, World.cell?_alloc_some], ?_⟩
      intro a' ha; simp only [Act.put, List.setIfInBounds_toArray, List.set_cons_zero, List.set_cons_succ] at ha; subst ha
      refine canon_ex 38 (some 106) rfl rfl rfl (by kernel_rfl) (by kernel_rfl) (by kernel_rfl) (fun _ _ _ _ h => h) rfl ⟨_, (fun w' hS => by go_simp; rfl), by simp [*, World.cell?_alloc_some], ?_⟩
      intro a' ha; simp only [Act.put, List.setIfInBounds_toArray, List.set_cons_zero, List.set_cons_succ] at ha; subst ha
      refine canon_gd 39 (some 107) rfl rfl rfl (by kernel_rfl) (by kernel_rfl) (by kernel_rfl) (fun _ _ _ _ h => h) (by kernel_rfl) ⟨_, (fun w' hS => by go_simp; rfl), by simp [*, World.cell?_alloc_some], ?_⟩
      intro a' ha; simp only [Act.put, List.setIfInBounds_toArray, List.set_cons_zero, List.set_cons_succ] at ha; subst ha
      refine canon_gd 40 (some 108) rfl rfl rfl (by kernel_rfl) (by kernel_rfl) (by kernel_rfl) (fun _ _ _ _ h => h) (by kernel_rfl) ⟨_, (fun w' hS => by go_simp; rfl), by simp [*, World.cell?_alloc_some], ?_⟩
      intro a' ha; simp only [Act.put, List.setIfInBounds_toArray, List.set_cons_zero, List.set_cons_succ] at ha; subst ha
      refine canon_ex 41 (some 109) rfl rfl rfl (by kernel_rfl) (by kernel_rfl) (by kernel_rfl) (fun _ _ _ _ h => h) rfl ⟨_, (fun w' hS => by go_simp; rfl), by simp [*, World.cell?_alloc_some], ?_⟩
      intro a' ha; simp only [Act.put, List.setIfInBounds_toArray, List.set_cons_zero, List.set_cons_succ] at ha; subst ha
      refine canon_ex 42 (some 110) rfl rfl rfl (by kernel_rfl) (by kernel_rfl) (by kernel_rfl) (fun _ _ _ _ h => h) rfl ⟨_, (fun w' hS => by go_simp; rfl), by simp [*, World.cell?_alloc_some], ?_⟩
      intro a' ha; simp only [Act.put, List.setIfInBounds_toArray, List.set_cons_zero, List.set_cons_succ] at ha; subst ha
      refine canon_gd 43 (some 111) rfl rfl rfl (by kernel_rfl) (by kernel_rfl) (by kernel_rfl) (fun _ _ _ _ h => h) (by kernel_rfl) ⟨_, (fun w' hS => by go_simp; rfl), by simp [*, World.cell?_alloc_some], ?_⟩
      intro a' ha; simp only [Act.put, List.setIfInBounds_toArray, List.set_cons_zero, List.set_cons_succ] at ha; subst ha
      refine canon_gd 44 (some 112) rfl rfl rfl (by kernel_rfl) (by kernel_rfl) (by kernel_rfl) (fun _ _ _ _ h => h) (by kernel_rfl) ⟨_, (fun w' hS => by go_simp; rfl), by simp [*, World.cell?_alloc_some], ?_⟩
      intro a' ha; simp only [Act.put, List.setIfInBounds_toArray, List.set_cons_zero, List.set_cons_succ] at ha; subst ha
      refine canon_ex 45 (some 113) rfl rfl rfl (by kernel_rfl) (by kernel_rfl) (by kernel_rfl) (fun _ _ _ _ h => h) rfl ⟨_, (fun w' hS => by go_simp; rfl), by simp [*, World.cell?_alloc_some], ?_⟩
      intro a' ha; simp only [Act.put, List.setIfInBounds_toArray, List.set_cons_zero, List.set_cons_succ] at ha; subst ha
      refine canon_ex 46 (some 114) rfl rfl rfl (by kernel_rfl) (by kernel_rfl) (by kernel_rfl) (fun _ _ _ _ h => h) rfl ⟨_, (fun w' hS => by go_simp; rfl), by simp [*, World.cell?_alloc_some], ?_⟩
      intro a' ha; simp only [Act.put, List.setIfInBounds_toArray, List.set_cons_zero, List.set_cons_succ] at ha; subst ha
      refine canon_gd 47 (some 115) rfl rfl rfl (by kernel_rfl) (by kernel_rfl) (by kernel_rfl) (fun _ _ _ _ h => h) (by kernel_rfl) ⟨_, (fun w' hS => by go_simp; rfl), by simp [*, World.cell?_alloc_some], ?_⟩
      intro a' ha; simp only [Act.put, List.setIfInBounds_toArray, List.set_cons_zero, List.set_cons_succ] at ha; subst ha
      refine canon_act 48 [1, 47] [1] rfl (by kernel_rfl) (fun p w h => by simp at h; simp [h]) (by kernel_rfl) ?_
      intro K hK
      go_wp2_with (go_at_call 16; refine (table_any _ _ ⟨ep + 1, ss, ps, n⟩ (-4) (by exact J9.out) 0 htn hn2).mono ?_; rintro e w10 ⟨rfl, hb10⟩; have hcc3 : w10.cell? ⟨db, 3, none⟩ = some (.int .i64 n) := (by rw [(bcell hb10).1 _ _ hd9]; exact dq9_3))
      refine hK _ _ (by first | (simp [*, World.cell?_alloc_some]; done) | (simp; go_simp; done)) ?_
      clear hK
      refine canon_gd 49 (some 117) rfl rfl rfl (by kernel_rfl) (by kernel_rfl) (by kernel_rfl) (fun _ _ _ _ h => h) (by kernel_rfl) ⟨_, (fun w' hS => by go_simp; rfl), by simp [*, World.cell?_alloc_some], ?_⟩
      intro a' ha; simp only [Act.put, List.setIfInBounds_toArray, List.set_cons_zero, List.set_cons_succ] at ha; subst ha
      refine canon_ex 50 (some 118) rfl rfl rfl (by kernel_rfl) (by kernel_rfl) (by kernel_rfl) (fun _ _ _ _ h => h) rfl ⟨_, (fun w' hS => by go_simp; rfl), by simp [*, World.cell?_alloc_some], ?_⟩
      intro a' ha; simp only [Act.put, List.setIfInBounds_toArray, List.set_cons_zero, List.set_cons_succ] at ha; subst ha
      refine canon_ex 51 (some 8) rfl rfl rfl (by kernel_rfl) (by kernel_rfl) (by kernel_rfl) (fun _ _ _ _ h => h) rfl ⟨_, (fun w' hS => by go_simp; rfl), by simp [*, World.cell?_alloc_some], ?_⟩
      intro a' ha; simp only [Act.put, List.setIfInBounds_toArray, List.set_cons_zero, List.set_cons_succ] at ha; subst ha
      refine canon_done ?_ ?_
      · kernel_rfl
      go_wp2
      go_ret
      exact ⟨rfl, B9.out.drew.trans (hb10.mono hww)⟩
    · have hp1 : (b % n == y % n) = false := by simpa using hxy
      clear hxy
      refine wp_region_canon (fun p w' => (p = 1 → w'.cell? ⟨db, 3, none⟩ = some (.int .i64 n)) ∧ (p = 47 → w'.cell? ⟨db, 0, none⟩ = some (.int .i64 (ep + 1)) ∧ w'.cell? ⟨db, 1, none⟩ = some (.slice D1 ss.length d1) ∧ w'.cell? ⟨db, 2, none⟩ = some (.slice D2 ps.length d2) ∧ w'.cell? ⟨db, 3, none⟩ = some (.int .i64 n))) [48] (by kernel_rfl) ?_
      refine canon_ex 0 (some 68) rfl rfl rfl (by kernel_rfl) (by kernel_rfl) (by kernel_rfl) (fun _ _ _ _ h => h) rfl ⟨_, (fun w' hS => by go_simp; rfl), by simp [*, World.cell?_alloc_some], ?_⟩
      intro a' ha; simp only [Act.put, List.setIfInBounds_toArray, List.set_cons_zero, List.set_cons_succ] at ha; subst ha
      refine canon_ex 1 (some 69) rfl rfl rfl (by kernel_rfl) (by kernel_rfl) (by kernel_rfl) (fun _ _ _ _ h => h) rfl ⟨_, (fun w' hS => by go_simp; rfl), by simp [*, World.cell?_alloc_some], ?_⟩
      intro a' ha; simp only [Act.put, List.setIfInBounds_toArray, List.set_cons_zero, List.set_cons_succ] at ha; subst ha
      refine canon_ex 2 (some 70) rfl rfl rfl (by kernel_rfl) (by kernel_rfl) (by kernel_rfl) (fun _ _ _ _ h => h) rfl ⟨_, (fun w' hS => by go_simp; rfl), by simp [*, World.cell?_alloc_some], ?_⟩
      intro a' ha; simp only [Act.put, List.setIfInBounds_toArray, List.set_cons_zero, List.set_cons_succ] at ha; subst ha
      refine canon_ex 3 (some 71) rfl rfl rfl (by kernel_rfl) (by kernel_rfl) (by kernel_rfl) (fun _ _ _ _ h => h) rfl ⟨_, (fun w' hS => by go_simp; rfl), by simp [*, World.cell?_alloc_some], ?_⟩
      intro a' ha; simp only [Act.put, List.setIfInBounds_toArray, List.set_cons_zero, List.set_cons_succ] at ha; subst ha
      refine canon_ex 4 (some 72) rfl rfl rfl (by kernel_rfl) (by kernel_rfl) (by kernel_rfl) (fun _ _ _ _ h => h) rfl ⟨_, (fun w' hS => by go_simp; rfl), by simp [*, World.cell?_alloc_some], ?_⟩
      intro a' ha; simp only [Act.put, List.setIfInBounds_toArray, List.set_cons_zero, List.set_cons_succ] at ha; subst ha
      refine canon_gd 5 (some 73) rfl rfl rfl (by kernel_rfl) (by kernel_rfl) (by kernel_rfl) (fun _ _ _ _ h => h) (by kernel_rfl) ⟨_, (fun w' hS => by go_simp; rfl), by simp [*, World.cell?_alloc_some], ?_⟩
      intro a' ha; simp only [Act.put, List.setIfInBounds_toArray, List.set_cons_zero, List.set_cons_succ] at ha; subst ha
      refine canon_gd 6 (some 74) rfl rfl rfl (by kernel_rfl) (by kernel_rfl) (by kernel_rfl) (fun _ _ _ _ h => h) (by kernel_rfl) ⟨_, (fun w' hS => by go_simp; rfl), by simp [*, World.cell?_alloc_some], ?_⟩
      intro a' ha; simp only [Act.put, List.setIfInBounds_toArray, List.set_cons_zero, List.set_cons_succ] at ha; subst ha
      refine canon_ex 7 (some 75) rfl rfl rfl (by kernel_rfl) (by kernel_rfl) (by kernel_rfl) (fun _ _ _ _ h => h) rfl ⟨_, (fun w' hS => by go_simp; rfl), by simp [*, World.cell?_alloc_some], ?_⟩
      intro a' ha; simp only [Act.put, List.setIfInBounds_toArray, List.set_cons_zero, List.set_cons_succ] at ha; subst ha
      refine canon_ex 8 (some 76) rfl rfl rfl (by kernel_rfl) (by kernel_rfl) (by kernel_rfl) (fun _ _ _ _ h => h) rfl ⟨_, (fun w' hS => by go_simp; rfl), by simp [*, World.cell?_alloc_some], ?_⟩
      intro a' ha; simp only [Act.put, List.setIfInBounds_toArray, List.set_cons_zero, List.set_cons_succ] at ha; subst ha
      refine canon_gd 9 (some 77) rfl rfl rfl (by kernel_rfl) (by kernel_rfl) (by kernel_rfl) (fun _ _ _ _ h => h) (by kernel_rfl) ⟨_, (fun w' hS => by go_simp; rfl), by simp [*, World.cell?_alloc_some], ?_⟩
      intro a' ha; simp only [Act.put, List.setIfInBounds_toArray, List.set_cons_zero, List.set_cons_succ] at ha; subst ha
      refine canon_gd 10 (some 78) rfl rfl rfl (by kernel_rfl) (by kernel_rfl) (by kernel_rfl) (fun _ _ _ _ h => h) (by kernel_rfl) ⟨_, (fun w' hS => by go_simp; rfl), by simp [*, World.cell?_alloc_some], ?_⟩
      intro a' ha; simp only [Act.put, List.setIfInBounds_toArray, List.set_cons_zero, List.set_cons_succ] at ha; subst ha
      refine canon_gd 11 (some 79) rfl rfl rfl (by kernel_rfl) (by kernel_rfl) (by kernel_rfl) (fun _ _ _ _ h => h) (by kernel_rfl) ⟨_, (fun w' hS => by go_simp; rfl), by simp [*, World.cell?_alloc_some], ?_⟩
      intro a' ha; simp only [Act.put, List.setIfInBounds_toArray, List.set_cons_zero, List.set_cons_succ] at ha; subst ha
      refine canon_ex 12 (some 80) rfl rfl rfl (by kernel_rfl) (by kernel_rfl) (by kernel_rfl) (fun _ _ _ _ h => h) rfl ⟨_, (fun w' hS => by go_simp; rfl), by simp [*, World.cell?_alloc_some], ?_⟩
      intro a' ha; simp only [Act.put, List.setIfInBounds_toArray, List.set_cons_zero, List.set_cons_succ] at ha; subst ha
      refine canon_ex 13 (some 81) rfl rfl rfl (by kernel_rfl) (by kernel_rfl) (by kernel_rfl) (fun _ _ _ _ h => h) rfl ⟨_, (fun w' hS => by go_simp; rfl), by simp [*, World.cell?_alloc_some], ?_⟩
      intro a' ha; simp only [Act.put, List.setIfInBounds_toArray, List.set_cons_zero, List.set_cons_succ] at ha; subst ha
      refine canon_gd 14 (some 82) rfl rfl rfl (by kernel_rfl) (by kernel_rfl) (by kernel_rfl) (fun _ _ _ _ h => h) (by kernel_rfl) ⟨_, (fun w' hS => by go_simp; rfl), by simp [*, World.cell?_alloc_some], ?_⟩
      intro a' ha; simp only [Act.put, List.setIfInBounds_toArray, List.set_cons_zero, List.set_cons_succ] at ha; subst ha
      refine canon_gd 15 (some 83) rfl rfl rfl (by kernel_rfl) (by kernel_rfl) (by kernel_rfl) (fun _ _ _ _ h => h) (by kernel_rfl) ⟨_, (fun w' hS => by go_simp; rfl), by simp [*, World.cell?_alloc_some], ?_⟩
      intro a' ha; simp only [Act.put, List.setIfInBounds_toArray, List.set_cons_zero, List.set_cons_succ] at ha; subst ha
      refine canon_gd 16 (some 84) rfl rfl rfl (by kernel_rfl) (by kernel_rfl) (by kernel_rfl) (fun _ _ _ _ h => h) (by kernel_rfl) ⟨_, (fun w' hS => by go_simp; rfl), by simp [*, World.cell?_alloc_some], ?_⟩
      intro a' ha; simp only [Act.put, List.setIfInBounds_toArray, List.set_cons_zero, List.set_cons_succ] at ha; subst ha
      refine canon_gd 17 (some 85) rfl rfl rfl (by kernel_rfl) (by kernel_rfl) (by kernel_rfl) (fun _ _ _ _ h => h) (by kernel_rfl) ⟨_, (fun w' hS => by go_simp; rfl), by simp [*, World.cell?_alloc_some], ?_⟩
      intro a' ha; simp only [Act.put, List.setIfInBounds_toArray, List.set_cons_zero, List.set_cons_succ] at ha; subst ha
      refine canon_gd 18 (some 86) rfl rfl rfl (by kernel_rfl) (by kernel_rfl) (by kernel_rfl) (fun _ _ _ _ h => h) (by kernel_rfl) ⟨_, (fun w' hS => by go_simp; rfl), by simp [*, World.cell?_alloc_some], ?_⟩
      intro a' ha; simp only [Act.put, List.setIfInBounds_toArray, List.set_cons_zero, List.set_cons_succ] at ha; subst ha
      refine canon_gd 19 (some 87) rfl rfl rfl (by kernel_rfl) (by kernel_rfl) (by kernel_rfl) (fun _ _ _ _ h => h) (by kernel_rfl) ⟨_, (fun w' hS => by go_simp; rfl), by simp [*, World.cell?_alloc_some], ?_⟩
      intro a' ha; simp only [Act.put, List.setIfInBounds_toArray, List.set_cons_zero, List.set_cons_succ] at ha; subst ha
      refine canon_gd 20 (some 88) rfl rfl rfl (by kernel_rfl) (by kernel_rfl) (by kernel_rfl) (fun _ _ _ _ h => h) (by kernel_rfl) ⟨.int .i64 (b % n), (fun w' hS => by first | (go_simp; done) | (go_simp; rw [if_neg hnz, hwb, htb])), by simp [*, World.cell?_alloc_some], ?_⟩
      intro a' ha; simp only [Act.put, List.setIfInBounds_toArray, List.set_cons_zero, List.set_cons_succ] at ha; subst ha
      refine canon_gd 21 (some 89) rfl rfl rfl (by kernel_rfl) (by kernel_rfl) (by kernel_rfl) (fun _ _ _ _ h => h) (by kernel_rfl) ⟨_, (fun w' hS => by go_simp; rfl), by simp [*, World.cell?_alloc_some], ?_⟩
      intro a' ha; simp only [Act.put, List.setIfInBounds_toArray, List.set_cons_zero, List.set_cons_succ] at ha; subst ha
      refine canon_gd 22 (some 90) rfl rfl rfl (by kernel_rfl) (by kernel_rfl) (by kernel_rfl) (fun _ _ _ _ h => h) (by kernel_rfl) ⟨_, (fun w' hS => by go_simp; rfl), by simp [*, World.cell?_alloc_some], ?_⟩
      intro a' ha; simp only [Act.put, List.setIfInBounds_toArray, List.set_cons_zero, List.set_cons_succ] at ha; subst ha
      refine canon_gd 23 (some 91) rfl rfl rfl (by kernel_rfl) (by kernel_rfl) (by kernel_rfl) (fun _ _ _ _ h => h) (by kernel_rfl) ⟨_, (fun w' hS => by go_simp; rfl), by simp [*, World.cell?_alloc_some], ?_⟩
      intro a' ha; simp only [Act.put, List.setIfInBounds_toArray, List.set_cons_zero, List.set_cons_succ] at ha; subst ha
      refine canon_gd 24 (some 92) rfl rfl rfl (by kernel_rfl) (by kernel_rfl) (by kernel_rfl) (fun _ _ _ _ h => h) (by kernel_rfl) ⟨.int .i64 (y % n), (fun w' hS => by first | (go_simp; done) | (go_simp; rw [if_neg hnz, hwy, hty])), by simp [*, World.cell?_alloc_some], ?_⟩
      intro a' ha; simp only [Act.put, List.setIfInBounds_toArray, List.set_cons_zero, List.set_cons_succ] at ha; subst ha
      refine canon_gd 25 (some 93) rfl rfl rfl (by kernel_rfl) (by kernel_rfl) (by kernel_rfl) (fun _ _ _ _ h => h) (by kernel_rfl) ⟨_, (fun w' hS => by go_simp; rfl), by simp [*, World.cell?_alloc_some], ?_⟩
      intro a' ha; simp only [Act.put, List.setIfInBounds_toArray, List.set_cons_zero, List.set_cons_succ] at ha; subst ha
      refine canon_gd 26 (some 94) rfl rfl rfl (by kernel_rfl) (by kernel_rfl) (by kernel_rfl) (fun _ _ _ _ h => h) (by kernel_rfl) ⟨_, (fun w' hS => by go_simp; rfl), by simp [*, World.cell?_alloc_some], ?_⟩
      intro a' ha; simp only [Act.put, List.setIfInBounds_toArray, List.set_cons_zero, List.set_cons_succ] at ha; subst ha
      refine canon_ex 27 (some 95) rfl rfl rfl (by kernel_rfl) (by kernel_rfl) (by kernel_rfl) (fun _ _ _ _ h => h) rfl ⟨_, (fun w' hS => by go_simp; rfl), by simp [*, World.cell?_alloc_some], ?_⟩
      intro a' ha; simp only [Act.put, List.setIfInBounds_toArray, List.set_cons_zero, List.set_cons_succ] at ha; subst ha
      refine canon_ex 28 (some 96) rfl rfl rfl (by kernel_rfl) (by kernel_rfl) (by kernel_rfl) (fun _ _ _ _ h => h) rfl ⟨_, (fun w' hS => by go_simp; rfl), by simp [*, World.cell?_alloc_some], ?_⟩
      intro a' ha; simp only [Act.put, List.setIfInBounds_toArray, List.set_cons_zero, List.set_cons_succ] at ha; subst ha
      refine canon_gd 29 (some 97) rfl rfl rfl (by kernel_rfl) (by kernel_rfl) (by kernel_rfl) (fun _ _ _ _ h => h) (by kernel_rfl) ⟨_, (fun w' hS => by go_simp; rfl), by simp [*, World.cell?_alloc_some], ?_⟩
      intro a' ha; simp only [Act.put, List.setIfInBounds_toArray, List.set_cons_zero, List.set_cons_succ] at ha; subst ha
      refine canon_gd 30 (some 98) rfl rfl rfl (by kernel_rfl) (by kernel_rfl) (by kernel_rfl) (fun _ _ _ _ h => h) (by kernel_rfl) ⟨_, (fun w' hS => by go_simp; rfl), by simp [*, World.cell?_alloc_some], ?_⟩
      intro a' ha; simp only [Act.put, List.setIfInBounds_toArray, List.set_cons_zero, List.set_cons_succ] at ha; subst ha
      refine canon_gd 31 (some 99) rfl rfl rfl (by kernel_rfl) (by kernel_rfl) (by kernel_rfl) (fun _ _ _ _ h => h) (by kernel_rfl) ⟨_, (fun w' hS => by go_simp; rfl), by simp [*, World.cell?_alloc_some], ?_⟩
      intro a' ha; simp only [Act.put, List.setIfInBounds_toArray, List.set_cons_zero, List.set_cons_succ] at ha; subst ha
      refine canon_ex 32 (some 100) rfl rfl rfl (by kernel_rfl) (by kernel_rfl) (by kernel_rfl) (fun _ _ _ _ h => h) rfl ⟨_, (fun w' hS => by go_simp; rfl), by simp [*, World.cell?_alloc_some], ?_⟩
      intro a' ha; simp only [Act.put, List.setIfInBounds_toArray, List.set_cons_zero, List.set_cons_succ] at ha; subst ha
      refine canon_ex 33 (some 101) rfl rfl rfl (by kernel_rfl) (by kernel_rfl) (by kernel_rfl) (fun _ _ _ _ h => h) rfl ⟨_, (fun w' hS => by go_simp; rfl), by simp [*, World.cell?_alloc_some], ?_⟩
      intro a' ha; simp only [Act.put, List.setIfInBounds_toArray, List.set_cons_zero, List.set_cons_succ] at ha; subst ha
      refine canon_gd 34 (some 102) rfl rfl rfl (by kernel_rfl) (by kernel_rfl) (by kernel_rfl) (fun _ _ _ _ h => h) (by kernel_rfl) ⟨_, (fun w' hS => by go_simp; rfl), by simp [*, World.cell?_alloc_some], ?_⟩
      intro a' ha; simp only [Act.put, List.setIfInBounds_toArray, List.set_cons_zero, List.set_cons_succ] at ha; subst ha
      refine canon_gd 35 (some 103) rfl rfl rfl (by kernel_rfl) (by kernel_rfl) (by kernel_rfl) (fun _ _ _ _ h => h) (by kernel_rfl) ⟨_, (fun w' hS => by go_simp; rfl), by simp [*, World.cell?_alloc_some], ?_⟩
      intro a' ha; simp only [Act.put, List.setIfInBounds_toArray, List.set_cons_zero, List.set_cons_succ] at ha; subst ha
      refine canon_gd 36 (some 104) rfl rfl rfl (by kernel_rfl) (by kernel_rfl) (by kernel_rfl) (fun _ _ _ _ h => h) (by kernel_rfl) ⟨_, (fun w' hS => by go_simp; rfl), by simp [*, World.cell?_alloc_some], ?_⟩
      intro a' ha; simp only [Act.put, List.setIfInBounds_toArray, List.set_cons_zero, List.set_cons_succ] at ha; subst ha
      refine canon_ex 37 (some 105) rfl rfl rfl (by kernel_rfl) (by kernel_rfl) (by kernel_rfl) (fun _ _ _ _ h => h) rfl ⟨_, (fun w' hS => by go_simp; rfl), by simp [*, World.cell?_alloc_some], ?_⟩
      intro a' ha; simp only [Act.put, List.setIfInBounds_toArray, List.set_cons_zero, List.set_cons_succ] at ha; subst ha
      refine canon_ex 38 (some 106) rfl rfl rfl (by kernel_rfl) (by kernel_rfl) (by kernel_rfl) (fun _ _ _ _ h => h) rfl ⟨_, (fun w' hS => by go_simp; rfl), by simp [*, World.cell?_alloc_some], ?_⟩
      intro a' ha; simp only [Act.put, List.setIfInBounds_toArray, List.set_cons_zero, List.set_cons_succ] at ha; subst ha
      refine canon_gd 39 (some 107) rfl rfl rfl (by kernel_rfl) (by kernel_rfl) (by kernel_rfl) (fun _ _ _ _ h => h) (by kernel_rfl) ⟨_, (fun w' hS => by go_simp; rfl), by simp [*, World.cell?_alloc_some], ?_⟩
      intro a' ha; simp only [Act.put, List.setIfInBounds_toArray, List.set_cons_zero, List.set_cons_succ] at ha; subst ha
      refine canon_gd 40 (some 108) rfl rfl rfl (by kernel_rfl) (by kernel_rfl) (by kernel_rfl) (fun _ _ _ _ h => h) (by kernel_rfl) ⟨_, (fun w' hS => by go_simp; rfl), by simp [*, World.cell?_alloc_some], ?_⟩
      intro a' ha; simp only [Act.put, List.setIfInBounds_toArray, List.set_cons_zero, List.set_cons_succ] at ha; subst ha
      refine canon_ex 41 (some 109) rfl rfl rfl (by kernel_rfl) (by kernel_rfl) (by kernel_rfl) (fun _ _ _ _ h => h) rfl ⟨_, (fun w' hS => by go_simp; rfl), by simp [*, World.cell?_alloc_some], ?_⟩
      intro a' ha; simp only [Act.put, List.setIfInBounds_toArray, List.set_cons_zero, List.set_cons_succ] at ha; subst ha
      refine canon_ex 42 (some 110) rfl rfl rfl (by kernel_rfl) (by kernel_rfl) (by kernel_rfl) (fun _ _ _ _ h => h) rfl ⟨_, (fun w' hS => by go_simp; rfl), by simp [*, World.cell?_alloc_some], ?_⟩
      intro a' ha; simp only [Act.put, List.setIfInBounds_toArray, List.set_cons_zero, List.set_cons_succ] at ha; subst ha
      refine canon_gd 43 (some 111) rfl rfl rfl (by kernel_rfl) (by kernel_rfl) (by kernel_rfl) (fun _ _ _ _ h => h) (by kernel_rfl) ⟨_, (fun w' hS => by go_simp; rfl), by simp [*, World.cell?_alloc_some], ?_⟩
      intro a' ha; simp only [Act.put, List.setIfInBounds_toArray, List.set_cons_zero, List.set_cons_succ] at ha; subst ha
      refine canon_gd 44 (some 112) rfl rfl rfl (by kernel_rfl) (by kernel_rfl) (by kernel_rfl) (fun _ _ _ _ h => h) (by kernel_rfl) ⟨_, (fun w' hS => by go_simp; rfl), by simp [*, World.cell?_alloc_some], ?_⟩
      intro a' ha; simp only [Act.put, List.setIfInBounds_toArray, List.set_cons_zero, List.set_cons_succ] at ha; subst ha
      refine canon_ex 45 (some 113) rfl rfl rfl (by kernel_rfl) (by kernel_rfl) (by kernel_rfl) (fun _ _ _ _ h => h) rfl ⟨_, (fun w' hS => by go_simp; rfl), by simp [*, World.cell?_alloc_some], ?_⟩
      intro a' ha; simp only [Act.put, List.setIfInBounds_toArray, List.set_cons_zero, List.set_cons_succ] at ha; subst ha
      refine canon_ex 46 (some 114) rfl rfl rfl (by kernel_rfl) (by kernel_rfl) (by kernel_rfl) (fun _ _ _ _ h => h) rfl ⟨_, (fun w' hS => by go_simp; rfl), by simp [*, World.cell?_alloc_some], ?_⟩
      intro a' ha; simp only [Act.put, List.setIfInBounds_toArray, List.set_cons_zero, List.set_cons_succ] at ha; subst ha
      refine canon_gd 47 (some 115) rfl rfl rfl (by kernel_rfl) (by kernel_rfl) (by kernel_rfl) (fun _ _ _ _ h => h) (by kernel_rfl) ⟨_, (fun w' hS => by go_simp; rfl), by simp [*, World.cell?_alloc_some], ?_⟩
      intro a' ha; simp only [Act.put, List.setIfInBounds_toArray, List.set_cons_zero, List.set_cons_succ] at ha; subst ha
      refine canon_act 48 [1, 47] [1] rfl (by kernel_rfl) (fun p w h => by simp at h; simp [h]) (by kernel_rfl) ?_
      intro K hK
      go_wp2_with (go_at_call 16; refine (table_any _ _ ⟨ep + 1, ss, ps, n⟩ (-4) (by exact J9.out) 0 htn hn2).mono ?_; rintro e w10 ⟨rfl, hb10⟩; have hcc3 : w10.cell? ⟨db, 3, none⟩ = some (.int .i64 n) := (by rw [(bcell hb10).1 _ _ hd9]; exact dq9_3))
      refine hK _ _ (by first | (simp [*, World.cell?_alloc_some]; done) | (simp; go_simp; done)) ?_
      clear hK
      refine canon_gd 49 (some 117) rfl rfl rfl (by kernel_rfl) (by kernel_rfl) (by kernel_rfl) (fun _ _ _ _ h => h) (by kernel_rfl) ⟨_, (fun w' hS => by go_simp; rfl), by simp [*, World.cell?_alloc_some], ?_⟩
      intro a' ha; simp only [Act.put, List.setIfInBounds_toArray, List.set_cons_zero, List.set_cons_succ] at ha; subst ha
      refine canon_ex 50 (some 118) rfl rfl rfl (by kernel_rfl) (by kernel_rfl) (by kernel_rfl) (fun _ _ _ _ h => h) rfl ⟨_, (fun w' hS => by go_simp; rfl), by simp [*, World.cell?_alloc_some], ?_⟩
      intro a' ha; simp only [Act.put, List.setIfInBounds_toArray, List.set_cons_zero, List.set_cons_succ] at ha; subst ha
      refine canon_ex 51 (some 8) rfl rfl rfl (by kernel_rfl) (by kernel_rfl) (by kernel_rfl) (fun _ _ _ _ h => h) rfl ⟨_, (fun w' hS => by go_simp; rfl), by simp [*, World.cell?_alloc_some], ?_⟩
      intro a' ha; simp only [Act.put, List.setIfInBounds_toArray, List.set_cons_zero, List.set_cons_succ] at ha; subst ha
      refine canon_done ?_ ?_
      · kernel_rfl
      go_wp2
      go_ret
      exact ⟨rfl, B9.out.drew.trans (hb10.mono hww)⟩
  · rw [if_neg hn] at hown4 ⊢
    have g1 : Cf.withinB n 1 8 = false := by simp [Cf.withinB]; omega
    obtain ⟨D1, d1, D2, d2, hv4⟩ := hown4.form
    have hv4' : v4 = .agg #[.int .i64 0, .slice D1 0 d1, .slice D2 0 d2, .int .i64 0] := hv4
    subst hv4'
    dsimp only
    have B4 := Lib.hid (B3.out.trans (hb4.mono (by omega)))
    clear hown4 hb4 hv4 q0 q1 q2 q3
    by_cases hn1 : 1 ≤ n
    · have hn2 : ¬ n ≤ 8 := fun h => hn ⟨hn1, h⟩
      clear hn
      go_wp2
      go_ret
      exact ⟨rfl, B4.out.alloc B4.out.size _⟩
    · clear hn
      go_wp2
      go_ret
      exact ⟨rfl, B4.out.alloc B4.out.size _⟩
end Go.Proofs.YtkmaepefpcpckaaDoor
