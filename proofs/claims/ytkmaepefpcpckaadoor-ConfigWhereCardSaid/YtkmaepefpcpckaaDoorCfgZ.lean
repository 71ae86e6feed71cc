/- Walk of the law ConfigWhere. -/
import Derived.Test.YtkmaepefpcpckaaDoorCfgY
set_option linter.unusedVariables false
set_option linter.unusedSimpArgs false
namespace Go.Proofs.YtkmaepefpcpckaaDoor
open Go.RowKit

/-- what the law asks of who has a block -/
theorem where_facts (c : Cf.Cfg) (h : Cf.check c = 0) (b : Int) : (Cf.own c.pt b = none ∧ (b < 0 ∨ 256 ≤ b)) ∨ ∃ x : Int × Int, Cf.own c.pt b = some x ∧ x.1 ≠ x.2 ∧ Cf.hasB c.sv x.1 = true ∧ Cf.hasB c.sv x.2 = true := by
  rcases ck_own c h b with ⟨-, -, x, hx⟩ | ⟨h1, h2⟩
  · refine .inr ⟨x, hx, ?_⟩
    obtain ⟨p, hp, rfl, -⟩ := own_some b c.pt x hx
    exact (ck_parts c h).2.2.2.2.2.2 p hp
  · exact .inl ⟨h2, h1⟩
theorem tabF_range (c : Cf.Cfg) (h : Cf.check c = 0) (b : Int) : 0 ≤ Cf.tabF c.tb b ∧ Cf.tabF c.tb b < c.tb := by
  have ht := (ck_parts c h).2.1
  unfold Cf.tabF
  by_cases e : c.tb < 1 ∨ b < 1
  · rw [if_pos e]; omega
  · rw [if_neg e]; exact ⟨Int.emod_nonneg _ (by omega), Int.emod_lt_of_pos _ (by omega)⟩

set_option maxRecDepth 100000 in
set_option maxHeartbeats 1600000 in
theorem where_law (w : World) (v : Value) (os : List Cf.Ord) (b : Int) (h : Sl w v os.length 5 (ordsC os)) (hK : Kinds w) :
    Calls Tryd.prog 5 #[v, .int .i64 b] w fun e w' => e = .returned (.bool true) ∧ Below w.heap.size w w' := by
  have hk0 := hK.lt
  go_enter Tryd.func5, Tryd.ntmps5
  go_wp2_with fail
  refine (shown_any _).mono ?_
  rintro e w1 ⟨rfl, hb1⟩
  have B1 := Lib.hid hb1
  have hz1 := hb1.size
  clear hb1
  go_wp2_with fail
  refine (after_is w1 v os (h.below B1.out) (hK.below B1.out hk0)).mono ?_
  rintro e w2 ⟨c, v', rfl, hown, hgood, hb2⟩
  have hck := hgood.1
  have hz2 := hb2.size
  have B2 := Lib.hid (B1.out.trans (hb2.mono (by omega)))
  obtain ⟨A1, c1, A2, c2, hv, hc1, hc2⟩ := hown.form2
  subst hv
  have HF := Lib.hid (where_facts c hck b)
  have HT := Lib.hid (tabF_range c hck b)
  have HB := Lib.hid (ck_bounds c hck)
  have hlen := check_lens c hck
  have htb := (ck_parts c hck).2.1
  obtain ⟨ep, ss, ps, tb⟩ := c
  dsimp only at hown HF HT HB hlen htb hc1 hc2 ⊢
  obtain ⟨T, hTT⟩ : ∃ T, Cf.tabF tb b = T := ⟨_, rfl⟩
  have HTT := Lib.hid hTT
  have hT := HT.out
  rw [hTT] at hT
  obtain ⟨hT0, hT1⟩ := hT
  clear hTT HT
  obtain ⟨oc, hoc⟩ : ∃ oc, Cf.own ps b = oc := ⟨_, rfl⟩
  have HOC := Lib.hid hoc
  have HF2 := HF.out
  rw [hoc] at HF2
  clear hoc HF
  have HF3 := Lib.hid HF2
  clear HF2
  obtain ⟨⟨ta, tbb, te⟩, hte⟩ : ∃ t, Cf.whereR oc = t := ⟨_, rfl⟩
  have HTE := Lib.hid hte
  clear hte
  have HW := Lib.hid (show Cf.whereR (Cf.own ps b) = (ta, tbb, te) by rw [HOC.out, HTE.out])
  obtain ⟨cb, hcb⟩ : ∃ cb, cb = w2.heap.size := ⟨_, rfl⟩
  obtain ⟨w3, hw3⟩ : ∃ w3, w3 = w2.alloc (.cells #[.int .i64 ep, .slice A1 ss.length c1, .slice A2 ps.length c2, .int .i64 tb] 31) := ⟨_, rfl⟩
  have C3 := Lib.hid (show w3.heap[cb]? = some (.cells #[.int .i64 ep, .slice A1 ss.length c1, .slice A2 ps.length c2, .int .i64 tb] 31 (0, 0)) by rw [hw3, hcb]; exact heap_alloc_new w2 _)
  have hb3 : Below w2.heap.size w2 w3 := by rw [hw3]; exact (Below.refl _ _).alloc (Nat.le_refl _) _
  have hz3 := hb3.size
  have B3 := Lib.hid (B2.out.trans (hb3.mono (by omega)))
  have I3 := Lib.hid (hown.inn.below hb3)
  have hcb3 : cb < w3.heap.size := lt_of_blk C3.out
  obtain ⟨q0, q1, q2, q3⟩ := cells4 C3.out
  clear hown hb2 hb3 hgood B1 B2
  go_upto_region 4 with fail
  rw [← hw3, ← hcb]
  clear hw3 hcb
  go_wp2_with fail
  refine (where_is w3 _ ⟨ep, ss, ps, tb⟩ b I3.out hck oc HOC.out ⟨ta, tbb, te⟩ HTE.out).mono ?_
  rintro e w4 ⟨rfl, hb4⟩
  have hz4 := hb4.size
  have C4 := Lib.hid ((hb4.block cb hcb3).trans C3.out)
  have B4 := Lib.hid (B3.out.trans (hb4.mono (by omega)))
  have I4 := Lib.hid (I3.out.below hb4)
  have hcb4 : cb < w4.heap.size := by omega
  obtain ⟨r0, r1, r2, r3⟩ := cells4 C4.out
  clear hb4 q0 q1 q2 q3 C3 B3 I3
  go_wp2_with fail
  refine (theirs_any w4 ⟨ep, ss, ps, tb⟩ _ _ I4.out.two.1 I4.out.two.2 (by show ps.length ≤ 1000; omega)).mono ?_
  rintro e w5 ⟨pv5, rfl, ho5, hb5⟩
  obtain ⟨A5, c5, rfl, hc5⟩ := own_form2 ho5
  have S5 := Lib.hid (own_sl ho5 (by dsimp only; omega))
  have hz5 := hb5.size
  have C5 := Lib.hid ((hb5.block cb hcb4).trans C4.out)
  have B5 := Lib.hid (B4.out.trans (hb5.mono (by omega)))
  have I5 := Lib.hid (I4.out.below hb5)
  have hcb5 : cb < w5.heap.size := by omega
  obtain ⟨q0, q1, q2, q3⟩ := cells4 C5.out
  dsimp only at S5 hc5 ⊢
  clear hb5 ho5 r0 r1 r2 r3 C4 B4 I4
  go_wp2_with fail
  refine (rwhere_any ep tb b ss ps A1 A5 c1 c5 w5 I5.out.two.1 hc1 S5.out hc5 (by omega) (ta, tbb, te) HW.out).mono ?_
  rintro e w6 ⟨rfl, hb6⟩
  have hz6 := hb6.size
  have C6 := Lib.hid ((hb6.block cb hcb5).trans C5.out)
  have B6 := Lib.hid (B5.out.trans (hb6.mono (by omega)))
  have I6 := Lib.hid (I5.out.below hb6)
  have hcb6 : cb < w6.heap.size := by omega
  obtain ⟨r0, r1, r2, r3⟩ := cells4 C6.out
  clear hb6 q0 q1 q2 q3 C5 B5 I5 S5
  go_wp2_with fail
  refine (table_any w6 _ ⟨ep, ss, ps, tb⟩ b I6.out T HTT.out htb.2).mono ?_
  rintro e w7 ⟨rfl, hb7⟩
  have hz7 := hb7.size
  have C7 := Lib.hid ((hb7.block cb hcb6).trans C6.out)
  have B7 := Lib.hid (B6.out.trans (hb7.mono (by omega)))
  have I7 := Lib.hid (I6.out.below hb7)
  have hcb7 : cb < w7.heap.size := by omega
  obtain ⟨q0, q1, q2, q3⟩ := cells4 C7.out
  clear hb7 r0 r1 r2 r3 C6 B6 I6
  go_wp2_with fail
  refine (theirs_any w7 ⟨ep, ss, ps, tb⟩ _ _ I7.out.two.1 I7.out.two.2 (by show ps.length ≤ 1000; omega)).mono ?_
  rintro e w8 ⟨pv8, rfl, ho8, hb8⟩
  obtain ⟨A8, c8, rfl, hc8⟩ := own_form2 ho8
  have S8 := Lib.hid (own_sl ho8 (by dsimp only; omega))
  have hz8 := hb8.size
  have C8 := Lib.hid ((hb8.block cb hcb7).trans C7.out)
  have B8 := Lib.hid (B7.out.trans (hb8.mono (by omega)))
  have I8 := Lib.hid (I7.out.below hb8)
  have hcb8 : cb < w8.heap.size := by omega
  obtain ⟨r0, r1, r2, r3⟩ := cells4 C8.out
  dsimp only at S8 hc8 ⊢
  clear hb8 ho8 q0 q1 q2 q3 C7 B7 I7
  go_wp2_with fail
  refine (rtable_any ep tb b ss ps A1 A8 c1 c8 w8 I8.out.two.1 hc1 S8.out hc8 T HTT.out).mono ?_
  rintro e w9 ⟨rfl, hb9⟩
  have hz9 := hb9.size
  have C9 := Lib.hid ((hb9.block cb hcb8).trans C8.out)
  have B9 := Lib.hid (B8.out.trans (hb9.mono (by omega)))
  have I9 := Lib.hid (I8.out.below hb9)
  have hcb9 : cb < w9.heap.size := by omega
  obtain ⟨q0, q1, q2, q3⟩ := cells4 C9.out
  clear hb9 r0 r1 r2 r3 C8 B8 I8 S8
  rcases HF3.out with ⟨k1, k2⟩ | ⟨⟨xa, xb⟩, k1, k2, k3, k4⟩
  · have hte := HTE.out
    rw [k1] at hte
    cases hte
    clear HF3 HOC HTE HW k1
    by_cases e0 : b < 0
    · have g1 : decide (b < 0) = true := by simpa using e0
      clear k2
      go_wp2
      go_ret
      exact ⟨rfl, B9.out⟩
    · have g1 : decide (b < 0) = false := by simpa using e0
      have g2 : (256 : Int) ≤ b := by omega
      clear k2
      go_wp2
      go_ret
      exact ⟨rfl, B9.out⟩
  · have hte := HTE.out
    rw [k1] at hte
    cases hte
    dsimp only at k2 k3 k4
    have K3 := Lib.hid k3
    have K4 := Lib.hid k4
    have g1 : (xa != xb) = true := by simpa using k2
    clear HF3 HOC HTE HW k1 k2 k3 k4
    go_wp2_with fail
    refine (rhas_any xa ss A1 c1 w9 I9.out.two.1 hc1 (by omega) true K3.out).mono ?_
    rintro e w10 ⟨rfl, hb10⟩
    have hz10 := hb10.size
    have C10 := Lib.hid ((hb10.block cb hcb9).trans C9.out)
    have B10 := Lib.hid (B9.out.trans (hb10.mono (by omega)))
    have I10 := Lib.hid (I9.out.below hb10)
    have hcb10 : cb < w10.heap.size := by omega
    obtain ⟨r0, r1, r2, r3⟩ := cells4 C10.out
    clear hb10 q0 q1 q2 q3 C9 B9 I9
    go_wp2_with fail
    refine (rhas_any xb ss A1 c1 w10 I10.out.two.1 hc1 (by omega) true K4.out).mono ?_
    rintro e w11 ⟨rfl, hb11⟩
    have C11 := Lib.hid ((hb11.block cb hcb10).trans C10.out)
    have B11 := Lib.hid (B10.out.trans (hb11.mono (by omega)))
    obtain ⟨q0, q1, q2, q3⟩ := cells4 C11.out
    clear hb11 r0 r1 r2 r3 C10 B10 I10
    go_wp2
    go_ret
    exact ⟨rfl, B11.out⟩
end Go.Proofs.YtkmaepefpcpckaaDoor
