/- Walk of the law ConfigKeeps. -/
import Derived.Test.YtkmaepefpcpckaaDoorCfgP
import Derived.Test.YtkmaepefpcpckaaDoorCfgW
set_option linter.unusedVariables false
set_option linter.unusedSimpArgs false
namespace Go.Proofs.YtkmaepefpcpckaaDoor
open Go.RowKit

theorem after_is (w : World) (v : Value) (os : List Cf.Ord) (h : Sl w v os.length 5 (ordsC os)) (hK : Kinds w) : Calls Tryd.prog 9 #[v] w (After w) :=
  after_any (fun c o h1 h2 => ⟨(apply_valid c o h1 h2).1, (apply_valid c o h1 h2).2.1⟩) w v os h hK

theorem where_is (w : World) (v : Value) (c : Cf.Cfg) (b : Int) (h : CIn w v c) (hc : Cf.check c = 0) (o : Option (Int × Int)) (ho : Cf.own c.pt b = o) (t : Int × Int × Int) (ht : Cf.whereR o = t) :
    Calls Tryd.prog 11 #[v, .int .i64 b] w fun e w' => e = .returned (.tuple #[.int .i64 t.1, .int .i64 t.2.1, .int .i64 t.2.2]) ∧ Below w.heap.size w w' := by
  rw [← ht]; exact where_any w v c b h (ck_bounds c hc) o ho

set_option maxRecDepth 100000 in
set_option maxHeartbeats 1600000 in
theorem keeps_any (w : World) (v : Value) (os : List Cf.Ord) (o : Cf.Ord) (b : Int) (h : Sl w v os.length 5 (ordsC os)) (hK : Kinds w) :
    Calls Tryd.prog 3 #[v, ordV o, .int .i64 b] w fun e w' => e = .returned (.bool true) ∧ Below w.heap.size w w' := by
  obtain ⟨ok, on, om, of, ot⟩ := o
  unfold ordV
  dsimp only
  have hk0 := hK.lt
  have B0 := Lib.hid ((Below.refl w.heap.size w).alloc (Nat.le_refl _) (.cells #[.int .i64 ok, .int .i64 on, .int .i64 om, .int .i64 of, .int .i64 ot] 26))
  have O0 := Lib.hid (heap_alloc_new w (.cells #[.int .i64 ok, .int .i64 on, .int .i64 om, .int .i64 of, .int .i64 ot] 26))
  go_enter Tryd.func3, Tryd.ntmps3
  go_wp2_with fail
  refine (shown_any _).mono ?_
  rintro e w1 ⟨rfl, hb1⟩
  have B1 := Lib.hid (B0.out.trans (hb1.mono (by simp)))
  have O1 := Lib.hid ((hb1.block w.heap.size (by simp)).trans O0.out)
  have hz1 : w.heap.size < w1.heap.size := by have := hb1.size; simp at this; omega
  clear hb1 O0
  go_wp2_with fail
  refine (after_is w1 v os (h.below B1.out) (hK.below B1.out hk0)).mono ?_
  rintro e w2 ⟨c, v', rfl, hown, hgood, hb2⟩
  have hck := hgood.1
  have hz2 := hb2.size
  have B2 := Lib.hid (B1.out.trans (hb2.mono (by omega)))
  have O2 := Lib.hid ((hb2.block w.heap.size hz1).trans O1.out)
  have HO := Lib.hid hown
  obtain ⟨A1, c1, A2, c2, hv⟩ := hown.form
  subst hv
  obtain ⟨ep, ss, ps, tb⟩ := c
  dsimp only at hown HO ⊢
  have K3 := Lib.hid (hK.below B2.out hk0)
  obtain ⟨cb, hcb⟩ : ∃ cb, cb = w2.heap.size := ⟨_, rfl⟩
  obtain ⟨w3, hw3⟩ : ∃ w3, w3 = w2.alloc (.cells #[.int .i64 ep, .slice A1 ss.length c1, .slice A2 ps.length c2, .int .i64 tb] 31) := ⟨_, rfl⟩
  have C3 := Lib.hid (show w3.heap[cb]? = some (.cells #[.int .i64 ep, .slice A1 ss.length c1, .slice A2 ps.length c2, .int .i64 tb] 31 (0, 0)) by rw [hw3, hcb]; exact heap_alloc_new w2 _)
  have hb3 : Below w2.heap.size w2 w3 := by rw [hw3]; exact (Below.refl _ _).alloc (Nat.le_refl _) _
  have O3 := Lib.hid ((hb3.block w.heap.size (by omega)).trans O2.out)
  have B3 := Lib.hid (B2.out.trans (hb3.mono (by omega)))
  have I3 := Lib.hid (hown.inn.below hb3)
  have Kd3 := Lib.hid (K3.out.below hb3 (by omega))
  have hcb3 : cb < w3.heap.size := lt_of_blk C3.out
  have ho3 : w.heap.size < w3.heap.size := lt_of_blk O3.out
  have q0 : w3.cell? ⟨cb, 0, none⟩ = some (.int .i64 ep) := by rw [cell_of_block C3.out]; rfl
  have q1 : w3.cell? ⟨cb, 1, none⟩ = some (.slice A1 ss.length c1) := by rw [cell_of_block C3.out]; rfl
  have q2 : w3.cell? ⟨cb, 2, none⟩ = some (.slice A2 ps.length c2) := by rw [cell_of_block C3.out]; rfl
  have q3 : w3.cell? ⟨cb, 3, none⟩ = some (.int .i64 tb) := by rw [cell_of_block C3.out]; rfl
  have o0 : w3.cell? ⟨w.heap.size, 0, none⟩ = some (.int .i64 ok) := by rw [cell_of_block O3.out]; rfl
  have o1 : w3.cell? ⟨w.heap.size, 1, none⟩ = some (.int .i64 on) := by rw [cell_of_block O3.out]; rfl
  have o2 : w3.cell? ⟨w.heap.size, 2, none⟩ = some (.int .i64 om) := by rw [cell_of_block O3.out]; rfl
  have o3 : w3.cell? ⟨w.heap.size, 3, none⟩ = some (.int .i64 of) := by rw [cell_of_block O3.out]; rfl
  have o4 : w3.cell? ⟨w.heap.size, 4, none⟩ = some (.int .i64 ot) := by rw [cell_of_block O3.out]; rfl
  clear hown hb2 hb3 B0 B1 O1 O2 K3 hgood HO
  go_upto_region 4 with fail
  rw [← hw3, ← hcb]
  clear hw3 hcb
  go_wp2_with fail
  refine (apply_any w3 _ ⟨ep, ss, ps, tb⟩ ⟨ok, on, om, of, ot⟩ I3.out Kd3.out).mono ?_
  rintro e w4 ⟨v4, rfl, hown4, hb4⟩
  have HKL := Lib.hid (fun h0 x hx => keeps_law ⟨ep, ss, ps, tb⟩ ⟨ok, on, om, of, ot⟩ hck h0 b x hx)
  have HAV := Lib.hid (fun h0 => (apply_valid ⟨ep, ss, ps, tb⟩ ⟨ok, on, om, of, ot⟩ hck h0).1)
  obtain ⟨r, hr⟩ : ∃ r, r = Cf.apply ⟨ep, ss, ps, tb⟩ ⟨ok, on, om, of, ot⟩ := ⟨_, rfl⟩
  rw [← hr] at HKL HAV hown4 ⊢
  clear hr
  obtain ⟨⟨rep, rss, rps, rtb⟩, q⟩ := r
  dsimp only at HKL HAV hown4 ⊢
  obtain ⟨D1, d1, D2, d2, hv4⟩ := hown4.form
  dsimp only at hv4
  subst hv4
  have hz4 := hb4.size
  have C4 := Lib.hid ((hb4.block cb hcb3).trans C3.out)
  have O4 := Lib.hid ((hb4.block w.heap.size ho3).trans O3.out)
  have B4 := Lib.hid (B3.out.trans (hb4.mono (by omega)))
  have I4 := Lib.hid (I3.out.below hb4)
  obtain ⟨db, hdb⟩ : ∃ db, db = w4.heap.size := ⟨_, rfl⟩
  obtain ⟨w5, hw5⟩ : ∃ w5, w5 = w4.alloc (.cells #[.int .i64 rep, .slice D1 rss.length d1, .slice D2 rps.length d2, .int .i64 rtb] 31) := ⟨_, rfl⟩
  have D5 := Lib.hid (show w5.heap[db]? = some (.cells #[.int .i64 rep, .slice D1 rss.length d1, .slice D2 rps.length d2, .int .i64 rtb] 31 (0, 0)) by rw [hw5, hdb]; exact heap_alloc_new w4 _)
  have hb5 : Below w4.heap.size w4 w5 := by rw [hw5]; exact (Below.refl _ _).alloc (Nat.le_refl _) _
  have hz5 := hb5.size
  have C5 := Lib.hid ((hb5.block cb (by omega)).trans C4.out)
  have O5 := Lib.hid ((hb5.block w.heap.size (by omega)).trans O4.out)
  have B5 := Lib.hid (B4.out.trans (hb5.mono (by omega)))
  have I5 := Lib.hid (I4.out.below hb5)
  have J5 := Lib.hid (hown4.inn.below hb5)
  have hdb5 : db < w5.heap.size := lt_of_blk D5.out
  have hcb5 : cb < w5.heap.size := lt_of_blk C5.out
  have ho5 : w.heap.size < w5.heap.size := lt_of_blk O5.out
  have cq5_0 : w5.cell? ⟨cb, 0, none⟩ = some (.int .i64 ep) := by rw [cell_of_block C5.out]; rfl
  have cq5_1 : w5.cell? ⟨cb, 1, none⟩ = some (.slice A1 ss.length c1) := by rw [cell_of_block C5.out]; rfl
  have cq5_2 : w5.cell? ⟨cb, 2, none⟩ = some (.slice A2 ps.length c2) := by rw [cell_of_block C5.out]; rfl
  have cq5_3 : w5.cell? ⟨cb, 3, none⟩ = some (.int .i64 tb) := by rw [cell_of_block C5.out]; rfl
  have oq5_0 : w5.cell? ⟨w.heap.size, 0, none⟩ = some (.int .i64 ok) := by rw [cell_of_block O5.out]; rfl
  have oq5_1 : w5.cell? ⟨w.heap.size, 1, none⟩ = some (.int .i64 on) := by rw [cell_of_block O5.out]; rfl
  have oq5_2 : w5.cell? ⟨w.heap.size, 2, none⟩ = some (.int .i64 om) := by rw [cell_of_block O5.out]; rfl
  have oq5_3 : w5.cell? ⟨w.heap.size, 3, none⟩ = some (.int .i64 of) := by rw [cell_of_block O5.out]; rfl
  have oq5_4 : w5.cell? ⟨w.heap.size, 4, none⟩ = some (.int .i64 ot) := by rw [cell_of_block O5.out]; rfl
  have dq5_0 : w5.cell? ⟨db, 0, none⟩ = some (.int .i64 rep) := by rw [cell_of_block D5.out]; rfl
  have dq5_1 : w5.cell? ⟨db, 1, none⟩ = some (.slice D1 rss.length d1) := by rw [cell_of_block D5.out]; rfl
  have dq5_2 : w5.cell? ⟨db, 2, none⟩ = some (.slice D2 rps.length d2) := by rw [cell_of_block D5.out]; rfl
  have dq5_3 : w5.cell? ⟨db, 3, none⟩ = some (.int .i64 rtb) := by rw [cell_of_block D5.out]; rfl
  clear hown4 hb4 hb5 q0 q1 q2 q3 o0 o1 o2 o3 o4 C3 O3 I3 Kd3 B3 C4 O4 B4 I4 B2
  go_upto_region 5 with fail
  rw [← hw5, ← hdb]
  clear hw5 hdb
  obtain ⟨oc, hoc⟩ : ∃ oc, Cf.own ps b = oc := ⟨_, rfl⟩
  obtain ⟨⟨ta, tbb, te⟩, hte⟩ : ∃ t, Cf.whereR oc = t := ⟨_, rfl⟩
  go_wp2_with fail
  refine (where_is w5 _ ⟨ep, ss, ps, tb⟩ b I5.out hck oc hoc ⟨ta, tbb, te⟩ hte).mono ?_
  rintro e w6 ⟨rfl, hb6⟩
  have hz6 := hb6.size
  have C6 := Lib.hid ((hb6.block cb hcb5).trans C5.out)
  have O6 := Lib.hid ((hb6.block w.heap.size ho5).trans O5.out)
  have D6 := Lib.hid ((hb6.block db hdb5).trans D5.out)
  have B6 := Lib.hid (B5.out.trans (hb6.mono (by omega)))
  have I6 := Lib.hid (I5.out.below hb6)
  have J6 := Lib.hid (J5.out.below hb6)
  have cq6_0 : w6.cell? ⟨cb, 0, none⟩ = some (.int .i64 ep) := by rw [cell_of_block C6.out]; rfl
  have cq6_1 : w6.cell? ⟨cb, 1, none⟩ = some (.slice A1 ss.length c1) := by rw [cell_of_block C6.out]; rfl
  have cq6_2 : w6.cell? ⟨cb, 2, none⟩ = some (.slice A2 ps.length c2) := by rw [cell_of_block C6.out]; rfl
  have cq6_3 : w6.cell? ⟨cb, 3, none⟩ = some (.int .i64 tb) := by rw [cell_of_block C6.out]; rfl
  have oq6_0 : w6.cell? ⟨w.heap.size, 0, none⟩ = some (.int .i64 ok) := by rw [cell_of_block O6.out]; rfl
  have oq6_1 : w6.cell? ⟨w.heap.size, 1, none⟩ = some (.int .i64 on) := by rw [cell_of_block O6.out]; rfl
  have oq6_2 : w6.cell? ⟨w.heap.size, 2, none⟩ = some (.int .i64 om) := by rw [cell_of_block O6.out]; rfl
  have oq6_3 : w6.cell? ⟨w.heap.size, 3, none⟩ = some (.int .i64 of) := by rw [cell_of_block O6.out]; rfl
  have oq6_4 : w6.cell? ⟨w.heap.size, 4, none⟩ = some (.int .i64 ot) := by rw [cell_of_block O6.out]; rfl
  have dq6_0 : w6.cell? ⟨db, 0, none⟩ = some (.int .i64 rep) := by rw [cell_of_block D6.out]; rfl
  have dq6_1 : w6.cell? ⟨db, 1, none⟩ = some (.slice D1 rss.length d1) := by rw [cell_of_block D6.out]; rfl
  have dq6_2 : w6.cell? ⟨db, 2, none⟩ = some (.slice D2 rps.length d2) := by rw [cell_of_block D6.out]; rfl
  have dq6_3 : w6.cell? ⟨db, 3, none⟩ = some (.int .i64 rtb) := by rw [cell_of_block D6.out]; rfl
  clear hb6 cq5_0 cq5_1 cq5_2 cq5_3 oq5_0 oq5_1 oq5_2 oq5_3 oq5_4 dq5_0 dq5_1 dq5_2 dq5_3 C5 O5 D5 B5 I5 J5
  have hok6 : w.heap.size < w6.heap.size := by omega
  by_cases hbad : q ≠ 0 ∨ te ≠ 0
  · have fin : Calls Tryd.prog 12 #[.agg #[.int .i64 ep, .slice A1 ss.length c1, .slice A2 ps.length c2, .int .i64 tb]] w6 (SomeErr 0 w6) := check_in ⟨ep, ss, ps, tb⟩ 0 hck _ w6 I6.out
    by_cases hq : q = 0
    · have g1 : (q != 0) = false := by simpa using hq
      have g2 : (te != 0) = true := by simp; omega
      clear hbad hq
      go_wp2_with fail
      refine fin.mono ?_
      rintro e w7 ⟨rfl, hb7⟩
      go_wp2
      go_ret
      exact ⟨rfl, B6.out.trans (hb7.mono (by omega))⟩
    · have g1 : (q != 0) = true := by simpa using hq
      clear hbad hq
      go_wp2_with fail
      refine fin.mono ?_
      rintro e w7 ⟨rfl, hb7⟩
      go_wp2
      go_ret
      exact ⟨rfl, B6.out.trans (hb7.mono (by omega))⟩
  · obtain ⟨rfl, rfl⟩ : q = 0 ∧ te = 0 := by omega
    clear hbad
    obtain ⟨x, hx⟩ : ∃ x, oc = some x := by
      cases oc with
      | none => cases hte
      | some x => exact ⟨x, rfl⟩
    subst hx
    obtain ⟨xa, xb⟩ := x
    have hta : ta = xa ∧ tbb = xb := by cases hte; exact ⟨rfl, rfl⟩
    obtain ⟨rfl, rfl⟩ := hta
    clear hte
    obtain ⟨⟨ya, yb⟩, hy, hk2, hne, hk3, hko⟩ := HKL.out rfl (ta, tbb) hoc
    dsimp only at hk2 hne hk3 hko
    have Hk2 := Lib.hid hk2
    have Hk3 := Lib.hid hk3
    have Hko := Lib.hid hko
    have hckd := HAV.out rfl
    clear HKL HAV hk2 hk3 hko
    go_wp2_with fail
    refine (where_is w6 _ ⟨rep, rss, rps, rtb⟩ b J6.out hckd (some (ya, yb)) hy (ya, yb, 0) rfl).mono ?_
    rintro e w7 ⟨rfl, hb7⟩
    have O7 := Lib.hid ((hb7.block w.heap.size hok6).trans O6.out)
    have B7 := Lib.hid (B6.out.trans (hb7.mono (by omega)))
    have oq7_0 : w7.cell? ⟨w.heap.size, 0, none⟩ = some (.int .i64 ok) := by rw [cell_of_block O7.out]; rfl
    have oq7_1 : w7.cell? ⟨w.heap.size, 1, none⟩ = some (.int .i64 on) := by rw [cell_of_block O7.out]; rfl
    have oq7_2 : w7.cell? ⟨w.heap.size, 2, none⟩ = some (.int .i64 om) := by rw [cell_of_block O7.out]; rfl
    have oq7_3 : w7.cell? ⟨w.heap.size, 3, none⟩ = some (.int .i64 of) := by rw [cell_of_block O7.out]; rfl
    have oq7_4 : w7.cell? ⟨w.heap.size, 4, none⟩ = some (.int .i64 ot) := by rw [cell_of_block O7.out]; rfl
    clear hb7 cq6_0 cq6_1 cq6_2 cq6_3 oq6_0 oq6_1 oq6_2 oq6_3 oq6_4 dq6_0 dq6_1 dq6_2 dq6_3 C6 O6 D6 B6 I6 J6
    have e00 : ((0 : Int) != 0) = false := rfl
    have ebb : ((ta == ta) = true) := by simp
    have ebc : ((tbb == tbb) = true) := by simp
    by_cases c2 : ok = 2
    · subst c2
      obtain ⟨h1, h2, h3, h4⟩ := Hk2.out rfl
      have g1 : (ya != on) = true := by simpa using h1
      have g2 : (yb != on) = true := by simpa using h2
      clear Hk2 Hk3 Hko
      by_cases e1 : ta = on
      · have k1 : (ta != on) = false := by simpa using e1
        have e2 : tbb ≠ on := fun e => hne (by rw [e1, e])
        have e4 := h4 e2
        subst e4
        clear h1 h2 h3 h4 hne e2 e1
        by_cases e3 : ya = ta
        · have k3 : (ya == ta) = true := by simpa using e3
          clear e3
          go_wp2
          go_ret
          exact ⟨rfl, B7.out⟩
        · have k3 : (ya == ta) = false := by simpa using e3
          clear e3
          go_wp2
          go_ret
          exact ⟨rfl, B7.out⟩
      · have k1 : (ta != on) = true := by simpa using e1
        have e4 := h3 e1
        subst e4
        by_cases e2 : tbb = on
        · have k2 : (tbb != on) = false := by simpa using e2
          clear h1 h2 h3 h4 hne e2 e1
          go_wp2
          go_ret
          exact ⟨rfl, B7.out⟩
        · have k2 : (tbb != on) = true := by simpa using e2
          have e5 := h4 e2
          subst e5
          clear h1 h2 h3 h4 hne e2 e1
          go_wp2
          go_ret
          exact ⟨rfl, B7.out⟩
    · have g2 : (ok == 2) = false := by simpa using c2
      by_cases c3 : ok = 3
      · subst c3
        obtain ⟨h1, h2⟩ := Hk3.out rfl
        have eon : (on == on) = true := by simp
        have eom : (om == om) = true := by simp
        clear Hk2 Hk3 Hko g2 c2
        by_cases f1 : of ≤ b
        · by_cases f2 : b < ot
          · have hy' := h1 ⟨f1, f2⟩
            injection hy' with y1 y2
            subst y1
            subst y2
            clear h1 h2
            go_wp2
            go_ret
            exact ⟨rfl, B7.out⟩
          · have hy' := h2 (fun h => f2 h.2)
            injection hy' with y1 y2
            subst y1
            subst y2
            clear h1 h2
            go_wp2
            go_ret
            exact ⟨rfl, B7.out⟩
        · have hy' := h2 (fun h => f1 h.1)
          injection hy' with y1 y2
          subst y1
          subst y2
          clear h1 h2
          go_wp2
          go_ret
          exact ⟨rfl, B7.out⟩
      · have g3 : (ok == 3) = false := by simpa using c3
        have hy' := Hko.out c2 c3
        injection hy' with y1 y2
        subst y1
        subst y2
        clear Hk2 Hk3 Hko c2 c3
        go_wp2
        go_ret
        exact ⟨rfl, B7.out⟩
end Go.Proofs.YtkmaepefpcpckaaDoor
