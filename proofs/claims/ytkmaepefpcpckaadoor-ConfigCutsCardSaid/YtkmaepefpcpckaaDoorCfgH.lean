/- Walk of layer 12's leave. -/
import Derived.Test.YtkmaepefpcpckaaDoorCfgG
import Derived.Test.YtkmaepefpcpckaaDoorCfgMathB
set_option linter.unusedVariables false
set_option linter.unusedSimpArgs false
namespace Go.Proofs.YtkmaepefpcpckaaDoor
open Go.RowKit

theorem Tryd.idx0 (x y : Addr) (w : World) : (Instr.index 150 (.agg #[.pointer (some x), .pointer (some y), .pointer (some y), .pointer (some x)]) (.int .i64 0)).run Tryd.prog w = .ok (.agg #[.pointer (some x), .pointer (some y)]) w := by kernel_rfl
theorem Tryd.idx1 (x y : Addr) (w : World) : (Instr.index 150 (.agg #[.pointer (some x), .pointer (some y), .pointer (some y), .pointer (some x)]) (.int .i64 1)).run Tryd.prog w = .ok (.agg #[.pointer (some y), .pointer (some x)]) w := by kernel_rfl

set_option maxRecDepth 100000 in
set_option maxHeartbeats 1600000 in
theorem leave_ok (w : World) (cb base : Nat) (c : Cf.Cfg) (o : Cf.Ord) (sv pv : Value) (h : CBox w cb base c sv pv) (hl : c.sv.length ≤ 1000) (hp : c.pt.length ≤ 1000)
    (k1 : Cf.hasB c.sv o.n = true) (k2 : ¬ c.sv.length ≤ 2) (k3 : Cf.chkS (-1) c.sv = true) :
    Calls Tryd.prog 80 #[.pointer (some ⟨cb, 0, none⟩), ordV o] w (Did w cb base (Cf.leave c o)) := by
  obtain ⟨ep, ss, ps, tb⟩ := c
  obtain ⟨ok, on, om, of, ot⟩ := o
  obtain ⟨hbox, hsv, hpv, hcb, hbase⟩ := h
  dsimp only at *
  unfold ordV
  dsimp only
  have hlt := lt_of_blk hbox
  have q0 : w.cell? ⟨cb, 0, none⟩ = some (.int .i64 ep) := by rw [cell_of_block hbox]; rfl
  have q1 : w.cell? ⟨cb, 1, none⟩ = some sv := by rw [cell_of_block hbox]; rfl
  have q2 : w.cell? ⟨cb, 2, none⟩ = some pv := by rw [cell_of_block hbox]; rfl
  have q3 : w.cell? ⟨cb, 3, none⟩ = some (.int .i64 tb) := by rw [cell_of_block hbox]; rfl
  have hs := own_sl hsv (by omega)
  have hp' := own_sl hpv (by omega)
  obtain ⟨ss2, hss2⟩ : ∃ ss2, ss2 = Cf.without ss on := ⟨_, rfl⟩
  have Hss2 := Lib.hid hss2
  have Hf := Lib.hid (show Cf.leave ⟨ep, ss, ps, tb⟩ ⟨ok, on, om, of, ot⟩ = (0, ⟨ep, ss2, Cf.joined (ps.map (Cf.replP ss2 on)), tb⟩) by simp [Cf.leave, k1, k2, hss2])
  obtain ⟨r, hr⟩ : ∃ r, r = Cf.leave ⟨ep, ss, ps, tb⟩ ⟨ok, on, om, of, ot⟩ := ⟨_, rfl⟩
  rw [← hr] at Hf ⊢
  clear hr
  have hpw := (chkS_lt ss (-1) k3).2
  have Hix := Lib.hid (show ∀ y : Int, ∃ (m : Nat) (z : Int), Cf.firstNe y ss2 0 = (m : Int) ∧ m < ss2.length ∧ ss2.getD m 0 = z from fun y => by
    obtain ⟨h1, h2, z, h3, -⟩ := firstNe_at y ss2 0 (by omega) (by rw [hss2]; exact without_other ss on y hpw (by omega))
    refine ⟨(Cf.firstNe y ss2 0).toNat, z, by omega, by omega, ?_⟩
    rw [show (Cf.firstNe y ss2 0 - 0).toNat = (Cf.firstNe y ss2 0).toNat by simp] at h3
    simp [List.getD_eq_getElem?_getD, h3])
  have hl2 : ss2.length ≤ ss.length := by rw [hss2]; exact List.length_filter_le _ _
  clear hss2 hpw k3
  obtain ⟨g, cap, hsvf, hgb, hgl⟩ := hsv.form (by omega)
  subst hsvf
  go_enter Tryd.func80, Tryd.ntmps80
  go_wp2_with fail
  go_region_held3 (fun w' => w'.cell? ⟨cb, 0, none⟩ = some (.int .i64 ep) ∧ w'.cell? ⟨cb, 1, none⟩ = some (.slice (some ⟨g, 0, none⟩) ss.length cap) ∧ w'.cell? ⟨cb, 2, none⟩ = some pv ∧ w'.cell? ⟨cb, 3, none⟩ = some (.int .i64 tb) ∧ w'.cell? ⟨w.heap.size, 1, none⟩ = some (.int .i64 on)) (go_keep)
    (first | (go_at_call 31; refine (has_is ss on true k1 ep tb _ pv ps.length (Cf.parts ps) _ (by exact hs.alloc _) (by exact hp'.alloc _)).mono ?_; rintro e w1 ⟨rfl, hb1⟩; have hcc : ∀ o, w1.cell? ⟨cb, o, none⟩ = w.cell? ⟨cb, o, none⟩ := (fun o => by rw [(bcell hb1).1 _ _ (by simp; omega)]; go_simp); have hco : w1.cell? ⟨w.heap.size, 1, none⟩ = some (.int .i64 on) := (by rw [(bcell hb1).1 _ _ (by simp)]; go_simp)))
  have HB1 := Lib.hid (((Below.refl _ w).alloc (Nat.le_refl _) (.cells #[.int .i64 ok, .int .i64 on, .int .i64 om, .int .i64 of, .int .i64 ot] 26)).drew.trans (hb1.mono (by simp)))
  have OB1 := Lib.hid (show w1.heap[w.heap.size]? = some (.cells #[.int .i64 ok, .int .i64 on, .int .i64 om, .int .i64 of, .int .i64 ot] 26 (0, 0)) by
    rw [hb1.block _ (by simp)]; exact heap_alloc_new w _)
  have hz1 : w.heap.size < w1.heap.size := by have := hb1.size; simp at this; omega
  have Kw := Keep.of_below (S := fun k => k < w.heap.size) HB1.out (fun k hk => hk)
  have Sv1 := Lib.hid (Kw.owns hsv (fun k hk => (hsv.lt k hk).2))
  have Pv1 := Lib.hid (Kw.owns hpv (fun k hk => (hpv.lt k hk).2))
  have Bx1 := Lib.hid ((HB1.out.block cb hlt).trans hbox)
  have g1 : w1.cell? ⟨cb, 1, none⟩ = some (.slice (some ⟨g, 0, none⟩) ss.length cap) := by rw [cell_of_block Bx1.out]; rfl
  clear hcc q0 q1 q2 q3 hs hp' hbox hsv hpv hb1 Kw
  go_wp2_with fail
  refine (del_own w1 base g cap w.heap.size on ss Sv1.out (by omega) (by omega) hco).mono ?_
  rintro e w2 ⟨rfl, hown2, hg2⟩
  rw [show (ss.filter fun x => !(x == on)) = ss2 from Hss2.out.symm] at hown2 ⊢
  have hz2 : w1.heap.size ≤ w2.heap.size := hg2.size
  have hcg : cb ≠ g := fun e => by have := own_ne_block Sv1.out Bx1.out (by decide); rw [e] at this; exact this rfl
  have Bx2 := Lib.hid ((hg2.block cb (by omega) (fun e => hcg (by injection e))).trans Bx1.out)
  have OB2 := Lib.hid ((hg2.block w.heap.size (by omega) (fun e => by injection e with e; omega)).trans OB1.out)
  have Pv2 := Lib.hid (Pv1.out.kept hg2 (own_ne Pv1.out Sv1.out (by decide)))
  have g2 : w2.cell? ⟨cb, 1, none⟩ = some (.slice (some ⟨g, 0, none⟩) ss.length cap) := by rw [cell_of_block Bx2.out]; rfl
  have f2 : w2.frozen? ⟨cb, 1, none⟩ = false := free_of_block Bx2.out
  have Sv2 := Lib.hid (ownsRow_setCell_other (a := ⟨cb, 1, none⟩) hown2 (fun e => hcg (by injection e with e; exact e.symm)) (.slice (some ⟨g, 0, none⟩) ss2.length cap))
  have Pv3 := Lib.hid (ownsRow_setCell_other (a := ⟨cb, 1, none⟩) Pv2.out (own_ne_block Pv2.out Bx2.out (by decide)) (.slice (some ⟨g, 0, none⟩) ss2.length cap))
  have Bx3 := Lib.hid (block_setCell (o := 1) Bx2.out (.slice (some ⟨g, 0, none⟩) ss2.length cap))
  have OB3 := Lib.hid ((Below.heap_setCell w2 ⟨cb, 1, none⟩ (.slice (some ⟨g, 0, none⟩) ss2.length cap) w.heap.size (by show w.heap.size ≠ cb; omega)).trans OB2.out)
  have K3 := Lib.hid (show Keep (fun k => k < base ∧ k ≠ cb) w (w2.setCell ⟨cb, 1, none⟩ (.slice (some ⟨g, 0, none⟩) ss2.length cap)) from
    ((Keep.of_below HB1.out (fun k (hk : k < base ∧ k ≠ cb) => by omega)).grown hg2 (fun k hk => by omega) (fun k hk => by injection hk with hk; omega)).setCell (p := ⟨cb, 1, none⟩) (fun (h : cb < base ∧ cb ≠ cb) => h.2 rfl) _)
  clear hco hown2 hg2 g1 Bx1 OB1 Sv1 Pv1 HB1 Bx2 OB2 Pv2
  obtain ⟨A, cc, hpvf⟩ : ∃ A cc, pv = .slice A ps.length cc := by
    rcases Pv3.out.2 with ⟨hv, h0⟩ | ⟨g', cap', cur, hv, -⟩
    · exact ⟨none, 0, by rw [h0]; exact hv⟩
    · exact ⟨_, cap', hv⟩
  subst hpvf
  have w3e : ∃ w3, w3 = w2.setCell ⟨cb, 1, none⟩ (.slice (some ⟨g, 0, none⟩) ss2.length cap) := ⟨_, rfl⟩
  obtain ⟨w3, hw3⟩ := w3e
  go_upto_region 6 with fail
  rw [← hw3] at Sv2 Pv3 Bx3 OB3 K3 ⊢
  have hz3 : w.heap.size < w3.heap.size := lt_of_blk OB3.out
  clear hw3 g2 f2
  have g32 : w3.cell? ⟨cb, 2, none⟩ = some (.slice A ps.length cc) := by rw [cell_of_block Bx3.out]; rfl
  have px0 : Hid (half (Cf.replP ss2 on) ps 0 = ps) := half_zero _ _
  have Pv4 : Hid (w3.ownsRow base 69 4 (.slice A ps.length cc) ps.length (Cf.parts (half (Cf.replP ss2 on) ps 0))) := by rw [px0.out]; exact Pv3
  clear Pv3 px0
  go_wp2
  go_loopw [38] (fun i wr => ∃ k : Nat, k ≤ ps.length ∧ i = .int .i64 k ∧ Keep (fun k => k < base ∧ k ≠ cb) w3 wr ∧ w3.heap.size ≤ wr.heap.size ∧
      wr.heap[cb]? = some (.cells #[.int .i64 ep, .slice (some ⟨g, 0, none⟩) ss2.length cap, .slice A ps.length cc, .int .i64 tb] 31 (0, 0)) ∧
      wr.heap[w.heap.size]? = some (.cells #[.int .i64 ok, .int .i64 on, .int .i64 om, .int .i64 of, .int .i64 ot] 26 (0, 0)) ∧
      wr.ownsRow base 3 1 (.slice (some ⟨g, 0, none⟩) ss2.length cap) ss2.length (Cf.ints ss2) ∧
      wr.ownsRow base 69 4 (.slice A ps.length cc) ps.length (Cf.parts (half (Cf.replP ss2 on) ps k))) (fun i _ => ps.length - (intOf i).toNat)
  case atStart => exact ⟨0, by omega, rfl, Keep.refl _ _, Nat.le_refl _, Bx3.out, OB3.out, Sv2.out, Pv4.out⟩
  case round =>
    clear Sv2 Pv4 Bx3 OB3 g32
    obtain ⟨wo, rfl⟩ : ∃ wo : World, wo = wr := ⟨_, rfl⟩
    obtain ⟨k, hk, rfl, hkeep, hzr, hbx, hob, hsv, hpv⟩ := hrel
    have HK := Lib.hid hkeep
    have Bx := Lib.hid hbx
    have OB := Lib.hid hob
    have Sv := Lib.hid hsv
    have Pv := Lib.hid hpv
    have lt1 := lt_of_blk hbx
    have lt2 := lt_of_blk hob
    clear hkeep hbx hob hsv hpv
    by_cases hlt' : k < ps.length
    · obtain ⟨pg, pcap, hA, hpgb, hpgl⟩ := Pv.out.form (by omega)
      injection hA with hA1 hA2 hA3
      subst hA1
      subst hA3
      have hhl := half_len (Cf.replP ss2 on) ps k
      have hg := parts_get (half (Cf.replP ss2 on) ps k) k (by omega)
      rw [half_get _ _ _ hlt'] at hg
      obtain ⟨p, hp'⟩ : ∃ p, p = ps[k] := ⟨_, rfl⟩
      rw [← hp'] at hg
      have Hset := Lib.hid (half_set (Cf.replP ss2 on) ps k hlt')
      rw [← hp'] at Hset
      clear hp' hA2
      obtain ⟨pf, pt, pa, pbb⟩ := p
      dsimp only at hg
      have p0 : wo.cell? ⟨pg, k * 4, none⟩ = some (.int .i64 pf) := by rw [Pv.out.cellAt _ (by omega), hg.1]
      have p1 : wo.cell? ⟨pg, k * 4 + 1, none⟩ = some (.int .i64 pt) := by rw [Pv.out.cellAt _ (by omega), hg.2.1]
      have p2 : wo.cell? ⟨pg, k * 4 + 2, none⟩ = some (.int .i64 pa) := by rw [Pv.out.cellAt _ (by omega), hg.2.2.1]
      have p3 : wo.cell? ⟨pg, k * 4 + 3, none⟩ = some (.int .i64 pbb) := by rw [Pv.out.cellAt _ (by omega), hg.2.2.2]
      have Hg := Lib.hid hg
      clear hg
      obtain ⟨px, hpx⟩ : ∃ px, px = wo.heap.size := ⟨_, rfl⟩
      have hbx0 : (wo.alloc (.cells #[.int .i64 pf, .int .i64 pt, .int .i64 pa, .int .i64 pbb] 69)).heap[px]? = some (.cells #[.int .i64 pf, .int .i64 pt, .int .i64 pa, .int .i64 pbb] 69 (0, 0)) := by rw [hpx]; exact heap_alloc_new wo _
      have HX0 := Lib.hid hbx0
      have hkx : Keep (fun k => k < px) wo (wo.alloc (.cells #[.int .i64 pf, .int .i64 pt, .int .i64 pa, .int .i64 pbb] 69)) := (Keep.refl _ _).alloc (fun k hk => by rw [← hpx]; exact hk) _
      have HKX := Lib.hid hkx
      have hpl : px < (wo.alloc (.cells #[.int .i64 pf, .int .i64 pt, .int .i64 pa, .int .i64 pbb] 69)).heap.size := by simp [hpx]
      have Hpl := Lib.hid hpl
      have Hpx := Lib.hid hpx
      clear hbx0 hkx hpl
      go_wp2
      rw [← Hpx.out]
      clear hpx
      go_loopw [50] (fun j wi => ∃ (n : Nat) (A1 B1 : Int), j = .int .i64 n ∧ (n = 0 ∧ A1 = pa ∧ B1 = pbb ∨ n = 1 ∧ A1 = Cf.repl ss2 on pa pbb ∧ B1 = pbb ∨ n = 2 ∧ A1 = Cf.repl ss2 on pa pbb ∧ B1 = Cf.repl ss2 on pbb (Cf.repl ss2 on pa pbb)) ∧
        wi.heap[px]? = some (.cells #[.int .i64 pf, .int .i64 pt, .int .i64 A1, .int .i64 B1] 69 (0, 0)) ∧ Keep (fun k => k < px) wo wi ∧ px < wi.heap.size) (fun j _ => 2 - (intOf j).toNat)
      case atStart => exact ⟨0, pa, pbb, rfl, .inl ⟨rfl, rfl, rfl⟩, HX0.out, HKX.out, Hpl.out⟩
      case round =>
        clear HX0 HKX Hpl p0 p1 p2 p3
        obtain ⟨n, A1, B1, rfl, hst, hxb, hki, hpi⟩ := hrel
        have HX := Lib.hid hxb
        have HKi := Lib.hid hki
        have c0 : wr.cell? ⟨px, 0, none⟩ = some (.int .i64 pf) := by rw [cell_of_block hxb]; rfl
        have c1 : wr.cell? ⟨px, 1, none⟩ = some (.int .i64 pt) := by rw [cell_of_block hxb]; rfl
        have c2 : wr.cell? ⟨px, 2, none⟩ = some (.int .i64 A1) := by rw [cell_of_block hxb]; rfl
        have c3 : wr.cell? ⟨px, 3, none⟩ = some (.int .i64 B1) := by rw [cell_of_block hxb]; rfl
        have fx2 : wr.frozen? ⟨px, 2, none⟩ = false := free_of_block hxb
        have fx3 : wr.frozen? ⟨px, 3, none⟩ = false := free_of_block hxb
        have ltx1 : cb < px := by have := Hpx.out; omega
        have ltx2 : w.heap.size < px := by have := Hpx.out; omega
        have Bi := Lib.hid ((hki.block cb ltx1).trans Bx.out)
        have Oi := Lib.hid ((hki.block w.heap.size ltx2).trans OB.out)
        have Si := Lib.hid (hki.owns Sv.out (fun k hk => by have := (Sv.out.lt k hk).2; have := Hpx.out; omega))
        have b1 : wr.cell? ⟨cb, 1, none⟩ = some (.slice (some ⟨g, 0, none⟩) ss2.length cap) := by rw [cell_of_block Bi.out]; rfl
        have d1' : wr.cell? ⟨w.heap.size, 1, none⟩ = some (.int .i64 on) := by rw [cell_of_block Oi.out]; rfl
        have sl2 := own_sl Si.out (by omega)
        have hs2W : ∀ o, Sl (wr.alloc o) (.slice (some ⟨g, 0, none⟩) ss2.length cap) ss2.length 1 (Cf.ints ss2) := fun o => sl2.alloc o
        have lti1 : cb < wr.heap.size := by omega
        have lti2 : w.heap.size < wr.heap.size := by omega
        have ltg : g < wr.heap.size := (Si.out.lt g rfl).2
        clear hxb hki sl2
        have ix0 := fun W => Tryd.idx0 ⟨px, 2, none⟩ ⟨px, 3, none⟩ W
        have ix1 := fun W => Tryd.idx1 ⟨px, 2, none⟩ ⟨px, 3, none⟩ W
        rcases hst with ⟨rfl, rfl, rfl⟩ | ⟨rfl, ha1, rfl⟩ | ⟨rfl, ha1, hb1⟩
        · skip
          by_cases e1 : A1 = on
          · have d1 : (A1 == on) = true := by simpa using e1
            obtain ⟨m, z, hm1, hm2, hz⟩ := Hix.out B1
            have Hm := Lib.hid hm1
            have hm3 : (0 : Int) ≤ (m : Int) := by omega
            have hm4 : (m : Int) < (ss2.length : Int) := by omega
            have cz : wr.cell? ⟨g, m, none⟩ = some (.int .i64 z) := by rw [Si.out.cellAt m (by omega), ints_get ss2 m hm2, hz]
            have Hrep := Lib.hid (show Cf.repl ss2 on A1 B1 = z by unfold Cf.repl; rw [if_pos e1, hm1]; simpa using hz)
            clear hm1 e1
            go_wp2
            go_quiet (fail)
            go_wp2
            refine wp_region_canon (fun p w' => (p = 1 → w'.cell? ⟨wr.heap.size, 0, none⟩ = some (.pointer (some ⟨px, 2, none⟩))) ∧ ((p = 5 ∨ p = 9) → w'.cell? ⟨cb, 1, none⟩ = some (.slice (some ⟨g, 0, none⟩) ss2.length cap)) ∧ (p = 13 → w'.cell? ⟨g, m, none⟩ = some (.int .i64 z))) [11, 15] (by kernel_rfl) ?_
            refine canon_ex 0 (some 60) rfl rfl rfl (by kernel_rfl) (by kernel_rfl) (by kernel_rfl) (fun _ _ _ _ h => h) rfl ⟨_, (fun w' hS => by go_simp; rfl), by simp [*, World.cell?_alloc_some], ?_⟩
            intro a' ha; simp only [Act.put, List.setIfInBounds_toArray, List.set_cons_zero, List.set_cons_succ] at ha; subst ha
            refine canon_ex 1 (some 61) rfl rfl rfl (by kernel_rfl) (by kernel_rfl) (by kernel_rfl) (fun _ _ _ _ h => h) rfl ⟨_, (fun w' hS => by go_simp; rfl), by simp [*, World.cell?_alloc_some], ?_⟩
            intro a' ha; simp only [Act.put, List.setIfInBounds_toArray, List.set_cons_zero, List.set_cons_succ] at ha; subst ha
            refine canon_ex 2 (some 62) rfl rfl rfl (by kernel_rfl) (by kernel_rfl) (by kernel_rfl) (fun _ _ _ _ h => h) rfl ⟨_, (fun w' hS => by go_simp; rfl), by simp [*, World.cell?_alloc_some], ?_⟩
            intro a' ha; simp only [Act.put, List.setIfInBounds_toArray, List.set_cons_zero, List.set_cons_succ] at ha; subst ha
            refine canon_ex 3 (some 63) rfl rfl rfl (by kernel_rfl) (by kernel_rfl) (by kernel_rfl) (fun _ _ _ _ h => h) rfl ⟨_, (fun w' hS => by go_simp; rfl), by simp [*, World.cell?_alloc_some], ?_⟩
            intro a' ha; simp only [Act.put, List.setIfInBounds_toArray, List.set_cons_zero, List.set_cons_succ] at ha; subst ha
            refine canon_ex 4 (some 64) rfl rfl rfl (by kernel_rfl) (by kernel_rfl) (by kernel_rfl) (fun _ _ _ _ h => h) rfl ⟨_, (fun w' hS => by go_simp; rfl), by simp [*, World.cell?_alloc_some], ?_⟩
            intro a' ha; simp only [Act.put, List.setIfInBounds_toArray, List.set_cons_zero, List.set_cons_succ] at ha; subst ha
            refine canon_ex 5 (some 65) rfl rfl rfl (by kernel_rfl) (by kernel_rfl) (by kernel_rfl) (fun _ _ _ _ h => h) rfl ⟨_, (fun w' hS => by go_simp; rfl), by simp [*, World.cell?_alloc_some], ?_⟩
            intro a' ha; simp only [Act.put, List.setIfInBounds_toArray, List.set_cons_zero, List.set_cons_succ] at ha; subst ha
            refine canon_ex 6 (some 66) rfl rfl rfl (by kernel_rfl) (by kernel_rfl) (by kernel_rfl) (fun _ _ _ _ h => h) rfl ⟨_, (fun w' hS => by go_simp; rfl), by simp [*, World.cell?_alloc_some], ?_⟩
            intro a' ha; simp only [Act.put, List.setIfInBounds_toArray, List.set_cons_zero, List.set_cons_succ] at ha; subst ha
            refine canon_ex 7 (some 67) rfl rfl rfl (by kernel_rfl) (by kernel_rfl) (by kernel_rfl) (fun _ _ _ _ h => h) rfl ⟨_, (fun w' hS => by go_simp; rfl), by simp [*, World.cell?_alloc_some], ?_⟩
            intro a' ha; simp only [Act.put, List.setIfInBounds_toArray, List.set_cons_zero, List.set_cons_succ] at ha; subst ha
            refine canon_ex 8 (some 68) rfl rfl rfl (by kernel_rfl) (by kernel_rfl) (by kernel_rfl) (fun _ _ _ _ h => h) rfl ⟨_, (fun w' hS => by go_simp; rfl), by simp [*, World.cell?_alloc_some], ?_⟩
            intro a' ha; simp only [Act.put, List.setIfInBounds_toArray, List.set_cons_zero, List.set_cons_succ] at ha; subst ha
            refine canon_ex 9 (some 69) rfl rfl rfl (by kernel_rfl) (by kernel_rfl) (by kernel_rfl) (fun _ _ _ _ h => h) rfl ⟨_, (fun w' hS => by go_simp; rfl), by simp [*, World.cell?_alloc_some], ?_⟩
            intro a' ha; simp only [Act.put, List.setIfInBounds_toArray, List.set_cons_zero, List.set_cons_succ] at ha; subst ha
            refine canon_ex 10 (some 70) rfl rfl rfl (by kernel_rfl) (by kernel_rfl) (by kernel_rfl) (fun _ _ _ _ h => h) rfl ⟨_, (fun w' hS => by go_simp; rfl), by simp [*, World.cell?_alloc_some], ?_⟩
            intro a' ha; simp only [Act.put, List.setIfInBounds_toArray, List.set_cons_zero, List.set_cons_succ] at ha; subst ha
            refine canon_act 11 [1, 5, 9, 13] [1, 5] rfl (by kernel_rfl) (fun p w h => by simp at h; simp [h]) (by kernel_rfl) ?_
            intro K hK
            go_wp2_with fail
            refine (ifunc2_any B1 wr.heap.size px 3 ss2 _ _ (by exact hs2W _) (by go_simp) (by go_simp)).mono ?_
            rintro e w' ⟨rfl, rfl⟩
            rw [Hm.out]
            go_wp2
            refine hK _ _ (by first | (simp [*, World.cell?_alloc_some]; done) | (simp; go_simp; done)) ?_
            clear hK
            refine canon_ex 12 (some 72) rfl rfl rfl (by kernel_rfl) (by kernel_rfl) (by kernel_rfl) (fun _ _ _ _ h => h) rfl ⟨_, (fun w' hS => by go_simp; rfl), by simp [*, World.cell?_alloc_some], ?_⟩
            intro a' ha; simp only [Act.put, List.setIfInBounds_toArray, List.set_cons_zero, List.set_cons_succ] at ha; subst ha
            refine canon_ex 13 (some 73) rfl rfl rfl (by kernel_rfl) (by kernel_rfl) (by kernel_rfl) (fun _ _ _ _ h => h) rfl ⟨_, (fun w' hS => by go_simp; rfl), by simp [*, World.cell?_alloc_some], ?_⟩
            intro a' ha; simp only [Act.put, List.setIfInBounds_toArray, List.set_cons_zero, List.set_cons_succ] at ha; subst ha
            refine canon_ex 14 (some 74) rfl rfl rfl (by kernel_rfl) (by kernel_rfl) (by kernel_rfl) (fun _ _ _ _ h => h) rfl ⟨_, (fun w' hS => by go_simp; rfl), by simp [*, World.cell?_alloc_some], ?_⟩
            intro a' ha; simp only [Act.put, List.setIfInBounds_toArray, List.set_cons_zero, List.set_cons_succ] at ha; subst ha
            refine canon_act 15 [1, 5, 9, 13] [] rfl (by kernel_rfl) (fun p w h => by simp at h; simp [h]) (by kernel_rfl) ?_
            intro K hK
            go_wp2
            refine hK _ _ (by first | (simp [*, World.cell?_alloc_some]; done) | (simp; go_simp; done)) ?_
            clear hK
            refine canon_done ?_ ?_
            · kernel_rfl
            go_wp2
            go_roundw
            case rel =>
              have hblk : ((wr.alloc (.cells #[.pointer (some ⟨px, 2, none⟩), .pointer (some ⟨px, 3, none⟩)] 149)).drewN (nq + 1)).heap[px]? = some (.cells #[.int .i64 pf, .int .i64 pt, .int .i64 A1, .int .i64 B1] 69 (0, 0)) := (heap_alloc_old wr _ hpi).trans HX.out
              exact ⟨1, z, B1, rfl, .inr (.inl ⟨rfl, Hrep.out.symm, rfl⟩), block_setCell (o := 2) hblk (.int .i64 z), ((HKi.out.alloc (fun k hk => by omega) (.cells #[.pointer (some ⟨px, 2, none⟩), .pointer (some ⟨px, 3, none⟩)] 149)).drewN (nq + 1)).setCell (p := ⟨px, 2, none⟩) (fun (h : px < px) => by omega) (.int .i64 z), by simp only [World.size_setCell, World.heap_drewN, World.size_alloc]; omega⟩
            case measure => simp [intOf]; try omega
          · have d1 : (A1 == on) = false := by simpa using e1
            have Hrep := Lib.hid (show Cf.repl ss2 on A1 B1 = A1 by unfold Cf.repl; rw [if_neg e1])
            clear e1
            go_wp2
            go_quiet (fail)
            go_wp2
            go_roundw
            case rel =>
              have hblk : ((wr.alloc (.cells #[.pointer (some ⟨px, 2, none⟩), .pointer (some ⟨px, 3, none⟩)] 149)).drewN nq).heap[px]? = some (.cells #[.int .i64 pf, .int .i64 pt, .int .i64 A1, .int .i64 B1] 69 (0, 0)) := (heap_alloc_old wr _ hpi).trans HX.out
              exact ⟨1, A1, B1, rfl, .inr (.inl ⟨rfl, Hrep.out.symm, rfl⟩), hblk, (HKi.out.alloc (fun k hk => by omega) (.cells #[.pointer (some ⟨px, 2, none⟩), .pointer (some ⟨px, 3, none⟩)] 149)).drewN nq, by simp only [World.heap_drewN, World.size_alloc]; omega⟩
            case measure => simp [intOf]; try omega
        · have Ha1 := Lib.hid ha1
          clear ha1
          by_cases e1 : B1 = on
          · have d1 : (B1 == on) = true := by simpa using e1
            obtain ⟨m, z, hm1, hm2, hz⟩ := Hix.out A1
            have Hm := Lib.hid hm1
            have hm3 : (0 : Int) ≤ (m : Int) := by omega
            have hm4 : (m : Int) < (ss2.length : Int) := by omega
            have cz : wr.cell? ⟨g, m, none⟩ = some (.int .i64 z) := by rw [Si.out.cellAt m (by omega), ints_get ss2 m hm2, hz]
            have Hrep := Lib.hid (show Cf.repl ss2 on B1 A1 = z by unfold Cf.repl; rw [if_pos e1, hm1]; simpa using hz)
            clear hm1 e1
            go_wp2
            go_quiet (fail)
            go_wp2
            refine wp_region_canon (fun p w' => (p = 1 → w'.cell? ⟨wr.heap.size, 0, none⟩ = some (.pointer (some ⟨px, 3, none⟩))) ∧ ((p = 5 ∨ p = 9) → w'.cell? ⟨cb, 1, none⟩ = some (.slice (some ⟨g, 0, none⟩) ss2.length cap)) ∧ (p = 13 → w'.cell? ⟨g, m, none⟩ = some (.int .i64 z))) [11, 15] (by kernel_rfl) ?_
            refine canon_ex 0 (some 60) rfl rfl rfl (by kernel_rfl) (by kernel_rfl) (by kernel_rfl) (fun _ _ _ _ h => h) rfl ⟨_, (fun w' hS => by go_simp; rfl), by simp [*, World.cell?_alloc_some], ?_⟩
            intro a' ha; simp only [Act.put, List.setIfInBounds_toArray, List.set_cons_zero, List.set_cons_succ] at ha; subst ha
            refine canon_ex 1 (some 61) rfl rfl rfl (by kernel_rfl) (by kernel_rfl) (by kernel_rfl) (fun _ _ _ _ h => h) rfl ⟨_, (fun w' hS => by go_simp; rfl), by simp [*, World.cell?_alloc_some], ?_⟩
            intro a' ha; simp only [Act.put, List.setIfInBounds_toArray, List.set_cons_zero, List.set_cons_succ] at ha; subst ha
            refine canon_ex 2 (some 62) rfl rfl rfl (by kernel_rfl) (by kernel_rfl) (by kernel_rfl) (fun _ _ _ _ h => h) rfl ⟨_, (fun w' hS => by go_simp; rfl), by simp [*, World.cell?_alloc_some], ?_⟩
            intro a' ha; simp only [Act.put, List.setIfInBounds_toArray, List.set_cons_zero, List.set_cons_succ] at ha; subst ha
            refine canon_ex 3 (some 63) rfl rfl rfl (by kernel_rfl) (by kernel_rfl) (by kernel_rfl) (fun _ _ _ _ h => h) rfl ⟨_, (fun w' hS => by go_simp; rfl), by simp [*, World.cell?_alloc_some], ?_⟩
            intro a' ha; simp only [Act.put, List.setIfInBounds_toArray, List.set_cons_zero, List.set_cons_succ] at ha; subst ha
            refine canon_ex 4 (some 64) rfl rfl rfl (by kernel_rfl) (by kernel_rfl) (by kernel_rfl) (fun _ _ _ _ h => h) rfl ⟨_, (fun w' hS => by go_simp; rfl), by simp [*, World.cell?_alloc_some], ?_⟩
            intro a' ha; simp only [Act.put, List.setIfInBounds_toArray, List.set_cons_zero, List.set_cons_succ] at ha; subst ha
            refine canon_ex 5 (some 65) rfl rfl rfl (by kernel_rfl) (by kernel_rfl) (by kernel_rfl) (fun _ _ _ _ h => h) rfl ⟨_, (fun w' hS => by go_simp; rfl), by simp [*, World.cell?_alloc_some], ?_⟩
            intro a' ha; simp only [Act.put, List.setIfInBounds_toArray, List.set_cons_zero, List.set_cons_succ] at ha; subst ha
            refine canon_ex 6 (some 66) rfl rfl rfl (by kernel_rfl) (by kernel_rfl) (by kernel_rfl) (fun _ _ _ _ h => h) rfl ⟨_, (fun w' hS => by go_simp; rfl), by simp [*, World.cell?_alloc_some], ?_⟩
            intro a' ha; simp only [Act.put, List.setIfInBounds_toArray, List.set_cons_zero, List.set_cons_succ] at ha; subst ha
            refine canon_ex 7 (some 67) rfl rfl rfl (by kernel_rfl) (by kernel_rfl) (by kernel_rfl) (fun _ _ _ _ h => h) rfl ⟨_, (fun w' hS => by go_simp; rfl), by simp [*, World.cell?_alloc_some], ?_⟩
            intro a' ha; simp only [Act.put, List.setIfInBounds_toArray, List.set_cons_zero, List.set_cons_succ] at ha; subst ha
            refine canon_ex 8 (some 68) rfl rfl rfl (by kernel_rfl) (by kernel_rfl) (by kernel_rfl) (fun _ _ _ _ h => h) rfl ⟨_, (fun w' hS => by go_simp; rfl), by simp [*, World.cell?_alloc_some], ?_⟩
            intro a' ha; simp only [Act.put, List.setIfInBounds_toArray, List.set_cons_zero, List.set_cons_succ] at ha; subst ha
            refine canon_ex 9 (some 69) rfl rfl rfl (by kernel_rfl) (by kernel_rfl) (by kernel_rfl) (fun _ _ _ _ h => h) rfl ⟨_, (fun w' hS => by go_simp; rfl), by simp [*, World.cell?_alloc_some], ?_⟩
            intro a' ha; simp only [Act.put, List.setIfInBounds_toArray, List.set_cons_zero, List.set_cons_succ] at ha; subst ha
            refine canon_ex 10 (some 70) rfl rfl rfl (by kernel_rfl) (by kernel_rfl) (by kernel_rfl) (fun _ _ _ _ h => h) rfl ⟨_, (fun w' hS => by go_simp; rfl), by simp [*, World.cell?_alloc_some], ?_⟩
            intro a' ha; simp only [Act.put, List.setIfInBounds_toArray, List.set_cons_zero, List.set_cons_succ] at ha; subst ha
            refine canon_act 11 [1, 5, 9, 13] [1, 5] rfl (by kernel_rfl) (fun p w h => by simp at h; simp [h]) (by kernel_rfl) ?_
            intro K hK
            go_wp2_with fail
            refine (ifunc2_any A1 wr.heap.size px 2 ss2 _ _ (by exact hs2W _) (by go_simp) (by go_simp)).mono ?_
            rintro e w' ⟨rfl, rfl⟩
            rw [Hm.out]
            go_wp2
            refine hK _ _ (by first | (simp [*, World.cell?_alloc_some]; done) | (simp; go_simp; done)) ?_
            clear hK
            refine canon_ex 12 (some 72) rfl rfl rfl (by kernel_rfl) (by kernel_rfl) (by kernel_rfl) (fun _ _ _ _ h => h) rfl ⟨_, (fun w' hS => by go_simp; rfl), by simp [*, World.cell?_alloc_some], ?_⟩
            intro a' ha; simp only [Act.put, List.setIfInBounds_toArray, List.set_cons_zero, List.set_cons_succ] at ha; subst ha
            refine canon_ex 13 (some 73) rfl rfl rfl (by kernel_rfl) (by kernel_rfl) (by kernel_rfl) (fun _ _ _ _ h => h) rfl ⟨_, (fun w' hS => by go_simp; rfl), by simp [*, World.cell?_alloc_some], ?_⟩
            intro a' ha; simp only [Act.put, List.setIfInBounds_toArray, List.set_cons_zero, List.set_cons_succ] at ha; subst ha
            refine canon_ex 14 (some 74) rfl rfl rfl (by kernel_rfl) (by kernel_rfl) (by kernel_rfl) (fun _ _ _ _ h => h) rfl ⟨_, (fun w' hS => by go_simp; rfl), by simp [*, World.cell?_alloc_some], ?_⟩
            intro a' ha; simp only [Act.put, List.setIfInBounds_toArray, List.set_cons_zero, List.set_cons_succ] at ha; subst ha
            refine canon_act 15 [1, 5, 9, 13] [] rfl (by kernel_rfl) (fun p w h => by simp at h; simp [h]) (by kernel_rfl) ?_
            intro K hK
            go_wp2
            refine hK _ _ (by first | (simp [*, World.cell?_alloc_some]; done) | (simp; go_simp; done)) ?_
            clear hK
            refine canon_done ?_ ?_
            · kernel_rfl
            go_wp2
            go_roundw
            case rel =>
              have hblk : ((wr.alloc (.cells #[.pointer (some ⟨px, 3, none⟩), .pointer (some ⟨px, 2, none⟩)] 149)).drewN (nq + 1)).heap[px]? = some (.cells #[.int .i64 pf, .int .i64 pt, .int .i64 A1, .int .i64 B1] 69 (0, 0)) := (heap_alloc_old wr _ hpi).trans HX.out
              exact ⟨2, A1, z, rfl, .inr (.inr ⟨rfl, Ha1.out, by rw [← Ha1.out]; exact Hrep.out.symm⟩), block_setCell (o := 3) hblk (.int .i64 z), ((HKi.out.alloc (fun k hk => by omega) (.cells #[.pointer (some ⟨px, 3, none⟩), .pointer (some ⟨px, 2, none⟩)] 149)).drewN (nq + 1)).setCell (p := ⟨px, 3, none⟩) (fun (h : px < px) => by omega) (.int .i64 z), by simp only [World.size_setCell, World.heap_drewN, World.size_alloc]; omega⟩
            case measure => simp [intOf]; try omega
          · have d1 : (B1 == on) = false := by simpa using e1
            have Hrep := Lib.hid (show Cf.repl ss2 on B1 A1 = B1 by unfold Cf.repl; rw [if_neg e1])
            clear e1
            go_wp2
            go_quiet (fail)
            go_wp2
            go_roundw
            case rel =>
              have hblk : ((wr.alloc (.cells #[.pointer (some ⟨px, 3, none⟩), .pointer (some ⟨px, 2, none⟩)] 149)).drewN nq).heap[px]? = some (.cells #[.int .i64 pf, .int .i64 pt, .int .i64 A1, .int .i64 B1] 69 (0, 0)) := (heap_alloc_old wr _ hpi).trans HX.out
              exact ⟨2, A1, B1, rfl, .inr (.inr ⟨rfl, Ha1.out, by rw [← Ha1.out]; exact Hrep.out.symm⟩), hblk, (HKi.out.alloc (fun k hk => by omega) (.cells #[.pointer (some ⟨px, 3, none⟩), .pointer (some ⟨px, 2, none⟩)] 149)).drewN nq, by simp only [World.heap_drewN, World.size_alloc]; omega⟩
            case measure => simp [intOf]; try omega
        · skip; skip
          have Hrep := Lib.hid (show Cf.replP ss2 on ⟨pf, pt, pa, pbb⟩ = ⟨pf, pt, A1, B1⟩ by unfold Cf.replP; rw [ha1, hb1])
          clear ha1 hb1
          have Pi := Lib.hid (HKi.out.owns Pv.out (fun k hk => by have := (Pv.out.lt k hk).2; have := Hpx.out; omega))
          have b2 : wr.cell? ⟨cb, 2, none⟩ = some (.slice (some ⟨pg, 0, none⟩) ps.length cc) := by rw [cell_of_block Bi.out]; rfl
          have fr : ∀ j, wr.frozen? ⟨pg, j, none⟩ = false := fun j => Pi.out.frozenAt j
          have ltp : pg < wr.heap.size := (Pi.out.lt pg rfl).2
          have p0 : wr.cell? ⟨pg, k * 4, none⟩ = some (.int .i64 pf) := by rw [Pi.out.cellAt _ (by omega), Hg.out.1]
          have p1 : wr.cell? ⟨pg, k * 4 + 1, none⟩ = some (.int .i64 pt) := by rw [Pi.out.cellAt _ (by omega), Hg.out.2.1]
          have p2 : wr.cell? ⟨pg, k * 4 + 2, none⟩ = some (.int .i64 pa) := by rw [Pi.out.cellAt _ (by omega), Hg.out.2.2.1]
          have p3 : wr.cell? ⟨pg, k * 4 + 3, none⟩ = some (.int .i64 pbb) := by rw [Pi.out.cellAt _ (by omega), Hg.out.2.2.2]
          have hk1 : (0 : Int) ≤ (k : Int) := by omega
          have hk2 : (k : Int) < (ps.length : Int) := by omega
          go_wp2
          refine wp_region_canon (fun p w' => (p = 3 → w'.cell? ⟨cb, 2, none⟩ = some (.slice (some ⟨pg, 0, none⟩) ps.length cc)) ∧ (p = 5 → w'.cell? ⟨px, 0, none⟩ = some (.int .i64 pf) ∧ w'.cell? ⟨px, 1, none⟩ = some (.int .i64 pt) ∧ w'.cell? ⟨px, 2, none⟩ = some (.int .i64 A1) ∧ w'.cell? ⟨px, 3, none⟩ = some (.int .i64 B1))) [7] (by kernel_rfl) ?_
          refine canon_ex 0 (some 76) rfl rfl rfl (by kernel_rfl) (by kernel_rfl) (by kernel_rfl) (fun _ _ _ _ h => h) rfl ⟨_, (fun w' hS => by go_simp; rfl), by simp [*, World.cell?_alloc_some], ?_⟩
          intro a' ha; simp only [Act.put, List.setIfInBounds_toArray, List.set_cons_zero, List.set_cons_succ] at ha; subst ha
          refine canon_ex 1 (some 77) rfl rfl rfl (by kernel_rfl) (by kernel_rfl) (by kernel_rfl) (fun _ _ _ _ h => h) rfl ⟨_, (fun w' hS => by go_simp; rfl), by simp [*, World.cell?_alloc_some], ?_⟩
          intro a' ha; simp only [Act.put, List.setIfInBounds_toArray, List.set_cons_zero, List.set_cons_succ] at ha; subst ha
          refine canon_ex 2 (some 78) rfl rfl rfl (by kernel_rfl) (by kernel_rfl) (by kernel_rfl) (fun _ _ _ _ h => h) rfl ⟨_, (fun w' hS => by go_simp; rfl), by simp [*, World.cell?_alloc_some], ?_⟩
          intro a' ha; simp only [Act.put, List.setIfInBounds_toArray, List.set_cons_zero, List.set_cons_succ] at ha; subst ha
          refine canon_ex 3 (some 79) rfl rfl rfl (by kernel_rfl) (by kernel_rfl) (by kernel_rfl) (fun _ _ _ _ h => h) rfl ⟨_, (fun w' hS => by go_simp; rfl), by simp [*, World.cell?_alloc_some], ?_⟩
          intro a' ha; simp only [Act.put, List.setIfInBounds_toArray, List.set_cons_zero, List.set_cons_succ] at ha; subst ha
          refine canon_ex 4 (some 80) rfl rfl rfl (by kernel_rfl) (by kernel_rfl) (by kernel_rfl) (fun _ _ _ _ h => h) rfl ⟨_, (fun w' hS => by go_simp; rfl), by simp [*, World.cell?_alloc_some], ?_⟩
          intro a' ha; simp only [Act.put, List.setIfInBounds_toArray, List.set_cons_zero, List.set_cons_succ] at ha; subst ha
          refine canon_ex 5 (some 81) rfl rfl rfl (by kernel_rfl) (by kernel_rfl) (by kernel_rfl) (fun _ _ _ _ h => h) rfl ⟨_, (fun w' hS => by go_simp; rfl), by simp [*, World.cell?_alloc_some], ?_⟩
          intro a' ha; simp only [Act.put, List.setIfInBounds_toArray, List.set_cons_zero, List.set_cons_succ] at ha; subst ha
          refine canon_ex 6 (some 82) rfl rfl rfl (by kernel_rfl) (by kernel_rfl) (by kernel_rfl) (fun _ _ _ _ h => h) rfl ⟨_, (fun w' hS => by go_simp; rfl), by simp [*, World.cell?_alloc_some], ?_⟩
          intro a' ha; simp only [Act.put, List.setIfInBounds_toArray, List.set_cons_zero, List.set_cons_succ] at ha; subst ha
          refine canon_act 7 [3, 5] [] rfl (by kernel_rfl) (fun p w h => by simp at h; simp [h]) (by kernel_rfl) ?_
          intro K hK
          go_wp2
          refine hK _ _ (by first | (simp [*, World.cell?_alloc_some]; done) | (simp; go_simp; done)) ?_
          clear hK
          refine canon_done ?_ ?_
          · kernel_rfl
          go_wp2
          go_roundw
          case rel =>
            have hgp : g ≠ pg := fun e => by
              have := own_ne Si.out Pi.out (by decide)
              rw [e] at this
              rcases this with h | h
              · cases h
              · exact h rfl
            have hpx1 := Hpx.out
            have hst := (((Pi.out.stored (k * 4) (.int .i64 pf)).1.stored (k * 4 + 1) (.int .i64 pt)).1.stored (k * 4 + 2) (.int .i64 A1)).1.stored (k * 4 + 3) (.int .i64 B1)
            have h4 := parts_set4 (half (Cf.replP ss2 on) ps k) k (by omega) ⟨pf, pt, A1, B1⟩
            dsimp only at h4
            rw [h4] at hst
            have hset := Hset.out
            rw [Hrep.out] at hset
            rw [hset] at hst
            have hS4 := ownsRow_setCell_other (a := ⟨pg, k * 4 + 3, none⟩) (ownsRow_setCell_other (a := ⟨pg, k * 4 + 2, none⟩) (ownsRow_setCell_other (a := ⟨pg, k * 4 + 1, none⟩) (ownsRow_setCell_other (a := ⟨pg, k * 4, none⟩) Si.out (fun e => hgp (by injection e)) (.int .i64 pf)) (fun e => hgp (by injection e)) (.int .i64 pt)) (fun e => hgp (by injection e)) (.int .i64 A1)) (fun e => hgp (by injection e)) (.int .i64 B1)
            have ncb : pg ≠ cb := fun e => own_ne_block Pi.out Bi.out (by decide) (by rw [e]; rfl)
            have nob : pg ≠ w.heap.size := fun e => own_ne_block Pi.out Oi.out (by decide) (by rw [e]; rfl)
            have K4 := (((((Keep.refl (fun j => j ≠ pg) wr).setCell (p := ⟨pg, k * 4, none⟩) (fun h => h rfl) (.int .i64 pf)).setCell (p := ⟨pg, k * 4 + 1, none⟩) (fun h => h rfl) (.int .i64 pt)).setCell (p := ⟨pg, k * 4 + 2, none⟩) (fun h => h rfl) (.int .i64 A1)).setCell (p := ⟨pg, k * 4 + 3, none⟩) (fun h => h rfl) (.int .i64 B1)).drew
            exact ⟨k + 1, by omega, by go_num, (HK.out.trans (HKi.out.mono (fun j hj => by omega))).trans (K4.mono (fun j hj => by omega)), by have := K4.size; omega, (K4.block cb (fun e => ncb e.symm)).trans Bi.out, (K4.block _ (fun e => nob e.symm)).trans Oi.out, own_heap hS4 rfl, own_heap hst.1 rfl⟩
          case measure => simp [intOf]; try omega
    · have hk' : k = ps.length := by omega
      have HO : Hid (wo.ownsRow base 69 4 (.slice A ps.length cc) ps.length (Cf.parts (ps.map (Cf.replP ss2 on)))) := by
        have := Pv.out
        rw [half_all _ _ _ (by omega)] at this
        exact this
      obtain ⟨qs, hqs⟩ : ∃ qs, qs = ps.map (Cf.replP ss2 on) := ⟨_, rfl⟩
      rw [← hqs] at HO Hf
      have hL : qs.length = ps.length := by rw [hqs]; simp
      have HO2 : Hid (wo.ownsRow base 69 4 (.slice A ps.length cc) qs.length (Cf.parts qs)) := by
        rw [hL]; exact HO
      have hlq : qs.length ≤ 1000000 := by omega
      have g2 : wo.cell? ⟨cb, 2, none⟩ = some (.slice A ps.length cc) := by rw [cell_of_block Bx.out]; rfl
      clear hqs HO Pv
      have hslq := own_sl HO2.out (by omega)
      go_wp2_with fail
      refine (joined_any qs _ wo hslq hlq).mono ?_
      rintro e w5 ⟨v5, rfl, hown5, hb5⟩
      have hz5 : wo.heap.size ≤ w5.heap.size := hb5.size
      have B5 := Lib.hid ((hb5.block cb lt1).trans Bx.out)
      have Kp := Keep.of_below (S := fun k => k < wo.heap.size) hb5 (fun k hk => hk)
      have Sv5 := Lib.hid (Kp.owns Sv.out (fun k hk => (Sv.out.lt k hk).2))
      have g5 : w5.cell? ⟨cb, 2, none⟩ = some (.slice A ps.length cc) := by rw [cell_of_block B5.out]; rfl
      have f5 : w5.frozen? ⟨cb, 2, none⟩ = false := free_of_block B5.out
      have Own5 := Lib.hid (own_base hown5 (show base ≤ wo.heap.size by omega))
      have HK5 := Lib.hid ((K3.out.trans HK.out).trans (Keep.of_below hb5 (fun k hk => by omega)))
      obtain ⟨A6, c6, hv6⟩ : ∃ A6 c6, v5 = .slice A6 (Cf.joined qs).length c6 := by
        rcases hown5.2 with ⟨hv, h0⟩ | ⟨g, cap, cur, hv, -⟩
        · exact ⟨none, 0, by rw [h0]; exact hv⟩
        · exact ⟨_, cap, hv⟩
      subst hv6
      clear hown5 hb5 Kp hslq HO2 g2
      go_wp2
      go_ret
      refine ⟨by rw [Hf.out]; rfl, HK5.out.setCell (p := ⟨cb, 2, none⟩) (fun (h : cb < base ∧ cb ≠ cb) => h.2 rfl) _, fun _ => ⟨.slice (some ⟨g, 0, none⟩) ss2.length cap, .slice A6 (Cf.joined qs).length c6, ?_⟩⟩
      rw [Hf.out]
      refine ⟨block_setCell (o := 2) B5.out _, ?_, ?_, hcb, ?_⟩
      · exact ownsRow_setCell_other (a := ⟨cb, 2, none⟩) Sv5.out (own_ne_block Sv5.out B5.out (by decide)) _
      · exact ownsRow_setCell_other (a := ⟨cb, 2, none⟩) Own5.out (own_ne_block Own5.out B5.out (by decide)) _
      · simp only [World.size_setCell]; omega
end Go.Proofs.YtkmaepefpcpckaaDoor
