/- Walk of layer 12's place, where it goes well. -/
import Derived.Test.YtkmaepefpcpckaaDoorCfgE
import Derived.Deep.CutRange
import Derived.Deep.Cut
import Derived.Deep.RegionWith
set_option linter.unusedVariables false
set_option linter.unusedSimpArgs false
namespace Go.Proofs.YtkmaepefpcpckaaDoor
open Go.RowKit

theorem heap3 (W : World) (x y z : Obj) (n : Nat) (hn : W.heap.size = n) :
    (((W.alloc x).alloc y).alloc z).heap[n]? = some x ∧ (((W.alloc x).alloc y).alloc z).heap[n + 1]? = some y ∧ (((W.alloc x).alloc y).alloc z).heap[n + 2]? = some z ∧ Below n W (((W.alloc x).alloc y).alloc z) := by
  subst hn
  refine ⟨?_, ?_, ?_, (((Below.refl _ W).alloc (Nat.le_refl _) x).alloc (by simp) y).alloc (by simp; omega) z⟩
  · rw [heap_alloc_old _ _ (by simp; omega), heap_alloc_old _ _ (by simp)]; exact heap_alloc_new W x
  · rw [heap_alloc_old _ _ (by simp)]; have := heap_alloc_new (W.alloc x) y; rwa [World.size_alloc] at this
  · have := heap_alloc_new ((W.alloc x).alloc y) z; rwa [World.size_alloc, World.size_alloc] at this

set_option maxRecDepth 100000 in
set_option maxHeartbeats 800000 in
theorem place_ok (w : World) (cb base : Nat) (c : Cf.Cfg) (o : Cf.Ord) (sv pv : Value) (h : CBox w cb base c sv pv) (hl : c.sv.length ≤ 1000) (hp : c.pt.length ≤ 1000) (c1 : ¬ (o.f < 0 ∨ o.f ≥ o.t ∨ o.t > 256)) (c2 : ¬ o.n = o.m) (k1 : Cf.hasB c.sv o.n = true) (k2 : Cf.hasB c.sv o.m = true) :
    Calls Tryd.prog 81 #[.pointer (some ⟨cb, 0, none⟩), ordV o] w (Did w cb base (Cf.place c o)) := by
  obtain ⟨ep, ss, ps, tb⟩ := c
  obtain ⟨ok, on, om, of, ot⟩ := o
  obtain ⟨hbox, hsv, hpv, hcb, hbase⟩ := h
  dsimp only at *
  unfold ordV
  dsimp only
  have hlt := lt_of_blk hbox
  have q0 : w.cell? ⟨cb, 0, none⟩ = some (.int .i64 ep) := by rw [cell_of_block hbox]; rfl
  have q1 : w.cell? ⟨cb, 1, none⟩ = some sv := by rw [cell_of_block hbox]; rfl
  have q2 : w.cell? ⟨cb, 2, none⟩ = some pv := by rw [cell_of_block hbox]; rfl
  have q3 : w.cell? ⟨cb, 3, none⟩ = some (.int .i64 tb) := by rw [cell_of_block hbox]; rfl
  have hs := own_sl hsv (by omega)
  have hp' := own_sl hpv (by omega)
  obtain ⟨r, hr⟩ : ∃ r, r = Cf.place ⟨ep, ss, ps, tb⟩ ⟨ok, on, om, of, ot⟩ := ⟨_, rfl⟩
  have Hr := Lib.hid hr
  rw [← hr]
  clear hr
  have d1 : ¬ of < 0 := by omega
  have d2 : ¬ of ≥ ot := by omega
  have d3 : ¬ ot > 256 := by omega
  have e2 : (on == om) = false := by simpa using c2
  have Hf := Lib.hid (Hr.out.trans (place_d _ _ c1 c2 k1 k2))
  clear c1 c2
  go_enter Tryd.func81, Tryd.ntmps81
  go_wp2_with fail
  go_region_held3 (fun w' => w'.cell? ⟨cb, 0, none⟩ = some (.int .i64 ep) ∧ w'.cell? ⟨cb, 1, none⟩ = some sv ∧ w'.cell? ⟨cb, 2, none⟩ = some pv ∧ w'.cell? ⟨cb, 3, none⟩ = some (.int .i64 tb) ∧ w'.cell? ⟨w.heap.size, 1, none⟩ = some (.int .i64 on) ∧ w'.cell? ⟨w.heap.size, 2, none⟩ = some (.int .i64 om)) (go_keep)
    (first
      | (go_at_call_of 31 (Value.int IntKind.i64 on); refine (has_is ss on true k1 ep tb sv pv ps.length (Cf.parts ps) _ (by exact hs.alloc _) (by exact hp'.alloc _)).mono ?_; rintro e w1 ⟨rfl, hb1⟩; have hz1 : w.heap.size < w1.heap.size := (by have := hb1.size; simp at this; omega); have hcc : ∀ o, w1.cell? ⟨cb, o, none⟩ = w.cell? ⟨cb, o, none⟩ := (fun o => by rw [(bcell hb1).1 _ _ (by simp; omega)]; go_simp); have hco : w1.cell? ⟨w.heap.size, 1, none⟩ = some (.int .i64 on) := (by rw [(bcell hb1).1 _ _ (by simp)]; go_simp); have hco2 : w1.cell? ⟨w.heap.size, 2, none⟩ = some (.int .i64 om) := (by rw [(bcell hb1).1 _ _ (by simp)]; go_simp); have HB1 : Below w.heap.size w w1 := ((Below.refl _ _).alloc (Nat.le_refl _) _).drew.trans (hb1.mono (by simp)); have HC1 := Lib.hid (bcell hb1).1)
      | (go_at_call_of 31 (Value.int IntKind.i64 om); refine (has_is ss om true k2 ep tb sv pv ps.length (Cf.parts ps) _ (by exact hs.below HB1) (by exact hp'.below HB1)).mono ?_; rintro e w2 ⟨rfl, hb2⟩; have hdd : ∀ o, w2.cell? ⟨cb, o, none⟩ = w.cell? ⟨cb, o, none⟩ := (fun o => by rw [(bcell hb2).1 _ _ (by omega), hcc]); have hdo : w2.cell? ⟨w.heap.size, 1, none⟩ = some (.int .i64 on) := (by rw [(bcell hb2).1 _ _ hz1, hco]); have hdo2 : w2.cell? ⟨w.heap.size, 2, none⟩ = some (.int .i64 om) := (by rw [(bcell hb2).1 _ _ hz1, hco2])))
  have B1 : w1.heap[w.heap.size]? = some (.cells #[.int .i64 ok, .int .i64 on, .int .i64 om, .int .i64 of, .int .i64 ot] 26 (0, 0)) := by
    rw [hb1.block _ (by simp)]; exact heap_alloc_new w _
  have B2 : w2.heap[w.heap.size]? = some (.cells #[.int .i64 ok, .int .i64 on, .int .i64 om, .int .i64 of, .int .i64 ot] 26 (0, 0)) := by
    rw [hb2.block _ hz1]; exact B1
  have HB2 := Lib.hid (HB1.trans (hb2.mono HB1.size))
  have hz2 : w1.heap.size ≤ w2.heap.size := hb2.size
  have g2 : w2.cell? ⟨cb, 2, none⟩ = some pv := by rw [hdd, q2]
  have hpw := hp'.below HB2.out
  obtain ⟨-, hm, A, cc, hpv', hc⟩ := id hpw
  have Hbox := Lib.hid hbox
  have Hsv := Lib.hid hsv
  have Hpv := Lib.hid hpv
  have HB1' := Lib.hid HB1
  clear hdd hcc hco hco2 HC1 hdo hdo2 hb1 hb2 B1 q0 q1 q2 q3 hs hp' hbox hsv hpv HB1
  obtain ⟨i0, hi0, hz0, hz1', hz2'⟩ := info_parts Tryd.info_part
  subst hpv'
  go_wp2
  go_loopw [5, 59] (fun l i wr => ∃ k : Nat, k ≤ ps.length ∧ i = .int .i64 k ∧ wr.ownsRow w2.heap.size 69 4 l (3 * k) (Cf.parts ((ps.take k).flatMap (Cf.cut3 ⟨ok, on, om, of, ot⟩))) ∧ Below w2.heap.size w2 wr) (fun _ i _ => ps.length - (intOf i).toNat)
  case atStart => exact ⟨0, by omega, rfl, World.ownsRow_nil _ _ _ _, Below.refl _ _⟩
  case round =>
    obtain ⟨k, hk, rfl, hown, hbw⟩ := hrel
    have Hown := Lib.hid hown
    have Hbw := Lib.hid hbw
    have hzr : w2.heap.size ≤ wr.heap.size := hbw.size
    have OB := Lib.hid ((hbw.block _ (lt_of_blk B2)).trans B2)
    have o1 : wr.cell? ⟨w.heap.size, 1, none⟩ = some (.int .i64 on) := by rw [cell_of_block OB.out]; rfl
    have o2 : wr.cell? ⟨w.heap.size, 2, none⟩ = some (.int .i64 om) := by rw [cell_of_block OB.out]; rfl
    have o3 : wr.cell? ⟨w.heap.size, 3, none⟩ = some (.int .i64 of) := by rw [cell_of_block OB.out]; rfl
    have o4 : wr.cell? ⟨w.heap.size, 4, none⟩ = some (.int .i64 ot) := by rw [cell_of_block OB.out]; rfl
    have hwlt : w.heap.size < wr.heap.size := by omega
    by_cases hlt' : k < ps.length
    · obtain ⟨pb, po, hA, hcell⟩ := hc (by omega)
      subst hA
      obtain ⟨p, hp'⟩ : ∃ p, p = ps[k] := ⟨_, rfl⟩
      have hg := parts_get ps k hlt'
      rw [← hp'] at hg
      have Hp := Lib.hid hp'
      clear hp' hown
      obtain ⟨pf, pt, pa, pbb⟩ := p
      dsimp only at hg
      have hbl : pb < w2.heap.size := by
        have := hcell (k * 4) (by omega)
        rw [hg.1] at this
        exact World.block_lt_of_cell? w2 _ this
      obtain ⟨hbc, -⟩ := bcell hbw
      have p0 : wr.cell? ⟨pb, po + k * 4, none⟩ = some (.int .i64 pf) := by rw [hbc _ _ hbl, hcell (k * 4) (by omega), hg.1]
      have p1 : wr.cell? ⟨pb, po + k * 4 + 1, none⟩ = some (.int .i64 pt) := by rw [hbc _ _ hbl, Nat.add_assoc, hcell (k * 4 + 1) (by omega), hg.2.1]
      have p2 : wr.cell? ⟨pb, po + k * 4 + 2, none⟩ = some (.int .i64 pa) := by rw [hbc _ _ hbl, Nat.add_assoc, hcell (k * 4 + 2) (by omega), hg.2.2.1]
      have p3 : wr.cell? ⟨pb, po + k * 4 + 3, none⟩ = some (.int .i64 pbb) := by rw [hbc _ _ hbl, Nat.add_assoc, hcell (k * 4 + 3) (by omega), hg.2.2.2]
      clear hbc hg hcell hbw hc hbl B2 OB
      go_upto_region 11 with fail
      go_cut [8, 9, 10] (fun s8 s9 s10 wx => ∃ b8 b9 b10 : Nat, s8 = .pointer (some ⟨b8, 0, none⟩) ∧ s9 = .pointer (some ⟨b9, 0, none⟩) ∧ s10 = .pointer (some ⟨b10, 0, none⟩) ∧
        wr.heap.size < b8 ∧ wr.heap.size < b9 ∧ wr.heap.size < b10 ∧ b8 ≠ b9 ∧ b8 ≠ b10 ∧ b9 ≠ b10 ∧
        wx.heap[b8]? = some (.cells #[.int .i64 pf, .int .i64 pt, .int .i64 pa, .int .i64 pbb] 69 (0, 0)) ∧
        wx.heap[b9]? = some (.cells #[.int .i64 pf, .int .i64 pt, .int .i64 pa, .int .i64 pbb] 69 (0, 0)) ∧
        wx.heap[b10]? = some (.cells #[.int .i64 of, .int .i64 ot, .int .i64 on, .int .i64 om] 69 (0, 0)) ∧
        Below (wr.heap.size + 1) (wr.alloc (.cells #[.int .i64 pf, .int .i64 pt, .int .i64 pa, .int .i64 pbb] 69)) wx)
      case first =>
        have hw1 : w.heap.size < wr.heap.size + 1 := by omega
        have hw2 : w.heap.size < wr.heap.size + 1 + 1 := by omega
        have hw3 : w.heap.size < wr.heap.size + 1 + 1 + 1 := by omega
        have hw4 : w.heap.size < wr.heap.size + 1 + 1 + 1 + 1 := by omega
        have hv2 : w.heap.size < wr.heap.size + 2 := by omega
        have hv3 : w.heap.size < wr.heap.size + 3 := by omega
        refine wp_region_canon (fun p w' => ((p = 0 ∨ p = 1) → w'.cell? ⟨wr.heap.size, 0, none⟩ = some (.int .i64 pf) ∧ w'.cell? ⟨wr.heap.size, 1, none⟩ = some (.int .i64 pt) ∧ w'.cell? ⟨wr.heap.size, 2, none⟩ = some (.int .i64 pa) ∧ w'.cell? ⟨wr.heap.size, 3, none⟩ = some (.int .i64 pbb)) ∧ (p = 3 → w'.cell? ⟨w.heap.size, 3, none⟩ = some (.int .i64 of) ∧ w'.cell? ⟨w.heap.size, 4, none⟩ = some (.int .i64 ot)) ∧ (p = 5 → w'.cell? ⟨w.heap.size, 1, none⟩ = some (.int .i64 on)) ∧ (p = 7 → w'.cell? ⟨w.heap.size, 2, none⟩ = some (.int .i64 om))) [9, 10, 11, 12, 13, 14] (by kernel_rfl) ?_
        refine canon_ex 0 (some 63) rfl rfl rfl (by kernel_rfl) (by kernel_rfl) (by kernel_rfl) (fun _ _ _ _ h => h) rfl ⟨_, (fun w' hS => by go_simp; rfl), by simp [*, World.cell?_alloc_some], ?_⟩
        intro a' ha; simp only [Act.put, List.setIfInBounds_toArray, List.set_cons_zero, List.set_cons_succ] at ha; subst ha
        refine canon_ex 1 (some 64) rfl rfl rfl (by kernel_rfl) (by kernel_rfl) (by kernel_rfl) (fun _ _ _ _ h => h) rfl ⟨_, (fun w' hS => by go_simp; rfl), by simp [*, World.cell?_alloc_some], ?_⟩
        intro a' ha; simp only [Act.put, List.setIfInBounds_toArray, List.set_cons_zero, List.set_cons_succ] at ha; subst ha
        refine canon_ex 2 (some 65) rfl rfl rfl (by kernel_rfl) (by kernel_rfl) (by kernel_rfl) (fun _ _ _ _ h => h) rfl ⟨_, (fun w' hS => by go_simp; rfl), by simp [*, World.cell?_alloc_some], ?_⟩
        intro a' ha; simp only [Act.put, List.setIfInBounds_toArray, List.set_cons_zero, List.set_cons_succ] at ha; subst ha
        refine canon_ex 3 (some 66) rfl rfl rfl (by kernel_rfl) (by kernel_rfl) (by kernel_rfl) (fun _ _ _ _ h => h) rfl ⟨_, (fun w' hS => by go_simp; rfl), by simp [*, World.cell?_alloc_some], ?_⟩
        intro a' ha; simp only [Act.put, List.setIfInBounds_toArray, List.set_cons_zero, List.set_cons_succ] at ha; subst ha
        refine canon_ex 4 (some 67) rfl rfl rfl (by kernel_rfl) (by kernel_rfl) (by kernel_rfl) (fun _ _ _ _ h => h) rfl ⟨_, (fun w' hS => by go_simp; rfl), by simp [*, World.cell?_alloc_some], ?_⟩
        intro a' ha; simp only [Act.put, List.setIfInBounds_toArray, List.set_cons_zero, List.set_cons_succ] at ha; subst ha
        refine canon_ex 5 (some 68) rfl rfl rfl (by kernel_rfl) (by kernel_rfl) (by kernel_rfl) (fun _ _ _ _ h => h) rfl ⟨_, (fun w' hS => by go_simp; rfl), by simp [*, World.cell?_alloc_some], ?_⟩
        intro a' ha; simp only [Act.put, List.setIfInBounds_toArray, List.set_cons_zero, List.set_cons_succ] at ha; subst ha
        refine canon_ex 6 (some 69) rfl rfl rfl (by kernel_rfl) (by kernel_rfl) (by kernel_rfl) (fun _ _ _ _ h => h) rfl ⟨_, (fun w' hS => by go_simp; rfl), by simp [*, World.cell?_alloc_some], ?_⟩
        intro a' ha; simp only [Act.put, List.setIfInBounds_toArray, List.set_cons_zero, List.set_cons_succ] at ha; subst ha
        refine canon_ex 7 (some 70) rfl rfl rfl (by kernel_rfl) (by kernel_rfl) (by kernel_rfl) (fun _ _ _ _ h => h) rfl ⟨_, (fun w' hS => by go_simp; rfl), by simp [*, World.cell?_alloc_some], ?_⟩
        intro a' ha; simp only [Act.put, List.setIfInBounds_toArray, List.set_cons_zero, List.set_cons_succ] at ha; subst ha
        refine canon_ex 8 (some 71) rfl rfl rfl (by kernel_rfl) (by kernel_rfl) (by kernel_rfl) (fun _ _ _ _ h => h) rfl ⟨_, (fun w' hS => by go_simp; rfl), by simp [*, World.cell?_alloc_some], ?_⟩
        intro a' ha; simp only [Act.put, List.setIfInBounds_toArray, List.set_cons_zero, List.set_cons_succ] at ha; subst ha
        refine canon_any [9, 10, 11] (by kernel_rfl) (by simp) ?_
        intro kk hkk
        simp only [List.mem_cons, List.not_mem_nil, or_false] at hkk
        rcases hkk with rfl | rfl | rfl
        · refine canon_one 9 [0, 1, 3, 5, 7] [0, 1, 3, 5, 7] rfl (fun p w h => by simp at h; simp [h]) (by kernel_rfl) ?_
          intro K hK
          go_wp2
          refine hK _ _ (by first | (simp [*, World.cell?_alloc_some]; done) | (simp; go_simp; done)) ?_
          clear hK
          refine canon_any [10, 11] (by kernel_rfl) (by simp) ?_
          intro kk hkk
          simp only [List.mem_cons, List.not_mem_nil, or_false] at hkk
          rcases hkk with rfl | rfl
          · refine canon_one 10 [0, 1, 3, 5, 7] [0, 1, 3, 5, 7] rfl (fun p w h => by simp at h; simp [h]) (by kernel_rfl) ?_
            intro K hK
            go_wp2
            refine hK _ _ (by first | (simp [*, World.cell?_alloc_some]; done) | (simp; go_simp; done)) ?_
            clear hK
            refine canon_act 11 [0, 1, 3, 5, 7] [0, 1, 3, 5, 7] rfl (by kernel_rfl) (fun p w h => by simp at h; simp [h]) (by kernel_rfl) ?_
            intro K hK
            go_wp2
            refine hK _ _ (by first | (simp [*, World.cell?_alloc_some]; done) | (simp; go_simp; done)) ?_
            clear hK
            refine canon_act 12 [0, 1, 3, 5, 7] [1, 3, 5, 7] rfl (by kernel_rfl) (fun p w h => by simp at h; simp [h]) (by kernel_rfl) ?_
            intro K hK
            go_wp2
            refine hK _ _ (by first | (simp [*, World.cell?_alloc_some]; done) | (simp; go_simp; done)) ?_
            clear hK
            refine canon_act 13 [0, 1, 3, 5, 7] [3, 5, 7] rfl (by kernel_rfl) (fun p w h => by simp at h; simp [h]) (by kernel_rfl) ?_
            intro K hK
            go_wp2
            refine hK _ _ (by first | (simp [*, World.cell?_alloc_some]; done) | (simp; go_simp; done)) ?_
            clear hK
            refine canon_act 14 [0, 1, 3, 5, 7] [] rfl (by kernel_rfl) (fun p w h => by simp at h; simp [h]) (by kernel_rfl) ?_
            intro K hK
            go_wp2
            refine hK _ _ (by first | (simp [*, World.cell?_alloc_some]; done) | (simp; go_simp; done)) ?_
            clear hK
            refine canon_done ?_ ?_
            · kernel_rfl
            go_wp2
            go_meet
            have hq := heap3 (wr.alloc (.cells #[.int .i64 pf, .int .i64 pt, .int .i64 pa, .int .i64 pbb] 69)) (.cells #[.int .i64 pf, .int .i64 pt, .int .i64 pa, .int .i64 pbb] 69) (.cells #[.int .i64 pf, .int .i64 pt, .int .i64 pa, .int .i64 pbb] 69) (.cells #[.int .i64 of, .int .i64 ot, .int .i64 on, .int .i64 om] 69) (wr.heap.size + 1) (by simp)
            exact ⟨wr.heap.size + 1, wr.heap.size + 2, wr.heap.size + 3, rfl, rfl, rfl, by omega, by omega, by omega, by omega, by omega, by omega, hq.1, hq.2.1, hq.2.2.1, ⟨hq.2.2.2.os, hq.2.2.2.tape, hq.2.2.2.output, hq.2.2.2.size, hq.2.2.2.block⟩⟩
          · refine canon_one 11 [0, 1, 3, 5, 7] [0, 1, 3, 5, 7] rfl (fun p w h => by simp at h; simp [h]) (by kernel_rfl) ?_
            intro K hK
            go_wp2
            refine hK _ _ (by first | (simp [*, World.cell?_alloc_some]; done) | (simp; go_simp; done)) ?_
            clear hK
            refine canon_act 10 [0, 1, 3, 5, 7] [0, 1, 3, 5, 7] rfl (by kernel_rfl) (fun p w h => by simp at h; simp [h]) (by kernel_rfl) ?_
            intro K hK
            go_wp2
            refine hK _ _ (by first | (simp [*, World.cell?_alloc_some]; done) | (simp; go_simp; done)) ?_
            clear hK
            refine canon_act 12 [0, 1, 3, 5, 7] [1, 3, 5, 7] rfl (by kernel_rfl) (fun p w h => by simp at h; simp [h]) (by kernel_rfl) ?_
            intro K hK
            go_wp2
            refine hK _ _ (by first | (simp [*, World.cell?_alloc_some]; done) | (simp; go_simp; done)) ?_
            clear hK
            refine canon_act 13 [0, 1, 3, 5, 7] [3, 5, 7] rfl (by kernel_rfl) (fun p w h => by simp at h; simp [h]) (by kernel_rfl) ?_
            intro K hK
            go_wp2
            refine hK _ _ (by first | (simp [*, World.cell?_alloc_some]; done) | (simp; go_simp; done)) ?_
            clear hK
            refine canon_act 14 [0, 1, 3, 5, 7] [] rfl (by kernel_rfl) (fun p w h => by simp at h; simp [h]) (by kernel_rfl) ?_
            intro K hK
            go_wp2
            refine hK _ _ (by first | (simp [*, World.cell?_alloc_some]; done) | (simp; go_simp; done)) ?_
            clear hK
            refine canon_done ?_ ?_
            · kernel_rfl
            go_wp2
            go_meet
            have hq := heap3 (wr.alloc (.cells #[.int .i64 pf, .int .i64 pt, .int .i64 pa, .int .i64 pbb] 69)) (.cells #[.int .i64 pf, .int .i64 pt, .int .i64 pa, .int .i64 pbb] 69) (.cells #[.int .i64 of, .int .i64 ot, .int .i64 on, .int .i64 om] 69) (.cells #[.int .i64 pf, .int .i64 pt, .int .i64 pa, .int .i64 pbb] 69) (wr.heap.size + 1) (by simp)
            exact ⟨wr.heap.size + 1, wr.heap.size + 3, wr.heap.size + 2, rfl, rfl, rfl, by omega, by omega, by omega, by omega, by omega, by omega, hq.1, hq.2.2.1, hq.2.1, ⟨hq.2.2.2.os, hq.2.2.2.tape, hq.2.2.2.output, hq.2.2.2.size, hq.2.2.2.block⟩⟩
        · refine canon_one 10 [0, 1, 3, 5, 7] [0, 1, 3, 5, 7] rfl (fun p w h => by simp at h; simp [h]) (by kernel_rfl) ?_
          intro K hK
          go_wp2
          refine hK _ _ (by first | (simp [*, World.cell?_alloc_some]; done) | (simp; go_simp; done)) ?_
          clear hK
          refine canon_any [9, 11] (by kernel_rfl) (by simp) ?_
          intro kk hkk
          simp only [List.mem_cons, List.not_mem_nil, or_false] at hkk
          rcases hkk with rfl | rfl
          · refine canon_one 9 [0, 1, 3, 5, 7] [0, 1, 3, 5, 7] rfl (fun p w h => by simp at h; simp [h]) (by kernel_rfl) ?_
            intro K hK
            go_wp2
            refine hK _ _ (by first | (simp [*, World.cell?_alloc_some]; done) | (simp; go_simp; done)) ?_
            clear hK
            refine canon_act 11 [0, 1, 3, 5, 7] [0, 1, 3, 5, 7] rfl (by kernel_rfl) (fun p w h => by simp at h; simp [h]) (by kernel_rfl) ?_
            intro K hK
            go_wp2
            refine hK _ _ (by first | (simp [*, World.cell?_alloc_some]; done) | (simp; go_simp; done)) ?_
            clear hK
            refine canon_act 12 [0, 1, 3, 5, 7] [1, 3, 5, 7] rfl (by kernel_rfl) (fun p w h => by simp at h; simp [h]) (by kernel_rfl) ?_
            intro K hK
            go_wp2
            refine hK _ _ (by first | (simp [*, World.cell?_alloc_some]; done) | (simp; go_simp; done)) ?_
            clear hK
            refine canon_act 13 [0, 1, 3, 5, 7] [3, 5, 7] rfl (by kernel_rfl) (fun p w h => by simp at h; simp [h]) (by kernel_rfl) ?_
            intro K hK
            go_wp2
            refine hK _ _ (by first | (simp [*, World.cell?_alloc_some]; done) | (simp; go_simp; done)) ?_
            clear hK
            refine canon_act 14 [0, 1, 3, 5, 7] [] rfl (by kernel_rfl) (fun p w h => by simp at h; simp [h]) (by kernel_rfl) ?_
            intro K hK
            go_wp2
            refine hK _ _ (by first | (simp [*, World.cell?_alloc_some]; done) | (simp; go_simp; done)) ?_
            clear hK
            refine canon_done ?_ ?_
            · kernel_rfl
            go_wp2
            go_meet
            have hq := heap3 (wr.alloc (.cells #[.int .i64 pf, .int .i64 pt, .int .i64 pa, .int .i64 pbb] 69)) (.cells #[.int .i64 pf, .int .i64 pt, .int .i64 pa, .int .i64 pbb] 69) (.cells #[.int .i64 pf, .int .i64 pt, .int .i64 pa, .int .i64 pbb] 69) (.cells #[.int .i64 of, .int .i64 ot, .int .i64 on, .int .i64 om] 69) (wr.heap.size + 1) (by simp)
            exact ⟨wr.heap.size + 2, wr.heap.size + 1, wr.heap.size + 3, rfl, rfl, rfl, by omega, by omega, by omega, by omega, by omega, by omega, hq.2.1, hq.1, hq.2.2.1, ⟨hq.2.2.2.os, hq.2.2.2.tape, hq.2.2.2.output, hq.2.2.2.size, hq.2.2.2.block⟩⟩
          · refine canon_one 11 [0, 1, 3, 5, 7] [0, 1, 3, 5, 7] rfl (fun p w h => by simp at h; simp [h]) (by kernel_rfl) ?_
            intro K hK
            go_wp2
            refine hK _ _ (by first | (simp [*, World.cell?_alloc_some]; done) | (simp; go_simp; done)) ?_
            clear hK
            refine canon_act 9 [0, 1, 3, 5, 7] [0, 1, 3, 5, 7] rfl (by kernel_rfl) (fun p w h => by simp at h; simp [h]) (by kernel_rfl) ?_
            intro K hK
            go_wp2
            refine hK _ _ (by first | (simp [*, World.cell?_alloc_some]; done) | (simp; go_simp; done)) ?_
            clear hK
            refine canon_act 12 [0, 1, 3, 5, 7] [1, 3, 5, 7] rfl (by kernel_rfl) (fun p w h => by simp at h; simp [h]) (by kernel_rfl) ?_
            intro K hK
            go_wp2
            refine hK _ _ (by first | (simp [*, World.cell?_alloc_some]; done) | (simp; go_simp; done)) ?_
            clear hK
            refine canon_act 13 [0, 1, 3, 5, 7] [3, 5, 7] rfl (by kernel_rfl) (fun p w h => by simp at h; simp [h]) (by kernel_rfl) ?_
            intro K hK
            go_wp2
            refine hK _ _ (by first | (simp [*, World.cell?_alloc_some]; done) | (simp; go_simp; done)) ?_
            clear hK
            refine canon_act 14 [0, 1, 3, 5, 7] [] rfl (by kernel_rfl) (fun p w h => by simp at h; simp [h]) (by kernel_rfl) ?_
            intro K hK
            go_wp2
            refine hK _ _ (by first | (simp [*, World.cell?_alloc_some]; done) | (simp; go_simp; done)) ?_
            clear hK
            refine canon_done ?_ ?_
            · kernel_rfl
            go_wp2
            go_meet
            have hq := heap3 (wr.alloc (.cells #[.int .i64 pf, .int .i64 pt, .int .i64 pa, .int .i64 pbb] 69)) (.cells #[.int .i64 pf, .int .i64 pt, .int .i64 pa, .int .i64 pbb] 69) (.cells #[.int .i64 of, .int .i64 ot, .int .i64 on, .int .i64 om] 69) (.cells #[.int .i64 pf, .int .i64 pt, .int .i64 pa, .int .i64 pbb] 69) (wr.heap.size + 1) (by simp)
            exact ⟨wr.heap.size + 3, wr.heap.size + 1, wr.heap.size + 2, rfl, rfl, rfl, by omega, by omega, by omega, by omega, by omega, by omega, hq.2.2.1, hq.1, hq.2.1, ⟨hq.2.2.2.os, hq.2.2.2.tape, hq.2.2.2.output, hq.2.2.2.size, hq.2.2.2.block⟩⟩
        · refine canon_one 11 [0, 1, 3, 5, 7] [0, 1, 3, 5, 7] rfl (fun p w h => by simp at h; simp [h]) (by kernel_rfl) ?_
          intro K hK
          go_wp2
          refine hK _ _ (by first | (simp [*, World.cell?_alloc_some]; done) | (simp; go_simp; done)) ?_
          clear hK
          refine canon_any [9, 10] (by kernel_rfl) (by simp) ?_
          intro kk hkk
          simp only [List.mem_cons, List.not_mem_nil, or_false] at hkk
          rcases hkk with rfl | rfl
          · refine canon_one 9 [0, 1, 3, 5, 7] [0, 1, 3, 5, 7] rfl (fun p w h => by simp at h; simp [h]) (by kernel_rfl) ?_
            intro K hK
            go_wp2
            refine hK _ _ (by first | (simp [*, World.cell?_alloc_some]; done) | (simp; go_simp; done)) ?_
            clear hK
            refine canon_act 10 [0, 1, 3, 5, 7] [0, 1, 3, 5, 7] rfl (by kernel_rfl) (fun p w h => by simp at h; simp [h]) (by kernel_rfl) ?_
            intro K hK
            go_wp2
            refine hK _ _ (by first | (simp [*, World.cell?_alloc_some]; done) | (simp; go_simp; done)) ?_
            clear hK
            refine canon_act 12 [0, 1, 3, 5, 7] [1, 3, 5, 7] rfl (by kernel_rfl) (fun p w h => by simp at h; simp [h]) (by kernel_rfl) ?_
            intro K hK
            go_wp2
            refine hK _ _ (by first | (simp [*, World.cell?_alloc_some]; done) | (simp; go_simp; done)) ?_
            clear hK
            refine canon_act 13 [0, 1, 3, 5, 7] [3, 5, 7] rfl (by kernel_rfl) (fun p w h => by simp at h; simp [h]) (by kernel_rfl) ?_
            intro K hK
            go_wp2
            refine hK _ _ (by first | (simp [*, World.cell?_alloc_some]; done) | (simp; go_simp; done)) ?_
            clear hK
            refine canon_act 14 [0, 1, 3, 5, 7] [] rfl (by kernel_rfl) (fun p w h => by simp at h; simp [h]) (by kernel_rfl) ?_
            intro K hK
            go_wp2
            refine hK _ _ (by first | (simp [*, World.cell?_alloc_some]; done) | (simp; go_simp; done)) ?_
            clear hK
            refine canon_done ?_ ?_
            · kernel_rfl
            go_wp2
            go_meet
            have hq := heap3 (wr.alloc (.cells #[.int .i64 pf, .int .i64 pt, .int .i64 pa, .int .i64 pbb] 69)) (.cells #[.int .i64 of, .int .i64 ot, .int .i64 on, .int .i64 om] 69) (.cells #[.int .i64 pf, .int .i64 pt, .int .i64 pa, .int .i64 pbb] 69) (.cells #[.int .i64 pf, .int .i64 pt, .int .i64 pa, .int .i64 pbb] 69) (wr.heap.size + 1) (by simp)
            exact ⟨wr.heap.size + 2, wr.heap.size + 3, wr.heap.size + 1, rfl, rfl, rfl, by omega, by omega, by omega, by omega, by omega, by omega, hq.2.1, hq.2.2.1, hq.1, ⟨hq.2.2.2.os, hq.2.2.2.tape, hq.2.2.2.output, hq.2.2.2.size, hq.2.2.2.block⟩⟩
          · refine canon_one 10 [0, 1, 3, 5, 7] [0, 1, 3, 5, 7] rfl (fun p w h => by simp at h; simp [h]) (by kernel_rfl) ?_
            intro K hK
            go_wp2
            refine hK _ _ (by first | (simp [*, World.cell?_alloc_some]; done) | (simp; go_simp; done)) ?_
            clear hK
            refine canon_act 9 [0, 1, 3, 5, 7] [0, 1, 3, 5, 7] rfl (by kernel_rfl) (fun p w h => by simp at h; simp [h]) (by kernel_rfl) ?_
            intro K hK
            go_wp2
            refine hK _ _ (by first | (simp [*, World.cell?_alloc_some]; done) | (simp; go_simp; done)) ?_
            clear hK
            refine canon_act 12 [0, 1, 3, 5, 7] [1, 3, 5, 7] rfl (by kernel_rfl) (fun p w h => by simp at h; simp [h]) (by kernel_rfl) ?_
            intro K hK
            go_wp2
            refine hK _ _ (by first | (simp [*, World.cell?_alloc_some]; done) | (simp; go_simp; done)) ?_
            clear hK
            refine canon_act 13 [0, 1, 3, 5, 7] [3, 5, 7] rfl (by kernel_rfl) (fun p w h => by simp at h; simp [h]) (by kernel_rfl) ?_
            intro K hK
            go_wp2
            refine hK _ _ (by first | (simp [*, World.cell?_alloc_some]; done) | (simp; go_simp; done)) ?_
            clear hK
            refine canon_act 14 [0, 1, 3, 5, 7] [] rfl (by kernel_rfl) (fun p w h => by simp at h; simp [h]) (by kernel_rfl) ?_
            intro K hK
            go_wp2
            refine hK _ _ (by first | (simp [*, World.cell?_alloc_some]; done) | (simp; go_simp; done)) ?_
            clear hK
            refine canon_done ?_ ?_
            · kernel_rfl
            go_wp2
            go_meet
            have hq := heap3 (wr.alloc (.cells #[.int .i64 pf, .int .i64 pt, .int .i64 pa, .int .i64 pbb] 69)) (.cells #[.int .i64 of, .int .i64 ot, .int .i64 on, .int .i64 om] 69) (.cells #[.int .i64 pf, .int .i64 pt, .int .i64 pa, .int .i64 pbb] 69) (.cells #[.int .i64 pf, .int .i64 pt, .int .i64 pa, .int .i64 pbb] 69) (wr.heap.size + 1) (by simp)
            exact ⟨wr.heap.size + 3, wr.heap.size + 2, wr.heap.size + 1, rfl, rfl, rfl, by omega, by omega, by omega, by omega, by omega, by omega, hq.2.2.1, hq.2.1, hq.1, ⟨hq.2.2.2.os, hq.2.2.2.tape, hq.2.2.2.output, hq.2.2.2.size, hq.2.2.2.block⟩⟩
      case rest =>
        obtain ⟨b8, b9, b10, rfl, rfl, rfl, l8, l9, l10, n1, n2, n3, h8, h9, h10, hB⟩ := hcut
        have x0 : wc.cell? ⟨b8, 0, none⟩ = some (.int .i64 pf) := by rw [cell_of_block h8]; rfl
        have x1 : wc.cell? ⟨b8, 1, none⟩ = some (.int .i64 pt) := by rw [cell_of_block h8]; rfl
        have x2 : wc.cell? ⟨b8, 2, none⟩ = some (.int .i64 pa) := by rw [cell_of_block h8]; rfl
        have x3 : wc.cell? ⟨b8, 3, none⟩ = some (.int .i64 pbb) := by rw [cell_of_block h8]; rfl
        have y0 : wc.cell? ⟨b9, 0, none⟩ = some (.int .i64 pf) := by rw [cell_of_block h9]; rfl
        have y1 : wc.cell? ⟨b9, 1, none⟩ = some (.int .i64 pt) := by rw [cell_of_block h9]; rfl
        have y2 : wc.cell? ⟨b9, 2, none⟩ = some (.int .i64 pa) := by rw [cell_of_block h9]; rfl
        have y3 : wc.cell? ⟨b9, 3, none⟩ = some (.int .i64 pbb) := by rw [cell_of_block h9]; rfl
        have z0 : wc.cell? ⟨b10, 0, none⟩ = some (.int .i64 of) := by rw [cell_of_block h10]; rfl
        have z1 : wc.cell? ⟨b10, 1, none⟩ = some (.int .i64 ot) := by rw [cell_of_block h10]; rfl
        have z2 : wc.cell? ⟨b10, 2, none⟩ = some (.int .i64 on) := by rw [cell_of_block h10]; rfl
        have z3 : wc.cell? ⟨b10, 3, none⟩ = some (.int .i64 om) := by rw [cell_of_block h10]; rfl
        have fx : ∀ j, wc.frozen? ⟨b8, j, none⟩ = false := fun j => free_of_block h8
        have fy : ∀ j, wc.frozen? ⟨b9, j, none⟩ = false := fun j => free_of_block h9
        have fz : ∀ j, wc.frozen? ⟨b10, j, none⟩ = false := fun j => free_of_block h10
        have lx8 := lt_of_blk h8
        have lx9 := lt_of_blk h9
        have lx10 := lt_of_blk h10
        obtain ⟨hbc, -⟩ := bcell hB
        have u0 : wc.cell? ⟨wr.heap.size, 0, none⟩ = some (.int .i64 pf) := by rw [hbc _ _ (by omega)]; go_simp
        have u1 : wc.cell? ⟨wr.heap.size, 1, none⟩ = some (.int .i64 pt) := by rw [hbc _ _ (by omega)]; go_simp
        have v3 : wc.cell? ⟨w.heap.size, 3, none⟩ = some (.int .i64 of) := by rw [hbc _ _ (by omega)]; go_simp
        have v4 : wc.cell? ⟨w.heap.size, 4, none⟩ = some (.int .i64 ot) := by rw [hbc _ _ (by omega)]; go_simp
        have HB := Lib.hid hB
        clear hbc hB h8 h9 h10 p0 p1 p2 p3 o1 o2 o3 o4
        have Hlt := Lib.hid (fun k hk => (Hown.out.lt k hk).2)
        have hlt5 : ∀ b, wr.heap.size < b → u5.ownBlock ≠ some b := fun b hb e => by have := (Hown.out.lt b e).2; omega
        have own0 : wc.ownsRow w2.heap.size 69 4 u5 (3 * k) (Cf.parts ((ps.take k).flatMap (Cf.cut3 ⟨ok, on, om, of, ot⟩))) :=
          (Keep.of_below (S := fun k => k < wr.heap.size + 1) HB.out (fun k hk => hk)).owns (Hown.out.alloc _) (fun k hk => by have := (Hown.out.lt k hk).2; omega)
        have own1 := Lib.hid (ownsRow_setCell_other (a := ⟨b10, 1, none⟩) (ownsRow_setCell_other (a := ⟨b10, 0, none⟩) (ownsRow_setCell_other (a := ⟨b9, 0, none⟩) (ownsRow_setCell_other (a := ⟨b8, 1, none⟩) own0 (hlt5 b8 l8) (.int .i64 (min pt of))) (hlt5 b9 l9) (.int .i64 (max pf ot))) (hlt5 b10 l10) (.int .i64 (max pf of))) (hlt5 b10 l10) (.int .i64 (min pt ot)))
        have bl1 := (Hbw.out.alloc hzr (.cells #[.int .i64 pf, .int .i64 pt, .int .i64 pa, .int .i64 pbb] 69)).trans (HB.out.mono (by omega))
        have bl2 := bl1.setCell (p := ⟨b8, 1, none⟩) (by show w2.heap.size ≤ b8; omega) (.int .i64 (min pt of))
        have bl3 := bl2.setCell (p := ⟨b9, 0, none⟩) (by show w2.heap.size ≤ b9; omega) (.int .i64 (max pf ot))
        have bl4 := bl3.setCell (p := ⟨b10, 0, none⟩) (by show w2.heap.size ≤ b10; omega) (.int .i64 (max pf of))
        have Bl := Lib.hid (bl4.setCell (p := ⟨b10, 1, none⟩) (by show w2.heap.size ≤ b10; omega) (.int .i64 (min pt ot)))
        clear bl1 bl2 bl3 bl4
        have hone : ∀ u ∈ [Value.int .i64 pf, .int .i64 (min pt of), .int .i64 pa, .int .i64 pbb, .int .i64 (max pf of), .int .i64 (min pt ot), .int .i64 on, .int .i64 om, .int .i64 (max pf ot), .int .i64 pt, .int .i64 pa, .int .i64 pbb], u.oneCell' = true := by intro u hu; simp at hu; rcases hu with rfl | rfl | rfl | rfl | rfl | rfl | rfl | rfl | rfl | rfl | rfl | rfl <;> rfl
        have Hone := Lib.hid hone
        have hwc : w2.heap.size ≤ wc.heap.size := by omega
        have Htk := Lib.hid (cut3_take ⟨ok, on, om, of, ot⟩ ps k hlt' _ Hp.out)
        clear own0 hlt5 hone
        go_wp2_with (first | (at_builtin; go_loud (refine wpList_append_lies _ rfl (.tmp 106) (.tmp 110) 29 rfl w2.heap.size 69 i0 _ 4 32 Tryd.underlying29 hi0 hz0 hz1' hz2' rfl (by omega) u5 (3 * k) _ rfl (own1.out.alloc _) ⟨wc.heap.size, 0, none⟩ 3 3 [.int .i64 pf, .int .i64 (min pt of), .int .i64 pa, .int .i64 pbb, .int .i64 (max pf of), .int .i64 (min pt ot), .int .i64 on, .int .i64 om, .int .i64 (max pf ot), .int .i64 pt, .int .i64 pa, .int .i64 pbb] rfl rfl (news_new _ #[.int .i64 pf, .int .i64 (min pt of), .int .i64 pa, .int .i64 pbb, .int .i64 (max pf of), .int .i64 (min pt ot), .int .i64 on, .int .i64 om, .int .i64 (max pf ot), .int .i64 pt, .int .i64 pa, .int .i64 pbb] 69 _ (by simp)) Hone.out (by omega) (by unfold maxLen; omega) (by omega) (by simp; omega) _ rfl ?_); intro gg cap2 w4 hown4 hgrow4 hat4 hlt4))
        go_roundw
        case rel =>
          refine ⟨k + 1, by omega, by go_num, ?_, (Bl.out.alloc (by simp only [World.size_setCell]; omega) _).grown hgrow4 (by simp only [World.size_setCell, World.size_alloc]; omega) (fun k' hk' => (Hown.out.lt k' hk').1)⟩
          rw [Htk.out, show 3 * (k + 1) = 3 * k + 3 by omega]
          exact hown4
        case measure => simp [intOf]; omega
    · have hk' : k = ps.length := by omega
      have HO : Hid (wr.ownsRow w2.heap.size 69 4 u5 (3 * ps.length) (Cf.parts (ps.flatMap (Cf.cut3 ⟨ok, on, om, of, ot⟩)))) := by
        have := Hown.out
        rw [hk', List.take_of_length_le (Nat.le_refl _)] at this
        exact this
      have hL := cut3_len ⟨ok, on, om, of, ot⟩ ps
      obtain ⟨qs, hqs⟩ : ∃ qs, qs = ps.flatMap (Cf.cut3 ⟨ok, on, om, of, ot⟩) := ⟨_, rfl⟩
      rw [← hqs] at HO hL Hf
      rw [← hL] at HO
      have hlq : qs.length ≤ 1000000 := by omega
      clear hk' hqs hown Hown B2 OB o1 o2 o3 o4 hc
      have hslq := own_sl HO.out (by omega)
      go_wp2_with fail
      refine (joined_any qs _ wr hslq hlq).mono ?_
      rintro e w5 ⟨v5, rfl, hown5, hb5⟩
      have hz5 : wr.heap.size ≤ w5.heap.size := hb5.size
      have hcbr : cb < wr.heap.size := by omega
      have K5 : Below w.heap.size w w5 := (HB2.out.trans (hbw.mono (by omega))).trans (hb5.mono (by omega))
      have B5 := Lib.hid ((K5.block cb hlt).trans Hbox.out)
      have Kp := Keep.of_below (S := fun k => k < w.heap.size) K5 (fun k hk => hk)
      have Sv5 := Lib.hid (Kp.owns Hsv.out (fun k hk => (Hsv.out.lt k hk).2))
      have g5 : w5.cell? ⟨cb, 2, none⟩ = some (.slice A ps.length cc) := by rw [cell_of_block B5.out]; rfl
      have f5 : w5.frozen? ⟨cb, 2, none⟩ = false := free_of_block B5.out
      have Own5 := Lib.hid (own_base hown5 (show base ≤ wr.heap.size by omega))
      have HK5 := Lib.hid K5
      obtain ⟨A6, c6, hv6⟩ : ∃ A6 c6, v5 = .slice A6 (Cf.joined qs).length c6 := by
        rcases hown5.2 with ⟨hv, h0⟩ | ⟨g, cap, cur, hv, -⟩
        · exact ⟨none, 0, by rw [h0]; exact hv⟩
        · exact ⟨_, cap, hv⟩
      subst hv6
      clear hown5 hb5 K5 Kp hbw hslq HO
      go_wp2
      go_ret
      refine ⟨by rw [Hf.out]; rfl, (Keep.of_below HK5.out (fun k (hk : k < base ∧ k ≠ cb) => by omega)).setCell (p := ⟨cb, 2, none⟩) (fun (h : cb < base ∧ cb ≠ cb) => h.2 rfl) _, fun _ => ⟨sv, .slice A6 (Cf.joined qs).length c6, ?_⟩⟩
      rw [Hf.out]
      refine ⟨block_setCell (o := 2) B5.out _, ?_, ?_, hcb, ?_⟩
      · exact ownsRow_setCell_other (a := ⟨cb, 2, none⟩) Sv5.out (own_ne_block Sv5.out B5.out (by decide)) _
      · exact ownsRow_setCell_other (a := ⟨cb, 2, none⟩) Own5.out (own_ne_block Own5.out B5.out (by decide)) _
      · simp only [World.size_setCell]; omega
end Go.Proofs.YtkmaepefpcpckaaDoor
