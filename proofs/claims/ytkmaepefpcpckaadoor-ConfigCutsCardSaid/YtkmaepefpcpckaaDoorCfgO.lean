/- Walk of the law's after. -/
import Derived.Test.YtkmaepefpcpckaaDoorCfgN
set_option linter.unusedVariables false
set_option linter.unusedSimpArgs false
namespace Go.Proofs.YtkmaepefpcpckaaDoor
open Go.RowKit

def ordsC (os : List Cf.Ord) : List Value := os.flatMap fun o => [.int .i64 o.k, .int .i64 o.n, .int .i64 o.m, .int .i64 o.f, .int .i64 o.t]
theorem ordsC_get (l : List Cf.Ord) (j : Nat) (h : j < l.length) : (ordsC l)[j * 5]? = some (.int .i64 (l[j]).k) ∧ (ordsC l)[j * 5 + 1]? = some (.int .i64 (l[j]).n) ∧ (ordsC l)[j * 5 + 2]? = some (.int .i64 (l[j]).m) ∧ (ordsC l)[j * 5 + 3]? = some (.int .i64 (l[j]).f) ∧ (ordsC l)[j * 5 + 4]? = some (.int .i64 (l[j]).t) := by
  induction l generalizing j with
  | nil => simp at h
  | cons p r ih =>
    cases j with
    | zero => simp [ordsC]
    | succ j =>
      have := ih j (by simpa using h)
      have hc : ordsC (p :: r) = .int .i64 p.k :: .int .i64 p.n :: .int .i64 p.m :: .int .i64 p.f :: .int .i64 p.t :: ordsC r := rfl
      rw [hc, show (j + 1) * 5 = j * 5 + 5 by omega, show j * 5 + 5 + 1 = j * 5 + 1 + 5 by omega, show j * 5 + 5 + 2 = j * 5 + 2 + 5 by omega, show j * 5 + 5 + 3 = j * 5 + 3 + 5 by omega, show j * 5 + 5 + 4 = j * 5 + 4 + 5 by omega]
      simpa only [List.getElem?_cons_succ, List.getElem_cons_succ] using this

theorem own_form {w : World} {b : Nat} {e : TypeId} {sz n : Nat} {v : Value} {xs : List Value} (h : w.ownsRow b e sz v n xs) : ∃ A c, v = .slice A n c := by
  rcases h.2 with ⟨hv, h0⟩ | ⟨g, cap, cur, hv, -⟩
  · exact ⟨none, 0, by rw [h0]; exact hv⟩
  · exact ⟨_, cap, hv⟩
theorem COwn.set {base cb o : Nat} {w : World} {v : Value} {c : Cf.Cfg} {cs : Array Value} {fr : Nat × Nat} (h : COwn base w v c) (hb : w.heap[cb]? = some (.cells cs 31 fr)) (u : Value) : COwn base (w.setCell ⟨cb, o, none⟩ u) v c := by
  obtain ⟨sv, pv, rfl, h1, h2, h3, h4⟩ := h
  exact ⟨sv, pv, rfl, ownsRow_setCell_other (a := ⟨cb, o, none⟩) h1 (own_ne_block h1 hb (by decide)) _, ownsRow_setCell_other (a := ⟨cb, o, none⟩) h2 (own_ne_block h2 hb (by decide)) _, h3, h4⟩
theorem COwn.set4 {base cb : Nat} {w : World} {v : Value} {c : Cf.Cfg} {cs : Array Value} (h : COwn base w v c) (hb : w.heap[cb]? = some (.cells cs 31 (0, 0))) (a0 a1 a2 a3 : Value) :
    COwn base ((((w.setCell ⟨cb, 0, none⟩ a0).setCell ⟨cb, 1, none⟩ a1).setCell ⟨cb, 2, none⟩ a2).setCell ⟨cb, 3, none⟩ a3) v c ∧ ((((w.setCell ⟨cb, 0, none⟩ a0).setCell ⟨cb, 1, none⟩ a1).setCell ⟨cb, 2, none⟩ a2).setCell ⟨cb, 3, none⟩ a3).heap[cb]? = some (.cells ((((cs.setIfInBounds 0 a0).setIfInBounds 1 a1).setIfInBounds 2 a2).setIfInBounds 3 a3) 31 (0, 0)) ∧ Keep (fun k => k ≠ cb) w ((((w.setCell ⟨cb, 0, none⟩ a0).setCell ⟨cb, 1, none⟩ a1).setCell ⟨cb, 2, none⟩ a2).setCell ⟨cb, 3, none⟩ a3) := by
  have b1 := block_setCell (o := 0) hb a0
  have b2 := block_setCell (o := 1) b1 a1
  have b3 := block_setCell (o := 2) b2 a2
  exact ⟨(((h.set hb a0).set b1 a1).set b2 a2).set b3 a3, block_setCell (o := 3) b3 a3, ((((Keep.refl (fun k => k ≠ cb) w).setCell (p := ⟨cb, 0, none⟩) (fun h => h rfl) a0).setCell (p := ⟨cb, 1, none⟩) (fun h => h rfl) a1).setCell (p := ⟨cb, 2, none⟩) (fun h => h rfl) a2).setCell (p := ⟨cb, 3, none⟩) (fun h => h rfl) a3⟩
theorem COwn.form {base : Nat} {w : World} {v : Value} {c : Cf.Cfg} (h : COwn base w v c) : ∃ A1 c1 A2 c2, v = .agg #[.int .i64 c.ep, .slice A1 c.sv.length c1, .slice A2 c.pt.length c2, .int .i64 c.tb] := by
  obtain ⟨sv, pv, rfl, h1, h2, -, -⟩ := h
  obtain ⟨A1, c1, rfl⟩ := own_form h1
  obtain ⟨A2, c2, rfl⟩ := own_form h2
  exact ⟨A1, c1, A2, c2, rfl⟩
/-- What came of some orders. -/
def Good (c : Cf.Cfg) : Prop := Cf.check c = 0 ∧ c.ep ≤ 61
def After (w : World) (e : Ending) (w' : World) : Prop := ∃ c v', e = .returned v' ∧ COwn w.heap.size w' v' c ∧ Good c ∧ Below w.heap.size w w'

set_option maxRecDepth 100000 in
set_option maxHeartbeats 1600000 in
theorem after_any (hvalid : ∀ c o, Cf.check c = 0 → (Cf.apply c o).2 = 0 → Cf.check (Cf.apply c o).1 = 0 ∧ (Cf.apply c o).1.ep = c.ep + 1) (w : World) (v : Value) (os : List Cf.Ord) (h : Sl w v os.length 5 (ordsC os)) (hK : Kinds w) :
    Calls Tryd.prog 9 #[v] w (After w) := by
  have HV := Lib.hid hvalid
  clear hvalid
  have H := Lib.hid h
  have HK := Lib.hid hK
  have hk0 := hK.lt
  obtain ⟨-, hm, A, cc, hv, -⟩ := h
  subst hv
  clear hK
  go_enter Tryd.func9, Tryd.ntmps9
  go_wp2_with fail
  refine (new_any _).mono ?_
  rintro e w1 ⟨v1, rfl, hown1, hb1⟩
  have hz1 : w.heap.size < w1.heap.size := by have := hb1.size; simp at this; omega
  have HB1 := Lib.hid (((Below.refl w.heap.size w).alloc (Nat.le_refl _) (.cells #[.int .i64 0, .slice none 0 0, .slice none 0 0, .int .i64 0] 31)).trans (hb1.mono (by simp)))
  have RB1 := Lib.hid ((hb1.block w.heap.size (by simp)).trans (heap_alloc_new w (.cells #[.int .i64 0, .slice none 0 0, .slice none 0 0, .int .i64 0] 31)))
  have Own1 := Lib.hid (hown1.base (b' := w.heap.size) (by simp))
  obtain ⟨A1, c1, A2, c2, hv1⟩ := hown1.form
  have hv1' : v1 = .agg #[.int .i64 1, .slice A1 2 c1, .slice A2 1 c2, .int .i64 1] := hv1
  clear hv1 hb1
  subst hv1'
  obtain ⟨cb, hcb⟩ : ∃ cb, cb = w1.heap.size := ⟨_, rfl⟩
  have CB1 := Lib.hid (show (w1.alloc (.cells #[.int .i64 1, .slice A1 2 c1, .slice A2 1 c2, .int .i64 1] 31)).heap[cb]? = some (.cells #[.int .i64 1, .slice A1 2 c1, .slice A2 1 c2, .int .i64 1] 31 (0, 0)) by rw [hcb]; exact heap_alloc_new w1 _)
  have Hcb := Lib.hid hcb
  have hcw : w.heap.size < cb := by omega
  go_wp2
  rw [← Hcb.out]
  clear hcb
  go_loopw [4] (fun i wr => ∃ (k : Nat) (c : Cf.Cfg) (E1 : Option Addr) (e1 : Nat) (E2 : Option Addr) (e2 : Nat), k ≤ os.length ∧ k ≤ 60 ∧ i = .int .i64 k ∧ Cf.check c = 0 ∧ c.ep ≤ k + 1 ∧ wr.heap[cb]? = some (.cells #[.int .i64 c.ep, .slice E1 c.sv.length e1, .slice E2 c.pt.length e2, .int .i64 c.tb] 31 (0, 0)) ∧
    COwn w.heap.size wr (.agg #[.int .i64 c.ep, .slice E1 c.sv.length e1, .slice E2 c.pt.length e2, .int .i64 c.tb]) c ∧ wr.heap[w.heap.size]? = some (.cells #[.int .i64 0, .slice none 0 0, .slice none 0 0, .int .i64 0] 31 (0, 0)) ∧ Below w.heap.size w wr) (fun i _ => 60 - (intOf i).toNat)
  case atStart =>
    refine ⟨0, Cf.new, _, _, _, _, by omega, by omega, rfl, new_check, by decide, CB1.out, ?_, ?_, ?_⟩
    · exact Own1.out.keep ((Keep.refl (fun k => k < w1.heap.size) w1).alloc (fun k hk => hk) _) (fun k _ hk => hk)
    · exact (heap_alloc_old w1 _ hz1).trans RB1.out
    · exact HB1.out.alloc (by omega) _
  case round =>
    obtain ⟨k, c, E1, e1, E2, e2, hk1, hk2, rfl, hck, hep, hcbx, hown, hres, hbw⟩ := hrel
    have Hck := Lib.hid hck
    have HC := Lib.hid hcbx
    have HO := Lib.hid hown
    have HR := Lib.hid hres
    have HB := Lib.hid hbw
    have hltr : cb < wr.heap.size := lt_of_blk hcbx
    have hltw : w.heap.size < wr.heap.size := by omega
    clear CB1 Own1 RB1 HB1 hck hres
    obtain ⟨ep, ss, ps, tb⟩ := c
    dsimp only at *
    have c0 : wr.cell? ⟨cb, 0, none⟩ = some (.int .i64 ep) := by rw [cell_of_block hcbx]; rfl
    have c1 : wr.cell? ⟨cb, 1, none⟩ = some (.slice E1 ss.length e1) := by rw [cell_of_block hcbx]; rfl
    have c2 : wr.cell? ⟨cb, 2, none⟩ = some (.slice E2 ps.length e2) := by rw [cell_of_block hcbx]; rfl
    have c3 : wr.cell? ⟨cb, 3, none⟩ = some (.int .i64 tb) := by rw [cell_of_block hcbx]; rfl
    by_cases hlt1 : k < os.length
    · by_cases hlt2 : k < 60
      · obtain ⟨-, -, A', cc', hv', hcell0⟩ := H.out
        injection hv' with hA' _ hc'
        subst hA'
        subst hc'
        obtain ⟨ob, oo, rfl, hcell⟩ := hcell0 (by omega)
        clear hcell0
        have hg := ordsC_get os k hlt1
        obtain ⟨o, ho⟩ : ∃ o, o = os[k] := ⟨_, rfl⟩
        rw [← ho] at hg
        clear ho
        obtain ⟨ok, on, om, of, ot⟩ := o
        dsimp only at hg
        have hbl : ob < w.heap.size := by
          have := hcell (k * 5) (by omega)
          rw [hg.1] at this
          exact World.block_lt_of_cell? w _ this
        obtain ⟨hbc, -⟩ := bcell hbw
        have o0 : wr.cell? ⟨ob, oo + k * 5, none⟩ = some (.int .i64 ok) := by rw [hbc _ _ hbl, hcell (k * 5) (by omega), hg.1]
        have o1 : wr.cell? ⟨ob, oo + k * 5 + 1, none⟩ = some (.int .i64 on) := by rw [hbc _ _ hbl, Nat.add_assoc, hcell (k * 5 + 1) (by omega), hg.2.1]
        have o2 : wr.cell? ⟨ob, oo + k * 5 + 2, none⟩ = some (.int .i64 om) := by rw [hbc _ _ hbl, Nat.add_assoc, hcell (k * 5 + 2) (by omega), hg.2.2.1]
        have o3 : wr.cell? ⟨ob, oo + k * 5 + 3, none⟩ = some (.int .i64 of) := by rw [hbc _ _ hbl, Nat.add_assoc, hcell (k * 5 + 3) (by omega), hg.2.2.2.1]
        have o4 : wr.cell? ⟨ob, oo + k * 5 + 4, none⟩ = some (.int .i64 ot) := by rw [hbc _ _ hbl, Nat.add_assoc, hcell (k * 5 + 4) (by omega), hg.2.2.2.2]
        have hci := hown.inn
        have hkr := HK.out.below hbw hk0
        obtain ⟨r, hr⟩ : ∃ r, r = Cf.apply ⟨ep, ss, ps, tb⟩ ⟨ok, on, om, of, ot⟩ := ⟨_, rfl⟩
        have Hr := Lib.hid hr
        have HV2 := Lib.hid (fun h => HV.out ⟨ep, ss, ps, tb⟩ ⟨ok, on, om, of, ot⟩ Hck.out h)
        rw [← hr] at HV2
        clear hbc hg hcell hbl hr hown hbw hcbx
        obtain ⟨⟨rep, rss, rps, rtb⟩, q⟩ := r
        dsimp only at HV2
        go_upto_region 5 with fail
        go_cut [5, 6] (fun s5 s6 wx => ∃ (db : Nat) (B1 : Option Addr) (b1 : Nat) (B2 : Option Addr) (b2 : Nat), s5 = .pointer (some ⟨db, 0, none⟩) ∧ s6 = .int .i64 q ∧ wr.heap.size ≤ db ∧ wx.heap[db]? = some (.cells #[.int .i64 rep, .slice B1 rss.length b1, .slice B2 rps.length b2, .int .i64 rtb] 31 (0, 0)) ∧
          COwn w.heap.size wx (.agg #[.int .i64 rep, .slice B1 rss.length b1, .slice B2 rps.length b2, .int .i64 rtb]) ⟨rep, rss, rps, rtb⟩ ∧ Below wr.heap.size wr wx)
        case first =>
          refine wp_region_canon (fun p w' => (p = 0 → w'.cell? ⟨cb, 0, none⟩ = some (.int .i64 ep) ∧ w'.cell? ⟨cb, 1, none⟩ = some (.slice E1 ss.length e1) ∧ w'.cell? ⟨cb, 2, none⟩ = some (.slice E2 ps.length e2) ∧ w'.cell? ⟨cb, 3, none⟩ = some (.int .i64 tb)) ∧ (p = 4 → w'.cell? ⟨ob, oo + k * 5, none⟩ = some (.int .i64 ok) ∧ w'.cell? ⟨ob, oo + k * 5 + 1, none⟩ = some (.int .i64 on) ∧ w'.cell? ⟨ob, oo + k * 5 + 2, none⟩ = some (.int .i64 om) ∧ w'.cell? ⟨ob, oo + k * 5 + 3, none⟩ = some (.int .i64 of) ∧ w'.cell? ⟨ob, oo + k * 5 + 4, none⟩ = some (.int .i64 ot))) [5, 9, 10] (by kernel_rfl) ?_
          refine canon_ex 0 (some 19) rfl rfl rfl (by kernel_rfl) (by kernel_rfl) (by kernel_rfl) (fun _ _ _ _ h => h) rfl ⟨_, (fun w' hS => by go_simp; rfl), by simp [*, World.cell?_alloc_some], ?_⟩
          intro a' ha; simp only [Act.put, List.setIfInBounds_toArray, List.set_cons_zero, List.set_cons_succ] at ha; subst ha
          refine canon_ex 1 (some 20) rfl rfl rfl (by kernel_rfl) (by kernel_rfl) (by kernel_rfl) (fun _ _ _ _ h => h) rfl ⟨_, (fun w' hS => by go_simp; rfl), by simp [*, World.cell?_alloc_some], ?_⟩
          intro a' ha; simp only [Act.put, List.setIfInBounds_toArray, List.set_cons_zero, List.set_cons_succ] at ha; subst ha
          refine canon_ex 2 (some 21) rfl rfl rfl (by kernel_rfl) (by kernel_rfl) (by kernel_rfl) (fun _ _ _ _ h => h) rfl ⟨_, (fun w' hS => by go_simp; rfl), by simp [*, World.cell?_alloc_some], ?_⟩
          intro a' ha; simp only [Act.put, List.setIfInBounds_toArray, List.set_cons_zero, List.set_cons_succ] at ha; subst ha
          refine canon_ex 3 (some 22) rfl rfl rfl (by kernel_rfl) (by kernel_rfl) (by kernel_rfl) (fun _ _ _ _ h => h) rfl ⟨_, (fun w' hS => by go_simp; rfl), by simp [*, World.cell?_alloc_some], ?_⟩
          intro a' ha; simp only [Act.put, List.setIfInBounds_toArray, List.set_cons_zero, List.set_cons_succ] at ha; subst ha
          refine canon_ex 4 (some 23) rfl rfl rfl (by kernel_rfl) (by kernel_rfl) (by kernel_rfl) (fun _ _ _ _ h => h) rfl ⟨_, (fun w' hS => by go_simp; rfl), by simp [*, World.cell?_alloc_some], ?_⟩
          intro a' ha; simp only [Act.put, List.setIfInBounds_toArray, List.set_cons_zero, List.set_cons_succ] at ha; subst ha
          refine canon_any [5, 9] (by kernel_rfl) (by simp) ?_
          intro kk hkk
          simp only [List.mem_cons, List.not_mem_nil, or_false] at hkk
          rcases hkk with rfl | rfl
          · refine canon_one 5 [0, 4] [] rfl (fun p w h => by simp at h; simp [h]) (by kernel_rfl) ?_
            intro K hK
            go_wp2_with fail
            refine (apply_any _ (.agg #[.int .i64 ep, .slice E1 ss.length e1, .slice E2 ps.length e2, .int .i64 tb]) ⟨ep, ss, ps, tb⟩ ⟨ok, on, om, of, ot⟩ (by exact hci) (by exact hkr)).mono ?_
            rintro e w5 ⟨v5, rfl, hown5, hb5⟩
            rw [← Hr.out] at hown5 ⊢
            dsimp only at hown5 ⊢
            have Hown5 := Lib.hid hown5
            obtain ⟨B1, b1, B2, b2, hv5⟩ := hown5.form
            dsimp only at hv5
            clear hown5
            subst hv5
            go_wp2
            refine hK _ _ (by first | (simp [*, World.cell?_alloc_some]; done) | (simp; go_simp; done)) ?_
            clear hK
            refine canon_ex 6 (some 18) rfl rfl rfl (by kernel_rfl) (by kernel_rfl) (by kernel_rfl) (fun _ _ _ _ h => h) rfl ⟨_, (fun w' hS => by go_simp; rfl), by simp [*, World.cell?_alloc_some], ?_⟩
            intro a' ha; simp only [Act.put, List.setIfInBounds_toArray, List.set_cons_zero, List.set_cons_succ] at ha; subst ha
            refine canon_ex 7 (some 25) rfl rfl rfl (by kernel_rfl) (by kernel_rfl) (by kernel_rfl) (fun _ _ _ _ h => h) rfl ⟨_, (fun w' hS => by go_simp; rfl), by simp [*, World.cell?_alloc_some], ?_⟩
            intro a' ha; simp only [Act.put, List.setIfInBounds_toArray, List.set_cons_zero, List.set_cons_succ] at ha; subst ha
            refine canon_ex 8 (some 26) rfl rfl rfl (by kernel_rfl) (by kernel_rfl) (by kernel_rfl) (fun _ _ _ _ h => h) rfl ⟨_, (fun w' hS => by go_simp; rfl), by simp [*, World.cell?_alloc_some], ?_⟩
            intro a' ha; simp only [Act.put, List.setIfInBounds_toArray, List.set_cons_zero, List.set_cons_succ] at ha; subst ha
            refine canon_act 9 [0, 4] [] rfl (by kernel_rfl) (fun p w h => by simp at h; simp [h]) (by kernel_rfl) ?_
            intro K hK
            go_wp2
            refine hK _ _ (by first | (simp [*, World.cell?_alloc_some]; done) | (simp; go_simp; done)) ?_
            clear hK
            refine canon_act 10 [0, 4] [] rfl (by kernel_rfl) (fun p w h => by simp at h; simp [h]) (by kernel_rfl) ?_
            intro K hK
            go_wp2
            refine hK _ _ (by first | (simp [*, World.cell?_alloc_some]; done) | (simp; go_simp; done)) ?_
            clear hK
            refine canon_ex 11 (some 6) rfl rfl rfl (by kernel_rfl) (by kernel_rfl) (by kernel_rfl) (fun _ _ _ _ h => h) rfl ⟨_, (fun w' hS => by go_simp; rfl), by simp [*, World.cell?_alloc_some], ?_⟩
            intro a' ha; simp only [Act.put, List.setIfInBounds_toArray, List.set_cons_zero, List.set_cons_succ] at ha; subst ha
            refine canon_done ?_ ?_
            · kernel_rfl
            go_wp2
            go_meet
            exact ⟨w5.heap.size, B1, b1, B2, b2, rfl, rfl, hb5.size, heap_alloc_new w5 _, (Hown5.out.base (b' := w.heap.size) (by show w.heap.size ≤ wr.heap.size; omega)).keep ((Keep.refl (fun k => k < w5.heap.size) w5).alloc (fun k hk => hk) _) (fun k _ hk => hk), (Below.drew (Below.refl _ wr)).trans (hb5.alloc hb5.size _)⟩
          · refine canon_one 9 [0, 4] [0, 4] rfl (fun p w h => by simp at h; simp [h]) (by kernel_rfl) ?_
            intro K hK
            go_wp2
            refine hK _ _ (by first | (simp [*, World.cell?_alloc_some]; done) | (simp; go_simp; done)) ?_
            clear hK
            refine canon_act 5 [0, 4] [] rfl (by kernel_rfl) (fun p w h => by simp at h; simp [h]) (by kernel_rfl) ?_
            intro K hK
            go_wp2_with fail
            refine (apply_any _ (.agg #[.int .i64 ep, .slice E1 ss.length e1, .slice E2 ps.length e2, .int .i64 tb]) ⟨ep, ss, ps, tb⟩ ⟨ok, on, om, of, ot⟩ (by exact hci.below ((Below.refl _ wr).alloc (Nat.le_refl _) (.cells #[.int .i64 0, .slice none 0 0, .slice none 0 0, .int .i64 0] 31)).drew) (by exact Kinds.below (B := wr.heap.size) hkr ((Below.refl wr.heap.size wr).alloc (Nat.le_refl _) (.cells #[.int .i64 0, .slice none 0 0, .slice none 0 0, .int .i64 0] 31)).drew (by omega))).mono ?_
            rintro e w5 ⟨v5, rfl, hown5, hb5⟩
            rw [← Hr.out] at hown5 ⊢
            dsimp only at hown5 ⊢
            have Hown5 := Lib.hid hown5
            obtain ⟨B1, b1, B2, b2, hv5⟩ := hown5.form
            dsimp only at hv5
            clear hown5
            subst hv5
            have d5 := (hb5.block wr.heap.size (by simp)).trans (heap_alloc_new wr (.cells #[.int .i64 0, .slice none 0 0, .slice none 0 0, .int .i64 0] 31))
            have D5 := Lib.hid d5
            have e0 : w5.cell? ⟨wr.heap.size, 0, none⟩ = some (.int .i64 0) := by rw [cell_of_block d5]; rfl
            have e1 : w5.cell? ⟨wr.heap.size, 1, none⟩ = some (.slice none 0 0) := by rw [cell_of_block d5]; rfl
            have e2 : w5.cell? ⟨wr.heap.size, 2, none⟩ = some (.slice none 0 0) := by rw [cell_of_block d5]; rfl
            have e3 : w5.cell? ⟨wr.heap.size, 3, none⟩ = some (.int .i64 0) := by rw [cell_of_block d5]; rfl
            have ef : ∀ j, w5.frozen? ⟨wr.heap.size, j, none⟩ = false := fun j => free_of_block d5
            clear d5
            go_wp2
            refine hK _ _ (by first | (simp [*, World.cell?_alloc_some]; done) | (simp; go_simp; done)) ?_
            clear hK
            refine canon_ex 6 (some 18) rfl rfl rfl (by kernel_rfl) (by kernel_rfl) (by kernel_rfl) (fun _ _ _ _ h => h) rfl ⟨_, (fun w' hS => by go_simp; rfl), by simp [*, World.cell?_alloc_some], ?_⟩
            intro a' ha; simp only [Act.put, List.setIfInBounds_toArray, List.set_cons_zero, List.set_cons_succ] at ha; subst ha
            refine canon_ex 7 (some 25) rfl rfl rfl (by kernel_rfl) (by kernel_rfl) (by kernel_rfl) (fun _ _ _ _ h => h) rfl ⟨_, (fun w' hS => by go_simp; rfl), by simp [*, World.cell?_alloc_some], ?_⟩
            intro a' ha; simp only [Act.put, List.setIfInBounds_toArray, List.set_cons_zero, List.set_cons_succ] at ha; subst ha
            refine canon_ex 8 (some 26) rfl rfl rfl (by kernel_rfl) (by kernel_rfl) (by kernel_rfl) (fun _ _ _ _ h => h) rfl ⟨_, (fun w' hS => by go_simp; rfl), by simp [*, World.cell?_alloc_some], ?_⟩
            intro a' ha; simp only [Act.put, List.setIfInBounds_toArray, List.set_cons_zero, List.set_cons_succ] at ha; subst ha
            refine canon_act 10 [0, 4] [] rfl (by kernel_rfl) (fun p w h => by simp at h; simp [h]) (by kernel_rfl) ?_
            intro K hK
            go_wp2
            refine hK _ _ (by first | (simp [*, World.cell?_alloc_some]; done) | (simp; go_simp; done)) ?_
            clear hK
            refine canon_ex 11 (some 6) rfl rfl rfl (by kernel_rfl) (by kernel_rfl) (by kernel_rfl) (fun _ _ _ _ h => h) rfl ⟨_, (fun w' hS => by go_simp; rfl), by simp [*, World.cell?_alloc_some], ?_⟩
            intro a' ha; simp only [Act.put, List.setIfInBounds_toArray, List.set_cons_zero, List.set_cons_succ] at ha; subst ha
            refine canon_done ?_ ?_
            · kernel_rfl
            go_wp2
            go_meet
            have hS4 := Hown5.out.set4 D5.out (.int .i64 rep) (.slice B1 rss.length b1) (.slice B2 rps.length b2) (.int .i64 rtb)
            exact ⟨wr.heap.size, B1, b1, B2, b2, rfl, rfl, Nat.le_refl _, hS4.2.1, hS4.1.base (b' := w.heap.size) (by simp only [World.drew, World.size_alloc]; omega), (((Below.refl wr.heap.size wr).alloc (Nat.le_refl _) (.cells #[.int .i64 0, .slice none 0 0, .slice none 0 0, .int .i64 0] 31)).drew.trans (hb5.mono (by simp only [World.drew, World.size_alloc]; omega))).trans (hS4.2.2.below (fun k (hk : k < wr.heap.size) => by omega))⟩
        case rest =>
          obtain ⟨db, B1, b1, B2, b2, rfl, rfl, hdb, hdx, hownx, hbx⟩ := hcut
          have HDX := Lib.hid hdx
          have HOX := Lib.hid hownx
          have HBX := Lib.hid hbx
          have HCX := Lib.hid ((hbx.block cb hltr).trans HC.out)
          have HRX := Lib.hid ((hbx.block w.heap.size hltw).trans HR.out)
          have c0 : wc.cell? ⟨cb, 0, none⟩ = some (.int .i64 ep) := by rw [cell_of_block HCX.out]; rfl
          have c1 : wc.cell? ⟨cb, 1, none⟩ = some (.slice E1 ss.length e1) := by rw [cell_of_block HCX.out]; rfl
          have c2 : wc.cell? ⟨cb, 2, none⟩ = some (.slice E2 ps.length e2) := by rw [cell_of_block HCX.out]; rfl
          have c3 : wc.cell? ⟨cb, 3, none⟩ = some (.int .i64 tb) := by rw [cell_of_block HCX.out]; rfl
          have x0 : wc.cell? ⟨db, 0, none⟩ = some (.int .i64 rep) := by rw [cell_of_block hdx]; rfl
          have x1 : wc.cell? ⟨db, 1, none⟩ = some (.slice B1 rss.length b1) := by rw [cell_of_block hdx]; rfl
          have x2 : wc.cell? ⟨db, 2, none⟩ = some (.slice B2 rps.length b2) := by rw [cell_of_block hdx]; rfl
          have x3 : wc.cell? ⟨db, 3, none⟩ = some (.int .i64 rtb) := by rw [cell_of_block hdx]; rfl
          have fc : ∀ j, wc.frozen? ⟨cb, j, none⟩ = false := fun j => free_of_block HCX.out
          have hzx := hbx.size
          clear hdx hownx hbx o0 o1 o2 o3 o4 hci hkr
          by_cases hq : q = 0
          · have d1 : (q == 0) = true := by simpa using hq
            have HV3 := Lib.hid (HV2.out hq)
            clear hq
            go_wp2
            go_roundw
            case rel =>
              have hS4 := HOX.out.set4 HCX.out (.int .i64 rep) (.slice B1 rss.length b1) (.slice B2 rps.length b2) (.int .i64 rtb)
              have hv3 := HV3.out
              refine ⟨k + 1, ⟨rep, rss, rps, rtb⟩, B1, b1, B2, b2, by omega, by omega, by go_num, hv3.1, by have := hv3.2; show rep ≤ _; omega, hS4.2.1, hS4.1, (hS4.2.2.block _ (by show w.heap.size ≠ cb; omega)).trans HRX.out, (HB.out.trans (HBX.out.mono (by omega))).trans (hS4.2.2.below (fun j hj => by omega))⟩
            case measure => simp [intOf]; omega
          · have d1 : (q == 0) = false := by simpa using hq
            clear hq
            go_wp2
            go_roundw
            case rel =>
              refine ⟨k + 1, ⟨ep, ss, ps, tb⟩, E1, e1, E2, e2, by omega, by omega, by go_num, Hck.out, by show ep ≤ _; omega, HCX.out, ?_, HRX.out, HB.out.trans (HBX.out.mono (by omega))⟩
              exact HO.out.keep (Keep.of_below (S := fun k => k < wr.heap.size) HBX.out (fun k hk => hk)) (fun k _ hk => hk)
            case measure => simp [intOf]; omega
      · have C9 := Lib.hid HC.out
        have hfr : ∀ j, wr.frozen? ⟨w.heap.size, j, none⟩ = false := fun j => free_of_block HR.out
        have r0 : wr.cell? ⟨w.heap.size, 0, none⟩ = some (.int .i64 0) := by rw [cell_of_block HR.out]; rfl
        have r1 : wr.cell? ⟨w.heap.size, 1, none⟩ = some (.slice none 0 0) := by rw [cell_of_block HR.out]; rfl
        have r2 : wr.cell? ⟨w.heap.size, 2, none⟩ = some (.slice none 0 0) := by rw [cell_of_block HR.out]; rfl
        have r3 : wr.cell? ⟨w.heap.size, 3, none⟩ = some (.int .i64 0) := by rw [cell_of_block HR.out]; rfl
        have hS4 := HO.out.set4 HR.out (.int .i64 ep) (.slice E1 ss.length e1) (.slice E2 ps.length e2) (.int .i64 tb)
        have HS4 := Lib.hid hS4
        clear hS4 hown hcbx hbw
        go_wp2
        (try simp only [Exit.inBlock, Exit.then])
        refine bodyPost_ret (results_cell_row rfl _ _ w.heap.size _ _ _ _ rfl HS4.out.2.1 Tryd.underlying31 rfl (by kernel_rfl)) rfl ?_
        exact ⟨⟨ep, ss, ps, tb⟩, _, rfl, HS4.out.1, ⟨Hck.out, by show ep ≤ 61; omega⟩, HB.out.trans (HS4.out.2.2.below (fun k hk => by omega))⟩
    · have C9 := Lib.hid HC.out
      have hfr : ∀ j, wr.frozen? ⟨w.heap.size, j, none⟩ = false := fun j => free_of_block HR.out
      have r0 : wr.cell? ⟨w.heap.size, 0, none⟩ = some (.int .i64 0) := by rw [cell_of_block HR.out]; rfl
      have r1 : wr.cell? ⟨w.heap.size, 1, none⟩ = some (.slice none 0 0) := by rw [cell_of_block HR.out]; rfl
      have r2 : wr.cell? ⟨w.heap.size, 2, none⟩ = some (.slice none 0 0) := by rw [cell_of_block HR.out]; rfl
      have r3 : wr.cell? ⟨w.heap.size, 3, none⟩ = some (.int .i64 0) := by rw [cell_of_block HR.out]; rfl
      have hS4 := HO.out.set4 HR.out (.int .i64 ep) (.slice E1 ss.length e1) (.slice E2 ps.length e2) (.int .i64 tb)
      have HS4 := Lib.hid hS4
      clear hS4 hown hcbx hbw
      go_wp2
      (try simp only [Exit.inBlock, Exit.then])
      refine bodyPost_ret (results_cell_row rfl _ _ w.heap.size _ _ _ _ rfl HS4.out.2.1 Tryd.underlying31 rfl (by kernel_rfl)) rfl ?_
      exact ⟨⟨ep, ss, ps, tb⟩, _, rfl, HS4.out.1, ⟨Hck.out, by show ep ≤ 61; omega⟩, HB.out.trans (HS4.out.2.2.below (fun k hk => by omega))⟩
end Go.Proofs.YtkmaepefpcpckaaDoor
