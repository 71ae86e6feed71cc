/- Walk of layer 12's Where. -/
import Derived.Test.YtkmaepefpcpckaaDoorCfgO
import Derived.Test.YtkmaepefpcpckaaDoorCfgV
set_option linter.unusedVariables false
set_option linter.unusedSimpArgs false
namespace Go.Proofs.YtkmaepefpcpckaaDoor
open Go.RowKit

def Cf.whereI (b : Int) : List Cf.Part → Int → Int
  | [], _ => -1
  | p :: r, i => if Cf.withinB b p.f (p.t - 1) = true then i else Cf.whereI b r (i + 1)
def Cf.whereR : Option (Int × Int) → Int × Int × Int
  | none => (0, 0, 71)
  | some x => (x.1, x.2, 0)
theorem whereI_drop (b : Int) (ps : List Cf.Part) (p : Cf.Part) (k : Nat) (hlt : k < ps.length) (hp : p = ps[k]) : Cf.whereI b (ps.drop k) k = if Cf.withinB b p.f (p.t - 1) = true then (k : Int) else Cf.whereI b (ps.drop (k + 1)) (k + 1 : Nat) := by
  rw [List.drop_eq_getElem_cons hlt, hp]; rfl
/-- what the index tells -/
theorem whereI_own (b : Int) : ∀ (ps : List Cf.Part) (i : Int), (Cf.own ps b = none ∧ Cf.whereI b ps i = -1) ∨ ∃ (j : Nat) (p : Cf.Part), ps[j]? = some p ∧ Cf.whereI b ps i = i + j ∧ Cf.own ps b = some (p.a, p.b)
  | [], i => .inl ⟨rfl, rfl⟩
  | p :: r, i => by
    by_cases e : Cf.withinB b p.f (p.t - 1) = true
    · refine .inr ⟨0, p, rfl, ?_, ?_⟩
      · unfold Cf.whereI; rw [if_pos e]; simp
      · unfold Cf.own; rw [List.find?_cons_of_pos (by simpa using e)]; rfl
    · have h1 : Cf.own (p :: r) b = Cf.own r b := by unfold Cf.own; rw [List.find?_cons_of_neg (by simpa using e)]
      have h2 : Cf.whereI b (p :: r) i = Cf.whereI b r (i + 1) := by conv => lhs; unfold Cf.whereI; rw [if_neg e]
      rcases whereI_own b r (i + 1) with ⟨h3, h4⟩ | ⟨j, q, h3, h4, h5⟩
      · exact .inl ⟨by rw [h1, h3], by rw [h2, h4]⟩
      · exact .inr ⟨j + 1, q, by simpa using h3, by rw [h2, h4]; push_cast; omega, by rw [h1, h5]⟩

theorem where1_any (pf pt pa pbb b : Int) (bb : Nat) (W : World) (h1 : 0 ≤ pt) (h2 : pt ≤ 1000) (hc : W.cell? ⟨bb, 0, none⟩ = some (.int .i64 b)) :
    Calls Tryd.prog 30 #[.agg #[.int .i64 pf, .int .i64 pt, .int .i64 pa, .int .i64 pbb], .pointer (some ⟨bb, 0, none⟩)] W fun e w' => e = .returned (.bool (Cf.withinB b pf (pt - 1))) ∧ Below W.heap.size W w' := by
  have hlt : bb < W.heap.size := World.block_lt_of_cell? W _ hc
  go_enter Tryd.func30, Tryd.ntmps30
  go_wp2_with (go_at_call 26; refine (within_any _ _ _ _).mono ?_; rintro e w' ⟨rfl, rfl⟩)
  go_ret
  exact ⟨rfl, (Below.refl _ _).alloc (Nat.le_refl _) _⟩

set_option maxRecDepth 100000 in
set_option maxHeartbeats 800000 in
theorem ifuncP_any (ps : List Cf.Part) (b : Int) (bb : Nat) (pv : Value) (w : World) (h : Sl w pv ps.length 4 (Cf.parts ps)) (hb : ∀ p ∈ ps, 0 ≤ p.t ∧ p.t ≤ 1000) (hc : w.cell? ⟨bb, 0, none⟩ = some (.int .i64 b)) :
    Calls Tryd.prog 29 #[pv, .func (.func 30) #[] #[.pointer (some ⟨bb, 0, none⟩)]] w fun e w' => e = .returned (.int .i64 (Cf.whereI b ps 0)) ∧ Below w.heap.size w w' := by
  obtain ⟨-, hm, A, cc, rfl, hcl⟩ := h
  have hlt : bb < w.heap.size := World.block_lt_of_cell? w _ hc
  obtain ⟨r, hr⟩ : ∃ r, r = Cf.whereI b ps 0 := ⟨_, rfl⟩
  rw [← hr]
  have Hr := Lib.hid hr
  have HPb := Lib.hid hb
  clear hr hb
  go_enter Tryd.func29, Tryd.ntmps29
  go_wp2
  go_loopw [5, 8] (fun _ i wr => ∃ j : Nat, j ≤ ps.length ∧ i = .int .i64 j ∧ Cf.whereI b (ps.drop j) j = r ∧ Below w.heap.size w wr) (fun _ i _ => ps.length - (intOf i).toNat)
  case atStart => exact ⟨0, by omega, rfl, Hr.out.symm, Below.refl _ _⟩
  case round =>
    obtain ⟨j, hj, rfl, hrest, hbw⟩ := hrel
    have Hj := Lib.hid hrest
    have HB := Lib.hid hbw
    clear hrest
    by_cases hlt' : j < ps.length
    · obtain ⟨vb, vo, rfl, hcell⟩ := hcl (by omega)
      obtain ⟨p, hp⟩ : ∃ p, p = ps[j] := ⟨_, rfl⟩
      have hg := parts_get ps j hlt'
      rw [← hp] at hg
      have Hd := Lib.hid (whereI_drop b ps p j hlt' hp)
      have hpb := HPb.out p (by rw [hp]; exact List.getElem_mem _)
      clear hp
      obtain ⟨pf, pt, pa, pbb⟩ := p
      dsimp only at hg hpb Hd
      have hbl : vb < w.heap.size := by
        have := hcell (j * 4) (by omega)
        rw [hg.1] at this
        exact World.block_lt_of_cell? w _ this
      obtain ⟨hbc, -⟩ := bcell hbw
      have p0 : wr.cell? ⟨vb, vo + j * 4, none⟩ = some (.int .i64 pf) := by rw [hbc _ _ hbl, hcell (j * 4) (by omega), hg.1]
      have p1 : wr.cell? ⟨vb, vo + j * 4 + 1, none⟩ = some (.int .i64 pt) := by rw [hbc _ _ hbl, Nat.add_assoc, hcell (j * 4 + 1) (by omega), hg.2.1]
      have p2 : wr.cell? ⟨vb, vo + j * 4 + 2, none⟩ = some (.int .i64 pa) := by rw [hbc _ _ hbl, Nat.add_assoc, hcell (j * 4 + 2) (by omega), hg.2.2.1]
      have p3 : wr.cell? ⟨vb, vo + j * 4 + 3, none⟩ = some (.int .i64 pbb) := by rw [hbc _ _ hbl, Nat.add_assoc, hcell (j * 4 + 3) (by omega), hg.2.2.2]
      have hcb : wr.cell? ⟨bb, 0, none⟩ = some (.int .i64 b) := by rw [hbc _ _ hlt, hc]
      have hzw := hbw.size
      clear hbc hg hcell hbl hcl hbw
      cases e : Cf.withinB b pf (pt - 1)
      · have Hf := Lib.hid (show Cf.whereI b (ps.drop (j + 1)) (j + 1 : Nat) = r by rw [← Hj.out, Hd.out, if_neg (by rw [e]; decide)])
        go_wp2_with fail
        refine (where1_any pf pt pa pbb b bb wr hpb.1 hpb.2 hcb).mono ?_
        rintro e' w' ⟨rfl, hb'⟩
        rw [e]
        go_wp2
        go_roundw
        case rel => exact ⟨j + 1, by omega, by go_num, Hf.out, HB.out.trans (hb'.mono hzw)⟩
        case measure => simp [intOf]; omega
      · have Hf := Lib.hid (show (j : Int) = r by rw [← Hj.out, Hd.out, if_pos e])
        go_wp2_with fail
        refine (where1_any pf pt pa pbb b bb wr hpb.1 hpb.2 hcb).mono ?_
        rintro e' w' ⟨rfl, hb'⟩
        rw [e]
        go_wp2
        go_ret
        exact ⟨by rw [← Hf.out]; rfl, HB.out.trans (hb'.mono hzw)⟩
    · have Hf := Lib.hid (show (-1 : Int) = r by rw [← Hj.out, List.drop_of_length_le (by omega)]; rfl)
      go_wp2
      go_ret
      exact ⟨by rw [← Hf.out]; rfl, HB.out⟩

set_option maxRecDepth 100000 in
set_option maxHeartbeats 800000 in
theorem where_any (w : World) (v : Value) (c : Cf.Cfg) (b : Int) (h : CIn w v c) (hb : ∀ p ∈ c.pt, 0 ≤ p.t ∧ p.t ≤ 1000) (o : Option (Int × Int)) (ho : Cf.own c.pt b = o) :
    Calls Tryd.prog 11 #[v, .int .i64 b] w fun e w' => e = .returned (.tuple #[.int .i64 (Cf.whereR o).1, .int .i64 (Cf.whereR o).2.1, .int .i64 (Cf.whereR o).2.2]) ∧ Below w.heap.size w w' := by
  obtain ⟨ep, ss, ps, tb⟩ := c
  obtain ⟨sv, pv, rfl, hs, hp'⟩ := h
  dsimp only at *
  have hp2 := hp'
  obtain ⟨-, hm, A, cc, rfl, hcl⟩ := hp2
  have B2 := Lib.hid (((Below.refl w.heap.size w).alloc (Nat.le_refl _) (.cells #[.int .i64 ep, sv, .slice A ps.length cc, .int .i64 tb] 31)).alloc (by simp) (.cells #[.int .i64 b] 3))
  have HO := Lib.hid ho
  have HW := Lib.hid (whereI_own b ps 0)
  clear ho
  go_enter Tryd.func11, Tryd.ntmps11
  go_wp2_with fail
  refine (ifuncP_any ps b (w.heap.size + 1) _ _ (by exact hp'.below B2.out) hb (by go_simp)).mono ?_
  rintro e w1 ⟨rfl, hb1⟩
  have HB1 := Lib.hid (B2.out.trans (hb1.mono (by simp; omega)))
  have q2 : w1.cell? ⟨w.heap.size, 2, none⟩ = some (.slice A ps.length cc) := by rw [(bcell hb1).1 _ _ (by simp; omega)]; go_simp
  rcases HW.out with ⟨h1, h2⟩ | ⟨j, p, h3, h4, h5⟩
  · rw [h2]
    have ho2 : o = none := by rw [← HO.out, h1]
    subst ho2
    go_wp2
    go_ret3
    exact ⟨rfl, HB1.out⟩
  · have ho2 : o = some (p.a, p.b) := by rw [← HO.out, h5]
    subst ho2
    rw [h4, show (0 : Int) + (j : Int) = (j : Int) by omega]
    have hj := (List.getElem?_eq_some_iff.1 h3).1
    have hpj : ps[j] = p := (List.getElem?_eq_some_iff.1 h3).2
    obtain ⟨vb, vo, rfl, hcell⟩ := hcl (by omega)
    have hg := parts_get ps j hj
    rw [hpj] at hg
    have hbl : vb < w.heap.size := by
      have := hcell (j * 4) (by omega)
      rw [hg.1] at this
      exact World.block_lt_of_cell? w _ this
    have p2 : w1.cell? ⟨vb, vo + j * 4 + 2, none⟩ = some (.int .i64 p.a) := by rw [(bcell HB1.out).1 _ _ hbl, Nat.add_assoc, hcell (j * 4 + 2) (by omega), hg.2.2.1]
    have p3 : w1.cell? ⟨vb, vo + j * 4 + 3, none⟩ = some (.int .i64 p.b) := by rw [(bcell HB1.out).1 _ _ hbl, Nat.add_assoc, hcell (j * 4 + 3) (by omega), hg.2.2.2]
    have hj0 : (0 : Int) ≤ (j : Int) := by omega
    have hj1 : (j : Int) < (ps.length : Int) := by omega
    clear hg hcell h3 h4 h5 hpj hcl hb1
    go_wp2
    go_quiet (fail)
    go_wp2
    go_ret3
    exact ⟨rfl, belowN HB1.out _⟩
end Go.Proofs.YtkmaepefpcpckaaDoor
