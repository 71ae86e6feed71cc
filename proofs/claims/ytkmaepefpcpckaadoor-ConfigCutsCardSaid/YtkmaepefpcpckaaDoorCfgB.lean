/- Walk of layer 12's Check. -/
import Derived.Test.YtkmaepefpcpckaaDoorCfgA
set_option linter.unusedVariables false
set_option linter.unusedSimpArgs false
namespace Go.Proofs.YtkmaepefpcpckaaDoor
open Go.RowKit

def SomeErr (r : Int) (w : World) (e : Ending) (w' : World) : Prop := e = .returned (.int .i64 r) ∧ Below w.heap.size w w'

def fail1 : Int := 1
set_option maxHeartbeats 400000 in
theorem check_any (c : Cf.Cfg) (sv pv : Value) (w : World) (hs : Sl w sv c.sv.length 1 (Cf.ints c.sv)) (hp : Sl w pv c.pt.length 4 (Cf.parts c.pt)) :
    Calls Tryd.prog 12 #[.agg #[.int .i64 c.ep, sv, pv, .int .i64 c.tb]] w (SomeErr (Cf.check c) w) := by
  obtain ⟨ep, ss, ps, tb⟩ := c
  dsimp only at *
  obtain ⟨-, hm1, A, c1, rfl, hc1⟩ := id hs
  obtain ⟨-, hm2, A2, c2, rfl, hc2⟩ := id hp
  have hb0 : Below w.heap.size w (w.alloc (.cells #[.int .i64 ep, .slice A ss.length c1, .slice A2 ps.length c2, .int .i64 tb] 31)) := (Below.refl _ _).alloc (Nat.le_refl _) _
  obtain ⟨r, hr⟩ : ∃ r, r = Cf.check ⟨ep, ss, ps, tb⟩ := ⟨_, rfl⟩
  have Hr := Lib.hid hr
  rw [← hr]
  clear hr
  by_cases k1 : Cf.withinB ep 1 1099511627776 = true
  case neg =>
    have k1' : Cf.withinB ep 1 1099511627776 = false := by simpa using k1
    have hf : r = 1 := by rw [Hr.out]; simp [Cf.check, k1']
    have Hf := Lib.hid hf
    clear hf k1
    go_enter Tryd.func12, Tryd.ntmps12
    go_wp2_with (go_at_call 26; refine (within_any _ _ _ _).mono ?_; rintro e w' ⟨rfl, rfl⟩)
    go_ret
    exact ⟨by rw [Hf.out]; rfl, hb0⟩
  case pos =>
  by_cases k2 : Cf.withinB tb 1 8 = true
  case neg =>
    have k2' : Cf.withinB tb 1 8 = false := by simpa using k2
    have hf : r = 1 := by rw [Hr.out]; simp [Cf.check, k2']
    have Hf := Lib.hid hf
    clear hf k2
    go_enter Tryd.func12, Tryd.ntmps12
    go_wp2_with (go_at_call 26; refine (within_any _ _ _ _).mono ?_; rintro e w' ⟨rfl, rfl⟩)
    go_ret
    exact ⟨by rw [Hf.out]; rfl, hb0⟩
  case pos =>
  by_cases k3 : ss.length < 2
  case pos =>
    have hf : r = 1 := by rw [Hr.out]; simp [Cf.check, k3]
    have Hf := Lib.hid hf
    clear hf
    go_enter Tryd.func12, Tryd.ntmps12
    go_wp2_with (go_at_call 26; refine (within_any _ _ _ _).mono ?_; rintro e w' ⟨rfl, rfl⟩)
    go_ret
    exact ⟨by rw [Hf.out]; rfl, hb0⟩
  case neg =>
  go_enter Tryd.func12, Tryd.ntmps12
  go_wp2_with (go_at_call 26; refine (within_any _ _ _ _).mono ?_; rintro e w' ⟨rfl, rfl⟩)
  have hb0 := Lib.hid hb0
  go_loop [3, 5, 28] (fun l n i => ∃ k : Nat, ∃ last : Int, k ≤ ss.length ∧ i = .int .i64 k ∧ l = .int .i64 last ∧ Cf.chkS last (ss.drop k) = Cf.chkS (-1) ss) (fun _ _ i => ss.length - (intOf i).toNat)
  case atStart => exact ⟨0, -1, by omega, rfl, rfl, rfl⟩
  case round =>
    obtain ⟨k, last, hk, rfl, rfl, hj⟩ := hrel
    have Hj := Lib.hid hj
    clear hj
    by_cases hlt : k < ss.length
    · obtain ⟨b, o, rfl, hcell⟩ := hc1 (by omega)
      have hck : w.cell? ⟨b, o + k, none⟩ = some (.int .i64 (ss.getD k 0)) := by rw [hcell k (by omega), ints_get ss k hlt]
      clear hcell hc1
      obtain ⟨y, hy⟩ : ∃ y, y = ss.getD k 0 := ⟨_, rfl⟩
      rw [← hy] at hck
      have Hy := Lib.hid hy
      clear hy
      have hbl := World.block_lt_of_cell? w _ hck
      have Hd := Lib.hid (chkS_drop ss last y k hlt Hy.out)
      by_cases he : y ≤ last ∨ y ≥ 8
      · have Hf : Hid (r = 1) := by
          rw [Hr.out]; exact check_s _ _ _ _ (by rw [← Hj.out, Hd.out, if_pos he])
        by_cases he1 : y ≤ last
        all_goals
          go_wp2
          go_ret
          exact ⟨by rw [Hf.out]; rfl, hb0.out⟩
      · have hfin : Cf.chkS y (ss.drop (k + 1)) = Cf.chkS (-1) ss := by rw [← Hj.out, Hd.out, if_neg he]
        have Hf := Lib.hid hfin
        clear hfin
        have he1 : ¬ y ≤ last := by omega
        have he2 : ¬ y ≥ 8 := by omega
        clear he
        go_wp2
        go_round
        case rel => exact ⟨k + 1, y, by omega, by go_num, rfl, Hf.out⟩
        case measure => simp [intOf]; omega
    · have hS : Hid (Cf.chkS (-1) ss = true) := by rw [← Hj.out, List.drop_of_length_le (by omega)]; rfl
      go_wp2
      clear Hj hc1 hm1 hlt
      have hb1 : Below (w.heap.size + 1) (w.alloc (.cells #[.int .i64 ep, .slice A ss.length c1, .slice A2 ps.length c2, .int .i64 tb] 31)) (w.alloc (.cells #[.int .i64 ep, .slice A ss.length c1, .slice A2 ps.length c2, .int .i64 tb] 31)) := Below.refl _ _
      go_loopw [6, 44] (fun l i wr => ∃ k : Nat, ∃ at_ : Int, k ≤ ps.length ∧ i = .int .i64 k ∧ l = .int .i64 at_ ∧ Cf.chkP ss at_ (ps.drop k) = Cf.chkP ss 0 ps ∧ Below (w.heap.size + 1) (w.alloc (.cells #[.int .i64 ep, .slice A ss.length c1, .slice A2 ps.length c2, .int .i64 tb] 31)) wr) (fun _ i _ => ps.length - (intOf i).toNat)
      case atStart => exact ⟨0, 0, by omega, rfl, rfl, rfl, hb1⟩
      case round =>
        clear hb1
        obtain ⟨k, at_, hk, rfl, rfl, hj, hbw⟩ := hrel
        have Hj := Lib.hid hj
        clear hj
        have hbW : Below w.heap.size w wr := hb0.out.trans (hbw.mono (by omega))
        obtain ⟨hbc, -⟩ := bcell hbw
        have q0 : wr.cell? ⟨w.heap.size, 0, none⟩ = some (.int .i64 ep) := by rw [hbc _ _ (by omega)]; go_simp
        have q1 : wr.cell? ⟨w.heap.size, 1, none⟩ = some (.slice A ss.length c1) := by rw [hbc _ _ (by omega)]; go_simp
        have q2 : wr.cell? ⟨w.heap.size, 2, none⟩ = some (.slice A2 ps.length c2) := by rw [hbc _ _ (by omega)]; go_simp
        have q3 : wr.cell? ⟨w.heap.size, 3, none⟩ = some (.int .i64 tb) := by rw [hbc _ _ (by omega)]; go_simp
        clear hbc
        have hsz : w.heap.size < wr.heap.size := by have := hbw.size; simp at this; omega
        by_cases hlt : k < ps.length
        · obtain ⟨pb, po, hA2, hcell⟩ := hc2 (by omega)
          subst hA2
          obtain ⟨p, hp'⟩ : ∃ p, p = ps[k] := ⟨_, rfl⟩
          have hg := parts_get ps k hlt
          rw [← hp'] at hg
          have hd := chkP_drop ss ps at_ p k hlt hp'
          clear hp'
          obtain ⟨pf, pt, pa, pbb⟩ := p
          dsimp only at hg hd
          have hbl : pb < w.heap.size := by
            have := hcell (k * 4) (by omega)
            rw [hg.1] at this
            exact World.block_lt_of_cell? w _ this
          obtain ⟨hbc, -⟩ := bcell hbW
          have p0 : wr.cell? ⟨pb, po + k * 4, none⟩ = some (.int .i64 pf) := by rw [hbc _ _ hbl, hcell (k * 4) (by omega), hg.1]
          have p1 : wr.cell? ⟨pb, po + k * 4 + 1, none⟩ = some (.int .i64 pt) := by rw [hbc _ _ hbl, Nat.add_assoc, hcell (k * 4 + 1) (by omega), hg.2.1]
          have p2 : wr.cell? ⟨pb, po + k * 4 + 2, none⟩ = some (.int .i64 pa) := by rw [hbc _ _ hbl, Nat.add_assoc, hcell (k * 4 + 2) (by omega), hg.2.2.1]
          have p3 : wr.cell? ⟨pb, po + k * 4 + 3, none⟩ = some (.int .i64 pbb) := by rw [hbc _ _ hbl, Nat.add_assoc, hcell (k * 4 + 3) (by omega), hg.2.2.2]
          clear hbc hg hcell
          have Hd := Lib.hid hd
          clear hd
          have HbW := Lib.hid hbW
          have Hbw := Lib.hid hbw
          clear hbW hbw hb0 hc2
          have hsW : ∀ o, Sl (wr.alloc o) (.slice A ss.length c1) ss.length 1 (Cf.ints ss) := fun o => hs.below (HbW.out.alloc HbW.out.size o)
          have hpW : ∀ o, Sl (wr.alloc o) (.slice (some ⟨pb, po, none⟩) ps.length c2) ps.length 4 (Cf.parts ps) := fun o => hp.below (HbW.out.alloc HbW.out.size o)
          by_cases e1 : pf = at_
          case neg =>
            have d1 : (pf != at_) = true := by simpa using e1
            have Hf : Hid (r = 1) := by rw [Hr.out]; exact check_p _ _ _ _ (by rw [← Hj.out, Hd.out, if_pos (.inl e1)])
            go_wp2
            go_ret
            exact ⟨by rw [Hf.out]; rfl, HbW.out.alloc HbW.out.size _⟩
          case pos =>
          subst e1
          by_cases e2 : pt ≤ pf
          case pos =>
            have Hf : Hid (r = 1) := by rw [Hr.out]; exact check_p _ _ _ _ (by rw [← Hj.out, Hd.out, if_pos (.inr (.inl e2))])
            go_wp2
            go_ret
            exact ⟨by rw [Hf.out]; rfl, HbW.out.alloc HbW.out.size _⟩
          case neg =>
          have d2 : decide (pt ≤ pf) = false := by simpa using e2
          by_cases e3 : pa = pbb
          case pos =>
            have d3 : (pa == pbb) = true := by simpa using e3
            have Hf : Hid (r = 1) := by rw [Hr.out]; exact check_p _ _ _ _ (by rw [← Hj.out, Hd.out, if_pos (.inr (.inr (.inl e3)))])
            clear e3
            go_wp2
            go_ret
            exact ⟨by rw [Hf.out]; rfl, HbW.out.alloc HbW.out.size _⟩
          case neg =>
          have d3 : (pa == pbb) = false := by simpa using e3
          have He3 := Lib.hid e3
          clear e3
          cases ha : Cf.hasB ss pa
          case false =>
            have Hf : Hid (r = 1) := by rw [Hr.out]; exact check_p _ _ _ _ (by rw [← Hj.out, Hd.out, if_pos (.inr (.inr (.inr (.inl ha))))])
            go_wp2_with fail
            refine (has_any ss _ _ _ _ _ ps.length (Cf.parts ps) _ (hsW _) (hpW _)).mono ?_
            rintro e w1 ⟨rfl, hb1⟩
            have hz1 : wr.heap.size < w1.heap.size := by have := hb1.size; simp at this; omega
            have hb1' : Below w.heap.size w w1 := (HbW.out.alloc HbW.out.size _).trans (hb1.mono (by have := HbW.out.size; simp; omega))
            have hb1'' := (Hbw.out.alloc (by omega) (.cells #[.int .i64 pf, .int .i64 pt, .int .i64 pa, .int .i64 pbb] 69)).trans (hb1.mono (by simp; omega))
            have Hb1' := Lib.hid hb1'
            have Hb1'' := Lib.hid hb1''
            obtain ⟨hbc1, -⟩ := bcell hb1
            clear hb1 hb1' hb1''
            clear hbc1
            go_wp2
            go_ret
            exact ⟨by rw [Hf.out]; rfl, Hb1'.out⟩
          case true =>
          cases hb : Cf.hasB ss pbb
          case false =>
            have Hf : Hid (r = 1) := by rw [Hr.out]; exact check_p _ _ _ _ (by rw [← Hj.out, Hd.out, if_pos (.inr (.inr (.inr (.inr hb))))])
            go_wp2_with fail
            refine (has_any ss _ _ _ _ _ ps.length (Cf.parts ps) _ (hsW _) (hpW _)).mono ?_
            rintro e w1 ⟨rfl, hb1⟩
            have hz1 : wr.heap.size < w1.heap.size := by have := hb1.size; simp at this; omega
            have hb1' : Below w.heap.size w w1 := (HbW.out.alloc HbW.out.size _).trans (hb1.mono (by have := HbW.out.size; simp; omega))
            have hb1'' := (Hbw.out.alloc (by omega) (.cells #[.int .i64 pf, .int .i64 pt, .int .i64 pa, .int .i64 pbb] 69)).trans (hb1.mono (by simp; omega))
            have Hb1' := Lib.hid hb1'
            have Hb1'' := Lib.hid hb1''
            obtain ⟨hbc1, -⟩ := bcell hb1
            clear hb1 hb1' hb1''
            go_wp2_with fail
            refine (has_any ss _ _ _ _ _ ps.length (Cf.parts ps) _ (hs.below Hb1'.out) (hp.below Hb1'.out)).mono ?_
            rintro e w2 ⟨rfl, hb2⟩
            have hc0 : w1.cell? ⟨wr.heap.size, 1, none⟩ = some (.int .i64 pt) := by rw [hbc1 _ _ (by simp)]; go_simp
            have h20 : w2.cell? ⟨wr.heap.size, 1, none⟩ = some (.int .i64 pt) := by rw [(bcell hb2).1 _ _ hz1, hc0]
            have Hb2' := Lib.hid (Hb1'.out.trans (hb2.mono Hb1'.out.size))
            have Hb2'' := Lib.hid (Hb1''.out.trans (hb2.mono (by omega)))
            clear hb2 hc0
            clear hbc1 h20
            go_wp2
            go_ret
            exact ⟨by rw [Hf.out]; rfl, Hb2'.out⟩
          case true =>
            have Hf : Hid (Cf.chkP ss pt (ps.drop (k + 1)) = Cf.chkP ss 0 ps) := by rw [← Hj.out, Hd.out, if_neg (by simp [ha, hb, He3.out]; omega)]; exact Lib.hid rfl
            go_wp2_with fail
            refine (has_any ss _ _ _ _ _ ps.length (Cf.parts ps) _ (hsW _) (hpW _)).mono ?_
            rintro e w1 ⟨rfl, hb1⟩
            have hz1 : wr.heap.size < w1.heap.size := by have := hb1.size; simp at this; omega
            have hb1' : Below w.heap.size w w1 := (HbW.out.alloc HbW.out.size _).trans (hb1.mono (by have := HbW.out.size; simp; omega))
            have hb1'' := (Hbw.out.alloc (by omega) (.cells #[.int .i64 pf, .int .i64 pt, .int .i64 pa, .int .i64 pbb] 69)).trans (hb1.mono (by simp; omega))
            have Hb1' := Lib.hid hb1'
            have Hb1'' := Lib.hid hb1''
            obtain ⟨hbc1, -⟩ := bcell hb1
            clear hb1 hb1' hb1''
            go_wp2_with fail
            refine (has_any ss _ _ _ _ _ ps.length (Cf.parts ps) _ (hs.below Hb1'.out) (hp.below Hb1'.out)).mono ?_
            rintro e w2 ⟨rfl, hb2⟩
            have hc0 : w1.cell? ⟨wr.heap.size, 1, none⟩ = some (.int .i64 pt) := by rw [hbc1 _ _ (by simp)]; go_simp
            have h20 : w2.cell? ⟨wr.heap.size, 1, none⟩ = some (.int .i64 pt) := by rw [(bcell hb2).1 _ _ hz1, hc0]
            have Hb2' := Lib.hid (Hb1'.out.trans (hb2.mono Hb1'.out.size))
            have Hb2'' := Lib.hid (Hb1''.out.trans (hb2.mono (by omega)))
            clear hb2 hc0
            clear hbc1
            go_wp2
            go_roundw
            case rel => exact ⟨k + 1, pt, by omega, by go_num, rfl, Hf.out, Hb2''.out⟩
            case measure => simp [intOf]; omega
        · have hS2 : Hid (Cf.chkP ss 0 ps = some at_) := by rw [← Hj.out, List.drop_of_length_le (by omega)]; rfl
          have HbW := Lib.hid hbW
          clear hbW hbw hb0 hc2
          have Hf : Hid (r = if at_ = 256 then 0 else 1) := by rw [Hr.out]; exact check_e _ _ _ _ _ k1 k2 k3 hS.out hS2.out
          by_cases e1 : at_ = 256
          · have d1 : (at_ != 256) = false := by simpa using e1
            have Hf2 := Lib.hid (show r = 0 by rw [Hf.out, if_pos e1])
            clear e1
            go_wp2
            go_ret
            exact ⟨by rw [Hf2.out]; rfl, HbW.out⟩
          · have d1 : (at_ != 256) = true := by simpa using e1
            have Hf2 := Lib.hid (show r = 1 by rw [Hf.out, if_neg e1])
            clear e1
            go_wp2
            go_ret
            exact ⟨by rw [Hf2.out]; rfl, HbW.out⟩
end Go.Proofs.YtkmaepefpcpckaaDoor
