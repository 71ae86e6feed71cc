/- Walk of layer 12's Apply. -/
import Derived.Test.YtkmaepefpcpckaaDoorCfgJ
import Derived.Test.YtkmaepefpcpckaaDoorCfgMathC
import Derived.Laws.ResultCell
set_option linter.unusedVariables false
set_option linter.unusedSimpArgs false
namespace Go.Proofs.YtkmaepefpcpckaaDoor
open Go.RowKit

theorem results_ct {P : Program} {fn : Func} {p u : Tmp} {ty : TypeId} (h : fn.results = #[.cell p ty, .tmp u]) (tmps : Array Value) (w : World) (g : Nat) (t : TypeId) (cs : Array Value) (fr : Nat × Nat) (d : TypeDesc)
    (hp : tmps.getD p undef = .pointer (some ⟨g, 0, none⟩)) (hg : w.heap[g]? = some (.cells cs t fr))
    (hu : P.underlying ty = some d) (hd : (match d with | .struct _ | .array _ _ => true | _ => false) = true) (hi : (P.info? ty).map (·.size) = some cs.size) :
    (results fn tmps).run P w = .ok (.tuple #[.agg cs, tmps.getD u undef]) w := by
  have hp' : tmps[p]?.getD undef = .pointer (some ⟨g, 0, none⟩) := by simpa using hp
  rw [results_cell_tmp h]
  simp [hp', asAddr, run_loadVar_row w g t ty cs fr d hg hu hd hi]

/-- A config that is read. -/
def CIn (w : World) (v : Value) (c : Cf.Cfg) : Prop := ∃ sv pv, v = .agg #[.int .i64 c.ep, sv, pv, .int .i64 c.tb] ∧ Sl w sv c.sv.length 1 (Cf.ints c.sv) ∧ Sl w pv c.pt.length 4 (Cf.parts c.pt)
theorem CIn.below {w w1 : World} {v : Value} {c : Cf.Cfg} (h : CIn w v c) (hb : Below w.heap.size w w1) : CIn w1 v c := by
  obtain ⟨sv, pv, rfl, h1, h2⟩ := h
  exact ⟨sv, pv, rfl, h1.below hb, h2.below hb⟩
/-- A config whose lists are their own. -/
def COwn (base : Nat) (w : World) (v : Value) (c : Cf.Cfg) : Prop := ∃ sv pv, v = .agg #[.int .i64 c.ep, sv, pv, .int .i64 c.tb] ∧ w.ownsRow base 3 1 sv c.sv.length (Cf.ints c.sv) ∧ w.ownsRow base 69 4 pv c.pt.length (Cf.parts c.pt) ∧ c.sv.length ≤ 1000 ∧ c.pt.length ≤ 1000
theorem COwn.inn {base : Nat} {w : World} {v : Value} {c : Cf.Cfg} (h : COwn base w v c) : CIn w v c := by
  obtain ⟨sv, pv, rfl, h1, h2, h3, h4⟩ := h
  exact ⟨sv, pv, rfl, own_sl h1 (by omega), own_sl h2 (by omega)⟩
theorem COwn.keep {base : Nat} {w w' : World} {v : Value} {c : Cf.Cfg} {S : Nat → Prop} (h : COwn base w v c) (hk : Keep S w w') (hS : ∀ k, base ≤ k → k < w.heap.size → S k) : COwn base w' v c := by
  obtain ⟨sv, pv, rfl, h1, h2, h3, h4⟩ := h
  exact ⟨sv, pv, rfl, hk.owns h1 (fun k hk => hS k (h1.lt k hk).1 (h1.lt k hk).2), hk.owns h2 (fun k hk => hS k (h2.lt k hk).1 (h2.lt k hk).2), h3, h4⟩
theorem COwn.base {b b' : Nat} {w : World} {v : Value} {c : Cf.Cfg} (h : COwn b w v c) (hb : b' ≤ b) : COwn b' w v c := by
  obtain ⟨sv, pv, rfl, h1, h2, h3, h4⟩ := h
  exact ⟨sv, pv, rfl, own_base h1 hb, own_base h2 hb, h3, h4⟩
theorem COwn.zero (base : Nat) (w : World) : COwn base w (.agg #[.int .i64 0, .slice none 0 0, .slice none 0 0, .int .i64 0]) Cf.zero :=
  ⟨_, _, rfl, World.ownsRow_nil _ _ _ _, World.ownsRow_nil _ _ _ _, by simp [Cf.zero], by simp [Cf.zero]⟩
theorem CIn.zero (w : World) : CIn w (.agg #[.int .i64 0, .slice none 0 0, .slice none 0 0, .int .i64 0]) Cf.zero :=
  ⟨_, _, rfl, ⟨rfl, by simp [Cf.zero], none, 0, rfl, fun h => absurd h (by simp [Cf.zero])⟩, ⟨rfl, by simp [Cf.zero], none, 0, rfl, fun h => absurd h (by simp [Cf.zero])⟩⟩

/-- The table of orders, as it is laid. -/
def Kinds (w : World) : Prop := w.cell? ⟨0, 1, none⟩ = some (.func (.func 79) #[] #[]) ∧ w.cell? ⟨0, 2, none⟩ = some (.func (.func 80) #[] #[]) ∧ w.cell? ⟨0, 3, none⟩ = some (.func (.func 81) #[] #[]) ∧ w.cell? ⟨0, 4, none⟩ = some (.func (.func 82) #[] #[])
theorem Kinds.lt {w : World} (h : Kinds w) : 0 < w.heap.size := World.block_lt_of_cell? w _ h.1
theorem Kinds.below {w w1 : World} {B : Nat} (h : Kinds w) (hb : Below B w w1) (h0 : 0 < B) : Kinds w1 := by
  obtain ⟨h1, h2, h3, h4⟩ := h
  exact ⟨by rw [(bcell hb).1 _ _ h0]; exact h1, by rw [(bcell hb).1 _ _ h0]; exact h2, by rw [(bcell hb).1 _ _ h0]; exact h3, by rw [(bcell hb).1 _ _ h0]; exact h4⟩

theorem check_is (c : Cf.Cfg) (r : Int) (hr : Cf.check c = r) (sv pv : Value) (w : World) (hs : Sl w sv c.sv.length 1 (Cf.ints c.sv)) (hp : Sl w pv c.pt.length 4 (Cf.parts c.pt)) :
    Calls Tryd.prog 12 #[.agg #[.int .i64 c.ep, sv, pv, .int .i64 c.tb]] w (SomeErr r w) := by
  rw [← hr]; exact check_any c sv pv w hs hp
theorem within_is (n a b : Int) (r : Bool) (hr : Cf.withinB n a b = r) (w : World) : Calls Tryd.prog 26 #[.int .i64 n, .int .i64 a, .int .i64 b] w fun e w' => e = .returned (.bool r) ∧ w = w' := by
  rw [← hr]; exact within_any n a b w

/-- What Apply leaves. -/
def Applied (w : World) (r : Cf.Cfg × Int) (e : Ending) (w' : World) : Prop := ∃ v', e = .returned (.tuple #[v', .int .i64 r.2]) ∧ COwn w.heap.size w' v' r.1 ∧ Below w.heap.size w w'

theorem place_any (w : World) (cb base : Nat) (c : Cf.Cfg) (o : Cf.Ord) (sv pv : Value) (h : CBox w cb base c sv pv) (hl : c.sv.length ≤ 1000) (hp : c.pt.length ≤ 1000) :
    Calls Tryd.prog 81 #[.pointer (some ⟨cb, 0, none⟩), ordV o] w (Did w cb base (Cf.place c o)) := by
  by_cases c1 : o.f < 0 ∨ o.f ≥ o.t ∨ o.t > 256
  · exact place_e1 w cb base c o sv pv h hl hp (.inl c1)
  by_cases c2 : o.n = o.m
  · exact place_e1 w cb base c o sv pv h hl hp (.inr c2)
  cases k1 : Cf.hasB c.sv o.n
  · exact place_e2 w cb base c o sv pv h hl hp c1 c2 k1
  cases k2 : Cf.hasB c.sv o.m
  · exact place_e3 w cb base c o sv pv h hl hp c1 c2 k1 k2
  · exact place_ok w cb base c o sv pv h hl hp c1 c2 k1 k2
theorem leave_any (w : World) (cb base : Nat) (c : Cf.Cfg) (o : Cf.Ord) (sv pv : Value) (h : CBox w cb base c sv pv) (hl : c.sv.length ≤ 1000) (hp : c.pt.length ≤ 1000) (k3 : Cf.chkS (-1) c.sv = true) :
    Calls Tryd.prog 80 #[.pointer (some ⟨cb, 0, none⟩), ordV o] w (Did w cb base (Cf.leave c o)) := by
  cases k1 : Cf.hasB c.sv o.n
  · exact leave_e1 w cb base c o sv pv h hl hp k1
  by_cases k2 : c.sv.length ≤ 2
  · exact leave_e2 w cb base c o sv pv h hl hp k1 k2
  · exact leave_ok w cb base c o sv pv h hl hp k1 k2 k3

set_option maxRecDepth 100000 in
set_option maxHeartbeats 800000 in
theorem apply_e1 (w : World) (v : Value) (c : Cf.Cfg) (o : Cf.Ord) (h : CIn w v c) (r1 : Int) (hck : Cf.check c = r1) (hr1 : r1 ≠ 0) :
    Calls Tryd.prog 10 #[v, ordV o] w (Applied w (Cf.apply c o)) := by
  have Hf := Lib.hid (show Cf.apply c o = (Cf.zero, r1) by unfold Cf.apply; rw [if_pos (by rw [hck]; exact hr1), hck])
  obtain ⟨ep, ss, ps, tb⟩ := c
  obtain ⟨ok, on, om, of, ot⟩ := o
  obtain ⟨sv, pv, rfl, hs, hp'⟩ := h
  unfold ordV
  dsimp only at hs hp'
  have B3 := Lib.hid ((((Below.refl w.heap.size w).alloc (Nat.le_refl _) (.cells #[.int .i64 ep, sv, pv, .int .i64 tb] 31)).alloc (by simp) (.cells #[.int .i64 ok, .int .i64 on, .int .i64 om, .int .i64 of, .int .i64 ot] 26)).alloc (by simp; omega) (.cells #[.int .i64 0, .slice none 0 0, .slice none 0 0, .int .i64 0] 31))
  have H3 := Lib.hid (heap3 w (.cells #[.int .i64 ep, sv, pv, .int .i64 tb] 31) (.cells #[.int .i64 ok, .int .i64 on, .int .i64 om, .int .i64 of, .int .i64 ot] 26) (.cells #[.int .i64 0, .slice none 0 0, .slice none 0 0, .int .i64 0] 31) w.heap.size rfl)
  rw [Hf.out]
  have d1 : (r1 != 0) = true := by simpa using hr1
  clear hr1
  go_enter Tryd.func10, Tryd.ntmps10
  go_wp2_with fail
  refine (check_is ⟨ep, ss, ps, tb⟩ r1 hck sv pv _ (by exact hs.below B3.out) (by exact hp'.below B3.out)).mono ?_
  rintro e w1 ⟨rfl, hb1⟩
  have hz1 : w.heap.size + 2 < w1.heap.size := by have := hb1.size; simp at this; omega
  have C1 := Lib.hid ((hb1.block w.heap.size (by simp; omega)).trans H3.out.1)
  have O1 := Lib.hid ((hb1.block (w.heap.size + 1) (by simp)).trans H3.out.2.1)
  have R1' := Lib.hid ((hb1.block (w.heap.size + 2) (by simp)).trans H3.out.2.2.1)
  have HB1 := Lib.hid (B3.out.trans (hb1.mono (by simp; omega)))
  have x0 : w1.cell? ⟨w.heap.size, 0, none⟩ = some (.int .i64 ep) := by rw [cell_of_block C1.out]; rfl
  have x1 : w1.cell? ⟨w.heap.size, 1, none⟩ = some sv := by rw [cell_of_block C1.out]; rfl
  have x2 : w1.cell? ⟨w.heap.size, 2, none⟩ = some pv := by rw [cell_of_block C1.out]; rfl
  have x3 : w1.cell? ⟨w.heap.size, 3, none⟩ = some (.int .i64 tb) := by rw [cell_of_block C1.out]; rfl
  have o0 : w1.cell? ⟨w.heap.size + 1, 0, none⟩ = some (.int .i64 ok) := by rw [cell_of_block O1.out]; rfl
  have r0 : w1.cell? ⟨w.heap.size + 2, 0, none⟩ = some (.int .i64 0) := by rw [cell_of_block R1'.out]; rfl
  have r1 : w1.cell? ⟨w.heap.size + 2, 1, none⟩ = some (.slice none 0 0) := by rw [cell_of_block R1'.out]; rfl
  have r2 : w1.cell? ⟨w.heap.size + 2, 2, none⟩ = some (.slice none 0 0) := by rw [cell_of_block R1'.out]; rfl
  have r3 : w1.cell? ⟨w.heap.size + 2, 3, none⟩ = some (.int .i64 0) := by rw [cell_of_block R1'.out]; rfl
  have fr : ∀ j, w1.frozen? ⟨w.heap.size + 2, j, none⟩ = false := fun j => free_of_block R1'.out
  clear hb1
  go_wp2
  (try simp only [Exit.inBlock, Exit.then])
  refine bodyPost_ret (results_ct rfl _ _ (w.heap.size + 2) _ _ _ _ rfl (block_setCell (o := 3) (block_setCell (o := 2) (block_setCell (o := 1) (block_setCell (o := 0) R1'.out _) _) _) _) Tryd.underlying31 rfl (by kernel_rfl)) rfl ?_
  refine ⟨_, rfl, COwn.zero _ _, ?_⟩
  exact (((HB1.out.setCell (p := ⟨w.heap.size + 2, 0, none⟩) (Nat.le_add_right _ 2) _).setCell (p := ⟨w.heap.size + 2, 1, none⟩) (Nat.le_add_right _ 2) _).setCell (p := ⟨w.heap.size + 2, 2, none⟩) (Nat.le_add_right _ 2) _).setCell (p := ⟨w.heap.size + 2, 3, none⟩) (Nat.le_add_right _ 2) _

set_option maxRecDepth 100000 in
set_option maxHeartbeats 800000 in
theorem apply_e2 (w : World) (v : Value) (c : Cf.Cfg) (o : Cf.Ord) (h : CIn w v c) (hck : Cf.check c = 0) (hep : c.ep = 1099511627776) :
    Calls Tryd.prog 10 #[v, ordV o] w (Applied w (Cf.apply c o)) := by
  have Hf := Lib.hid (show Cf.apply c o = (Cf.zero, 6) by unfold Cf.apply; rw [if_neg (by rw [hck]; decide), if_pos hep])
  obtain ⟨ep, ss, ps, tb⟩ := c
  obtain ⟨ok, on, om, of, ot⟩ := o
  obtain ⟨sv, pv, rfl, hs, hp'⟩ := h
  unfold ordV
  dsimp only at hs hp' hep
  have B3 := Lib.hid ((((Below.refl w.heap.size w).alloc (Nat.le_refl _) (.cells #[.int .i64 ep, sv, pv, .int .i64 tb] 31)).alloc (by simp) (.cells #[.int .i64 ok, .int .i64 on, .int .i64 om, .int .i64 of, .int .i64 ot] 26)).alloc (by simp; omega) (.cells #[.int .i64 0, .slice none 0 0, .slice none 0 0, .int .i64 0] 31))
  have H3 := Lib.hid (heap3 w (.cells #[.int .i64 ep, sv, pv, .int .i64 tb] 31) (.cells #[.int .i64 ok, .int .i64 on, .int .i64 om, .int .i64 of, .int .i64 ot] 26) (.cells #[.int .i64 0, .slice none 0 0, .slice none 0 0, .int .i64 0] 31) w.heap.size rfl)
  rw [Hf.out]
  have d1 : (ep == 1099511627776) = true := by simpa using hep
  clear hep
  go_enter Tryd.func10, Tryd.ntmps10
  go_wp2_with fail
  refine (check_is ⟨ep, ss, ps, tb⟩ 0 hck sv pv _ (by exact hs.below B3.out) (by exact hp'.below B3.out)).mono ?_
  rintro e w1 ⟨rfl, hb1⟩
  have hz1 : w.heap.size + 2 < w1.heap.size := by have := hb1.size; simp at this; omega
  have C1 := Lib.hid ((hb1.block w.heap.size (by simp; omega)).trans H3.out.1)
  have O1 := Lib.hid ((hb1.block (w.heap.size + 1) (by simp)).trans H3.out.2.1)
  have R1' := Lib.hid ((hb1.block (w.heap.size + 2) (by simp)).trans H3.out.2.2.1)
  have HB1 := Lib.hid (B3.out.trans (hb1.mono (by simp; omega)))
  have x0 : w1.cell? ⟨w.heap.size, 0, none⟩ = some (.int .i64 ep) := by rw [cell_of_block C1.out]; rfl
  have x1 : w1.cell? ⟨w.heap.size, 1, none⟩ = some sv := by rw [cell_of_block C1.out]; rfl
  have x2 : w1.cell? ⟨w.heap.size, 2, none⟩ = some pv := by rw [cell_of_block C1.out]; rfl
  have x3 : w1.cell? ⟨w.heap.size, 3, none⟩ = some (.int .i64 tb) := by rw [cell_of_block C1.out]; rfl
  have o0 : w1.cell? ⟨w.heap.size + 1, 0, none⟩ = some (.int .i64 ok) := by rw [cell_of_block O1.out]; rfl
  have r0 : w1.cell? ⟨w.heap.size + 2, 0, none⟩ = some (.int .i64 0) := by rw [cell_of_block R1'.out]; rfl
  have r1 : w1.cell? ⟨w.heap.size + 2, 1, none⟩ = some (.slice none 0 0) := by rw [cell_of_block R1'.out]; rfl
  have r2 : w1.cell? ⟨w.heap.size + 2, 2, none⟩ = some (.slice none 0 0) := by rw [cell_of_block R1'.out]; rfl
  have r3 : w1.cell? ⟨w.heap.size + 2, 3, none⟩ = some (.int .i64 0) := by rw [cell_of_block R1'.out]; rfl
  have fr : ∀ j, w1.frozen? ⟨w.heap.size + 2, j, none⟩ = false := fun j => free_of_block R1'.out
  clear hb1
  go_wp2
  (try simp only [Exit.inBlock, Exit.then])
  refine bodyPost_ret (results_ct rfl _ _ (w.heap.size + 2) _ _ _ _ rfl (block_setCell (o := 3) (block_setCell (o := 2) (block_setCell (o := 1) (block_setCell (o := 0) R1'.out _) _) _) _) Tryd.underlying31 rfl (by kernel_rfl)) rfl ?_
  refine ⟨_, rfl, COwn.zero _ _, ?_⟩
  exact (((HB1.out.setCell (p := ⟨w.heap.size + 2, 0, none⟩) (Nat.le_add_right _ 2) _).setCell (p := ⟨w.heap.size + 2, 1, none⟩) (Nat.le_add_right _ 2) _).setCell (p := ⟨w.heap.size + 2, 2, none⟩) (Nat.le_add_right _ 2) _).setCell (p := ⟨w.heap.size + 2, 3, none⟩) (Nat.le_add_right _ 2) _

set_option maxRecDepth 100000 in
set_option maxHeartbeats 800000 in
theorem apply_e3 (w : World) (v : Value) (c : Cf.Cfg) (o : Cf.Ord) (h : CIn w v c) (hck : Cf.check c = 0) (hep : ¬ c.ep = 1099511627776) (hkk : Cf.withinB o.k 1 4 = false) :
    Calls Tryd.prog 10 #[v, ordV o] w (Applied w (Cf.apply c o)) := by
  have Hf := Lib.hid (show Cf.apply c o = (Cf.zero, 1) by unfold Cf.apply; rw [if_neg (by rw [hck]; decide), if_neg hep, if_pos hkk])
  obtain ⟨ep, ss, ps, tb⟩ := c
  obtain ⟨ok, on, om, of, ot⟩ := o
  obtain ⟨sv, pv, rfl, hs, hp'⟩ := h
  unfold ordV
  dsimp only at hs hp' hep hkk
  have B3 := Lib.hid ((((Below.refl w.heap.size w).alloc (Nat.le_refl _) (.cells #[.int .i64 ep, sv, pv, .int .i64 tb] 31)).alloc (by simp) (.cells #[.int .i64 ok, .int .i64 on, .int .i64 om, .int .i64 of, .int .i64 ot] 26)).alloc (by simp; omega) (.cells #[.int .i64 0, .slice none 0 0, .slice none 0 0, .int .i64 0] 31))
  have H3 := Lib.hid (heap3 w (.cells #[.int .i64 ep, sv, pv, .int .i64 tb] 31) (.cells #[.int .i64 ok, .int .i64 on, .int .i64 om, .int .i64 of, .int .i64 ot] 26) (.cells #[.int .i64 0, .slice none 0 0, .slice none 0 0, .int .i64 0] 31) w.heap.size rfl)
  rw [Hf.out]
  have d1 : (ep == 1099511627776) = false := by simpa using hep
  clear hep
  go_enter Tryd.func10, Tryd.ntmps10
  go_wp2_with fail
  refine (check_is ⟨ep, ss, ps, tb⟩ 0 hck sv pv _ (by exact hs.below B3.out) (by exact hp'.below B3.out)).mono ?_
  rintro e w1 ⟨rfl, hb1⟩
  have hz1 : w.heap.size + 2 < w1.heap.size := by have := hb1.size; simp at this; omega
  have C1 := Lib.hid ((hb1.block w.heap.size (by simp; omega)).trans H3.out.1)
  have O1 := Lib.hid ((hb1.block (w.heap.size + 1) (by simp)).trans H3.out.2.1)
  have R1' := Lib.hid ((hb1.block (w.heap.size + 2) (by simp)).trans H3.out.2.2.1)
  have HB1 := Lib.hid (B3.out.trans (hb1.mono (by simp; omega)))
  have x0 : w1.cell? ⟨w.heap.size, 0, none⟩ = some (.int .i64 ep) := by rw [cell_of_block C1.out]; rfl
  have x1 : w1.cell? ⟨w.heap.size, 1, none⟩ = some sv := by rw [cell_of_block C1.out]; rfl
  have x2 : w1.cell? ⟨w.heap.size, 2, none⟩ = some pv := by rw [cell_of_block C1.out]; rfl
  have x3 : w1.cell? ⟨w.heap.size, 3, none⟩ = some (.int .i64 tb) := by rw [cell_of_block C1.out]; rfl
  have o0 : w1.cell? ⟨w.heap.size + 1, 0, none⟩ = some (.int .i64 ok) := by rw [cell_of_block O1.out]; rfl
  have r0 : w1.cell? ⟨w.heap.size + 2, 0, none⟩ = some (.int .i64 0) := by rw [cell_of_block R1'.out]; rfl
  have r1 : w1.cell? ⟨w.heap.size + 2, 1, none⟩ = some (.slice none 0 0) := by rw [cell_of_block R1'.out]; rfl
  have r2 : w1.cell? ⟨w.heap.size + 2, 2, none⟩ = some (.slice none 0 0) := by rw [cell_of_block R1'.out]; rfl
  have r3 : w1.cell? ⟨w.heap.size + 2, 3, none⟩ = some (.int .i64 0) := by rw [cell_of_block R1'.out]; rfl
  have fr : ∀ j, w1.frozen? ⟨w.heap.size + 2, j, none⟩ = false := fun j => free_of_block R1'.out
  clear hb1
  go_wp2_with (go_at_call 26; refine (within_is _ _ _ _ hkk _).mono ?_; rintro e w' ⟨rfl, rfl⟩)
  (try simp only [Exit.inBlock, Exit.then])
  refine bodyPost_ret (results_ct rfl _ _ (w.heap.size + 2) _ _ _ _ rfl (block_setCell (o := 3) (block_setCell (o := 2) (block_setCell (o := 1) (block_setCell (o := 0) R1'.out _) _) _) _) Tryd.underlying31 rfl (by kernel_rfl)) rfl ?_
  refine ⟨_, rfl, COwn.zero _ _, ?_⟩
  exact (((HB1.out.setCell (p := ⟨w.heap.size + 2, 0, none⟩) (Nat.le_add_right _ 2) _).setCell (p := ⟨w.heap.size + 2, 1, none⟩) (Nat.le_add_right _ 2) _).setCell (p := ⟨w.heap.size + 2, 2, none⟩) (Nat.le_add_right _ 2) _).setCell (p := ⟨w.heap.size + 2, 3, none⟩) (Nat.le_add_right _ 2) _
end Go.Proofs.YtkmaepefpcpckaaDoor
