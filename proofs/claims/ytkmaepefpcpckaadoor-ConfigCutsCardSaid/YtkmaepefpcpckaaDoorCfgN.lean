/- Walks of layer 12's New, and the law's shown and after. -/
import Derived.Test.YtkmaepefpcpckaaDoorCfgM
set_option linter.unusedVariables false
set_option linter.unusedSimpArgs false
namespace Go.Proofs.YtkmaepefpcpckaaDoor
open Go.RowKit

def Cf.new : Cf.Cfg := ⟨1, [0, 1], [⟨0, 256, 0, 1⟩], 1⟩
theorem new_check : Cf.check Cf.new = 0 := by decide

theorem own_of_block {w : World} {base g n sz : Nat} {cs : Array Value} {t : TypeId} (h : w.heap[g]? = some (.cells cs t (0, 0))) (hb : base ≤ g) (hn : cs.size = n * sz) (hm : n ≤ maxLen) : w.ownsRow base t sz (.slice (some ⟨g, 0, none⟩) n n) n cs.toList :=
  ⟨by simpa using hn, .inr ⟨g, n, cs, rfl, hb, h, Nat.le_refl _, hm, hn, by rw [List.take_of_length_le]; simp; omega⟩⟩

set_option maxHeartbeats 800000 in
theorem new_any (w : World) : Calls Tryd.prog 25 #[] w fun e w' => ∃ v', e = .returned v' ∧ COwn w.heap.size w' v' Cf.new ∧ Below w.heap.size w w' := by
  go_enter Tryd.func25, Tryd.ntmps25
  go_wp2
  have h := heap3 w (.cells #[.int .i64 1, .slice (some ⟨w.heap.size + 1, 0, none⟩) 2 2, .slice (some ⟨w.heap.size + 1 + 1, 0, none⟩) 1 1, .int .i64 1] 31) (.cells #[.int .i64 0, .int .i64 1] 3) (.cells #[.int .i64 0, .int .i64 256, .int .i64 0, .int .i64 1] 69) w.heap.size rfl
  (try simp only [Exit.inBlock, Exit.then])
  refine bodyPost_ret (results_cell_row rfl _ _ w.heap.size _ _ _ _ rfl h.1 Tryd.underlying31 rfl (by kernel_rfl)) rfl ?_
  exact ⟨_, rfl, ⟨_, _, rfl, own_of_block h.2.1 (by omega) rfl (by decide), own_of_block h.2.2.1 (by omega) rfl (by decide), by decide, by decide⟩, h.2.2.2⟩

theorem Tryd.field0 (ep : Int) (sv pv tb : Value) (w : World) : (Instr.field 31 (.agg #[.int .i64 ep, sv, pv, tb]) 0).run Tryd.prog w = .ok (.int .i64 ep) w := by kernel_rfl
theorem check_in (c : Cf.Cfg) (r : Int) (hr : Cf.check c = r) (v : Value) (w : World) (h : CIn w v c) : Calls Tryd.prog 12 #[v] w (SomeErr r w) := by
  obtain ⟨sv, pv, rfl, h1, h2⟩ := h
  exact check_is c r hr sv pv w h1 h2

set_option maxRecDepth 100000 in
theorem shown_any (w : World) : Calls Tryd.prog 8 #[] w fun e w' => e = .returned (.bool true) ∧ Below w.heap.size w w' := by
  go_enter Tryd.func8, Tryd.ntmps8
  go_wp2_with fail
  refine (new_any w).mono ?_
  rintro e w1 ⟨v1, rfl, hc1, hb1⟩
  go_wp2_with fail
  refine (check_in Cf.new 0 new_check v1 w1 hc1.inn).mono ?_
  rintro e w2 ⟨rfl, hb2⟩
  go_wp2_with fail
  refine (new_any w2).mono ?_
  rintro e w3 ⟨v3, rfl, ⟨sv, pv, hv3, -, -⟩, hb3⟩
  have hv' : v3 = .agg #[.int .i64 1, sv, pv, .int .i64 1] := hv3
  subst hv'
  clear hv3
  have hz1 := hb1.size
  have hz2 := hb2.size
  have hfd := Tryd.field0 1 sv pv (.int .i64 1)
  go_wp2
  go_ret
  exact ⟨rfl, (hb1.trans (hb2.mono hz1)).trans (hb3.mono (by omega))⟩
end Go.Proofs.YtkmaepefpcpckaaDoor
