/- What the rows of layer 12 read. -/
import Derived.Test.YtkmaepefpcpckaaDoorTie
import Derived.Test.YtkmaepefpcpckaaDoorCfgO
import Derived.ProofKit
import Derived.OpenShut
import Derived.LaidMore
import Derived.Stop.Joined
import Derived.Deep.Slices
import Derived.Below
import Derived.Carry
import Derived.SizedLaws
set_option linter.unusedVariables false
set_option linter.unusedSimpArgs false
namespace Go.Proofs.YtkmaepefpcpckaaDoor
open Go.ChangeShapes Go.WideShapes Go.ChangeAt Go.RowKit
set_option maxRecDepth 100000

theorem Tryd.own : ownKnob Tryd.prog.godebug = none := by kernel_rfl
theorem Tryd.laidOut : laidOutB Tryd.prog = true := by kernel_rfl
theorem Tryd.cells_order : Tryd.prog.cellsOf 26 = 5 := by kernel_rfl
theorem Tryd.cells_range : Tryd.prog.cellsOf 24 = 2 := by kernel_rfl
theorem Tryd.cells_int : Tryd.prog.cellsOf 3 = 1 := by kernel_rfl

section
variable {H : Type} {enc : TypeId × Value → H} {w : World} {base : Nat} {spare : Nat → Bool} {held : Bool}

theorem range_cells {fuel : Nat} {cs : List Value} {x : DataW H × List MemPlace} (h : DataW.trod enc Tryd.prog w base spare held fuel 24 cs = some x) : ∃ f t : Int, cs = [.int .i64 f, .int .i64 t] := by
  obtain ⟨xs, n, -, -, hl, hxl, hf⟩ := DataW.trod_struct Tryd.underlying24 h
  rw [Tryd.cells_range] at hl
  match xs, hxl, cs, hl with
  | [y0, y1], _, [v0, v1], _ =>
    have g0 := hf 0 _ rfl
    have g1 := hf 1 _ rfl
    simp [Tryd.cells_int] at g0 g1
    obtain ⟨f, hf', -⟩ := DataW.trod_int Tryd.underlying3 g0
    obtain ⟨t, ht', -⟩ := DataW.trod_int Tryd.underlying3 g1
    simp at hf' ht'
    exact ⟨f, t, by rw [hf', ht']⟩

theorem order_cells {fuel : Nat} {cs : List Value} {x : DataW H × List MemPlace} (h : DataW.trod enc Tryd.prog w base spare held fuel 26 cs = some x) : ∃ o : Cf.Ord, cs = [.int .i64 o.k, .int .i64 o.n, .int .i64 o.m, .int .i64 o.f, .int .i64 o.t] := by
  obtain ⟨xs, n, -, -, hl, hxl, hf⟩ := DataW.trod_struct Tryd.underlying26 h
  rw [Tryd.cells_order] at hl
  match xs, hxl, cs, hl with
  | [y0, y1, y2, y3], _, [v0, v1, v2, v3, v4], _ =>
    have g0 := hf 0 _ rfl
    have g1 := hf 1 _ rfl
    have g2 := hf 2 _ rfl
    have g3 := hf 3 _ rfl
    simp [Tryd.cells_int, Tryd.cells_range] at g0 g1 g2 g3
    obtain ⟨k, hk', -⟩ := DataW.trod_int Tryd.underlying3 g0
    obtain ⟨n, hn', -⟩ := DataW.trod_int Tryd.underlying3 g1
    obtain ⟨m, hm', -⟩ := DataW.trod_int Tryd.underlying3 g2
    obtain ⟨f, t, hft⟩ := range_cells g3
    simp at hk' hn' hm' hft
    exact ⟨⟨k, n, m, f, t⟩, by rw [hk', hn', hm', hft.1, hft.2]⟩

theorem open_order {v : Value} {d : DataW H} {p : List MemPlace} {b0 : Nat} (hv : Value.okWide Tryd.prog w .any b0 26 v) (h : DataW.Trod enc Tryd.prog w base spare held 26 v d p) : ∃ o : Cf.Ord, v = ordV o := by
  obtain ⟨cs, rfl, hsz⟩ := okWide_struct Tryd.underlying26 hv
  obtain ⟨fuel, hf⟩ := h
  obtain ⟨o, ho⟩ := order_cells hf
  refine ⟨o, ?_⟩
  unfold ordV
  congr 1
  apply Array.toList_inj.1
  simpa [Value.cells] using ho

theorem ordsC_at (f : Nat → Cf.Ord) (n j : Nat) (h : j < n * 5) : (ordsC ((List.range n).map f))[j]? = [Value.int .i64 (f (j / 5)).k, .int .i64 (f (j / 5)).n, .int .i64 (f (j / 5)).m, .int .i64 (f (j / 5)).f, .int .i64 (f (j / 5)).t][j % 5]? := by
  have hl : j / 5 < ((List.range n).map f).length := by simp; omega
  have hg := ordsC_get ((List.range n).map f) (j / 5) hl
  simp only [List.getElem_map, List.getElem_range] at hg
  have hm : j % 5 < 5 := Nat.mod_lt _ (by decide)
  have hj : j = j / 5 * 5 + j % 5 := by omega
  rcases (show j % 5 = 0 ∨ j % 5 = 1 ∨ j % 5 = 2 ∨ j % 5 = 3 ∨ j % 5 = 4 by omega) with e | e | e | e | e
  · rw [e]; rw [show (ordsC ((List.range n).map f))[j]? = (ordsC ((List.range n).map f))[j / 5 * 5]? by congr 1; omega]; exact hg.1
  · rw [e]; rw [show (ordsC ((List.range n).map f))[j]? = (ordsC ((List.range n).map f))[j / 5 * 5 + 1]? by congr 1; omega]; exact hg.2.1
  · rw [e]; rw [show (ordsC ((List.range n).map f))[j]? = (ordsC ((List.range n).map f))[j / 5 * 5 + 2]? by congr 1; omega]; exact hg.2.2.1
  · rw [e]; rw [show (ordsC ((List.range n).map f))[j]? = (ordsC ((List.range n).map f))[j / 5 * 5 + 3]? by congr 1; omega]; exact hg.2.2.2.1
  · rw [e]; rw [show (ordsC ((List.range n).map f))[j]? = (ordsC ((List.range n).map f))[j / 5 * 5 + 4]? by congr 1; omega]; exact hg.2.2.2.2
theorem ordsC_length (l : List Cf.Ord) : (ordsC l).length = l.length * 5 := by
  induction l with
  | nil => rfl
  | cons p r ih => show (ordsC r).length + 1 + 1 + 1 + 1 + 1 = _; rw [ih]; simp; omega

instance : Inhabited Cf.Ord := ⟨⟨0, 0, 0, 0, 0⟩⟩

/-- a list of orders that came in -/
theorem open_orders {v : Value} {d : DataW H} {p : List MemPlace} {b0 : Nat} (hv : Value.okWide Tryd.prog w .any b0 22 v) (h : DataW.Trod enc Tryd.prog w base spare held 22 v d p)
    (hsz : ∀ es sp, d = .slice es sp → es.length + sp.length ≤ 140737488355328) : ∃ os : List Cf.Ord, Sl w v os.length 5 (ordsC os) := by
  obtain ⟨a, len, cap, rfl⟩ := okWide_slice Tryd.underlying22 hv
  obtain ⟨fuel, hf⟩ := h
  rcases Go.Deep.open_slice Tryd.underlying22 hf with ⟨hcs, -⟩ | ⟨x, l, c, m, n, D, Pl, hcs, hb, hl, hm, hmm, hx, hel⟩
  · simp [Value.cells] at hcs
    obtain ⟨rfl, rfl, rfl⟩ := hcs
    exact ⟨[], rfl, by simp, none, 0, rfl, fun h => absurd h (by simp)⟩
  · simp [Value.cells] at hcs
    obtain ⟨rfl, rfl, rfl⟩ := hcs
    injection hx with hx1 hx2
    have hs := hsz _ _ hx1
    simp at hs
    have hlm : len ≤ m := by rw [hmm]; split <;> omega
    have each : ∀ i, i < len → ∃ o : Cf.Ord, ∀ j, j < 5 → w.cell? (x.add (i * 5 + j)) = [Value.int .i64 o.k, .int .i64 o.n, .int .i64 o.m, .int .i64 o.f, .int .i64 o.t][j]? := by
      intro i hi
      obtain ⟨cs', h1, h2⟩ := hel i (by omega)
      rw [Tryd.cells_order] at h1
      obtain ⟨o, ho⟩ := order_cells h2
      obtain ⟨_, hlen, hcell⟩ := World.cells?_some h1
      refine ⟨o, fun j hj => ?_⟩
      have := hcell j (by omega)
      rw [Go.Deep.add_add] at this
      rw [this, ho]
    obtain ⟨f, hf'⟩ := Go.Deep.choose_lt each
    have hol : ((List.range len).map f).length = len := by simp
    refine ⟨(List.range len).map f, ?_⟩
    rw [hol]
    refine ⟨by rw [ordsC_length, hol], by omega, some x, cap, rfl, fun hn => ?_⟩
    obtain ⟨b, off, spot⟩ := x
    have h00 := hf' 0 hn 0 (by decide)
    have hspot : spot = none := by simpa [Addr.add] using World.cell?_spot h00
    subst hspot
    refine ⟨b, off, rfl, fun j hj => ?_⟩
    have := hf' (j / 5) (by omega) (j % 5) (Nat.mod_lt _ (by decide))
    rw [ordsC_at f len j hj, ← this, Addr.add_lit]
    congr 2
    omega
end

theorem Tryd.gKinds : Tryd.prog.globalNamed "weirkeep/config.kinds" = some 0 := by kernel_rfl
theorem Tryd.tKinds : (Tryd.prog.globals[0]?).map (·.type) = some 72 := by kernel_rfl
theorem Tryd.cells70 : Tryd.prog.cellsOf 70 = 1 := by kernel_rfl
theorem Tryd.cells71 : Tryd.prog.cellsOf 71 = 1 := by kernel_rfl

/-- The table of orders, out of the condition. -/
theorem kinds_of {W : World} (h : laidMetH Tryd.prog [("weirkeep/config.kinds", Rows.laid_weirkeep_config_kinds)] W) : Kinds W := by
  obtain ⟨g, t, cs, fuel, p, hg, ht, hv, hd⟩ := h.funcs (List.mem_singleton.2 rfl)
  obtain rfl := Option.some.inj (Tryd.gKinds.symm.trans hg)
  obtain rfl := Option.some.inj (Tryd.tKinds.symm.trans ht)
  have hd' : DataW.trod (funcToken Tryd.prog) Tryd.prog W 0 (fun _ => true) true fuel 72 cs.toList = some (.agg [.agg [.nil], .agg [.held [119, 101, 105, 114, 107, 101, 101, 112, 47, 99, 111, 110, 102, 105, 103, 46, 99, 111, 109, 101]], .agg [.held [119, 101, 105, 114, 107, 101, 101, 112, 47, 99, 111, 110, 102, 105, 103, 46, 108, 101, 97, 118, 101]], .agg [.held [119, 101, 105, 114, 107, 101, 101, 112, 47, 99, 111, 110, 102, 105, 103, 46, 112, 108, 97, 99, 101]], .agg [.held [119, 101, 105, 114, 107, 101, 101, 112, 47, 99, 111, 110, 102, 105, 103, 46, 116, 97, 98, 108, 101, 115]]], p) := hd
  obtain ⟨xs, m, _, ex, _, hl, hel⟩ := DataW.trod_array Tryd.underlying72 hd'
  have ex1 : xs.map (·.1) = _ := (DataW.agg.inj (Prod.mk.inj ex).1).symm
  have cell : ∀ (r : Nat) (b : UInt8) (nm : List UInt8) (f0 : FuncId), r < 5 → (xs.map (·.1))[r]? = some (.agg [.held (b :: nm)]) → ((List.range Tryd.prog.funcs.size).filter fun f => (Tryd.prog.funcs[f]?).any (·.name.toUTF8.data.toList == b :: nm)) = [f0] → W.cell? ⟨0, r, none⟩ = some (.func (.func f0) #[] #[]) := by
    intro r b nm f0 hr hx hone
    have hE := hel r hr
    rw [Tryd.cells71, Nat.mul_one, List.getElem?_eq_getElem (by omega)] at hE
    rw [List.getElem?_map, List.getElem?_eq_getElem (by omega)] at hx
    obtain ⟨y, k, hy, hlen, h1⟩ := trod_struct1 Tryd.underlying71 hE
    rw [Tryd.cells71] at hlen
    have hy1 : y.1 = .held (b :: nm) := by
      rw [hy] at hx
      simpa using hx
    match hL : (cs.toList.drop r).take 1, hlen with
    | [v], _ =>
      rw [hL, Tryd.cells70] at h1
      have h2 : DataW.trod (funcToken Tryd.prog) Tryd.prog W 0 (fun _ => true) true k 70 [v] = some (.held (b :: nm), y.2) := by
        rw [← hy1]
        simpa using h1
      have hv' := func_of_trod (f0 := f0) Tryd.underlying70 hone h2
      rw [World.var?_cell hg hv r, ← hv']
      have : ((cs.toList.drop r).take 1)[0]? = some v := by rw [hL]; rfl
      simpa using this
  exact ⟨cell 1 _ _ _ (by decide) (by rw [ex1]; rfl) (by kernel_rfl), cell 2 _ _ _ (by decide) (by rw [ex1]; rfl) (by kernel_rfl), cell 3 _ _ _ (by decide) (by rw [ex1]; rfl) (by kernel_rfl), cell 4 _ _ _ (by decide) (by rw [ex1]; rfl) (by kernel_rfl)⟩
end Go.Proofs.YtkmaepefpcpckaaDoor
