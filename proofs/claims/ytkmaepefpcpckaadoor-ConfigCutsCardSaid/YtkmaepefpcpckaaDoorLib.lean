/- Small lemmas on worlds and slices: no program in sight. -/
import Derived.WalkKit
import Derived.WalkLawsBesides
import Derived.WalkSpells
import Derived.Lib.Hide
import Derived.Deep.QuietTactic
import Derived.BigQuiet
import Derived.Deep.RegionHeld3
import Derived.Deep.LoopGhost
import Derived.Deep.DeepCutAuto
import Derived.Deep.CutBlock
import Derived.Maps.AppendAt
import Derived.Deep.AppendLies
import Derived.Sort.Grow
import Derived.Sort.Row
set_option linter.unusedVariables false
set_option linter.unusedSimpArgs false
namespace Go.Proofs.YtkmaepefpcpckaaDoor
open Go.RowKit

theorem bcell {B : Nat} {W w1 : World} (hb : Below B W w1) : (∀ b o, b < B → w1.cell? ⟨b, o, none⟩ = W.cell? ⟨b, o, none⟩) ∧ (∀ b o, b < B → w1.frozen? ⟨b, o, none⟩ = W.frozen? ⟨b, o, none⟩) := by
  constructor
  · intro b o h; simp only [World.cell?, hb.block b h]
  · intro b o h; simp only [World.frozen?, hb.block b h]

/-- A slice that is read: n elements of sz cells each, which hold cs. -/
def Sl (w : World) (v : Value) (n sz : Nat) (cs : List Value) : Prop :=
  cs.length = n * sz ∧ n ≤ 140737488355328 ∧ ∃ A c, v = .slice A n c ∧ (0 < n → ∃ b o, A = some ⟨b, o, none⟩ ∧ ∀ j, j < n * sz → w.cell? ⟨b, o + j, none⟩ = cs[j]?)

theorem Sl.drew {w : World} {v : Value} {n sz : Nat} {cs : List Value} (h : Sl w v n sz cs) : Sl w.drew v n sz cs := h
theorem Sl.drewN {w : World} {v : Value} {n sz : Nat} {cs : List Value} (h : Sl w v n sz cs) (k : Nat) : Sl (w.drewN k) v n sz cs := h
theorem Sl.below {w w1 : World} {v : Value} {n sz : Nat} {cs : List Value} (h : Sl w v n sz cs) (hb : Below w.heap.size w w1) : Sl w1 v n sz cs := by
  obtain ⟨h1, h2, A, c, rfl, h3⟩ := h
  refine ⟨h1, h2, A, c, rfl, fun hn => ?_⟩
  obtain ⟨b, o, rfl, hc⟩ := h3 hn
  refine ⟨b, o, rfl, fun j hj => ?_⟩
  have h := hc j hj
  rw [← h]
  have : (cs[j]?).isSome := by simp [h1]; exact hj
  obtain ⟨u, hu⟩ := Option.isSome_iff_exists.1 this
  rw [hu] at h
  have hlt := World.block_lt_of_cell? w _ h
  simp only [World.cell?, hb.block b hlt]

theorem Sl.alloc {w : World} {v : Value} {n sz : Nat} {cs : List Value} (h : Sl w v n sz cs) (o : Obj) : Sl (w.alloc o) v n sz cs := Sl.below h ((Below.refl _ _).alloc (Nat.le_refl _) _)

/-- The blocks of S are as they were; the streams too; none has gone. -/
structure Keep (S : Nat → Prop) (w w' : World) : Prop where
  os : w'.os = w.os
  tape : w'.tape = w.tape
  output : w'.output = w.output
  size : w.heap.size ≤ w'.heap.size
  block : ∀ k, S k → w'.heap[k]? = w.heap[k]?

theorem Keep.refl (S : Nat → Prop) (w : World) : Keep S w w := ⟨rfl, rfl, rfl, Nat.le_refl _, fun _ _ => rfl⟩
theorem Keep.trans {S : Nat → Prop} {a b c : World} (h : Keep S a b) (k : Keep S b c) : Keep S a c :=
  ⟨k.os.trans h.os, k.tape.trans h.tape, k.output.trans h.output, Nat.le_trans h.size k.size, fun i hi => (k.block i hi).trans (h.block i hi)⟩
theorem Keep.mono {S S' : Nat → Prop} {a b : World} (h : Keep S a b) (hs : ∀ k, S' k → S k) : Keep S' a b := ⟨h.os, h.tape, h.output, h.size, fun k hk => h.block k (hs k hk)⟩
theorem Keep.drew {S : Nat → Prop} {a b : World} (h : Keep S a b) : Keep S a b.drew := ⟨h.os, h.tape, h.output, h.size, h.block⟩
theorem Keep.drewN {S : Nat → Prop} {a b : World} (h : Keep S a b) (n : Nat) : Keep S a (b.drewN n) := ⟨h.os, h.tape, h.output, h.size, h.block⟩
theorem Keep.alloc {S : Nat → Prop} {a b : World} (h : Keep S a b) (hS : ∀ k, S k → k < b.heap.size) (o : Obj) : Keep S a (b.alloc o) :=
  h.trans ⟨rfl, rfl, rfl, by simp, fun k hk => Below.heap_alloc _ _ _ (hS k hk)⟩
theorem Keep.setCell {S : Nat → Prop} {a b : World} (h : Keep S a b) {p : Addr} (hp : ¬ S p.block) (u : Value) : Keep S a (b.setCell p u) :=
  h.trans ⟨rfl, rfl, rfl, by simp [World.setCell], fun k hk => Below.heap_setCell _ _ _ _ (fun e => hp (e ▸ hk))⟩
theorem Keep.grown {S : Nat → Prop} {a b c : World} {row : Option Nat} (h : Keep S a b) (hg : b.grownBy c row) (hS : ∀ k, S k → k < b.heap.size) (hr : ∀ k, row = some k → ¬ S k) : Keep S a c :=
  h.trans ⟨hg.os, hg.tape, hg.output, hg.size, fun k hk => hg.block k (hS k hk) (fun e => hr k e.symm hk)⟩
theorem Keep.of_below {S : Nat → Prop} {B : Nat} {a b : World} (h : Below B a b) (hS : ∀ k, S k → k < B) : Keep S a b := ⟨h.os, h.tape, h.output, h.size, fun k hk => h.block k (hS k hk)⟩
theorem Keep.below {S : Nat → Prop} {B : Nat} {a b : World} (h : Keep S a b) (hS : ∀ k, k < B → S k) : Below B a b := ⟨h.os, h.tape, h.output, h.size, fun k hk => h.block k (hS k hk)⟩
theorem Keep.cell {S : Nat → Prop} {a b : World} (h : Keep S a b) (k o : Nat) (hk : S k) : b.cell? ⟨k, o, none⟩ = a.cell? ⟨k, o, none⟩ := by simp only [World.cell?, h.block k hk]
theorem Keep.frozen {S : Nat → Prop} {a b : World} (h : Keep S a b) (k o : Nat) (hk : S k) : b.frozen? ⟨k, o, none⟩ = a.frozen? ⟨k, o, none⟩ := by simp only [World.frozen?, h.block k hk]
theorem Keep.grownBy {S : Nat → Prop} {w w' : World} {row : Option Nat} (h : w.grownBy w' row) (hS : ∀ k, S k → k < w.heap.size) (hr : ∀ k, row = some k → ¬ S k) : Keep S w w' := (Keep.refl S w).grown h hS hr
theorem Keep.owns {S : Nat → Prop} {w w' : World} {base : Nat} {e : TypeId} {sz n : Nat} {v : Value} {xs : List Value} (hk : Keep S w w') (h : w.ownsRow base e sz v n xs) (hS : ∀ k, v.ownBlock = some k → S k) : w'.ownsRow base e sz v n xs := by
  refine ⟨h.1, ?_⟩
  rcases h.2 with hn | ⟨g, cap, cur, rfl, hb, hgg, rest⟩
  · exact .inl hn
  · exact .inr ⟨g, cap, cur, rfl, hb, by rw [hk.block g (hS g rfl)]; exact hgg, rest⟩

theorem own_sl {w : World} {base : Nat} {e : TypeId} {sz n : Nat} {v : Value} {xs : List Value} (h : w.ownsRow base e sz v n xs) (hn : n ≤ 140737488355328) : Sl w v n sz xs := by
  refine ⟨h.1, hn, ?_⟩
  rcases h.2 with ⟨rfl, h0⟩ | ⟨g, cap, cur, rfl, hb, hh, h1, h2, h3, h4⟩
  · exact ⟨none, 0, by rw [h0], fun hp => by omega⟩
  · refine ⟨_, cap, rfl, fun hp => ⟨g, 0, rfl, fun j hj => ?_⟩⟩
    rw [Nat.zero_add]
    exact h.cellAt j hj

theorem own_ne {w : World} {b b' : Nat} {e e' : TypeId} {s s' n n' : Nat} {v v' : Value} {xs xs' : List Value} (h : w.ownsRow b e s v n xs) (h' : w.ownsRow b' e' s' v' n' xs') (hne : e ≠ e') : v.ownBlock = none ∨ v.ownBlock ≠ v'.ownBlock := by
  rcases h.2 with ⟨rfl, _⟩ | ⟨g, cap, cur, rfl, _, hh, _⟩
  · exact .inl rfl
  · refine .inr fun hk => ?_
    rcases h'.2 with ⟨rfl, _⟩ | ⟨g', cap', cur', rfl, _, hh', _⟩
    · simp [Value.ownBlock] at hk
    · have : g = g' := by simpa [Value.ownBlock] using hk
      subst this
      rw [hh] at hh'
      injection hh' with hh'
      injection hh' with _ ht
      exact hne ht
theorem own_ne_block {w : World} {b : Nat} {e : TypeId} {s n k : Nat} {v : Value} {xs : List Value} {cs : Array Value} {e' : TypeId} {fr : Nat × Nat} (h : w.ownsRow b e s v n xs) (hb : w.heap[k]? = some (.cells cs e' fr)) (hne : e ≠ e') : v.ownBlock ≠ some k := by
  rcases h.2 with ⟨rfl, _⟩ | ⟨g, cap, cur, rfl, _, hh, _⟩
  · simp [Value.ownBlock]
  · intro hk
    have : g = k := by simpa [Value.ownBlock] using hk
    subst this
    rw [hh] at hb
    injection hb with hb
    injection hb with _ ht
    exact hne ht
/-- a row whose place in the ages is told anew -/
theorem own_base {w : World} {b b' : Nat} {e : TypeId} {s n : Nat} {v : Value} {xs : List Value} (h : w.ownsRow b e s v n xs) (hb : b' ≤ b) : w.ownsRow b' e s v n xs := by
  refine ⟨h.1, ?_⟩
  rcases h.2 with hn | ⟨g, cap, cur, rfl, hbg, rest⟩
  · exact .inl hn
  · exact .inr ⟨g, cap, cur, rfl, by omega, rest⟩

theorem cell_of_block {w : World} {k o : Nat} {cs : Array Value} {e : TypeId} {fr : Nat × Nat} (h : w.heap[k]? = some (.cells cs e fr)) : w.cell? ⟨k, o, none⟩ = cs[o]? := by simp [World.cell?, h]
theorem free_of_block {w : World} {k o : Nat} {cs : Array Value} {e : TypeId} (h : w.heap[k]? = some (.cells cs e (0, 0))) : w.frozen? ⟨k, o, none⟩ = false := by simp [World.frozen?, h]
theorem lt_of_blk {w : World} {k : Nat} {o : Obj} (h : w.heap[k]? = some o) : k < w.heap.size := (Array.getElem?_eq_some_iff.1 h).1
theorem block_setCell {w : World} {k o : Nat} {cs : Array Value} {e : TypeId} {fr : Nat × Nat} (h : w.heap[k]? = some (.cells cs e fr)) (v : Value) : (w.setCell ⟨k, o, none⟩ v).heap[k]? = some (.cells (cs.setIfInBounds o v) e fr) := by
  simp [World.setCell, Array.getElem?_modify, h]

theorem own_heap {w w' : World} {base : Nat} {e : TypeId} {sz n : Nat} {v : Value} {xs : List Value} (h : w.ownsRow base e sz v n xs) (he : w'.heap = w.heap) : w'.ownsRow base e sz v n xs := by
  unfold World.ownsRow at *; rw [he]; exact h

theorem belowN {B : Nat} {a b : World} (h : Below B a b) (n : Nat) : Below B a (b.drewN n) := ⟨h.os, h.tape, h.output, h.size, h.block⟩

theorem news_new (w : World) (cs : Array Value) (t : TypeId) (B : Nat) (hB : w.heap.size = B) : ∀ j u, cs.toList[j]? = some u → (w.alloc (.cells cs t)).cell? ((⟨B, 0, none⟩ : Addr).add j) = some u := by
  subst hB
  exact World.news_of_block (cs := cs) (t := t) (fr := (0, 0)) (heap_alloc_new w _)

/-- what the library's sort does to a row -/
theorem sorted_own {w : World} {base g cap : Nat} {e : TypeId} {zs ys : List Int} (hH : w.ownsRow base e 1 (.slice (some ⟨g, 0, none⟩) zs.length cap) zs.length (zs.map (Value.int .i64))) (hl : ys.length = zs.length) (n : Nat) (os : Array Obj) :
    (Sort.grow (Sort.putRow (Value.int .i64) (Sort.ahead w n) g 0 ys.toArray) os).ownsRow base e 1 (.slice (some ⟨g, 0, none⟩) zs.length cap) zs.length (ys.map (Value.int .i64)) ∧
    w.grownBy (Sort.grow (Sort.putRow (Value.int .i64) (Sort.ahead w n) g 0 ys.toArray) os) (some g) := by
  rcases hH.2 with ⟨h, _⟩ | ⟨g', cap', cur, he, hb, hh, h1, h2, h3, h4⟩
  · cases h
  have hgg : g = g' := by injection he with he; injection he with he; injection he with he
  have hcc : cap = cap' := by injection he with _ _ hc
  subst hgg
  subst hcc
  have hlt : g < w.heap.size := lt_of_blk hh
  have hcells : (Sort.grow (Sort.putRow (Value.int .i64) (Sort.ahead w n) g 0 ys.toArray) os).heap[g]? = some (.cells (Sort.putCells (Value.int .i64) 0 ys.toArray cur) e (0, 0)) := by
    rw [Sort.heap_grow_old _ _ (by simpa using hlt)]
    simp [Sort.putRow, Sort.mapBlock, Sort.ahead, Array.getElem?_modify, hh, Sort.onCells]
  refine ⟨⟨by simp [hl], .inr ⟨g, cap, _, rfl, hb, hcells, h1, h2, by simp [Sort.putCells, h3], ?_⟩⟩, ⟨rfl, rfl, rfl, by simp, fun k hk hne => ?_⟩⟩
  · have hcs : zs.length ≤ cur.size := by omega
    apply List.ext_getElem
    · simp [Sort.putCells, hl]; omega
    · intro j ha hb'
      have hj : j < ys.length := by simpa using hb'
      simp [Sort.putCells, hj]
  · rw [Sort.heap_grow_old _ _ (by simpa using hk)]
    have : k ≠ g := fun e => hne (by rw [e])
    simp [Sort.putRow, Sort.mapBlock, Sort.ahead, Array.getElem?_modify, Ne.symm this]
theorem own_cut {w : World} {base g n cap : Nat} {e : TypeId} {xs : List Value} (h : w.ownsRow base e 1 (.slice (some ⟨g, 0, none⟩) n cap) n xs) (k : Nat) (hk : k ≤ n) : w.ownsRow base e 1 (.slice (some ⟨g, 0, none⟩) k cap) k (xs.take k) := by
  rcases h.2 with ⟨h0, _⟩ | ⟨g', cap', cur, he, hb, hh, h1, h2, h3, h4⟩
  · cases h0
  have hgg : g = g' := by injection he with he; injection he with he; injection he with he
  have hcc : cap = cap' := by injection he with _ _ hc
  subst hgg
  subst hcc
  have hl := h.1
  refine ⟨by simp; omega, .inr ⟨g, cap, cur, rfl, hb, hh, by omega, h2, h3, ?_⟩⟩
  rw [← h4, List.take_take]
  congr 1
  omega
end Go.Proofs.YtkmaepefpcpckaaDoor
