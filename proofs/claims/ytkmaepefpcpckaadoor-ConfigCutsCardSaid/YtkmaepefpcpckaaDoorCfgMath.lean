/- The plain functions of layer 12: no program in sight. -/
import Derived.WalkKit
set_option linter.unusedVariables false
set_option linter.unusedSimpArgs false
namespace Go.Proofs.YtkmaepefpcpckaaDoor
open Go.RowKit

namespace Cf
structure Part where
  f : Int
  t : Int
  a : Int
  b : Int
deriving DecidableEq
structure Cfg where
  ep : Int
  sv : List Int
  pt : List Part
  tb : Int
structure Ord where
  k : Int
  n : Int
  m : Int
  f : Int
  t : Int

def ints (l : List Int) : List Value := l.map (Value.int .i64)
def partC (p : Part) : List Value := [.int .i64 p.f, .int .i64 p.t, .int .i64 p.a, .int .i64 p.b]
def parts (l : List Part) : List Value := l.flatMap partC

def withinB (n a b : Int) : Bool := decide (a ≤ n) && decide (n ≤ b)
def hasB (l : List Int) (v : Int) : Bool := l.contains v

/-- the servers, behind one -/
def chkS : Int → List Int → Bool
  | _, [] => true
  | last, n :: r => if n ≤ last ∨ n ≥ 8 then false else chkS n r
/-- the parts, from a place on: where they end -/
def chkP (sv : List Int) : Int → List Part → Option Int
  | at_, [] => some at_
  | at_, p :: r => if p.f ≠ at_ ∨ p.t ≤ at_ ∨ p.a = p.b ∨ hasB sv p.a = false ∨ hasB sv p.b = false then none else chkP sv p.t r
def check (c : Cfg) : Int :=
  if withinB c.ep 1 1099511627776 = false ∨ withinB c.tb 1 8 = false ∨ c.sv.length < 2 then 1
  else if chkS (-1) c.sv = false then 1
  else match chkP c.sv 0 c.pt with
    | none => 1
    | some at_ => if at_ = 256 then 0 else 1
def sortI (l : List Int) : List Int := l.mergeSort fun x y => decide (x ≤ y)
def come (c : Cfg) (o : Ord) : Int × Cfg :=
  if withinB o.n 0 7 = false then (1, c) else if hasB c.sv o.n = true then (4, c) else (0, { c with sv := sortI (c.sv ++ [o.n]) })
def tables (c : Cfg) (o : Ord) : Int × Cfg := if withinB o.n 1 8 = false then (1, c) else (0, { c with tb := o.n })
def jstep (out : List Part) (p : Part) : List Part :=
  if p.f ≥ p.t then out else match out.getLast? with
    | some q => if q.a = p.a ∧ q.b = p.b then out.dropLast ++ [{ q with t := p.t }] else out ++ [p]
    | none => out ++ [p]
def joined (l : List Part) : List Part := l.foldl jstep []
def cut3 (o : Ord) (p : Part) : List Part := [⟨p.f, min p.t o.f, p.a, p.b⟩, ⟨max p.f o.f, min p.t o.t, o.n, o.m⟩, ⟨max p.f o.t, p.t, p.a, p.b⟩]
def place (c : Cfg) (o : Ord) : Int × Cfg :=
  if o.f < 0 ∨ o.f ≥ o.t ∨ o.t > 256 then (71, c) else if o.n = o.m then (1, c) else if hasB c.sv o.n = false ∨ hasB c.sv o.m = false then (3, c)
  else (0, { c with pt := joined (c.pt.flatMap (cut3 o)) })
/-- where the first one is that is another than y -/
def firstNe (y : Int) : List Int → Int → Int
  | [], _ => -1
  | x :: r, i => if x = y then firstNe y r (i + 1) else i
/-- who takes the place of n beside y -/
def repl (l : List Int) (n x y : Int) : Int := if x = n then l.getD (firstNe y l 0).toNat 0 else x
def replP (l : List Int) (n : Int) (p : Part) : Part := { p with a := repl l n p.a p.b, b := repl l n p.b (repl l n p.a p.b) }
def without (l : List Int) (n : Int) : List Int := l.filter fun x => !(x == n)
def leave (c : Cfg) (o : Ord) : Int × Cfg :=
  if hasB c.sv o.n = false then (3, c) else if c.sv.length ≤ 2 then (110, c)
  else (0, { c with sv := without c.sv o.n, pt := joined (c.pt.map (replP (without c.sv o.n) o.n)) })
end Cf
theorem firstNe_drop (y x : Int) (xs : List Int) (k : Nat) (hlt : k < xs.length) (hx : x = xs.getD k 0) : Cf.firstNe y (xs.drop k) k = if x = y then Cf.firstNe y (xs.drop (k + 1)) (k + 1 : Nat) else k := by
  rw [List.drop_eq_getElem_cons hlt]
  have : x = xs[k] := by rw [hx]; simp [List.getD_eq_getElem?_getD, List.getElem?_eq_getElem hlt]
  rw [this]; rfl
theorem chkS_lt : ∀ (l : List Int) (a : Int), Cf.chkS a l = true → (∀ x ∈ l, a < x ∧ x < 8) ∧ l.Pairwise (· < ·)
  | [], _, _ => ⟨by simp, .nil⟩
  | n :: r, a, h => by
    unfold Cf.chkS at h
    by_cases e : n ≤ a ∨ n ≥ 8
    · rw [if_pos e] at h; cases h
    · rw [if_neg e] at h
      obtain ⟨h1, h2⟩ := chkS_lt r n h
      refine ⟨fun x hx => ?_, .cons (fun x hx => (h1 x hx).1) h2⟩
      rcases List.mem_cons.1 hx with rfl | hx
      · omega
      · have := h1 x hx; omega
theorem firstNe_at (y : Int) : ∀ (l : List Int) (i : Int), 0 ≤ i → (∃ x ∈ l, x ≠ y) → i ≤ Cf.firstNe y l i ∧ Cf.firstNe y l i < i + l.length ∧ ∃ z, l[(Cf.firstNe y l i - i).toNat]? = some z ∧ z ≠ y
  | [], _, _, h => by obtain ⟨x, hx, _⟩ := h; cases hx
  | x :: r, i, hi, h => by
    unfold Cf.firstNe
    by_cases e : x = y
    · rw [if_pos e]
      have h' : ∃ z ∈ r, z ≠ y := by
        obtain ⟨z, hz, hne⟩ := h
        rcases List.mem_cons.1 hz with rfl | hz
        · exact absurd e hne
        · exact ⟨z, hz, hne⟩
      obtain ⟨h1, h2, z, h3, h4⟩ := firstNe_at y r (i + 1) (by omega) h'
      refine ⟨by omega, by simp; omega, z, ?_, h4⟩
      rw [show (Cf.firstNe y r (i + 1) - i).toNat = (Cf.firstNe y r (i + 1) - (i + 1)).toNat + 1 by omega]
      simpa using h3
    · rw [if_neg e]
      exact ⟨by omega, by simp; omega, x, by simp, e⟩
theorem without_len (l : List Int) (n : Int) (hp : l.Pairwise (· < ·)) : l.length ≤ (Cf.without l n).length + 1 := by
  induction l with
  | nil => simp
  | cons x r ih =>
    have hp' := List.pairwise_cons.1 hp
    unfold Cf.without at *
    rw [List.filter_cons]
    by_cases e : x = n
    · have h0 : (r.filter fun x => !(x == n)) = r := by
        rw [List.filter_eq_self]
        intro z hz
        have := hp'.1 z hz
        simp
        omega
      simp [e, h0]
    · have := ih hp'.2
      simp [e]
      omega
/-- two are left at least, so one is another than y -/
theorem without_other (l : List Int) (n y : Int) (hp : l.Pairwise (· < ·)) (h2 : 2 < l.length) : ∃ x ∈ Cf.without l n, x ≠ y := by
  have h1 := without_len l n hp
  have hq : (Cf.without l n).Pairwise (· < ·) := hp.filter _
  rcases hw : Cf.without l n with _ | ⟨a, _ | ⟨b, r⟩⟩
  · rw [hw] at h1; simp at h1; omega
  · rw [hw] at h1; simp at h1; omega
  · rw [hw] at hq
    have hab : a < b := (List.pairwise_cons.1 hq).1 b (by simp)
    by_cases e : a = y
    · exact ⟨b, by simp, by omega⟩
    · exact ⟨a, by simp, e⟩
theorem jstep_skip (out : List Cf.Part) (p : Cf.Part) (h : p.f ≥ p.t) : Cf.jstep out p = out := by unfold Cf.jstep; rw [if_pos h]
theorem jstep_nil (p : Cf.Part) (h : ¬ p.f ≥ p.t) : Cf.jstep [] p = [p] := by unfold Cf.jstep; rw [if_neg h]; rfl
theorem jstep_same (i : List Cf.Part) (q p : Cf.Part) (h : ¬ p.f ≥ p.t) (h1 : q.a = p.a) (h2 : q.b = p.b) : Cf.jstep (i ++ [q]) p = i ++ [{ q with t := p.t }] := by unfold Cf.jstep; rw [if_neg h]; simp [h1, h2]
theorem jstep_other (i : List Cf.Part) (q p : Cf.Part) (h : ¬ p.f ≥ p.t) (h1 : ¬ (q.a = p.a ∧ q.b = p.b)) : Cf.jstep (i ++ [q]) p = i ++ [q] ++ [p] := by unfold Cf.jstep; rw [if_neg h]; simp [h1]
theorem jstep_len (out : List Cf.Part) (p : Cf.Part) : (Cf.jstep out p).length ≤ out.length + 1 := by
  unfold Cf.jstep
  split
  · omega
  · split
    · split <;> simp <;> omega
    · simp
theorem joined_take (l : List Cf.Part) (k : Nat) (hk : k < l.length) : (l.take (k + 1)).foldl Cf.jstep [] = Cf.jstep ((l.take k).foldl Cf.jstep []) l[k] := by
  rw [List.take_succ_eq_append_getElem hk, List.foldl_append]; rfl
theorem joined_len (l : List Cf.Part) (out : List Cf.Part) : (l.foldl Cf.jstep out).length ≤ out.length + l.length := by
  induction l generalizing out with
  | nil => simp
  | cons p r ih => have := ih (Cf.jstep out p); have := jstep_len out p; simp only [List.foldl_cons, List.length_cons]; omega

theorem hasB_nil (v : Int) : Cf.hasB [] v = false := rfl
theorem hasB_drop (xs : List Int) (v y : Int) (k : Nat) (hlt : k < xs.length) (hy : y = xs.getD k 0) : Cf.hasB (xs.drop k) v = (v == y || Cf.hasB (xs.drop (k + 1)) v) := by
  rw [List.drop_eq_getElem_cons hlt]
  have : y = xs[k] := by rw [hy]; simp [List.getD_eq_getElem?_getD, List.getElem?_eq_getElem hlt]
  rw [this]; rfl
theorem chkS_drop (xs : List Int) (last y : Int) (k : Nat) (hlt : k < xs.length) (hy : y = xs.getD k 0) : Cf.chkS last (xs.drop k) = if y ≤ last ∨ y ≥ 8 then false else Cf.chkS y (xs.drop (k + 1)) := by
  rw [List.drop_eq_getElem_cons hlt]
  have : y = xs[k] := by rw [hy]; simp [List.getD_eq_getElem?_getD, List.getElem?_eq_getElem hlt]
  rw [this]; rfl
theorem chkP_drop (sv : List Int) (ps : List Cf.Part) (at_ : Int) (p : Cf.Part) (k : Nat) (hlt : k < ps.length) (hp : p = ps[k]) : Cf.chkP sv at_ (ps.drop k) = if p.f ≠ at_ ∨ p.t ≤ at_ ∨ p.a = p.b ∨ Cf.hasB sv p.a = false ∨ Cf.hasB sv p.b = false then none else Cf.chkP sv p.t (ps.drop (k + 1)) := by
  rw [List.drop_eq_getElem_cons hlt, hp]; rfl
theorem check_s (ep tb : Int) (ss : List Int) (ps : List Cf.Part) (h : Cf.chkS (-1) ss = false) : Cf.check ⟨ep, ss, ps, tb⟩ = 1 := by
  unfold Cf.check; simp only [h]; split <;> simp
theorem check_p (ep tb : Int) (ss : List Int) (ps : List Cf.Part) (h : Cf.chkP ss 0 ps = none) : Cf.check ⟨ep, ss, ps, tb⟩ = 1 := by
  unfold Cf.check; simp only [h]; split <;> simp
theorem check_e (ep tb : Int) (ss : List Int) (ps : List Cf.Part) (at_ : Int) (h1 : Cf.withinB ep 1 1099511627776 = true) (h2 : Cf.withinB tb 1 8 = true) (h3 : ¬ ss.length < 2) (h4 : Cf.chkS (-1) ss = true) (h5 : Cf.chkP ss 0 ps = some at_) : Cf.check ⟨ep, ss, ps, tb⟩ = if at_ = 256 then 0 else 1 := by
  unfold Cf.check; simp [h1, h2, h4, h5]; omega
theorem ints_length (l : List Int) : (Cf.ints l).length = l.length := by simp [Cf.ints]
theorem parts_length (l : List Cf.Part) : (Cf.parts l).length = l.length * 4 := by
  induction l with
  | nil => rfl
  | cons p r ih => simp only [Cf.parts, List.flatMap_cons, List.length_append, List.length_cons] at *; rw [ih]; simp [Cf.partC]; omega
theorem ints_get (l : List Int) (j : Nat) (h : j < l.length) : (Cf.ints l)[j]? = some (.int .i64 (l.getD j 0)) := by
  simp [Cf.ints, List.getElem?_eq_getElem h, List.getD_eq_getElem?_getD]
theorem parts_get (l : List Cf.Part) (j : Nat) (h : j < l.length) : (Cf.parts l)[j * 4]? = some (.int .i64 (l[j]).f) ∧ (Cf.parts l)[j * 4 + 1]? = some (.int .i64 (l[j]).t) ∧ (Cf.parts l)[j * 4 + 2]? = some (.int .i64 (l[j]).a) ∧ (Cf.parts l)[j * 4 + 3]? = some (.int .i64 (l[j]).b) := by
  induction l generalizing j with
  | nil => simp at h
  | cons p r ih =>
    cases j with
    | zero => simp [Cf.parts, Cf.partC]
    | succ j =>
      have := ih j (by simpa using h)
      simp only [Cf.parts, List.flatMap_cons, List.getElem_cons_succ] at *
      have e : (Cf.partC p).length = 4 := rfl
      rw [List.getElem?_append_right (by omega), List.getElem?_append_right (by omega), List.getElem?_append_right (by omega), List.getElem?_append_right (by omega), e]
      rw [show (j + 1) * 4 - 4 = j * 4 by omega, show (j + 1) * 4 + 1 - 4 = j * 4 + 1 by omega, show (j + 1) * 4 + 2 - 4 = j * 4 + 2 by omega, show (j + 1) * 4 + 3 - 4 = j * 4 + 3 by omega]
      exact this
theorem parts_append (a b : List Cf.Part) : Cf.parts (a ++ b) = Cf.parts a ++ Cf.parts b := by simp [Cf.parts]
theorem parts_one (p : Cf.Part) : Cf.parts [p] = [.int .i64 p.f, .int .i64 p.t, .int .i64 p.a, .int .i64 p.b] := by simp [Cf.parts, Cf.partC]
theorem parts_set_last (i : List Cf.Part) (q : Cf.Part) (x : Int) : (Cf.parts (i ++ [q])).set (i.length * 4 + 1) (.int .i64 x) = Cf.parts (i ++ [{ q with t := x }]) := by
  rw [parts_append, parts_append, List.set_append_right _ _ (by rw [parts_length]; omega), parts_length, parts_one, parts_one]
  rw [show i.length * 4 + 1 - i.length * 4 = 1 by omega]; rfl
theorem cut3_take (o : Cf.Ord) (ps : List Cf.Part) (k : Nat) (hk : k < ps.length) (p : Cf.Part) (hp : p = ps[k]) :
    Cf.parts ((ps.take (k + 1)).flatMap (Cf.cut3 o)) = Cf.parts ((ps.take k).flatMap (Cf.cut3 o)) ++ [.int .i64 p.f, .int .i64 (min p.t o.f), .int .i64 p.a, .int .i64 p.b, .int .i64 (max p.f o.f), .int .i64 (min p.t o.t), .int .i64 o.n, .int .i64 o.m, .int .i64 (max p.f o.t), .int .i64 p.t, .int .i64 p.a, .int .i64 p.b] := by
  rw [List.take_succ_eq_append_getElem hk, List.flatMap_append, parts_append, ← hp]
  simp [Cf.cut3, Cf.parts, Cf.partC]
theorem cut3_len (o : Cf.Ord) (ps : List Cf.Part) : (ps.flatMap (Cf.cut3 o)).length = 3 * ps.length := by
  induction ps with
  | nil => rfl
  | cons p r ih => simp only [List.flatMap_cons, List.length_append, List.length_cons, ih]; simp [Cf.cut3]; omega
end Go.Proofs.YtkmaepefpcpckaaDoor
