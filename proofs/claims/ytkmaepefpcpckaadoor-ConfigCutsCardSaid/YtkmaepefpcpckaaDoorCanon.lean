/- A region that draws its order, walked in one order: operations that only read are taken as soon as they may come up; what they read is shown to stay, behind each operation that writes, as long as they may still be pending. -/
import Derived.OrdersHeld
import Derived.StillTail
import Derived.WalkKit
set_option linter.unusedVariables false
set_option linter.unusedSimpArgs false
namespace Go.Proofs.YtkmaepefpcpckaaDoor
open Go
open Go.RowKit

section
variable {P : Program} {ops : Array Oper} {Q : Exit → Act → World → Prop} {S : Nat → World → Prop} {A : List Nat}

/-- what has come up holds whatever it waits for -/
def Closed (ops : Array Oper) (L : Array Bool) : Prop :=
  ∀ j oj, ops[j]? = some oj → L.getD j false = true → ∀ e ∈ oj.after, Region.binds .any e = true → L.getD e.on false = true
/-- q cannot have come up without p -/
def Forces (ops : Array Oper) (q p : Nat) : Prop := ∀ L, Closed ops L → L.getD q false = true → L.getD p false = true

def forcesB (ops : Array Oper) : Nat → Nat → Nat → Bool
  | 0, _, _ => false
  | n + 1, q, p => match ops[q]? with
    | some o => o.after.any fun e => Region.binds .any e && (e.on == p || forcesB ops n e.on p)
    | none => false

theorem forces_of {n q p : Nat} (h : forcesB ops n q p = true) : Forces ops q p := by
  induction n generalizing q with
  | zero => cases h
  | succ n ih =>
    intro L hL hq
    unfold forcesB at h
    split at h
    · rename_i o ho
      obtain ⟨e, he, hb⟩ := Array.any_eq_true'.1 h
      simp only [Bool.and_eq_true, Bool.or_eq_true, beq_iff_eq] at hb
      have h1 := hL q o ho hq e he hb.1
      rcases hb.2 with h2 | h2
      · rw [← h2]; exact h1
      · exact ih h2 L hL h1
    · cases h

theorem Closed.set {L : Array Bool} {i : Nat} (h : Closed ops L) (hi : i ∈ Region.ready .any ops L) : Closed ops (L.setIfInBounds i true) := by
  obtain ⟨_, oi, hoi, hall⟩ := mem_ready.1 hi
  intro j oj hj hl e he hb
  by_cases hij : i = j
  · subst hij
    have : oj = oi := Option.some.inj (hj.symm.trans hoi)
    subst this
    exact getD_set_true (hall e he hb)
  · rw [getD_set_ne false hij] at hl
    exact getD_set_true (h j oj hj hl e he hb)

theorem Closed.none (n : Nat) : Closed ops (Array.replicate n false) := by
  intro j oj _ hl
  rw [getD_replicate_false] at hl
  cases hl

/-- what was read, and may still be pending, reads so -/
def Holds (ops : Array Oper) (S : Nat → World → Prop) (A : List Nat) (L : Array Bool) (w : World) : Prop :=
  ∀ p, L.getD p false = true → (∀ q ∈ A, L.getD q false = true → ¬ Forces ops q p) → S p w

def wpAnyG (P : Program) (ops : Array Oper) (Q : Exit → Act → World → Prop) (S : Nat → World → Prop) (A : List Nat) : Nat → Array Bool → Act → World → Prop
  | 0, L, a, w => Region.ready .any ops L = [] ∧ Q .normal a w
  | f + 1, L, a, w =>
    (Region.ready .any ops L = [] → Q .normal a w) ∧
    ∀ i ∈ Region.ready .any ops L, wpOp P ops Q i (fun a' w' => Holds ops S A (L.setIfInBounds i true) w' ∧ wpAnyG P ops Q S A f (L.setIfInBounds i true) a' w') a w

theorem wpAny_of_G : ∀ (f : Nat) (L : Array Bool) (a : Act) (w : World), wpAnyG P ops Q S A f L a w → wpAny P .any ops Q f L a w
  | 0, _, _, _, h => h
  | f + 1, _, _, _, h => ⟨h.1, fun i hi => wpOp_mono (fun a' w' h' => wpAny_of_G f _ a' w' h'.2) (h.2 i hi)⟩

theorem wpAnyG_first {i : Nat} {oi : Oper} {v : Value} (hi : ops[i]? = some oi) (hA : i ∉ A) (hsel : ∀ (j : Nat) (o : Oper) cs b, ops[j]? = some o → o.op ≠ .select cs b)
    (hQ : ∀ c a w, Q (.panic c) (a.put oi.dst v) w → Q (.panic c) a w) :
    ∀ (f : Nat) (L : Array Bool) (a : Act) (w : World), Closed ops L →
      (∀ j oj, ops[j]? = some oj → j ≠ i → L.getD j true = false → (∀ e ∈ oj.after, Region.binds .any e = true → e.on ≠ i) → oi.apart ops oj = true) →
      i ∈ Region.ready .any ops L → YieldsIf P ops (S i) oi v a → Holds ops S A (L.setIfInBounds i true) w →
      wpAnyG P ops Q S A f (L.setIfInBounds i true) (a.put oi.dst v) w → wpAnyG P ops Q S A (f + 1) L a w := by
  have hSi : ∀ (L : Array Bool) (w : World), Closed ops L → i ∈ Region.ready .any ops L → Holds ops S A (L.setIfInBounds i true) w → S i w := by
    intro L w hL hr hH
    have hun := (mem_ready.1 hr).1
    have hlt : i < L.size := by
      rcases Nat.lt_or_ge i L.size with h' | h'
      · exact h'
      · simp [Array.getElem?_eq_none h'] at hun
    refine hH i (by simp [hlt]) fun q hq hl hF => ?_
    have hqi : i ≠ q := fun e => hA (e ▸ hq)
    rw [getD_set_ne false hqi] at hl
    have h1 := hF L hL hl
    rw [getD_both hun] at h1
    cases h1
  intro f
  induction f with
  | zero =>
    intro L a w hL _ hr hy hH H
    refine ⟨fun h => (by rw [h] at hr; cases hr), fun j hj => ?_⟩
    by_cases hji : j = i
    · subst hji; exact hy.wpOp hi (hSi L w hL hr hH) ⟨hH, H⟩
    · have := ready_mono hj hji
      rw [H.1] at this
      cases this
  | succ f ih =>
    intro L a w hL hfree hr hy hH H
    refine ⟨fun h => (by rw [h] at hr; cases hr), fun j hj => ?_⟩
    by_cases hji : j = i
    · subst hji; exact hy.wpOp hi (hSi L w hL hr hH) ⟨hH, H⟩
    · have h1 := H.2 j (ready_mono hj hji)
      obtain ⟨hjun, oj, hoj, hall⟩ := mem_ready.1 hj
      have hnot : ∀ e ∈ oj.after, Region.binds .any e = true → e.on ≠ i := fun e he hb heq => by
        have h1 := hall e he hb
        have h0 := (mem_ready.1 hr).1
        rw [heq, getD_both h0] at h1
        cases h1
      have h2 := wpOp_putIf hoj (hfree j oj hoj hji hjun hnot) (fun cs b => hsel i oi cs b hi) (fun cs b => hsel j oj cs b hoj) hQ hy h1
      have hfree' : ∀ k ok, ops[k]? = some ok → k ≠ i → (L.setIfInBounds j true).getD k true = false →
          (∀ e ∈ ok.after, Region.binds .any e = true → e.on ≠ i) → oi.apart ops ok = true := fun k ok hk hki hun hno => by
        refine hfree k ok hk hki ?_ hno
        by_cases hjk : j = k
        · subst hjk; exact hjun
        · rw [getD_set_ne true hjk] at hun; exact hun
      refine wpOp_mono (fun a' w' h3 => ?_) h2
      obtain ⟨hy', hH', H'⟩ := h3
      rw [Array.setIfInBounds_comm _ _ (Ne.symm hji)] at hH' H'
      refine ⟨fun p hp hq => ?_, ih (L.setIfInBounds j true) a' w' (hL.set hj) hfree' (ready_mono hr (Ne.symm hji)) hy' hH' H'⟩
      refine hH' p (getD_set_true hp) fun q hqA hql hF => ?_
      have hqi : i ≠ q := fun e => hA (e ▸ hqA)
      rw [getD_set_ne false hqi] at hql
      exact hq q hqA hql hF

/-- The walk's own state: what has come up; which were read. -/
def wpC (P : Program) (ops : Array Oper) (Q : Exit → Act → World → Prop) (S : Nat → World → Prop) (A : List Nat) (f : Nat) (L : Array Bool) (a : Act) (w : World) : Prop :=
  Closed ops L → Holds ops S A L w → wpAnyG P ops Q S A f L a w

/-- An operation that only reads (or only reckons): now. -/
theorem canon_rd {f : Nat} {L : Array Bool} {a : Act} {w : World} (i : Nat) (oi : Oper) (v : Value) (hi : ops[i]? = some oi) (hA : A.contains i = false) (hs : Region.noSelect ops = true)
    (hf : Region.free .any ops L i = true) (hr : (Region.ready .any ops L).contains i = true) (hQ : ∀ c a w, Q (.panic c) (a.put oi.dst v) w → Q (.panic c) a w)
    (hy : YieldsIf P ops (S i) oi v a) (hS : S i w) (h : wpC P ops Q S A f (L.setIfInBounds i true) (a.put oi.dst v) w) : wpC P ops Q S A (f + 1) L a w := by
  intro hL hH
  have hr' : i ∈ Region.ready .any ops L := by simpa using hr
  have hA' : i ∉ A := by simpa using hA
  have hH' : Holds ops S A (L.setIfInBounds i true) w := by
    intro p hp hq
    by_cases hip : i = p
    · subst hip; exact hS
    · rw [getD_set_ne false hip] at hp
      exact hH p hp fun q hqA hql hF => hq q hqA (getD_set_true hql) hF
  exact wpAnyG_first hi hA' (Region.noSelect_spec hs) hQ f L a w hL (Region.free_spec hi hf) hr' hy hH' (h (hL.set hr') hH')

theorem canon_ex {f : Nat} {L : Array Bool} {a : Act} {w : World} (i : Nat) (d : Option Tmp) {oi : Oper} (hi : ops.toList[i]? = some oi) (hd : oi.dst = d) (hA : A.contains i = false) (hs : Region.noSelect ops = true)
    (hf : Region.free .any ops L i = true) (hr : (Region.ready .any ops L).contains i = true) (hQ : ∀ v c a w, Q (.panic c) (a.put d v) w → Q (.panic c) a w) (hg : oi.guard = none)
    (h : ∃ v, (∀ w', S i w' → (execOp a.eval oi).run P w' = .ok (.value v) w') ∧ S i w ∧ ∀ a', a' = a.put d v → wpC P ops Q S A f (L.setIfInBounds i true) a' w) : wpC P ops Q S A (f + 1) L a w := by
  subst hd
  obtain ⟨v, h1, h2, h3⟩ := h
  replace h3 := h3 _ rfl
  exact canon_rd i oi v (by rw [← hi, Array.getElem?_toList]) hA hs hf hr (hQ v) (.inl ⟨by simp [Region.wanted, hg], h1⟩) h2 h3
theorem canon_gd {f : Nat} {L : Array Bool} {a : Act} {w : World} (i : Nat) (d : Option Tmp) {oi : Oper} (hi : ops.toList[i]? = some oi) (hd : oi.dst = d) (hA : A.contains i = false) (hs : Region.noSelect ops = true)
    (hf : Region.free .any ops L i = true) (hr : (Region.ready .any ops L).contains i = true) (hQ : ∀ v c a w, Q (.panic c) (a.put d v) w → Q (.panic c) a w) (hg : Region.wanted oi (yielded ops a.tmps) = true)
    (h : ∃ v, (∀ w', S i w' → (execOp a.eval oi).run P w' = .ok (.value v) w') ∧ S i w ∧ ∀ a', a' = a.put d v → wpC P ops Q S A f (L.setIfInBounds i true) a' w) : wpC P ops Q S A (f + 1) L a w := by
  subst hd
  obtain ⟨v, h1, h2, h3⟩ := h
  replace h3 := h3 _ rfl
  exact canon_rd i oi v (by rw [← hi, Array.getElem?_toList]) hA hs hf hr (hQ v) (.inl ⟨hg, h1⟩) h2 h3
/-- one that is passed over -/
theorem canon_no {f : Nat} {L : Array Bool} {a : Act} {w : World} (i : Nat) (d : Option Tmp) {oi : Oper} (hi : ops.toList[i]? = some oi) (hd : oi.dst = d) (hA : A.contains i = false) (hs : Region.noSelect ops = true)
    (hf : Region.free .any ops L i = true) (hr : (Region.ready .any ops L).contains i = true) (hQ : ∀ v c a w, Q (.panic c) (a.put d v) w → Q (.panic c) a w) (hg : Region.wanted oi (yielded ops a.tmps) = false)
    (hS : S i w) (h : ∀ a', a' = a.put d undef → wpC P ops Q S A f (L.setIfInBounds i true) a' w) : wpC P ops Q S A (f + 1) L a w := by
  subst hd
  replace h := h _ rfl
  exact canon_rd i oi undef (by rw [← hi, Array.getElem?_toList]) hA hs hf hr (hQ undef) (.inr ⟨hg, rfl⟩) hS h

/-- which of those that were read may still be pending -/
def pendB (ops : Array Oper) (A F : List Nat) (L : Array Bool) : List Nat :=
  F.filter fun p => L.getD p false && !(A.any fun q => L.getD q false && forcesB ops 4 q p)

/-- One that writes, and what follows. -/
def wpA (P : Program) (ops : Array Oper) (Q : Exit → Act → World → Prop) (S : Nat → World → Prop) (A : List Nat) (f : Nat) (L : Array Bool) (k : Nat) (a : Act) (w : World) : Prop :=
  k ∈ Region.ready .any ops L → Closed ops L → Holds ops S A L w → wpOp P ops Q k (fun a' w' => Holds ops S A (L.setIfInBounds k true) w' ∧ wpAnyG P ops Q S A f (L.setIfInBounds k true) a' w') a w

/-- F: the operations of which S says something. -/
theorem canon_one {f : Nat} {L : Array Bool} {a : Act} {w : World} (k : Nat) (F pend : List Nat) {o : Oper} (hk' : ops.toList[k]? = some o)
    (hF : ∀ p w, p ∉ F → S p w) (hp : pendB ops A F (L.setIfInBounds k true) = pend)
    (h : ∀ K : Act → World → Prop, (∀ a' w', (∀ p ∈ pend, S p w') → wpC P ops Q S A f (L.setIfInBounds k true) a' w' → K a' w') → wpList P ops (Exit.then K Q) [o] a w) : wpA P ops Q S A f L k a w := by
  have hk : ops[k]? = some o := by rw [← hk', Array.getElem?_toList]
  intro hkr hL hH
  have H := h (fun a' w' => Holds ops S A (L.setIfInBounds k true) w' ∧ wpAnyG P ops Q S A f (L.setIfInBounds k true) a' w') (fun a' w' hS hC => by
    have hH' : Holds ops S A (L.setIfInBounds k true) w' := by
      intro p hl hq
      by_cases hpF : p ∈ F
      · refine hS p ?_
        rw [← hp]
        refine List.mem_filter.2 ⟨hpF, ?_⟩
        rw [hl, Bool.true_and, Bool.not_eq_true']
        refine Bool.eq_false_iff.2 fun hany => ?_
        obtain ⟨q, hqA, hq2⟩ := List.any_eq_true.1 hany
        simp only [Bool.and_eq_true] at hq2
        exact hq q hqA hq2.1 (forces_of hq2.2)
      · exact hF p w' hpF
    exact ⟨hH', hC (hL.set hkr) hH'⟩)
  unfold wpOp
  simp only [hk]
  unfold wpList at H
  split
  · rename_i hw
    rw [if_pos hw] at H
    rcases H with H | ⟨H, a0, w0, H0⟩
    · refine .inl ?_
      unfold Oper.wp at *
      generalize (execOp a.eval o).run P w = r at *
      cases r with
      | ok n w' =>
        cases n <;> simp only [Oper.upon] at H ⊢ <;>
          first
            | exact H
            | exact Calls.mono H (fun e w'' he => by cases e <;> first | exact he | (obtain ⟨a0, w0, h0⟩ := he; exact ⟨a0, w0, h0⟩))
      | halt x w' => cases x <;> simp only [Oper.upon] at H ⊢ <;> exact H
    · exact .inr ⟨H, a0, w0, H0⟩
  · rename_i hw
    rw [if_neg hw] at H
    exact H

/-- Whichever of those that write comes up. -/
theorem canon_any {f : Nat} {L : Array Bool} {a : Act} {w : World} (rs : List Nat) (hr : Region.ready .any ops L = rs) (hne : rs ≠ []) (h : ∀ k ∈ rs, wpA P ops Q S A f L k a w) : wpC P ops Q S A (f + 1) L a w := by
  intro hL hH
  refine ⟨fun h0 => (by rw [hr] at h0; exact absurd h0 hne), fun i hi => ?_⟩
  exact h i (by rw [← hr]; exact hi) hi hL hH

/-- The one that may come up now. -/
theorem canon_act {f : Nat} {L : Array Bool} {a : Act} {w : World} (k : Nat) (F pend : List Nat) {o : Oper} (hk' : ops.toList[k]? = some o) (hr : Region.ready .any ops L = [k])
    (hF : ∀ p w, p ∉ F → S p w) (hp : pendB ops A F (L.setIfInBounds k true) = pend)
    (h : ∀ K : Act → World → Prop, (∀ a' w', (∀ p ∈ pend, S p w') → wpC P ops Q S A f (L.setIfInBounds k true) a' w' → K a' w') → wpList P ops (Exit.then K Q) [o] a w) : wpC P ops Q S A (f + 1) L a w := by
  refine canon_any [k] hr (by simp) fun i hi => ?_
  have hik : i = k := by simpa using hi
  subst hik
  exact canon_one i F pend hk' hF hp h

/-- All have come up. -/
theorem canon_done {f : Nat} {L : Array Bool} {a : Act} {w : World} (hr : Region.ready .any ops L = []) (h : Q .normal a w) : wpC P ops Q S A f L a w := by
  intro _ _
  cases f with
  | zero => exact ⟨hr, h⟩
  | succ f => exact ⟨fun _ => h, by rw [hr]; simp⟩

/-- The beginning. -/
theorem wp_region_canon (S : Nat → World → Prop) (A : List Nat) {id : Nat} {a : Act} {w : World} (hm : P.follows .mixedOrders = true)
    (h : wpC P ops Q S A ops.size (Array.replicate ops.size false) a w.drew) : (Code.region id ops true).wp P Q a w :=
  wp_region_any hm (wpAny_of_G _ _ _ _ (h (Closed.none _) (fun p hp => by rw [getD_replicate_false] at hp; cases hp)))
end
end Go.Proofs.YtkmaepefpcpckaaDoor
