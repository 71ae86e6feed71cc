/- Layer 12, plain: what is a config stays one; who has a block. -/
import Derived.Test.YtkmaepefpcpckaaDoorCfgMathC
set_option linter.unusedVariables false
set_option linter.unusedSimpArgs false
namespace Go.Proofs.YtkmaepefpcpckaaDoor
open Go.RowKit

def Cf.own (ps : List Cf.Part) (b : Int) : Option (Int × Int) := (ps.find? fun p => Cf.withinB b p.f (p.t - 1)).map fun p => (p.a, p.b)
theorem own_nil (b : Int) : Cf.own [] b = none := rfl
theorem own_cons (p : Cf.Part) (r : List Cf.Part) (b : Int) : Cf.own (p :: r) b = if p.f ≤ b ∧ b < p.t then some (p.a, p.b) else Cf.own r b := by
  unfold Cf.own
  by_cases e : p.f ≤ b ∧ b < p.t
  · rw [if_pos e, List.find?_cons_of_pos (by simp [Cf.withinB]; omega)]; rfl
  · rw [if_neg e, List.find?_cons_of_neg (by simp [Cf.withinB]; omega)]
theorem own_append (l m : List Cf.Part) (b : Int) : Cf.own (l ++ m) b = (Cf.own l b).or (Cf.own m b) := by
  induction l with
  | nil => simp [own_nil]
  | cons p r ih =>
    rw [List.cons_append, own_cons, own_cons, ih]
    split <;> simp

/-- pieces, one behind the other, from a to e; those that hold nothing lie anywhere -/
def Ch : Int → List Cf.Part → Int → Prop
  | a, [], e => a = e
  | a, p :: r, e => (p.f ≥ p.t ∧ Ch a r e) ∨ (p.f = a ∧ a < p.t ∧ Ch p.t r e)
/-- the same, each holding something -/
def Cs : Int → List Cf.Part → Int → Prop
  | a, [], e => a = e
  | a, p :: r, e => p.f = a ∧ a < p.t ∧ Cs p.t r e
theorem Cs.le : ∀ {l : List Cf.Part} {a e : Int}, Cs a l e → a ≤ e
  | [], _, _, h => by have : _ = _ := h; omega
  | p :: r, a, e, h => by have := Cs.le h.2.2; have := h.2.1; omega
theorem Ch.le : ∀ {l : List Cf.Part} {a e : Int}, Ch a l e → a ≤ e
  | [], _, _, h => by have : _ = _ := h; omega
  | p :: r, a, e, h => by
    rcases h with ⟨-, h⟩ | ⟨-, h1, h⟩
    · exact Ch.le h
    · have := Ch.le h; omega
theorem Cs.append : ∀ {l m : List Cf.Part} {a b e : Int}, Cs a l b → Cs b m e → Cs a (l ++ m) e
  | [], _, _, _, _, h, k => by have : _ = _ := h; subst this; exact k
  | _ :: _, _, _, _, _, h, k => ⟨h.1, h.2.1, Cs.append h.2.2 k⟩
theorem Cs.last : ∀ {l : List Cf.Part} {q : Cf.Part} {a e : Int}, Cs a (l ++ [q]) e → Cs a l q.f ∧ q.f < q.t ∧ q.t = e
  | [], q, a, e, h => ⟨h.1.symm, by have := h.1; have := h.2.1; omega, h.2.2⟩
  | p :: r, q, a, e, h => by
    obtain ⟨h1, h2, h3⟩ := Cs.last (l := r) h.2.2
    exact ⟨⟨h.1, h.2.1, h1⟩, h2, h3⟩
theorem own_none : ∀ {l : List Cf.Part} {a e : Int}, Ch a l e → ∀ b, b < a ∨ e ≤ b → Cf.own l b = none
  | [], _, _, _, _, _ => rfl
  | p :: r, a, e, h, b, hb => by
    rw [own_cons]
    rcases h with ⟨h1, h⟩ | ⟨h1, h2, h⟩
    · rw [if_neg (by omega)]; exact own_none h b hb
    · have := Ch.le h
      rw [if_neg (by omega)]
      exact own_none h b (by omega)
theorem Cs.ch : ∀ {l : List Cf.Part} {a e : Int}, Cs a l e → Ch a l e
  | [], _, _, h => h
  | _ :: _, _, _, h => .inr ⟨h.1, h.2.1, Cs.ch h.2.2⟩

/-- one more piece -/
theorem jstep_cs (out : List Cf.Part) (p : Cf.Part) (s a : Int) (h : Cs s out a) (hp : p.f ≥ p.t ∨ p.f = a) :
    Cs s (Cf.jstep out p) (if p.f ≥ p.t then a else p.t) ∧ ∀ b, Cf.own (Cf.jstep out p) b = (Cf.own out b).or (Cf.own [p] b) := by
  by_cases e : p.f ≥ p.t
  · rw [jstep_skip _ _ e, if_pos e]
    refine ⟨h, fun b => ?_⟩
    rw [own_cons, if_neg (by omega), own_nil]; simp
  · rw [if_neg e]
    have hpa : p.f = a := by omega
    rcases List.eq_nil_or_concat out with rfl | ⟨i, q, hq⟩
    · rw [jstep_nil _ e]
      have hsa : s = a := h
      exact ⟨⟨by omega, by omega, rfl⟩, fun b => by rw [own_nil]; simp⟩
    · rw [List.concat_eq_append] at hq
      subst hq
      obtain ⟨h1, h2, h3⟩ := Cs.last h
      by_cases e2 : q.a = p.a ∧ q.b = p.b
      · rw [jstep_same _ _ _ e e2.1 e2.2]
        refine ⟨Cs.append h1 ⟨rfl, by show q.f < p.t; omega, rfl⟩, fun b => ?_⟩
        rw [own_append, own_append, Option.or_assoc]
        congr 1
        rw [own_cons, own_cons, own_cons, own_nil]
        dsimp only
        by_cases b1 : q.f ≤ b ∧ b < q.t
        · rw [if_pos (by omega), if_pos b1]; simp
        · rw [if_neg b1]
          by_cases b2 : p.f ≤ b ∧ b < p.t
          · rw [if_pos (by omega), if_pos b2, e2.1, e2.2]; rfl
          · rw [if_neg (by omega), if_neg b2]; rfl
      · rw [jstep_other _ _ _ e e2]
        exact ⟨Cs.append h ⟨hpa, by omega, rfl⟩, fun b => own_append _ _ _⟩
theorem fold_cs : ∀ (l : List Cf.Part) (out : List Cf.Part) (s a e : Int), Cs s out a → Ch a l e → Cs s (l.foldl Cf.jstep out) e ∧ ∀ b, Cf.own (l.foldl Cf.jstep out) b = (Cf.own out b).or (Cf.own l b)
  | [], out, s, a, e, h, k => by
    have : a = e := k
    subst this
    exact ⟨h, fun b => by simp [own_nil]⟩
  | p :: r, out, s, a, e, h, k => by
    have hp : p.f ≥ p.t ∨ p.f = a := by rcases k with k | k; exact .inl k.1; exact .inr k.1
    obtain ⟨h1, h2⟩ := jstep_cs out p s a h hp
    have k' : Ch (if p.f ≥ p.t then a else p.t) r e := by
      rcases k with ⟨k1, k2⟩ | ⟨k1, k2, k3⟩
      · rw [if_pos k1]; exact k2
      · rw [if_neg (by omega)]; exact k3
    obtain ⟨h3, h4⟩ := fold_cs r (Cf.jstep out p) s _ e h1 k'
    refine ⟨h3, fun b => ?_⟩
    show Cf.own (r.foldl Cf.jstep (Cf.jstep out p)) b = _
    rw [h4, h2, Option.or_assoc]
    congr 1
    rw [← own_append]; rfl
theorem joined_cs (l : List Cf.Part) (s e : Int) (h : Ch s l e) : Cs s (Cf.joined l) e ∧ ∀ b, Cf.own (Cf.joined l) b = Cf.own l b := by
  obtain ⟨h1, h2⟩ := fold_cs l [] s s e rfl h
  exact ⟨h1, fun b => by rw [Cf.joined, h2, own_nil]; simp⟩

/-- pairs that may be -/
def OkP (sv : List Int) (p : Cf.Part) : Prop := p.a ≠ p.b ∧ Cf.hasB sv p.a = true ∧ Cf.hasB sv p.b = true
theorem chkP_cs : ∀ {sv : List Int} {l : List Cf.Part} {a e : Int}, Cf.chkP sv a l = some e → Cs a l e ∧ ∀ p ∈ l, OkP sv p
  | _, [], a, e, h => by unfold Cf.chkP at h; injection h with h; exact ⟨h, by simp⟩
  | sv, p :: r, a, e, h => by
    unfold Cf.chkP at h
    by_cases c : p.f ≠ a ∨ p.t ≤ a ∨ p.a = p.b ∨ Cf.hasB sv p.a = false ∨ Cf.hasB sv p.b = false
    · rw [if_pos c] at h; cases h
    · rw [if_neg c] at h
      obtain ⟨h1, h2⟩ := chkP_cs h
      simp only [not_or, Bool.not_eq_false] at c
      refine ⟨⟨by omega, by omega, h1⟩, fun x hx => ?_⟩
      rcases List.mem_cons.1 hx with rfl | hx
      · exact ⟨c.2.2.1, c.2.2.2.1, c.2.2.2.2⟩
      · exact h2 x hx
theorem cs_chkP : ∀ {sv : List Int} {l : List Cf.Part} {a e : Int}, Cs a l e → (∀ p ∈ l, OkP sv p) → Cf.chkP sv a l = some e
  | _, [], a, e, h, _ => by have : a = e := h; subst this; rfl
  | sv, p :: r, a, e, h, k => by
    have hp := k p (by simp)
    unfold Cf.chkP
    rw [if_neg]
    · exact cs_chkP h.2.2 fun x hx => k x (by simp [hx])
    · have := h.1; have := h.2.1
      simp only [not_or, Bool.not_eq_false]
      exact ⟨by omega, by omega, hp.1, hp.2.1, hp.2.2⟩
theorem jstep_ok {sv : List Int} (out : List Cf.Part) (p : Cf.Part) (h : ∀ q ∈ out, OkP sv q) (hp : p.f ≥ p.t ∨ OkP sv p) : ∀ q ∈ Cf.jstep out p, OkP sv q := by
  by_cases e : p.f ≥ p.t
  · rw [jstep_skip _ _ e]; exact h
  · have hp' : OkP sv p := by rcases hp with hp | hp; exact absurd hp e; exact hp
    rcases List.eq_nil_or_concat out with rfl | ⟨i, q, hq⟩
    · rw [jstep_nil _ e]; intro x hx; simp at hx; subst hx; exact hp'
    · rw [List.concat_eq_append] at hq
      subst hq
      by_cases e2 : q.a = p.a ∧ q.b = p.b
      · rw [jstep_same _ _ _ e e2.1 e2.2]
        intro x hx
        rcases List.mem_append.1 hx with hx | hx
        · exact h x (by simp [hx])
        · simp at hx; subst hx; exact h q (by simp)
      · rw [jstep_other _ _ _ e e2]
        intro x hx
        rcases List.mem_append.1 hx with hx | hx
        · exact h x hx
        · simp at hx; subst hx; exact hp'
theorem fold_ok {sv : List Int} : ∀ (l out : List Cf.Part), (∀ q ∈ out, OkP sv q) → (∀ p ∈ l, p.f ≥ p.t ∨ OkP sv p) → ∀ q ∈ l.foldl Cf.jstep out, OkP sv q
  | [], _, h, _ => h
  | p :: r, out, h, k => fold_ok r _ (jstep_ok out p h (k p (by simp))) fun x hx => k x (by simp [hx])
theorem joined_ok {sv : List Int} (l : List Cf.Part) (k : ∀ p ∈ l, p.f ≥ p.t ∨ OkP sv p) : ∀ q ∈ Cf.joined l, OkP sv q := fold_ok l [] (by simp) k

/-- cut out -/
theorem cut_ch (o : Cf.Ord) (ho : o.f < o.t) : ∀ (l : List Cf.Part) (a e : Int), Cs a l e → Ch a (l.flatMap (Cf.cut3 o)) e ∧ ∀ b, Cf.own (l.flatMap (Cf.cut3 o)) b = (Cf.own l b).map fun x => if o.f ≤ b ∧ b < o.t then (o.n, o.m) else x
  | [], a, e, h => ⟨h, fun b => rfl⟩
  | p :: r, a, e, h => by
    obtain ⟨h1, h2, h3⟩ := h
    obtain ⟨k1, k2⟩ := cut_ch o ho r p.t e h3
    refine ⟨?_, fun b => ?_⟩
    · show Ch a (Cf.cut3 o p ++ r.flatMap (Cf.cut3 o)) e
      unfold Cf.cut3
      simp only [List.cons_append, List.nil_append, Ch]
      by_cases c1 : p.f ≥ min p.t o.f
      · by_cases c2 : max p.f o.f ≥ min p.t o.t
        · exact .inl ⟨c1, .inl ⟨c2, .inr ⟨by omega, by omega, k1⟩⟩⟩
        · by_cases c3 : max p.f o.t ≥ p.t
          · exact .inl ⟨c1, .inr ⟨by omega, by omega, .inl ⟨c3, by rw [show min p.t o.t = p.t by omega]; exact k1⟩⟩⟩
          · exact .inl ⟨c1, .inr ⟨by omega, by omega, .inr ⟨by omega, by omega, k1⟩⟩⟩
      · by_cases c2 : max p.f o.f ≥ min p.t o.t
        · exact .inr ⟨by omega, by omega, .inl ⟨c2, .inl ⟨by omega, by rw [show min p.t o.f = p.t by omega]; exact k1⟩⟩⟩
        · by_cases c3 : max p.f o.t ≥ p.t
          · exact .inr ⟨by omega, by omega, .inr ⟨by omega, by omega, .inl ⟨c3, by rw [show min p.t o.t = p.t by omega]; exact k1⟩⟩⟩
          · exact .inr ⟨by omega, by omega, .inr ⟨by omega, by omega, .inr ⟨by omega, by omega, k1⟩⟩⟩
    · show Cf.own (Cf.cut3 o p ++ r.flatMap (Cf.cut3 o)) b = _
      unfold Cf.cut3
      simp only [List.cons_append, List.nil_append, own_cons]
      by_cases b1 : p.f ≤ b ∧ b < p.t
      · rw [if_pos b1]
        by_cases b2 : o.f ≤ b ∧ b < o.t
        · rw [if_neg (by omega), if_pos (by omega)]; simp [b2]
        · by_cases b3 : b < o.f
          · rw [if_pos (by omega)]; simp [b2]
          · rw [if_neg (by omega), if_neg (by omega), if_pos (by omega)]; simp [b2]
      · rw [if_neg b1, if_neg (by omega), if_neg (by omega), if_neg (by omega)]
        exact k2 b

theorem hasB_iff (l : List Int) (x : Int) : Cf.hasB l x = true ↔ x ∈ l := by simp [Cf.hasB]

/-- others in place of one -/
theorem rep_cs (g : Cf.Part → Cf.Part) (hf : ∀ p, (g p).f = p.f) (ht : ∀ p, (g p).t = p.t) : ∀ (l : List Cf.Part) (a e : Int), Cs a l e → Cs a (l.map g) e
  | [], _, _, h => h
  | p :: r, a, e, h => ⟨by rw [hf]; exact h.1, by rw [ht]; exact h.2.1, by rw [ht]; exact rep_cs g hf ht r _ _ h.2.2⟩

/-- orders leave a config -/
theorem check_of (c : Cf.Cfg) (h1 : 1 ≤ c.ep ∧ c.ep ≤ 1099511627776) (h2 : 1 ≤ c.tb ∧ c.tb ≤ 8) (h3 : 2 ≤ c.sv.length) (h4 : Cf.chkS (-1) c.sv = true) (h5 : Cf.chkP c.sv 0 c.pt = some 256) : Cf.check c = 0 := by
  unfold Cf.check
  rw [if_neg (by simp [Cf.withinB]; omega), if_neg (by rw [h4]; decide), h5]
  rfl
theorem chkS_of : ∀ (l : List Int) (a : Int), (∀ x ∈ l, a < x ∧ x < 8) → l.Pairwise (· < ·) → Cf.chkS a l = true
  | [], _, _, _ => rfl
  | n :: r, a, h, hp => by
    have h1 := h n (by simp)
    have hp' := List.pairwise_cons.1 hp
    unfold Cf.chkS
    rw [if_neg (by omega)]
    exact chkS_of r n (fun x hx => ⟨hp'.1 x hx, (h x (by simp [hx])).2⟩) hp'.2
theorem OkP.mono {sv sv' : List Int} {p : Cf.Part} (h : OkP sv p) (hs : ∀ x, x ∈ sv → x ∈ sv') : OkP sv' p :=
  ⟨h.1, (hasB_iff _ _).2 (hs _ ((hasB_iff _ _).1 h.2.1)), (hasB_iff _ _).2 (hs _ ((hasB_iff _ _).1 h.2.2))⟩
theorem ck_parts (c : Cf.Cfg) (h : Cf.check c = 0) : (1 ≤ c.ep ∧ c.ep ≤ 1099511627776) ∧ (1 ≤ c.tb ∧ c.tb ≤ 8) ∧ 2 ≤ c.sv.length ∧ (∀ x ∈ c.sv, -1 < x ∧ x < 8) ∧ c.sv.Pairwise (· < ·) ∧ Cs 0 c.pt 256 ∧ ∀ p ∈ c.pt, OkP c.sv p := by
  obtain ⟨h1, h2, h3, h4, h5⟩ := check_zero c h
  have := chkS_lt _ _ h4
  have := chkP_cs h5
  exact ⟨by simpa [Cf.withinB] using h1, by simpa [Cf.withinB] using h2, h3, (chkS_lt _ _ h4).1, (chkS_lt _ _ h4).2, (chkP_cs h5).1, (chkP_cs h5).2⟩
theorem sortI_mem (l : List Int) (x : Int) : x ∈ Cf.sortI l ↔ x ∈ l := by unfold Cf.sortI; exact List.mem_mergeSort
theorem come_valid (c : Cf.Cfg) (o : Cf.Ord) (h : Cf.check c = 0) (h0 : (Cf.come c o).1 = 0) (he : c.ep < 1099511627776) : Cf.check { (Cf.come c o).2 with ep := c.ep + 1 } = 0 ∧ Cf.come c o = (0, { c with sv := Cf.sortI (c.sv ++ [o.n]) }) := by
  obtain ⟨h1, h2, h3, h4, h5, h6, h7⟩ := ck_parts c h
  unfold Cf.come at h0 ⊢
  cases k1 : Cf.withinB o.n 0 7
  · rw [k1] at h0; simp at h0
  cases k2 : Cf.hasB c.sv o.n
  case true => rw [k1, k2] at h0; simp at h0
  rw [if_neg (by decide), if_neg (by decide)]
  refine ⟨?_, rfl⟩
  have hn : 0 ≤ o.n ∧ o.n ≤ 7 := by simpa [Cf.withinB] using k1
  have hni : o.n ∉ c.sv := fun hm => by rw [(hasB_iff _ _).2 hm] at k2; cases k2
  have hpw : (Cf.sortI (c.sv ++ [o.n])).Pairwise (· < ·) := by
    have hle : (Cf.sortI (c.sv ++ [o.n])).Pairwise (fun x y => decide (x ≤ y) = true) := List.pairwise_mergeSort (by intro a b c; simp; omega) (by intro a b; simp; omega) _
    have hnd : (Cf.sortI (c.sv ++ [o.n])).Pairwise (· ≠ ·) := by
      have hp : (Cf.sortI (c.sv ++ [o.n])).Perm (c.sv ++ [o.n]) := List.mergeSort_perm _ _
      refine (List.Perm.pairwise_iff (fun h => Ne.symm h) hp).2 ?_
      rw [List.pairwise_append]
      refine ⟨h5.imp fun h => by omega, by simp, fun x hx y hy => ?_⟩
      simp at hy; subst hy
      exact fun e => hni (e ▸ hx)
    exact (hle.and hnd).imp fun ⟨p, q⟩ => by have : _ ≤ _ := of_decide_eq_true p; omega
  refine check_of _ (by show 1 ≤ c.ep + 1 ∧ c.ep + 1 ≤ _; omega) h2 ?_ (chkS_of _ _ ?_ hpw) (cs_chkP h6 fun p hp => (h7 p hp).mono fun x hx => ?_)
  · show 2 ≤ (Cf.sortI _).length
    simp [Cf.sortI]; omega
  · intro x hx
    have : x ∈ c.sv ++ [o.n] := (sortI_mem _ _).1 hx
    rcases List.mem_append.1 this with hx | hx
    · exact h4 x hx
    · simp at hx; omega
  · exact (sortI_mem _ _).2 (by simp [hx])
theorem tables_valid (c : Cf.Cfg) (o : Cf.Ord) (h : Cf.check c = 0) (h0 : (Cf.tables c o).1 = 0) (he : c.ep < 1099511627776) : Cf.check { (Cf.tables c o).2 with ep := c.ep + 1 } = 0 ∧ Cf.tables c o = (0, { c with tb := o.n }) := by
  obtain ⟨h1, h2, h3, h4, h5, h6, h7⟩ := ck_parts c h
  unfold Cf.tables at h0 ⊢
  cases k1 : Cf.withinB o.n 1 8
  · rw [k1] at h0; simp at h0
  rw [if_neg (by decide)]
  exact ⟨check_of _ (by show 1 ≤ c.ep + 1 ∧ c.ep + 1 ≤ _; omega) (by simpa [Cf.withinB] using k1) h3 (chkS_of _ _ h4 h5) (cs_chkP h6 h7), rfl⟩
theorem place_valid (c : Cf.Cfg) (o : Cf.Ord) (h : Cf.check c = 0) (h0 : (Cf.place c o).1 = 0) (he : c.ep < 1099511627776) : Cf.check { (Cf.place c o).2 with ep := c.ep + 1 } = 0 ∧ Cf.place c o = (0, { c with pt := Cf.joined (c.pt.flatMap (Cf.cut3 o)) }) ∧ 0 ≤ o.f ∧ o.f < o.t ∧ o.t ≤ 256 ∧ o.n ≠ o.m ∧ o.n ∈ c.sv ∧ o.m ∈ c.sv := by
  obtain ⟨h1, h2, h3, h4, h5, h6, h7⟩ := ck_parts c h
  by_cases c1 : o.f < 0 ∨ o.f ≥ o.t ∨ o.t > 256
  · unfold Cf.place at h0; rw [if_pos c1] at h0; simp at h0
  by_cases c2 : o.n = o.m
  · unfold Cf.place at h0; rw [if_neg c1, if_pos c2] at h0; simp at h0
  by_cases c3 : Cf.hasB c.sv o.n = false ∨ Cf.hasB c.sv o.m = false
  · unfold Cf.place at h0; rw [if_neg c1, if_neg c2, if_pos c3] at h0; simp at h0
  have hpl : Cf.place c o = (0, { c with pt := Cf.joined (c.pt.flatMap (Cf.cut3 o)) }) := by unfold Cf.place; rw [if_neg c1, if_neg c2, if_neg c3]
  simp only [not_or, Bool.not_eq_false] at c3
  have c3a := (hasB_iff _ _).1 c3.1
  have c3b := (hasB_iff _ _).1 c3.2
  refine ⟨?_, hpl, by omega, by omega, by omega, c2, c3a, c3b⟩
  rw [hpl]
  refine check_of _ (by show 1 ≤ c.ep + 1 ∧ c.ep + 1 ≤ _; omega) h2 h3 (chkS_of _ _ h4 h5) (cs_chkP (joined_cs _ _ _ (cut_ch o (by omega) _ _ _ h6).1).1 (joined_ok _ fun q hq => ?_))
  obtain ⟨p, hp, hq⟩ := List.mem_flatMap.1 hq
  have hp' := h7 p hp
  simp [Cf.cut3] at hq
  rcases hq with rfl | rfl | rfl
  · exact .inr hp'
  · exact .inr ⟨c2, c3.1, c3.2⟩
  · exact .inr hp'
theorem without_mem (l : List Int) (n x : Int) : x ∈ Cf.without l n ↔ x ∈ l ∧ x ≠ n := by simp [Cf.without]
theorem repl_ok (l : List Int) (n x y : Int) (h2 : ∃ z ∈ l, z ≠ y) : (x = n → Cf.repl l n x y ∈ l ∧ Cf.repl l n x y ≠ y) ∧ (x ≠ n → Cf.repl l n x y = x) := by
  constructor
  · intro e
    unfold Cf.repl
    rw [if_pos e]
    obtain ⟨h3, h4, z, h5, h6⟩ := firstNe_at y l 0 (by omega) h2
    rw [show (Cf.firstNe y l 0 - 0).toNat = (Cf.firstNe y l 0).toNat by simp] at h5
    rw [List.getD_eq_getElem?_getD, h5]
    exact ⟨List.mem_of_getElem? h5, h6⟩
  · intro e
    unfold Cf.repl
    rw [if_neg e]
/-- who has a part when a server has left -/
theorem replP_ok (sv : List Int) (n : Int) (p : Cf.Part) (hp : OkP sv p) (hw : sv.Pairwise (· < ·)) (h2 : 2 < sv.length) : OkP (Cf.without sv n) (Cf.replP (Cf.without sv n) n p) ∧ (p.a ≠ n → (Cf.replP (Cf.without sv n) n p).a = p.a) ∧ (p.b ≠ n → (Cf.replP (Cf.without sv n) n p).b = p.b) := by
  obtain ⟨h3, h4, h5⟩ := hp
  have h4 := (hasB_iff _ _).1 h4
  have h5 := (hasB_iff _ _).1 h5
  obtain ⟨r1, r2⟩ := repl_ok (Cf.without sv n) n p.a p.b (without_other sv n p.b hw h2)
  obtain ⟨s1, s2⟩ := repl_ok (Cf.without sv n) n p.b (Cf.repl (Cf.without sv n) n p.a p.b) (without_other sv n _ hw h2)
  unfold Cf.replP
  dsimp only
  by_cases e1 : p.a = n
  · have e2 : p.b ≠ n := fun e => h3 (by rw [e1, e])
    rw [s2 e2]
    exact ⟨⟨(r1 e1).2, (hasB_iff _ _).2 (r1 e1).1, (hasB_iff _ _).2 ((without_mem _ _ _).2 ⟨h5, e2⟩)⟩, fun e => absurd e1 e, fun _ => rfl⟩
  · rw [r2 e1] at s1 s2 ⊢
    by_cases e2 : p.b = n
    · exact ⟨⟨fun e => (s1 e2).2 e.symm, (hasB_iff _ _).2 ((without_mem _ _ _).2 ⟨h4, e1⟩), (hasB_iff _ _).2 (s1 e2).1⟩, fun _ => rfl, fun e => absurd e2 e⟩
    · rw [s2 e2]
      exact ⟨⟨h3, (hasB_iff _ _).2 ((without_mem _ _ _).2 ⟨h4, e1⟩), (hasB_iff _ _).2 ((without_mem _ _ _).2 ⟨h5, e2⟩)⟩, fun _ => rfl, fun _ => rfl⟩
theorem leave_valid (c : Cf.Cfg) (o : Cf.Ord) (h : Cf.check c = 0) (h0 : (Cf.leave c o).1 = 0) (he : c.ep < 1099511627776) : Cf.check { (Cf.leave c o).2 with ep := c.ep + 1 } = 0 ∧ Cf.leave c o = (0, { c with sv := Cf.without c.sv o.n, pt := Cf.joined (c.pt.map (Cf.replP (Cf.without c.sv o.n) o.n)) }) ∧ 2 < c.sv.length := by
  obtain ⟨h1, h2, h3, h4, h5, h6, h7⟩ := ck_parts c h
  unfold Cf.leave at h0 ⊢
  cases k1 : Cf.hasB c.sv o.n
  · rw [k1] at h0; simp at h0
  by_cases k2 : c.sv.length ≤ 2
  · rw [k1, if_neg (by decide), if_pos k2] at h0; simp at h0
  rw [if_neg (by decide), if_neg k2]
  have hl := without_len c.sv o.n h5
  refine ⟨check_of _ (by show 1 ≤ c.ep + 1 ∧ c.ep + 1 ≤ _; omega) h2 (by show 2 ≤ (Cf.without c.sv o.n).length; omega) (chkS_of _ _ (fun x hx => h4 x ((without_mem _ _ _).1 hx).1) (h5.filter _)) (cs_chkP (joined_cs _ _ _ (rep_cs (Cf.replP (Cf.without c.sv o.n) o.n) (fun _ => rfl) (fun _ => rfl) _ _ _ h6).ch).1 (joined_ok _ fun q hq => ?_)), rfl, by omega⟩
  obtain ⟨p, hp, rfl⟩ := List.mem_map.1 hq
  exact .inr (replP_ok c.sv o.n p (h7 p hp) h5 (by omega)).1
theorem apply_valid (c : Cf.Cfg) (o : Cf.Ord) (h : Cf.check c = 0) (h0 : (Cf.apply c o).2 = 0) : Cf.check (Cf.apply c o).1 = 0 ∧ (Cf.apply c o).1.ep = c.ep + 1 ∧ c.ep < 1099511627776 ∧ (o.k = 1 ∨ o.k = 2 ∨ o.k = 3 ∨ o.k = 4) ∧ (Cf.run c o).1 = 0 ∧ (Cf.apply c o).1 = { (Cf.run c o).2 with ep := c.ep + 1 } := by
  have hep1 := (ck_parts c h).1
  by_cases hep : c.ep = 1099511627776
  · unfold Cf.apply at h0; rw [if_neg (by rw [h]; decide), if_pos hep] at h0; simp at h0
  cases hkk : Cf.withinB o.k 1 4
  · unfold Cf.apply at h0; rw [if_neg (by rw [h]; decide), if_neg hep, if_pos hkk] at h0; simp at h0
  have h14 : 1 ≤ o.k ∧ o.k ≤ 4 := by simpa [Cf.withinB] using hkk
  by_cases hr : (Cf.run c o).1 = 0
  · have ha := apply_good c o _ h hep hkk rfl hr
    have hepr : (Cf.run c o).2.ep = c.ep := by
      unfold Cf.run; split; exact come_ep c o; split; exact leave_ep c o; split; exact place_ep c o; exact tables_ep c o
    rw [ha, hepr]
    refine ⟨?_, rfl, by omega, by omega, hr, rfl⟩
    dsimp only
    have hlt : c.ep < 1099511627776 := by omega
    rcases (show o.k = 1 ∨ o.k = 2 ∨ o.k = 3 ∨ o.k = 4 by omega) with e | e | e | e
    · rw [run_1 c o e] at hr ⊢; exact (come_valid c o h hr hlt).1
    · rw [run_2 c o e] at hr ⊢; exact (leave_valid c o h hr hlt).1
    · rw [run_3 c o e] at hr ⊢; exact (place_valid c o h hr hlt).1
    · rw [run_4 c o e] at hr ⊢; exact (tables_valid c o h hr hlt).1
  · have ha := apply_bad c o _ h hep hkk rfl hr
    rw [ha] at h0
    exact absurd h0 hr
end Go.Proofs.YtkmaepefpcpckaaDoor
