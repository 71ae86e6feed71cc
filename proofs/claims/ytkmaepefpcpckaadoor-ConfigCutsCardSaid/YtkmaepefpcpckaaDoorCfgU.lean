/- Layer 12, plain: what ConfigCuts says: placed again a part changes nothing but the epoch. -/
import Derived.Test.YtkmaepefpcpckaaDoorCfgW
set_option linter.unusedVariables false
set_option linter.unusedSimpArgs false
namespace Go.Proofs.YtkmaepefpcpckaaDoor
open Go.RowKit

/-- none of those that touch have the same copies -/
def Adj : List Cf.Part → Prop
  | [] => True
  | [_] => True
  | p :: q :: r => ¬ (p.a = q.a ∧ p.b = q.b) ∧ Adj (q :: r)
theorem Adj.tail {p : Cf.Part} : ∀ {l : List Cf.Part}, Adj (p :: l) → Adj l
  | [], _ => trivial
  | _ :: _, h => h.2
theorem Adj.snoc : ∀ {l : List Cf.Part} {q p : Cf.Part}, Adj (l ++ [q]) → ¬ (q.a = p.a ∧ q.b = p.b) → Adj (l ++ [q] ++ [p])
  | [], _, _, _, h => ⟨h, trivial⟩
  | [x], q, p, h, k => ⟨h.1, k, trivial⟩
  | x :: y :: l, q, p, h, k => ⟨h.1, Adj.snoc (l := y :: l) h.2 k⟩
theorem Adj.set_last : ∀ {l : List Cf.Part} {q : Cf.Part} (x : Int), Adj (l ++ [q]) → Adj (l ++ [{ q with t := x }])
  | [], _, _, _ => trivial
  | [y], q, x, h => ⟨h.1, trivial⟩
  | y :: z :: l, q, x, h => ⟨h.1, Adj.set_last (l := z :: l) x h.2⟩
theorem jstep_adj (out : List Cf.Part) (p : Cf.Part) (h : Adj out) : Adj (Cf.jstep out p) := by
  by_cases e : p.f ≥ p.t
  · rw [jstep_skip _ _ e]; exact h
  · rcases List.eq_nil_or_concat out with rfl | ⟨i, q, hq⟩
    · rw [jstep_nil _ e]; trivial
    · rw [List.concat_eq_append] at hq
      subst hq
      by_cases e2 : q.a = p.a ∧ q.b = p.b
      · rw [jstep_same _ _ _ e e2.1 e2.2]; exact h.set_last _
      · rw [jstep_other _ _ _ e e2]; exact h.snoc e2
theorem fold_adj : ∀ (l out : List Cf.Part), Adj out → Adj (l.foldl Cf.jstep out)
  | [], _, h => h
  | p :: r, out, h => fold_adj r _ (jstep_adj out p h)
theorem joined_adj (l : List Cf.Part) : Adj (Cf.joined l) := fold_adj l [] trivial

/-- parts that no two touching have alike, and the same copies of each block: the same parts -/
theorem adj_eq : ∀ (l m : List Cf.Part) (s e : Int), Cs s l e → Cs s m e → Adj l → Adj m → (∀ b, Cf.own l b = Cf.own m b) → l = m
  | [], [], _, _, _, _, _, _, _ => rfl
  | [], q :: m, s, e, h, k, _, _, _ => by
    have h1 : s = e := h
    have := k.1; have := k.2.1; have := Cs.le k.2.2
    omega
  | p :: l, [], s, e, h, k, _, _, _ => by
    have h1 : s = e := k
    have := h.1; have := h.2.1; have := Cs.le h.2.2
    omega
  | p :: l, q :: m, s, e, h, k, ha, ka, ho => by
    have hs := ho s
    rw [own_cons, own_cons, if_pos ⟨by have := h.1; omega, h.2.1⟩, if_pos ⟨by have := k.1; omega, k.2.1⟩] at hs
    injection hs with hs
    injection hs with hsa hsb
    have ht : p.t = q.t := by
      rcases Int.lt_trichotomy p.t q.t with hlt | he | hgt
      · -- the next of l begins where q still is
        exfalso
        match l, h, ha with
        | [], h, _ =>
          have h1 : p.t = e := h.2.2
          have := Cs.le k.2.2
          omega
        | p' :: l', h, ha =>
          have hb := ho p.t
          have h2 := h.2.2
          rw [own_cons, if_neg (by omega), own_cons, if_pos ⟨by have := h2.1; omega, h2.2.1⟩, own_cons, if_pos ⟨by have := k.1; have := h.2.1; omega, hlt⟩] at hb
          injection hb with hb
          injection hb with hba hbb
          exact ha.1 ⟨by rw [hsa, hba], by rw [hsb, hbb]⟩
      · exact he
      · exfalso
        match m, k, ka with
        | [], k, _ =>
          have h1 : q.t = e := k.2.2
          have := Cs.le h.2.2
          omega
        | q' :: m', k, ka =>
          have hb := ho q.t
          have k2 := k.2.2
          have e2 : Cf.own (q :: q' :: m') q.t = some (q'.a, q'.b) := by rw [own_cons, if_neg (by omega), own_cons, if_pos ⟨by have := k2.1; omega, k2.2.1⟩]
          have e1 : Cf.own (p :: l) q.t = some (p.a, p.b) := by rw [own_cons, if_pos ⟨by have := h.1; have := k.2.1; omega, hgt⟩]
          rw [e1, e2] at hb
          injection hb with hb
          injection hb with hba hbb
          exact ka.1 ⟨by rw [← hsa, hba], by rw [← hsb, hbb]⟩
    have hpq : p = q := by
      obtain ⟨pf, pt, pa, pb⟩ := p
      obtain ⟨qf, qt, qa, qb⟩ := q
      have h1 := h.1
      have k1 := k.1
      dsimp only at *
      subst hsa hsb ht
      rw [h1, k1]
    subst hpq
    congr 1
    refine adj_eq l m p.t e h.2.2 k.2.2 ha.tail ka.tail fun b => ?_
    by_cases hb : p.f ≤ b ∧ b < p.t
    · rw [own_none h.2.2.ch b (.inl hb.2), own_none k.2.2.ch b (.inl hb.2)]
    · have := ho b
      rw [own_cons, own_cons, if_neg hb, if_neg hb] at this
      exact this

/-- how many pieces hold something -/
def full (l : List Cf.Part) : Nat := (l.filter fun p => decide (p.f < p.t)).length
theorem full_cons (p : Cf.Part) (l : List Cf.Part) : full (p :: l) = (if p.f < p.t then 1 else 0) + full l := by
  unfold full
  by_cases e : p.f < p.t
  · rw [List.filter_cons_of_pos (by simpa using e), if_pos e, List.length_cons]; omega
  · rw [List.filter_cons_of_neg (by simpa using e), if_neg e]; omega
theorem fold_full : ∀ (l out : List Cf.Part), (l.foldl Cf.jstep out).length ≤ out.length + full l
  | [], out => by simp [full]
  | p :: r, out => by
    have h1 := fold_full r (Cf.jstep out p)
    have h2 := jstep_len out p
    rw [full_cons]
    show (r.foldl Cf.jstep (Cf.jstep out p)).length ≤ _
    by_cases e : p.f < p.t
    · rw [if_pos e]; omega
    · rw [jstep_skip _ _ (by omega)] at h1 ⊢
      rw [if_neg e]; omega
theorem cut_full (o : Cf.Ord) (ho : o.f < o.t) : ∀ (l : List Cf.Part) (a e : Int), Cs a l e → (full (l.flatMap (Cf.cut3 o)) : Int) + ((if e < o.f then 1 else 0) + (if e < o.t then 1 else 0)) ≤ l.length + ((if a < o.f then 1 else 0) + (if a < o.t then 1 else 0))
  | [], a, e, h => by have h1 : a = e := h; subst h1; simp [full]
  | p :: r, a, e, h => by
    obtain ⟨h1, h2, h3⟩ := h
    have ih := cut_full o ho r p.t e h3
    have hc : (p :: r).flatMap (Cf.cut3 o) = ⟨p.f, min p.t o.f, p.a, p.b⟩ :: ⟨max p.f o.f, min p.t o.t, o.n, o.m⟩ :: ⟨max p.f o.t, p.t, p.a, p.b⟩ :: r.flatMap (Cf.cut3 o) := rfl
    rw [hc, full_cons, full_cons, full_cons]
    simp only [List.length_cons]
    have k1 : min p.t o.f = if p.t ≤ o.f then p.t else o.f := by split <;> omega
    have k2 : max p.f o.f = if p.f ≤ o.f then o.f else p.f := by split <;> omega
    have k3 : min p.t o.t = if p.t ≤ o.t then p.t else o.t := by split <;> omega
    have k4 : max p.f o.t = if p.f ≤ o.t then o.t else p.f := by split <;> omega
    rw [k1, k2, k3, k4]
    subst h1
    generalize full (r.flatMap (Cf.cut3 o)) = F at ih ⊢
    have key : (((if p.f < (if p.t ≤ o.f then p.t else o.f) then 1 else 0) + ((if (if p.f ≤ o.f then o.f else p.f) < (if p.t ≤ o.t then p.t else o.t) then 1 else 0) + (if (if p.f ≤ o.t then o.t else p.f) < p.t then 1 else 0)) : Nat) : Int) + ((if p.t < o.f then 1 else 0) + (if p.t < o.t then 1 else 0)) ≤ 1 + ((if p.f < o.f then 1 else 0) + (if p.f < o.t then 1 else 0)) := by
      by_cases a1 : p.t ≤ o.f <;> by_cases a2 : p.f ≤ o.f <;> by_cases a3 : p.t ≤ o.t <;> by_cases a4 : p.f ≤ o.t <;> by_cases a5 : p.t < o.f <;> by_cases a6 : p.t < o.t <;> by_cases a7 : p.f < o.f <;> by_cases a8 : p.f < o.t <;> first | omega | (simp only [a1, a2, a3, a4, a5, a6, a7, a8, h2, if_true, if_false, Int.lt_irrefl]; repeat (first | omega | split))
    push_cast at key ⊢
    omega
theorem cuts_len (o : Cf.Ord) (ho : o.f < o.t) (l : List Cf.Part) (a e : Int) (h : Cs a l e) : (Cf.joined (l.flatMap (Cf.cut3 o))).length ≤ l.length + 2 := by
  have h1 := fold_full (l.flatMap (Cf.cut3 o)) []
  have h2 := cut_full o ho l a e h
  simp only [List.length_nil, Nat.zero_add] at h1
  have h3 : (Cf.joined (l.flatMap (Cf.cut3 o))).length ≤ full (l.flatMap (Cf.cut3 o)) := h1
  split at h2 <;> split at h2 <;> split at h2 <;> split at h2 <;> omega

/-- an order of the third kind, of servers that are there -/
theorem cuts_law (c : Cf.Cfg) (o : Cf.Ord) (hk : o.k = 3) (h : Cf.check c = 0) (hep : c.ep ≤ 61) (hn : o.n ∈ c.sv) (hm : o.m ∈ c.sv) :
    (¬ (0 ≤ o.f ∧ o.f < o.t ∧ o.t ≤ 256 ∧ o.n ≠ o.m) → (Cf.apply c o).2 ≠ 0 ∧ (Cf.apply c o).1 = Cf.zero) ∧
    ((0 ≤ o.f ∧ o.f < o.t ∧ o.t ≤ 256 ∧ o.n ≠ o.m) → ∃ d : Cf.Cfg, Cf.apply c o = (d, 0) ∧ Cf.check d = 0 ∧ d.ep ≤ 62 ∧ d.pt.length ≤ c.pt.length + 2 ∧
      (∀ b, 0 ≤ b → b < 256 → ∃ x y, Cf.own c.pt b = some x ∧ Cf.own d.pt b = some y ∧ y = if o.f ≤ b ∧ b < o.t then (o.n, o.m) else x) ∧
      Cf.apply d o = ({ d with ep := d.ep + 1 }, 0)) := by
  have hw : Cf.withinB o.k 1 4 = true := by rw [hk]; rfl
  have hnb := (hasB_iff _ _).2 hn
  have hmb := (hasB_iff _ _).2 hm
  constructor
  · intro hno
    have : (Cf.run c o).1 ≠ 0 := by
      rw [run_3 c o hk]
      unfold Cf.place
      by_cases c1 : o.f < 0 ∨ o.f ≥ o.t ∨ o.t > 256
      · rw [if_pos c1]; exact (by decide : (71 : Int) ≠ 0)
      · by_cases c2 : o.n = o.m
        · rw [if_neg c1, if_pos c2]; exact (by decide : (1 : Int) ≠ 0)
        · exact absurd ⟨by omega, by omega, by omega, c2⟩ hno
    rw [apply_bad c o _ h (by omega) hw rfl this]
    exact ⟨this, rfl⟩
  · rintro ⟨f1, f2, f3, f4⟩
    obtain ⟨p1, p2, p3, p4, p5, p6, p7⟩ := ck_parts c h
    have hpl : Cf.place c o = (0, { c with pt := Cf.joined (c.pt.flatMap (Cf.cut3 o)) }) := by
      unfold Cf.place; rw [if_neg (by omega), if_neg f4, if_neg (by rw [hnb, hmb]; simp)]
    have ha := apply_good c o _ h (by omega) hw ((run_3 c o hk).trans hpl) rfl
    have hv := apply_valid c o h (by rw [ha])
    rw [ha] at hv
    obtain ⟨hd, -⟩ := hv
    have hcut := cut_ch o f2 _ _ _ p6
    have hj := joined_cs _ _ _ hcut.1
    refine ⟨_, ha, hd, by show c.ep + 1 ≤ 62; omega, cuts_len o f2 _ _ _ p6, fun b b1 b2 => ?_, ?_⟩
    · obtain ⟨x, hx⟩ := cs_own p6 b b1 b2
      refine ⟨x, _, hx, (hj.2 b).trans ((hcut.2 b).trans (by rw [hx]; rfl)), rfl⟩
    · generalize hD : ({ c with pt := Cf.joined (c.pt.flatMap (Cf.cut3 o)), ep := c.ep + 1 } : Cf.Cfg) = d at hd
      have hDs : d.sv = c.sv := by rw [← hD]
      have hDp : d.pt = Cf.joined (c.pt.flatMap (Cf.cut3 o)) := by rw [← hD]
      have hDe : d.ep = c.ep + 1 := by rw [← hD]
      have hE : ({ c with pt := Cf.joined (c.pt.flatMap (Cf.cut3 o)) , ep := c.ep + 1 } : Cf.Cfg) = d := hD
      obtain ⟨d1, d2, d3, d4, d5, d6, d7⟩ := ck_parts d hd
      have hcut2 := cut_ch o f2 _ _ _ d6
      have hj2 := joined_cs _ _ _ hcut2.1
      have hsame : Cf.joined (d.pt.flatMap (Cf.cut3 o)) = d.pt := by
        refine adj_eq _ _ 0 256 hj2.1 d6 (joined_adj _) (by rw [hDp]; exact joined_adj _) fun b => ?_
        rw [hj2.2 b, hcut2.2 b]
        have hdb : Cf.own d.pt b = (Cf.own c.pt b).map fun x => if o.f ≤ b ∧ b < o.t then (o.n, o.m) else x := by rw [hDp, hj.2 b, hcut.2 b]
        rw [hdb]
        cases Cf.own c.pt b with
        | none => rfl
        | some x => simp only [Option.map_some]; by_cases e : o.f ≤ b ∧ b < o.t <;> simp [e]
      have hpl2 : Cf.place d o = (0, { d with pt := Cf.joined (d.pt.flatMap (Cf.cut3 o)) }) := by
        unfold Cf.place; rw [if_neg (by omega), if_neg f4, if_neg (by rw [hDs, hnb, hmb]; simp)]
      have ha2 := apply_good d o _ hd (by omega) hw ((run_3 d o hk).trans hpl2) rfl
      rw [hsame] at ha2
      show Cf.apply d o = _
      rw [ha2]
end Go.Proofs.YtkmaepefpcpckaaDoor
