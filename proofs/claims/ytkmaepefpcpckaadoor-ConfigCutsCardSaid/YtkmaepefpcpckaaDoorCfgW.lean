/- Layer 12, plain: what the laws say. -/
import Derived.Test.YtkmaepefpcpckaaDoorCfgV
set_option linter.unusedVariables false
set_option linter.unusedSimpArgs false
namespace Go.Proofs.YtkmaepefpcpckaaDoor
open Go.RowKit

theorem own_some (b : Int) : ∀ (ps : List Cf.Part) (x : Int × Int), Cf.own ps b = some x → ∃ p ∈ ps, x = (p.a, p.b) ∧ p.f ≤ b ∧ b < p.t ∧ ∀ g : Cf.Part → Cf.Part, (∀ p, (g p).f = p.f) → (∀ p, (g p).t = p.t) → Cf.own (ps.map g) b = some ((g p).a, (g p).b)
  | [], x, h => by rw [own_nil] at h; cases h
  | p :: r, x, h => by
    rw [own_cons] at h
    by_cases e : p.f ≤ b ∧ b < p.t
    · rw [if_pos e] at h
      injection h with h
      refine ⟨p, by simp, h.symm, e.1, e.2, fun g hf ht => ?_⟩
      rw [List.map_cons, own_cons, if_pos (by rw [hf, ht]; exact e)]
    · rw [if_neg e] at h
      obtain ⟨q, hq, h1, h2, h3, h4⟩ := own_some b r x h
      refine ⟨q, by simp [hq], h1, h2, h3, fun g hf ht => ?_⟩
      rw [List.map_cons, own_cons, if_neg (by rw [hf, ht]; exact e)]
      exact h4 g hf ht
theorem cs_bounds : ∀ {l : List Cf.Part} {a e : Int}, Cs a l e → ∀ p ∈ l, a ≤ p.f ∧ p.f < p.t ∧ p.t ≤ e
  | [], _, _, _, p, hp => by cases hp
  | q :: r, a, e, h, p, hp => by
    have hle := Cs.le h.2.2
    have h1 := h.1
    have h2 := h.2.1
    rcases List.mem_cons.1 hp with rfl | hp
    · omega
    · have := cs_bounds h.2.2 p hp; omega
theorem ck_bounds (c : Cf.Cfg) (h : Cf.check c = 0) : ∀ p ∈ c.pt, 0 ≤ p.t ∧ p.t ≤ 1000 := fun p hp => by
  have := cs_bounds (ck_parts c h).2.2.2.2.2.1 p hp; omega
theorem cs_own : ∀ {l : List Cf.Part} {a e : Int}, Cs a l e → ∀ b, a ≤ b → b < e → ∃ x, Cf.own l b = some x
  | [], a, e, h, b, h1, h2 => by have : a = e := h; omega
  | p :: r, a, e, h, b, h1, h2 => by
    rw [own_cons]
    by_cases e' : p.f ≤ b ∧ b < p.t
    · rw [if_pos e']; exact ⟨_, rfl⟩
    · rw [if_neg e']; have := h.1; exact cs_own h.2.2 b (by omega) h2
theorem ck_own (c : Cf.Cfg) (h : Cf.check c = 0) (b : Int) : (0 ≤ b ∧ b < 256 ∧ ∃ x, Cf.own c.pt b = some x) ∨ ((b < 0 ∨ 256 ≤ b) ∧ Cf.own c.pt b = none) := by
  have hc := (ck_parts c h).2.2.2.2.2.1
  by_cases e : 0 ≤ b ∧ b < 256
  · exact .inl ⟨e.1, e.2, cs_own hc b e.1 e.2⟩
  · exact .inr ⟨by omega, own_none hc.ch b (by omega)⟩

theorem keeps_law (c : Cf.Cfg) (o : Cf.Ord) (h : Cf.check c = 0) (h0 : (Cf.apply c o).2 = 0) (b : Int) (x : Int × Int) (hx : Cf.own c.pt b = some x) :
    ∃ y, Cf.own (Cf.apply c o).1.pt b = some y ∧ (o.k = 2 → y.1 ≠ o.n ∧ y.2 ≠ o.n ∧ (x.1 ≠ o.n → y.1 = x.1) ∧ (x.2 ≠ o.n → y.2 = x.2)) ∧ x.1 ≠ x.2 ∧
      (o.k = 3 → (o.f ≤ b ∧ b < o.t → y = (o.n, o.m)) ∧ (¬ (o.f ≤ b ∧ b < o.t) → y = x)) ∧ (o.k ≠ 2 → o.k ≠ 3 → y = x) := by
  obtain ⟨-, -, he, hk, hr, ha⟩ := apply_valid c o h h0
  obtain ⟨h1, h2, h3, h4, h5, h6, h7⟩ := ck_parts c h
  obtain ⟨p, hp, hxp, hb1, hb2, hmap⟩ := own_some b c.pt x hx
  have hne : x.1 ≠ x.2 := by rw [hxp]; exact (h7 p hp).1
  rw [ha]
  rcases hk with e | e | e | e
  · rw [run_1 c o e] at hr ⊢
    rw [(come_valid c o h hr he).2]
    exact ⟨x, hx, fun e' => by omega, hne, fun e' => by omega, fun _ _ => rfl⟩
  · rw [run_2 c o e] at hr ⊢
    obtain ⟨-, hl, hl2⟩ := leave_valid c o h hr he
    rw [hl]
    obtain ⟨r1, r2, r3⟩ := replP_ok c.sv o.n p (h7 p hp) h5 hl2
    refine ⟨_, ((joined_cs _ _ _ (rep_cs (Cf.replP (Cf.without c.sv o.n) o.n) (fun _ => rfl) (fun _ => rfl) _ _ _ h6).ch).2 b).trans (hmap _ (fun _ => rfl) (fun _ => rfl)), fun _ => ?_, hne, fun e' => by omega, fun e' => by omega⟩
    rw [hxp]
    exact ⟨((without_mem _ _ _).1 ((hasB_iff _ _).1 r1.2.1)).2, ((without_mem _ _ _).1 ((hasB_iff _ _).1 r1.2.2)).2, r2, r3⟩
  · rw [run_3 c o e] at hr ⊢
    obtain ⟨-, hl, -, hft, -⟩ := place_valid c o h hr he
    rw [hl]
    have hcut := cut_ch o hft _ _ _ h6
    refine ⟨_, ((joined_cs _ _ _ hcut.1).2 b).trans ((hcut.2 b).trans (by rw [hx]; rfl)), fun e' => by omega, hne, fun _ => ⟨fun hi => if_pos hi, fun hi => if_neg hi⟩, fun _ e' => absurd e e'⟩
  · rw [run_4 c o e] at hr ⊢
    rw [(tables_valid c o h hr he).2]
    exact ⟨x, hx, fun e' => by omega, hne, fun e' => by omega, fun _ _ => rfl⟩
end Go.Proofs.YtkmaepefpcpckaaDoor
