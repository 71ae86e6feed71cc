/- What the printed functions of layer 12 come to, and their contracts. -/
import Derived.Test.YtkmaepefpcpckaaDoorCfgS
import Derived.Test.YtkmaepefpcpckaaDoorCfgT
import Derived.Test.YtkmaepefpcpckaaDoorPrA
set_option linter.unusedVariables false
set_option linter.unusedSimpArgs false
namespace Go.Proofs.YtkmaepefpcpckaaDoor
open Go.RowKit Go.Proofs.YtkmaepefpcpckaaDoorW.PrintWords

def s77 (p : Cf.Part) : PConfigWhere.S77 := ⟨⟨p.f, p.t⟩, p.a, p.b⟩
theorem add_off (b o j : Nat) : (⟨b, o, none⟩ : Addr).add j = ⟨b, o + j, none⟩ := by unfold Addr.add; split <;> simp_all

theorem kc_int {w : World} {A : Option Addr} {c : Nat} {xs : List Int} (h : Sl w (.slice A xs.length c) xs.length 1 (Cf.ints xs)) : Kd.C (Kd.int .i64) w A xs.length xs := by
  obtain ⟨h1, h2, A', c', hv, h3⟩ := h
  injection hv with hA _ _
  subst hA
  refine ⟨rfl, by omega, fun hn => ?_⟩
  obtain ⟨b, o, rfl, hc⟩ := h3 hn
  refine ⟨_, rfl, fun j p hj => ⟨[.int .i64 p], rfl, rfl, fun i u hu => ?_⟩⟩
  obtain ⟨hjl, hp⟩ := List.getElem?_eq_some_iff.1 hj
  rcases i with _ | i
  · have hu' : Value.int .i64 p = u := by simpa using hu
    subst hu'
    show w.cell? (Addr.add ⟨b, o, none⟩ (j * 1 + 0)) = _
    rw [Nat.mul_one, Nat.add_zero, add_off, hc j (by omega), ints_get xs j hjl, List.getD_eq_getElem?_getD, hj]
    rfl
  · simp at hu
theorem kc_77 {w : World} {A : Option Addr} {c : Nat} {ps : List Cf.Part} (h : Sl w (.slice A ps.length c) ps.length 4 (Cf.parts ps)) : Kd.C PConfigWhere.k77 w A (ps.map s77).length (ps.map s77) := by
  obtain ⟨h1, h2, A', c', hv, h3⟩ := h
  injection hv with hA _ _
  subst hA
  refine ⟨rfl, by simp; omega, fun hn => ?_⟩
  obtain ⟨b, o, rfl, hc⟩ := h3 (by simpa using hn)
  refine ⟨_, rfl, fun j p hj => ?_⟩
  have hjl : j < ps.length := by have := (List.getElem?_eq_some_iff.1 hj).1; simpa using this
  have hp : p = s77 ps[j] := by simpa [List.getElem?_map, List.getElem?_eq_getElem hjl] using hj.symm
  subst hp
  refine ⟨[.int .i64 ps[j].f, .int .i64 ps[j].t, .int .i64 ps[j].a, .int .i64 ps[j].b], rfl, PConfigWhere.k77_mk w _, fun i u hu => ?_⟩
  have hg := parts_get ps j hjl
  show w.cell? (Addr.add ⟨b, o, none⟩ (j * 4 + i)) = _
  rw [add_off]
  rcases i with _ | _ | _ | _ | i
  · rw [hc (j * 4 + 0) (by omega), Nat.add_zero, hg.1]; exact hu
  · rw [hc (j * 4 + (0 + 1)) (by omega)]; rw [show j * 4 + (0 + 1) = j * 4 + 1 by omega, hg.2.1]; exact hu
  · rw [hc (j * 4 + (0 + 1 + 1)) (by omega)]; rw [show j * 4 + (0 + 1 + 1) = j * 4 + 2 by omega, hg.2.2.1]; exact hu
  · rw [hc (j * 4 + (0 + 1 + 1 + 1)) (by omega)]; rw [show j * 4 + (0 + 1 + 1 + 1) = j * 4 + 3 by omega, hg.2.2.2]; exact hu
  · simp at hu

theorem rd_77 (ps : List Cf.Part) (j : Nat) (h : j < ps.length) : PConfigWhere.rd_T77 (ps.map s77) (j : Int) = s77 ps[j] := by
  simp [PConfigWhere.rd_T77, List.getD_eq_getElem?_getD, List.getElem?_eq_getElem h]
theorem wrap_succ (j : Nat) (h : j ≤ 100000) : wrap64 ((j : Int) + 1) = ((j + 1 : Nat) : Int) := by unfold wrap64; omega
theorem rwhere_l0 (b ep tb : Int) (ss : List Int) (ps : List Cf.Part) (hl : ps.length ≤ 1000) : ∀ (d j k : Nat), d + j = ps.length → d < k → PConfigWhere.weirkeepref12_Where.l0 k b (j : Int) ep ss (ps.map s77) tb = some (Cf.whereR (Cf.own (ps.drop j) b))
  | 0, j, k, hd, hk => by
    obtain ⟨k, rfl⟩ : ∃ m, k = m + 1 := ⟨k - 1, by omega⟩
    simp only [PConfigWhere.weirkeepref12_Where.l0]
    rw [if_neg (by simp; omega), List.drop_of_length_le (by omega)]
    rfl
  | d + 1, j, k, hd, hk => by
    obtain ⟨k, rfl⟩ : ∃ m, k = m + 1 := ⟨k - 1, by omega⟩
    simp only [PConfigWhere.weirkeepref12_Where.l0]
    rw [if_pos (by simp; omega), if_pos (by omega), rd_77 ps j (by omega), List.drop_eq_getElem_cons (by omega), own_cons, wrap_succ j (by omega), rwhere_l0 b ep tb ss ps hl d (j + 1) k (by omega) (by omega)]
    by_cases e1 : ps[j].f ≤ b
    · by_cases e2 : b < ps[j].t
      · rw [if_pos (show b ≥ (s77 ps[j]).f0.f0 from e1), if_pos (show b < (s77 ps[j]).f0.f1 from e2), if_pos ⟨e1, e2⟩]; rfl
      · rw [if_pos (show b ≥ (s77 ps[j]).f0.f0 from e1), if_neg (show ¬ b < (s77 ps[j]).f0.f1 from e2), if_neg (fun h => e2 h.2)]
    · rw [if_neg (show ¬ b ≥ (s77 ps[j]).f0.f0 from e1), if_neg (fun h => e1 h.1)]
theorem rwhere_any (ep tb b : Int) (ss : List Int) (ps : List Cf.Part) (A1 A2 : Option Addr) (c1 c2 : Nat) (w : World) (hs : Sl w (.slice A1 ss.length c1) ss.length 1 (Cf.ints ss)) (h1 : ss.length ≤ c1) (hp : Sl w (.slice A2 ps.length c2) ps.length 4 (Cf.parts ps)) (h2 : ps.length ≤ c2) (hl : ps.length ≤ 1000) (t : Int × Int × Int) (ht : Cf.whereR (Cf.own ps b) = t) :
    Calls Tryd.prog 15 #[.agg #[.int .i64 ep, .slice A1 ss.length c1, .slice A2 ps.length c2, .int .i64 tb], .int .i64 b] w fun e w' => e = .returned (.tuple #[.int .i64 t.1, .int .i64 t.2.1, .int .i64 t.2.2]) ∧ Below w.heap.size w w' := by
  have h := PConfigWhere.weirkeepref12_Where.calls (ps.length + 1) ep A1 c1 ss A2 c2 (ps.map s77) tb b t.1 t.2.1 t.2.2 w (kc_int hs) h1 (kc_77 hp) (by simpa using h2) (by
    unfold PConfigWhere.weirkeepref12_Where.f
    have := rwhere_l0 b ep tb ss ps hl ps.length 0 (ps.length + 1) (by omega) (by omega)
    rw [List.drop_zero, ht] at this
    exact this)
  simpa only [List.length_map] using h
theorem rtable_any (ep tb b : Int) (ss : List Int) (ps : List Cf.Part) (A1 A2 : Option Addr) (c1 c2 : Nat) (w : World) (hs : Sl w (.slice A1 ss.length c1) ss.length 1 (Cf.ints ss)) (h1 : ss.length ≤ c1) (hp : Sl w (.slice A2 ps.length c2) ps.length 4 (Cf.parts ps)) (h2 : ps.length ≤ c2) (t : Int) (ht : Cf.tabF tb b = t) :
    Calls Tryd.prog 17 #[.agg #[.int .i64 ep, .slice A1 ss.length c1, .slice A2 ps.length c2, .int .i64 tb], .int .i64 b] w fun e w' => e = .returned (.int .i64 t) ∧ Below w.heap.size w w' := by
  have h := PConfigWhere.weirkeepref12_Table.calls ep A1 c1 ss A2 c2 (ps.map s77) tb b t w (kc_int hs) h1 (kc_77 hp) (by simpa using h2) (by
    unfold PConfigWhere.weirkeepref12_Table.f
    rw [← ht]
    unfold Cf.tabF
    by_cases e1 : tb < 1
    · rw [if_pos e1, if_pos (.inl e1)]
    · by_cases e2 : b < 1
      · rw [if_neg e1, if_pos e2, if_pos (.inr e2)]
      · rw [if_neg e1, if_neg e2, if_neg (by omega), if_neg (by omega), Int.tmod_eq_emod_of_nonneg (by omega)])
  simpa only [List.length_map] using h
theorem rhas_l0 (n : Int) (ss : List Int) (hl : ss.length ≤ 1000) : ∀ (d j k : Nat), d + j = ss.length → d < k → PConfigWhere.weirkeepref12_Has.l0 k ss n (j : Int) = some (Cf.hasB (ss.drop j) n)
  | 0, j, k, hd, hk => by
    obtain ⟨k, rfl⟩ : ∃ m, k = m + 1 := ⟨k - 1, by omega⟩
    simp only [PConfigWhere.weirkeepref12_Has.l0]
    rw [if_neg (by omega), List.drop_of_length_le (by omega)]
    rfl
  | d + 1, j, k, hd, hk => by
    obtain ⟨k, rfl⟩ : ∃ m, k = m + 1 := ⟨k - 1, by omega⟩
    simp only [PConfigWhere.weirkeepref12_Has.l0]
    have hr : rd ss (j : Int) = ss.getD j 0 := rfl
    rw [if_pos (by omega), if_pos (by omega), hr, hasB_drop ss n _ j (by omega) rfl, wrap_succ j (by omega), rhas_l0 n ss hl d (j + 1) k (by omega) (by omega)]
    by_cases e : ss.getD j 0 = n
    · rw [if_pos e, e]; simp
    · rw [if_neg e]
      have : (n == ss.getD j 0) = false := by simpa using fun h => e h.symm
      rw [this, Bool.false_or]
theorem rhas_any (n : Int) (ss : List Int) (A : Option Addr) (c : Nat) (w : World) (hs : Sl w (.slice A ss.length c) ss.length 1 (Cf.ints ss)) (h1 : ss.length ≤ c) (hl : ss.length ≤ 1000) (r : Bool) (hr : Cf.hasB ss n = r) :
    Calls Tryd.prog 18 #[.slice A ss.length c, .int .i64 n] w fun e w' => e = .returned (.bool r) ∧ Below w.heap.size w w' :=
  (PConfigWhere.weirkeepref12_Has.calls (ss.length + 1) A c ss n r w (kc_int hs) h1 (by
    unfold PConfigWhere.weirkeepref12_Has.f
    have := rhas_l0 n ss hl ss.length 0 (ss.length + 1) (by omega) (by omega)
    rw [List.drop_zero, hr] at this
    exact this)).mono fun e w' ⟨he, hd⟩ => ⟨he, hd.below⟩

theorem own_form2 {w : World} {b : Nat} {e : TypeId} {sz n : Nat} {v : Value} {xs : List Value} (h : w.ownsRow b e sz v n xs) : ∃ A c, v = .slice A n c ∧ n ≤ c := by
  rcases h.2 with ⟨hv, h0⟩ | ⟨g, cap, cur, hv, -, -, h1, -⟩
  · exact ⟨none, 0, by rw [h0]; exact hv, by omega⟩
  · exact ⟨_, cap, hv, h1⟩
theorem COwn.form2 {base : Nat} {w : World} {v : Value} {c : Cf.Cfg} (h : COwn base w v c) : ∃ A1 c1 A2 c2, v = .agg #[.int .i64 c.ep, .slice A1 c.sv.length c1, .slice A2 c.pt.length c2, .int .i64 c.tb] ∧ c.sv.length ≤ c1 ∧ c.pt.length ≤ c2 := by
  obtain ⟨sv, pv, rfl, h1, h2, -, -⟩ := h
  obtain ⟨A1, c1, rfl, k1⟩ := own_form2 h1
  obtain ⟨A2, c2, rfl, k2⟩ := own_form2 h2
  exact ⟨A1, c1, A2, c2, rfl, k1, k2⟩
theorem CIn.two {w : World} {a sv pv d : Value} {c : Cf.Cfg} (h : CIn w (.agg #[a, sv, pv, d]) c) : Sl w sv c.sv.length 1 (Cf.ints c.sv) ∧ Sl w pv c.pt.length 4 (Cf.parts c.pt) := by
  obtain ⟨sv', pv', hv, h1, h2⟩ := h
  simp at hv
  obtain ⟨-, rfl, rfl, -⟩ := hv
  exact ⟨h1, h2⟩
theorem cells4 {w : World} {cb : Nat} {a b c d : Value} {t : TypeId} {fr : Nat × Nat} (h : w.heap[cb]? = some (.cells #[a, b, c, d] t fr)) : w.cell? ⟨cb, 0, none⟩ = some a ∧ w.cell? ⟨cb, 1, none⟩ = some b ∧ w.cell? ⟨cb, 2, none⟩ = some c ∧ w.cell? ⟨cb, 3, none⟩ = some d :=
  ⟨by rw [cell_of_block h]; rfl, by rw [cell_of_block h]; rfl, by rw [cell_of_block h]; rfl, by rw [cell_of_block h]; rfl⟩
end Go.Proofs.YtkmaepefpcpckaaDoor
