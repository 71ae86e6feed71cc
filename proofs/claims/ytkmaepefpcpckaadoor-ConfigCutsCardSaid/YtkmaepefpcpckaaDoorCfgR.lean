/- Walk of the law ConfigCuts. -/
import Derived.Test.YtkmaepefpcpckaaDoorCfgY
import Derived.Test.YtkmaepefpcpckaaDoorCfgU
import Derived.Test.YtkmaepefpcpckaaDoorPrB
import Derived.IntWalk
set_option linter.unusedVariables false
set_option linter.unusedSimpArgs false
namespace Go.Proofs.YtkmaepefpcpckaaDoor
open Go.RowKit Go.Proofs.YtkmaepefpcpckaaDoorW.PrintWords

theorem same_l1 (e1 e2 t1 t2 : Int) (ss : List Int) (ps : List Cf.Part) (hl : ps.length ≤ 1000) : ∀ (d j k : Nat), d + j = ps.length → d < k → PConfigWhere.weirkeepref12_Same.l1 k (j : Int) e1 ss (ps.map s77) t1 e2 ss (ps.map s77) t2 = some true
  | 0, j, k, hd, hk => by
    obtain ⟨k, rfl⟩ : ∃ m, k = m + 1 := ⟨k - 1, by omega⟩
    simp only [PConfigWhere.weirkeepref12_Same.l1]
    rw [if_neg (by simp; omega)]
  | d + 1, j, k, hd, hk => by
    obtain ⟨k, rfl⟩ : ∃ m, k = m + 1 := ⟨k - 1, by omega⟩
    simp only [PConfigWhere.weirkeepref12_Same.l1]
    rw [if_pos (by simp; omega), if_pos (by omega), if_pos (by simp; omega), if_neg (by simp), wrap_succ j (by omega), same_l1 e1 e2 t1 t2 ss ps hl d (j + 1) k (by omega) (by omega)]
theorem same_l0 (e1 e2 t1 t2 : Int) (ss : List Int) (ps : List Cf.Part) (hl : ps.length ≤ 1000) (hs : ss.length ≤ 1000) : ∀ (d j k : Nat), d + j = ss.length → d + ps.length + 1 < k → PConfigWhere.weirkeepref12_Same.l0 k (j : Int) e1 ss (ps.map s77) t1 e2 ss (ps.map s77) t2 = some true
  | 0, j, k, hd, hk => by
    obtain ⟨k, rfl⟩ : ∃ m, k = m + 1 := ⟨k - 1, by omega⟩
    simp only [PConfigWhere.weirkeepref12_Same.l0]
    rw [if_neg (by omega)]
    exact same_l1 e1 e2 t1 t2 ss ps hl ps.length 0 k (by omega) (by omega)
  | d + 1, j, k, hd, hk => by
    obtain ⟨k, rfl⟩ : ∃ m, k = m + 1 := ⟨k - 1, by omega⟩
    simp only [PConfigWhere.weirkeepref12_Same.l0]
    rw [if_pos (by omega), if_pos (by omega), if_pos (by omega), if_pos trivial, wrap_succ j (by omega), same_l0 e1 e2 t1 t2 ss ps hl hs d (j + 1) k (by omega) (by omega)]
/-- the same twice -/
theorem same_any (ep tb : Int) (ss : List Int) (ps : List Cf.Part) (A1 A2 D1 D2 : Option Addr) (c1 c2 d1 d2 : Nat) (w : World) (hs : Sl w (.slice A1 ss.length c1) ss.length 1 (Cf.ints ss)) (h1 : ss.length ≤ c1) (hp : Sl w (.slice A2 ps.length c2) ps.length 4 (Cf.parts ps)) (h2 : ps.length ≤ c2)
    (hs' : Sl w (.slice D1 ss.length d1) ss.length 1 (Cf.ints ss)) (h1' : ss.length ≤ d1) (hp' : Sl w (.slice D2 ps.length d2) ps.length 4 (Cf.parts ps)) (h2' : ps.length ≤ d2) (hl : ps.length ≤ 1000) (hl' : ss.length ≤ 1000) :
    Calls Tryd.prog 14 #[.agg #[.int .i64 ep, .slice A1 ss.length c1, .slice A2 ps.length c2, .int .i64 tb], .agg #[.int .i64 ep, .slice D1 ss.length d1, .slice D2 ps.length d2, .int .i64 tb]] w fun e w' => e = .returned (.bool true) ∧ Below w.heap.size w w' := by
  have h := PConfigWhere.weirkeepref12_Same.calls (ss.length + ps.length + 4) ep A1 c1 ss A2 c2 (ps.map s77) tb ep D1 d1 ss D2 d2 (ps.map s77) tb true w (kc_int hs) h1 (kc_77 hp) (by simpa using h2) (kc_int hs') h1' (kc_77 hp') (by simpa using h2') (by
    unfold PConfigWhere.weirkeepref12_Same.f
    rw [if_pos rfl, if_pos rfl, if_pos rfl]
    simp only [PConfigWhere.weirkeepref12_Same.j0]
    rw [if_neg (by simp)]
    exact same_l0 ep ep tb tb ss ps hl hl' ss.length 0 _ (by omega) (by omega))
  simpa only [List.length_map] using h

/-- servers that are told by a number -/
def pick (ss : List Int) (a : Int) : Int := ss.getD (a % ss.length).toNat 0
theorem pick_mem (ss : List Int) (a : Int) (h : 0 < ss.length) : pick ss a ∈ ss := by
  have h1 := Int.emod_nonneg a (show (ss.length : Int) ≠ 0 by omega)
  have h2 := Int.emod_lt_of_pos a (show (0 : Int) < (ss.length : Int) by omega)
  unfold pick
  rw [List.getD_eq_getElem?_getD, List.getElem?_eq_getElem (by omega)]
  exact List.getElem_mem _
theorem pick_cell {w : World} {b o c : Nat} {ss : List Int} (h : Sl w (.slice (some ⟨b, o, none⟩) ss.length c) ss.length 1 (Cf.ints ss)) (h0 : 0 < ss.length) (a : Int) : w.cell? ⟨b, o + (a % (ss.length : Int)).toNat, none⟩ = some (.int .i64 (pick ss a)) := by
  have h1 := Int.emod_nonneg a (show (ss.length : Int) ≠ 0 by omega)
  have h2 := Int.emod_lt_of_pos a (show (0 : Int) < (ss.length : Int) by omega)
  obtain ⟨-, -, A, c', hv, hc⟩ := h
  injection hv with hA _ _
  obtain ⟨b', o', hA', hcell⟩ := hc h0
  rw [hA'] at hA
  injection hA with hA
  injection hA with hb ho _
  subst hb ho
  rw [hcell _ (by omega), ints_get ss _ (by omega)]
  rfl
theorem sl_at {w : World} {A : Option Addr} {n c sz : Nat} {cs : List Value} (h : Sl w (.slice A n c) n sz cs) (h0 : 0 < n) : ∃ b o, A = some ⟨b, o, none⟩ := by
  obtain ⟨-, -, A', c', hv, hc⟩ := h
  injection hv with hA _ _
  obtain ⟨b, o, h, -⟩ := hc h0
  exact ⟨b, o, by rw [hA, h]⟩

set_option maxRecDepth 100000 in
set_option maxHeartbeats 3200000 in
theorem cuts_walk (w : World) (v : Value) (os : List Cf.Ord) (rf rt a b : Int) (ha : 0 ≤ a ∧ a < 256) (hb : 0 ≤ b ∧ b < 256) (h : Sl w v os.length 5 (ordsC os)) (hK : Kinds w) :
    Calls Tryd.prog 4 #[v, .agg #[.int .i64 rf, .int .i64 rt], .int .u8 a, .int .u8 b] w fun e w' => e = .returned (.bool true) ∧ Below w.heap.size w w' := by
  have hk0 := hK.lt
  have B0 := Lib.hid ((Below.refl w.heap.size w).alloc (Nat.le_refl _) (.cells #[.int .i64 rf, .int .i64 rt] 24))
  have R0 := Lib.hid (heap_alloc_new w (.cells #[.int .i64 rf, .int .i64 rt] 24))
  obtain ⟨ha0, ha1⟩ := ha
  obtain ⟨hb0, hb1⟩ := hb
  go_enter Tryd.func4, Tryd.ntmps4
  go_wp2_with fail
  refine (shown_any _).mono ?_
  rintro e w1 ⟨rfl, hb1⟩
  have B1 := Lib.hid (B0.out.trans (hb1.mono (by simp)))
  have R1 := Lib.hid ((hb1.block w.heap.size (by simp)).trans R0.out)
  have hz1 : w.heap.size < w1.heap.size := by have := hb1.size; simp at this; omega
  clear hb1 R0
  go_wp2_with fail
  refine (after_is w1 v os (h.below B1.out) (hK.below B1.out hk0)).mono ?_
  rintro e w2 ⟨c, v', rfl, hown, hgood, hb2⟩
  have hck := hgood.1
  have hep := hgood.2
  have hz2 := hb2.size
  have B2 := Lib.hid (B1.out.trans (hb2.mono (by omega)))
  have R2 := Lib.hid ((hb2.block w.heap.size hz1).trans R1.out)
  obtain ⟨A1, c1, A2, c2, hv, hc1, hc2⟩ := hown.form2
  subst hv
  have hlen := check_lens c hck
  have hsv := (ck_parts c hck).2.2.1
  have HL := Lib.hid (fun f t a b => cuts_law c ⟨3, pick c.sv a, pick c.sv b, f, t⟩ rfl hck hep (pick_mem _ _ (by omega)) (pick_mem _ _ (by omega)))
  obtain ⟨ep, ss, ps, tb⟩ := c
  dsimp only at hown HL hlen hsv hc1 hc2 ⊢
  have K2 := Lib.hid (hK.below B2.out hk0)
  obtain ⟨cb, hcb⟩ : ∃ cb, cb = w2.heap.size := ⟨_, rfl⟩
  obtain ⟨w3, hw3⟩ : ∃ w3, w3 = w2.alloc (.cells #[.int .i64 ep, .slice A1 ss.length c1, .slice A2 ps.length c2, .int .i64 tb] 31) := ⟨_, rfl⟩
  have C3 := Lib.hid (show w3.heap[cb]? = some (.cells #[.int .i64 ep, .slice A1 ss.length c1, .slice A2 ps.length c2, .int .i64 tb] 31 (0, 0)) by rw [hw3, hcb]; exact heap_alloc_new w2 _)
  have hb3 : Below w2.heap.size w2 w3 := by rw [hw3]; exact (Below.refl _ _).alloc (Nat.le_refl _) _
  have hz3 := hb3.size
  have B3 := Lib.hid (B2.out.trans (hb3.mono (by omega)))
  have R3 := Lib.hid ((hb3.block w.heap.size (by omega)).trans R2.out)
  have I3 := Lib.hid (hown.inn.below hb3)
  have K3 := Lib.hid (K2.out.below hb3 (by omega))
  have hcb3 : cb < w3.heap.size := lt_of_blk C3.out
  obtain ⟨q0, q1, q2, q3⟩ := cells4 C3.out
  obtain ⟨vb, vo, rfl⟩ := sl_at I3.out.two.1 (by show 0 < ss.length; omega)
  have pa := pick_cell I3.out.two.1 (by show 0 < ss.length; omega) a
  have pb := pick_cell I3.out.two.1 (by show 0 < ss.length; omega) b
  have r0 : w3.cell? ⟨w.heap.size, 0, none⟩ = some (.int .i64 rf) := by rw [cell_of_block R3.out]; rfl
  have r1 : w3.cell? ⟨w.heap.size, 1, none⟩ = some (.int .i64 rt) := by rw [cell_of_block R3.out]; rfl
  have ea1 := Int.emod_nonneg a (show (ss.length : Int) ≠ 0 by omega)
  have ea2 := Int.emod_lt_of_pos a (show (0 : Int) < (ss.length : Int) by omega)
  have eb1 := Int.emod_nonneg b (show (ss.length : Int) ≠ 0 by omega)
  have eb2 := Int.emod_lt_of_pos b (show (0 : Int) < (ss.length : Int) by omega)
  clear hown hb2 hb3 hgood B0 B1 R1 R2 B2 K2
  try dsimp only at pa pb
  go_upto_region 4 with fail
  rw [← hw3, ← hcb]
  clear hw3 hcb
  have hss0 : (0 : Int) < (ss.length : Int) := by omega
  go_cut [10] (fun s10 wx => s10 = .int .i64 (pick ss a) ∧ ∃ n, wx = w3.drewN n)
  case first =>
    go_quiet (fail)
    go_wp2
    go_meet
    exact ⟨rfl, _, rfl⟩
  case rest =>
  obtain ⟨rfl, n1, rfl⟩ := hcut
  go_upto_region 5 with fail
  go_cut [11] (fun s11 wx => s11 = .int .i64 (pick ss b) ∧ wx.heap = w3.heap ∧ Below w3.heap.size w3 wx ∧ Below w.heap.size w wx)
  case first =>
    go_quiet (fail)
    go_wp2
    go_meet
    exact ⟨rfl, rfl, belowN (Below.refl _ _) _, belowN B3.out _⟩
  case rest =>
  obtain ⟨rfl, E4, hb34, hb4⟩ := hcut
  have R4 := Lib.hid (show wc.heap[w.heap.size]? = some (.cells #[.int .i64 rf, .int .i64 rt] 24 (0, 0)) by rw [E4]; exact R3.out)
  have C4 := Lib.hid (show wc.heap[cb]? = some (.cells #[.int .i64 ep, .slice (some ⟨vb, vo, none⟩) ss.length c1, .slice A2 ps.length c2, .int .i64 tb] 31 (0, 0)) by rw [E4]; exact C3.out)
  have B4 := Lib.hid hb4
  have z4 : w3.heap.size ≤ wc.heap.size := by rw [E4]; exact Nat.le_refl _
  have I4 := Lib.hid (I3.out.below hb34)
  have K4 := Lib.hid (K3.out.below hb34 (by omega))
  have HLn := Lib.hid (HL.out rf rt a b)
  clear pa pb ea1 ea2 eb1 eb2 HL B3 R3 C3 I3 K3 q0 q1 q2 q3 r0 r1 hb34 hb4 E4
  generalize pick ss a = n at HLn ⊢
  generalize pick ss b = m at HLn ⊢
  have hcb4 : cb < wc.heap.size := lt_of_blk C4.out
  have hrb4 : w.heap.size < wc.heap.size := lt_of_blk R4.out
  obtain ⟨ob, hob⟩ : ∃ ob, ob = wc.heap.size := ⟨_, rfl⟩
  obtain ⟨w5, hw5⟩ : ∃ w5, w5 = wc.alloc (.cells #[.int .i64 3, .int .i64 n, .int .i64 m, .int .i64 rf, .int .i64 rt] 26) := ⟨_, rfl⟩
  have O5 := Lib.hid (show w5.heap[ob]? = some (.cells #[.int .i64 3, .int .i64 n, .int .i64 m, .int .i64 rf, .int .i64 rt] 26 (0, 0)) by rw [hw5, hob]; exact heap_alloc_new wc _)
  have hb5 : Below wc.heap.size wc w5 := by rw [hw5]; exact (Below.refl _ _).alloc (Nat.le_refl _) _
  have hz5 := hb5.size
  have R5 := Lib.hid ((hb5.block w.heap.size hrb4).trans R4.out)
  have C5 := Lib.hid ((hb5.block cb hcb4).trans C4.out)
  have B5 := Lib.hid (B4.out.trans (hb5.mono (by omega)))
  have I5 := Lib.hid (I4.out.below hb5)
  have K5 := Lib.hid (K4.out.below hb5 (by omega))
  have hob5 : ob < w5.heap.size := lt_of_blk O5.out
  have r0 : wc.cell? ⟨w.heap.size, 0, none⟩ = some (.int .i64 rf) := by rw [cell_of_block R4.out]; rfl
  have r1 : wc.cell? ⟨w.heap.size, 1, none⟩ = some (.int .i64 rt) := by rw [cell_of_block R4.out]; rfl
  clear hb5
  go_upto_region 7 with fail
  rw [← hw5, ← hob]
  clear hw5 hob r0 r1 R4 C4 B4 I4 K4
  obtain ⟨q0, q1, q2, q3⟩ := cells4 C5.out
  have o0 : w5.cell? ⟨ob, 0, none⟩ = some (.int .i64 3) := by rw [cell_of_block O5.out]; rfl
  have o1 : w5.cell? ⟨ob, 1, none⟩ = some (.int .i64 n) := by rw [cell_of_block O5.out]; rfl
  have o2 : w5.cell? ⟨ob, 2, none⟩ = some (.int .i64 m) := by rw [cell_of_block O5.out]; rfl
  have o3 : w5.cell? ⟨ob, 3, none⟩ = some (.int .i64 rf) := by rw [cell_of_block O5.out]; rfl
  have o4 : w5.cell? ⟨ob, 4, none⟩ = some (.int .i64 rt) := by rw [cell_of_block O5.out]; rfl
  go_wp2_with fail
  refine (apply_any w5 _ ⟨ep, ss, ps, tb⟩ ⟨3, n, m, rf, rt⟩ I5.out K5.out).mono ?_
  rintro e w6 ⟨v6, rfl, hown6, hb6⟩
  have hz6 := hb6.size
  have R6 := Lib.hid ((hb6.block w.heap.size (by omega)).trans R5.out)
  have C6 := Lib.hid ((hb6.block cb (by omega)).trans C5.out)
  have O6 := Lib.hid ((hb6.block ob hob5).trans O5.out)
  have B6 := Lib.hid (B5.out.trans (hb6.mono (by omega)))
  have I6 := Lib.hid (I5.out.below hb6)
  have K6 := Lib.hid (K5.out.below hb6 (by omega))
  have hob6 : ob < w6.heap.size := by omega
  have hcb6 : cb < w6.heap.size := by omega
  have hrb6 : w.heap.size < w6.heap.size := by omega
  clear hb6 q0 q1 q2 q3 o0 o1 o2 o3 o4 R5 C5 O5 B5 I5 K5
  by_cases hfit : 0 ≤ rf ∧ rf < rt ∧ rt ≤ 256 ∧ n ≠ m
  · obtain ⟨d, hd, hckd, hepd, hlend, hownd, hagain⟩ := HLn.out.2 hfit
    clear HLn
    rw [hd] at hown6 ⊢
    have HOD := Lib.hid hownd
    have HAG := Lib.hid hagain
    clear hownd hagain hd
    dsimp only at hown6 ⊢
    obtain ⟨D1, d1, D2, d2, hv6, hd1, hd2⟩ := hown6.form2
    subst hv6
    have hlend2 := check_lens d hckd
    have hep2 := (ck_parts d hckd).1
    obtain ⟨rep, rss, rps, rtb⟩ := d
    dsimp only at hown6 HOD HAG hepd hlend hlend2 hd1 hd2 hep2 ⊢
    obtain ⟨f1, f2, f3, f4⟩ := hfit
    have hne : (n != m) = true := by simpa using f4
    clear f4
    obtain ⟨db, hdb⟩ : ∃ db, db = w6.heap.size := ⟨_, rfl⟩
    obtain ⟨w7, hw7⟩ : ∃ w7, w7 = w6.alloc (.cells #[.int .i64 rep, .slice D1 rss.length d1, .slice D2 rps.length d2, .int .i64 rtb] 31) := ⟨_, rfl⟩
    have D7 := Lib.hid (show w7.heap[db]? = some (.cells #[.int .i64 rep, .slice D1 rss.length d1, .slice D2 rps.length d2, .int .i64 rtb] 31 (0, 0)) by rw [hw7, hdb]; exact heap_alloc_new w6 _)
    have hb7 : Below w6.heap.size w6 w7 := by rw [hw7]; exact (Below.refl _ _).alloc (Nat.le_refl _) _
    have hz7 := hb7.size
    have R7 := Lib.hid ((hb7.block w.heap.size hrb6).trans R6.out)
    have C7 := Lib.hid ((hb7.block cb hcb6).trans C6.out)
    have O7 := Lib.hid ((hb7.block ob hob6).trans O6.out)
    have B7 := Lib.hid (B6.out.trans (hb7.mono (by omega)))
    have I7 := Lib.hid (I6.out.below hb7)
    have K7 := Lib.hid (K6.out.below hb7 (by omega))
    have J7 := Lib.hid (hown6.inn.below hb7)
    have hdb7 : db < w7.heap.size := lt_of_blk D7.out
    have hob7 : ob < w7.heap.size := by omega
    have hcb7 : cb < w7.heap.size := by omega
    have hrb7 : w.heap.size < w7.heap.size := by omega
    have r0 : w7.cell? ⟨w.heap.size, 0, none⟩ = some (.int .i64 rf) := by rw [cell_of_block R7.out]; rfl
    have r1 : w7.cell? ⟨w.heap.size, 1, none⟩ = some (.int .i64 rt) := by rw [cell_of_block R7.out]; rfl
    clear hown6 hb7 I6 K6 C6 O6 R6 B6
    go_upto_region 8 with fail
    rw [← hw7, ← hdb]
    clear hw7 hdb
    go_wp2
    go_loopw [16] (fun i wr => ∃ k : Nat, k ≤ 256 ∧ i = .int .i64 k ∧ Below w7.heap.size w7 wr) (fun i _ => 256 - (intOf i).toNat)
    case atStart => exact ⟨0, by omega, rfl, Below.refl _ _⟩
    case round =>
      obtain ⟨k, hk, rfl, hbr⟩ := hrel
      have BR := Lib.hid hbr
      have hzr := hbr.size
      have R8 := Lib.hid ((hbr.block w.heap.size hrb7).trans R7.out)
      have C8 := Lib.hid ((hbr.block cb hcb7).trans C7.out)
      have O8 := Lib.hid ((hbr.block ob hob7).trans O7.out)
      have D8 := Lib.hid ((hbr.block db hdb7).trans D7.out)
      have B8 := Lib.hid (B7.out.trans (hbr.mono (by omega)))
      have I8 := Lib.hid (I7.out.below hbr)
      have J8 := Lib.hid (J7.out.below hbr)
      have K8 := Lib.hid (K7.out.below hbr (by omega))
      clear hbr r0 r1 R7 C7 O7 D7 B7 I7 J7 K7
      obtain ⟨q0, q1, q2, q3⟩ := cells4 C8.out
      obtain ⟨e0, e1, e2, e3⟩ := cells4 D8.out
      by_cases hlt : k < 256
      · obtain ⟨⟨xa, xb⟩, ⟨ya, yb⟩, hx, hy, hxy⟩ := HOD.out k (by omega) (by omega)
        have HX := Lib.hid hx
        have HY := Lib.hid hy
        have HXY := Lib.hid hxy
        clear hx hy hxy
        go_wp2_with fail
        refine (where_is wr _ ⟨ep, ss, ps, tb⟩ k I8.out hck (some (xa, xb)) HX.out (xa, xb, 0) rfl).mono ?_
        rintro e w9 ⟨rfl, hb9⟩
        have hz9 := hb9.size
        have R9 := Lib.hid ((hb9.block w.heap.size (by omega)).trans R8.out)
        have D9 := Lib.hid ((hb9.block db (by omega)).trans D8.out)
        have B9 := Lib.hid (BR.out.trans (hb9.mono (by omega)))
        have J9 := Lib.hid (J8.out.below hb9)
        obtain ⟨g0, g1, g2, g3⟩ := cells4 D9.out
        clear hb9 q0 q1 q2 q3 e0 e1 e2 e3 R8 C8 O8 D8 B8 I8 J8 K8
        go_wp2_with fail
        refine (where_is w9 _ ⟨rep, rss, rps, rtb⟩ k J9.out hckd (some (ya, yb)) HY.out (ya, yb, 0) rfl).mono ?_
        rintro e w10 ⟨rfl, hb10⟩
        have R10 := Lib.hid ((hb10.block w.heap.size (by omega)).trans R9.out)
        have B10 := Lib.hid (B9.out.trans (hb10.mono (by omega)))
        have r0 : w10.cell? ⟨w.heap.size, 0, none⟩ = some (.int .i64 rf) := by rw [cell_of_block R10.out]; rfl
        have r1 : w10.cell? ⟨w.heap.size, 1, none⟩ = some (.int .i64 rt) := by rw [cell_of_block R10.out]; rfl
        have e00 : ((0 : Int) != 0) = false := rfl
        clear hb10 g0 g1 g2 g3 R9 D9 B9 J9
        by_cases h1 : rf ≤ (k : Int)
        · by_cases h2 : (k : Int) < rt
          · have hyy := HXY.out
            rw [if_pos ⟨h1, h2⟩] at hyy
            injection hyy with y1 y2
            subst y1
            subst y2
            clear HXY HY HX
            go_wp2
            go_roundw
            case rel => exact ⟨k + 1, by omega, by go_num, B10.out⟩
            case measure => simp [intOf]; omega
          · have hyy := HXY.out
            rw [if_neg (fun hh => h2 hh.2)] at hyy
            injection hyy with y1 y2
            subst y1
            subst y2
            clear HXY HY HX
            go_wp2
            go_roundw
            case rel => exact ⟨k + 1, by omega, by go_num, B10.out⟩
            case measure => simp [intOf]; omega
        · have hyy := HXY.out
          rw [if_neg (fun hh => h1 hh.1)] at hyy
          injection hyy with y1 y2
          subst y1
          subst y2
          clear HXY HY HX
          go_wp2
          go_roundw
          case rel => exact ⟨k + 1, by omega, by go_num, B10.out⟩
          case measure => simp [intOf]; omega
      · have o0 : wr.cell? ⟨ob, 0, none⟩ = some (.int .i64 3) := by rw [cell_of_block O8.out]; rfl
        have o1 : wr.cell? ⟨ob, 1, none⟩ = some (.int .i64 n) := by rw [cell_of_block O8.out]; rfl
        have o2 : wr.cell? ⟨ob, 2, none⟩ = some (.int .i64 m) := by rw [cell_of_block O8.out]; rfl
        have o3 : wr.cell? ⟨ob, 3, none⟩ = some (.int .i64 rf) := by rw [cell_of_block O8.out]; rfl
        have o4 : wr.cell? ⟨ob, 4, none⟩ = some (.int .i64 rt) := by rw [cell_of_block O8.out]; rfl
        go_wp2_with fail
        refine (apply_any wr _ ⟨rep, rss, rps, rtb⟩ ⟨3, n, m, rf, rt⟩ J8.out K8.out).mono ?_
        rintro e w9 ⟨v9, rfl, hown9, hb9⟩
        rw [HAG.out] at hown9 ⊢
        dsimp only at hown9 ⊢
        obtain ⟨Z1, z1, Z2, z2, hv9, hz1', hz2'⟩ := hown9.form2
        subst hv9
        dsimp only at hz1' hz2' ⊢
        have hz9 := hb9.size
        have C9 := Lib.hid ((hb9.block cb (by omega)).trans C8.out)
        have D9 := Lib.hid ((hb9.block db (by omega)).trans D8.out)
        have B9 := Lib.hid (B8.out.trans (hb9.mono (by omega)))
        have J9 := Lib.hid (J8.out.below hb9)
        obtain ⟨zb, hzb⟩ : ∃ zb, zb = w9.heap.size := ⟨_, rfl⟩
        obtain ⟨w10, hw10⟩ : ∃ w10, w10 = w9.alloc (.cells #[.int .i64 (rep + 1), .slice Z1 rss.length z1, .slice Z2 rps.length z2, .int .i64 rtb] 31) := ⟨_, rfl⟩
        have Z10 := Lib.hid (show w10.heap[zb]? = some (.cells #[.int .i64 (rep + 1), .slice Z1 rss.length z1, .slice Z2 rps.length z2, .int .i64 rtb] 31 (0, 0)) by rw [hw10, hzb]; exact heap_alloc_new w9 _)
        have hb10 : Below w9.heap.size w9 w10 := by rw [hw10]; exact (Below.refl _ _).alloc (Nat.le_refl _) _
        have hz10 := hb10.size
        have C10 := Lib.hid ((hb10.block cb (by omega)).trans C9.out)
        have D10 := Lib.hid ((hb10.block db (by omega)).trans D9.out)
        have B10 := Lib.hid (B9.out.trans (hb10.mono (by omega)))
        have J10 := Lib.hid (J9.out.below hb10)
        have ZI10 := Lib.hid (hown9.inn.below hb10)
        have hzb10 : zb < w10.heap.size := lt_of_blk Z10.out
        clear hb9 hb10 hown9 q0 q1 q2 q3 e0 e1 e2 e3 o0 o1 o2 o3 o4 R8 C8 O8 D8 B8 I8 J8 K8 C9 D9 B9 J9
        go_upto_region 26 with fail
        rw [← hw10, ← hzb]
        clear hw10 hzb
        obtain ⟨x0, x1, x2, x3⟩ := cells4 Z10.out
        go_wp2_with fail
        refine (theirs_any w10 ⟨rep + 1, rss, rps, rtb⟩ _ _ ZI10.out.two.1 ZI10.out.two.2 (by show rps.length ≤ 1000; omega)).mono ?_
        rintro e w11 ⟨pv, rfl, ho11, hb11⟩
        obtain ⟨P1, p1, rfl, hp1⟩ := own_form2 ho11
        have hz11 := hb11.size
        have C11 := Lib.hid ((hb11.block cb (by omega)).trans C10.out)
        have D11 := Lib.hid ((hb11.block db (by omega)).trans D10.out)
        have B11 := Lib.hid (B10.out.trans (hb11.mono (by omega)))
        have J11 := Lib.hid (J10.out.below hb11)
        have S11 := Lib.hid (ZI10.out.two.1.below hb11)
        have P11 := Lib.hid (own_sl ho11 (by dsimp only; omega))
        dsimp only at hp1 P11 ⊢
        clear hb11 ho11 x0 x1 x2 x3 Z10 C10 D10 B10 J10 ZI10
        obtain ⟨tk, htk⟩ : ∃ tk, tk = w11.heap.size := ⟨_, rfl⟩
        obtain ⟨w12, hw12⟩ : ∃ w12, w12 = w11.alloc (.cells #[.int .i64 (rep + 1), .slice Z1 rss.length z1, .slice P1 rps.length p1, .int .i64 rtb] 42) := ⟨_, rfl⟩
        have T12 := Lib.hid (show w12.heap[tk]? = some (.cells #[.int .i64 (rep + 1), .slice Z1 rss.length z1, .slice P1 rps.length p1, .int .i64 rtb] 42 (0, 0)) by rw [hw12, htk]; exact heap_alloc_new w11 _)
        have hb12 : Below w11.heap.size w11 w12 := by rw [hw12]; exact (Below.refl _ _).alloc (Nat.le_refl _) _
        have hz12 := hb12.size
        have htk11 : w11.heap.size ≤ tk := by omega
        have htk12 : tk < w12.heap.size := lt_of_blk T12.out
        have C12 := Lib.hid ((hb12.block cb (by omega)).trans C11.out)
        have D12 := Lib.hid ((hb12.block db (by omega)).trans D11.out)
        have HB12 := Lib.hid hb12
        clear hb12
        go_upto_region 27 with fail
        rw [← hw12, ← htk]
        clear hw12 htk
        obtain ⟨e0, e1, e2, e3⟩ := cells4 D12.out
        obtain ⟨t0, t1, t2, t3⟩ := cells4 T12.out
        have ft : ∀ j, w12.frozen? ⟨tk, j, none⟩ = false := fun j => free_of_block T12.out
        obtain ⟨w13, hw13⟩ : ∃ w13, w13 = w12.setCell ⟨tk, 0, none⟩ (.int .i64 rep) := ⟨_, rfl⟩
        have T13 := Lib.hid (show w13.heap[tk]? = some (.cells #[.int .i64 rep, .slice Z1 rss.length z1, .slice P1 rps.length p1, .int .i64 rtb] 42 (0, 0)) by rw [hw13]; exact block_setCell T12.out _)
        have C13 := Lib.hid (show w13.heap[cb]? = some (.cells #[.int .i64 ep, .slice (some ⟨vb, vo, none⟩) ss.length c1, .slice A2 ps.length c2, .int .i64 tb] 31 (0, 0)) by rw [hw13]; exact (Below.heap_setCell w12 ⟨tk, 0, none⟩ _ cb (by dsimp only; omega)).trans C12.out)
        have D13 := Lib.hid (show w13.heap[db]? = some (.cells #[.int .i64 rep, .slice D1 rss.length d1, .slice D2 rps.length d2, .int .i64 rtb] 31 (0, 0)) by rw [hw13]; exact (Below.heap_setCell w12 ⟨tk, 0, none⟩ _ db (by dsimp only; omega)).trans D12.out)
        have hb13 : Below w11.heap.size w11 w13 := by rw [hw13]; exact HB12.out.setCell (p := ⟨tk, 0, none⟩) htk11 _
        have hz13 := hb13.size
        have B13 := Lib.hid (B11.out.trans (hb13.mono (by omega)))
        have J13 := Lib.hid (J11.out.below hb13)
        have S13 := Lib.hid (S11.out.below hb13)
        have P13 := Lib.hid (P11.out.below hb13)
        have htk13 : tk < w13.heap.size := lt_of_blk T13.out
        clear hb13 HB12
        go_upto_region 28 with fail
        rw [← hw13]
        clear hw13 e0 e1 e2 e3 t0 t1 t2 t3 ft T12 C12 D12 C11 D11 B11 J11 S11 P11
        obtain ⟨q0, q1, q2, q3⟩ := cells4 C13.out
        obtain ⟨e0, e1, e2, e3⟩ := cells4 D13.out
        obtain ⟨t0, t1, t2, t3⟩ := cells4 T13.out
        have hsum : IntKind.i64.wrap ((ps.length : Int) + 2) = (ps.length : Int) + 2 := IntWalk.i64_in _ (by omega)
        have hcmp : (rps.length : Int) ≤ (ps.length : Int) + 2 := by omega
        go_region_held3 (fun w' => w'.cell? ⟨tk, 0, none⟩ = some (.int .i64 rep) ∧ w'.cell? ⟨tk, 1, none⟩ = some (.slice Z1 rss.length z1) ∧ w'.cell? ⟨tk, 2, none⟩ = some (.slice P1 rps.length p1) ∧ w'.cell? ⟨tk, 3, none⟩ = some (.int .i64 rtb) ∧ w'.cell? ⟨db, 0, none⟩ = some (.int .i64 rep) ∧ w'.cell? ⟨db, 1, none⟩ = some (.slice D1 rss.length d1) ∧ w'.cell? ⟨db, 2, none⟩ = some (.slice D2 rps.length d2) ∧ w'.cell? ⟨db, 3, none⟩ = some (.int .i64 rtb) ∧ w'.cell? ⟨cb, 2, none⟩ = some (.slice A2 ps.length c2)) (go_keep)
          (first
            | (go_at_call 13; refine (theirs_any _ ⟨rep, rss, rps, rtb⟩ _ _ (by exact J13.out.two.1) (by exact J13.out.two.2) (by show rps.length ≤ 1000; omega)).mono ?_; rintro e w14 ⟨pv', rfl, ho14, hb14⟩; obtain ⟨Q1, q1', rfl, hq1⟩ := own_form2 ho14; have hz14 : w13.heap.size ≤ w14.heap.size := hb14.size; have hTT : ∀ o, w14.cell? ⟨tk, o, none⟩ = w13.cell? ⟨tk, o, none⟩ := (fun o => (bcell hb14).1 _ _ (by exact htk13)); have hDD : ∀ o, w14.cell? ⟨db, o, none⟩ = w13.cell? ⟨db, o, none⟩ := (fun o => (bcell hb14).1 _ _ (by show db < w13.heap.size; omega)); have hCC : ∀ o, w14.cell? ⟨cb, o, none⟩ = w13.cell? ⟨cb, o, none⟩ := (fun o => (bcell hb14).1 _ _ (by show cb < w13.heap.size; omega)); have HO14 := Lib.hid ho14; have HB14 := Lib.hid hb14; clear ho14 hb14; dsimp only at hq1 HO14)
            | (go_at_call 14; refine (same_any rep rtb rss rps Z1 P1 D1 Q1 z1 p1 d1 q1' _ (by exact Sl.below (w := w13.drew) S13.out HB14.out) hz1' (by exact Sl.below (w := w13.drew) P13.out HB14.out) hp1 (by exact Sl.below (w := w13.drew) J13.out.two.1 HB14.out) hd1 (by exact own_sl HO14.out (by omega)) hq1 (by omega) (by omega)).mono ?_; rintro e w15 ⟨rfl, hb15⟩; have hTT2 : ∀ o, w15.cell? ⟨tk, o, none⟩ = w14.cell? ⟨tk, o, none⟩ := (fun o => (bcell hb15).1 _ _ (by omega)); have hDD2 : ∀ o, w15.cell? ⟨db, o, none⟩ = w14.cell? ⟨db, o, none⟩ := (fun o => (bcell hb15).1 _ _ (by omega)); have hCC2 : ∀ o, w15.cell? ⟨cb, o, none⟩ = w14.cell? ⟨cb, o, none⟩ := (fun o => (bcell hb15).1 _ _ (by omega))))
        go_wp2
        go_ret
        exact ⟨rfl, (B13.out.drew.trans (HB14.out.mono (by show w.heap.size ≤ w13.heap.size; omega))).trans (hb15.mono (by omega))⟩
  · obtain ⟨hq, hzero⟩ := HLn.out.1 hfit
    clear HLn
    generalize Cf.apply ⟨ep, ss, ps, tb⟩ ⟨3, n, m, rf, rt⟩ = r at hq hzero hown6 ⊢
    obtain ⟨d, q⟩ := r
    dsimp only at hq hzero hown6 ⊢
    subst hzero
    obtain ⟨D1, d1, D2, d2, hv6⟩ := hown6.form
    have hv6' : v6 = .agg #[.int .i64 0, .slice D1 0 d1, .slice D2 0 d2, .int .i64 0] := hv6
    clear hv6
    subst hv6'
    have g1 : (q == 0) = false := by simpa using hq
    have g2 : (q != 0) = true := by simpa using hq
    obtain ⟨db, hdb⟩ : ∃ db, db = w6.heap.size := ⟨_, rfl⟩
    obtain ⟨w7, hw7⟩ : ∃ w7, w7 = w6.alloc (.cells #[.int .i64 0, .slice D1 0 d1, .slice D2 0 d2, .int .i64 0] 31) := ⟨_, rfl⟩
    have D7 := Lib.hid (show w7.heap[db]? = some (.cells #[.int .i64 0, .slice D1 0 d1, .slice D2 0 d2, .int .i64 0] 31 (0, 0)) by rw [hw7, hdb]; exact heap_alloc_new w6 _)
    have hb7 : Below w6.heap.size w6 w7 := by rw [hw7]; exact (Below.refl _ _).alloc (Nat.le_refl _) _
    have R7 := Lib.hid ((hb7.block w.heap.size hrb6).trans R6.out)
    have B7 := Lib.hid (B6.out.trans (hb7.mono (by omega)))
    have r0 : w7.cell? ⟨w.heap.size, 0, none⟩ = some (.int .i64 rf) := by rw [cell_of_block R7.out]; rfl
    have r1 : w7.cell? ⟨w.heap.size, 1, none⟩ = some (.int .i64 rt) := by rw [cell_of_block R7.out]; rfl
    obtain ⟨e0, e1, e2, e3⟩ := cells4 D7.out
    clear hq hown6 hb7 I6 K6 C6 O6 R6
    go_upto_region 8 with fail
    rw [← hw7, ← hdb]
    clear hw7 hdb
    have hcase : rf < 0 ∨ (0 ≤ rf ∧ rt ≤ rf) ∨ (0 ≤ rf ∧ rf < rt ∧ 256 < rt) ∨ (0 ≤ rf ∧ rf < rt ∧ rt ≤ 256 ∧ n = m) := by
      by_cases x1 : n = m
      · omega
      · omega
    clear hfit
    rcases hcase with k1 | ⟨k1, k2⟩ | ⟨k1, k2, k3⟩ | ⟨k1, k2, k3, rfl⟩
    · go_wp2
      go_ret
      exact ⟨rfl, B7.out⟩
    · go_wp2
      go_ret
      exact ⟨rfl, B7.out⟩
    · go_wp2
      go_ret
      exact ⟨rfl, B7.out⟩
    · have k4 : (n != n) = false := by simp
      go_wp2
      go_ret
      exact ⟨rfl, B7.out⟩
end Go.Proofs.YtkmaepefpcpckaaDoor
