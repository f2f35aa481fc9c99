/- The reference's Print answers whatever it prints. -/
import Derived.Test.YtedhmdocimkldaaDoorPc
import Derived.Deep.RegionHeld3
attribute [local go_sem ↓] Go.wp_at_zero Go.wp_at_succ
namespace Go.Proofs.YtedhmdocimkldaaDoor.Pa
open Go.RowKit Go.Extern.Stop Go.Stop Go.Extern Go.Shelf Go.Sort

theorem numbersR_any (z : Fin 8 → Int) (w : World) :
    Calls Tryd.prog 78 #[.agg #[.int .i64 (z 0), .int .i64 (z 1), .int .i64 (z 2), .int .i64 (z 3), .int .i64 (z 4), .int .i64 (z 5), .int .i64 (z 6), .int .i64 (z 7)]] w (Eight z w) := by
  go_enter Tryd.func78, Tryd.ntmps78
  go_wp2
  go_ret
  refine ⟨w.heap.size + 1, rfl, ((Below.refl _ w).alloc (Nat.le_refl _) _).alloc (by simp) _, by omega, by simp, fun j => ?_⟩
  rw [cell_last _ _ _ _ _ (by simp)]
  match j with
  | ⟨0, _⟩ => rfl
  | ⟨1, _⟩ => rfl
  | ⟨2, _⟩ => rfl
  | ⟨3, _⟩ => rfl
  | ⟨4, _⟩ => rfl
  | ⟨5, _⟩ => rfl
  | ⟨6, _⟩ => rfl
  | ⟨7, _⟩ => rfl
def EightS (w : World) (e : Ending) (w' : World) : Prop :=
  ∃ g : Nat, e = .returned (.slice (some ⟨g, 0, none⟩) 8 8) ∧ Below w.heap.size w w' ∧ g < w'.heap.size ∧ ∀ j, j < 8 → ∃ s : ByteArray, s.size ≤ 20 ∧ w'.cell? ⟨g, j, none⟩ = some (.string s)
theorem words_any (w : World) : Calls Tryd.prog 77 #[] w (EightS w) := by
  go_enter Tryd.func77, Tryd.ntmps77
  go_wp2
  go_ret
  refine ⟨w.heap.size, rfl, (Below.refl _ w).alloc (Nat.le_refl _) _, by simp, fun j hj => ?_⟩
  rw [cell_last _ _ _ _ _ (by simp)]
  match j, hj with
  | 0, _ => exact ⟨_, by decide, rfl⟩
  | 1, _ => exact ⟨_, by decide, rfl⟩
  | 2, _ => exact ⟨_, by decide, rfl⟩
  | 3, _ => exact ⟨_, by decide, rfl⟩
  | 4, _ => exact ⟨_, by decide, rfl⟩
  | 5, _ => exact ⟨_, by decide, rfl⟩
  | 6, _ => exact ⟨_, by decide, rfl⟩
  | 7, _ => exact ⟨_, by decide, rfl⟩
def Num (z : Int) : Prop := 0 ≤ z ∧ z < 10 ^ 18
theorem number18 (n : Int) (W : World) (hn : Num n) : Calls Tryd.prog 76 #[.int .i64 n] W (Some 18 W) := number_any 17 n W hn.1 hn.2 (by decide)
def SomeS (p0 p1 : Addr) (v0 v1 : Value) (w : World) (e : Ending) (w' : World) : Prop :=
  ∃ s : ByteArray, e = .returned (.string s) ∧ s.size ≤ 18 ∧ Below w.heap.size w w' ∧ w'.cell? p0 = some v0 ∧ w'.cell? p1 = some v1
theorem numberS (n : Int) (p0 p1 : Addr) (v0 v1 : Value) (W : World) (hn : Num n) (h0 : W.cell? p0 = some v0) (h1 : W.cell? p1 = some v1) : Calls Tryd.prog 76 #[.int .i64 n] W (SomeS p0 p1 v0 v1 W) :=
  (number_any 17 n W hn.1 hn.2 (by decide)).mono fun e w' ⟨s, h2, h3, h4⟩ => ⟨s, h2, h3, h4, (h4.cell (World.block_lt_of_cell? _ _ h0)).trans h0, (h4.cell (World.block_lt_of_cell? _ _ h1)).trans h1⟩

theorem lit7 : ByteArray.size ⟨#[112, 101, 114, 105, 111, 100, 32]⟩ = 7 := rfl
def RelR (w4 : World) (m : Nat) (v i : Value) (wr : World) : Prop := ∃ (k : Nat) (s : ByteArray), k ≤ m ∧ i = .int .i64 k ∧ v = .string s ∧ s.size ≤ 1000 * (k + 1) ∧ Below w4.heap.size w4 wr
def RelQ (w5 : World) (n : Nat) (v i : Value) (wr : World) : Prop := ∃ (j : Nat) (u : ByteArray), j ≤ 8 ∧ i = .int .i64 j ∧ v = .string u ∧ u.size ≤ n + 60 * j ∧ Below w5.heap.size w5 wr
def ChargesN (p : Option Addr) (m : Nat) (w : World) : Prop :=
  m = 0 ∨ ∃ bk o, p = some ⟨bk, o, none⟩ ∧ bk < w.heap.size ∧ ∀ k, k < m → ∃ z : Fin 8 → Int, (∀ j, Num (z j)) ∧ ∀ j : Fin 8, w.cell? ⟨bk, o + k * 8 + j, none⟩ = some (.int .i64 (z j))
set_option maxHeartbeats 3200000 in
set_option maxRecDepth 100000 in
theorem printR_any (fr to tot : Int) (p : Option Addr) (m c : Nat) (n : Int) (w : World) (hok : n = 0 → m ≤ 64 ∧ ChargesN p m w ∧ Num fr ∧ Num to ∧ Num tot)
    (hp : ∀ w1, Below w.heap.size w w1 → Calls Tryd.prog 75 #[.agg #[.int .i64 fr, .int .i64 to, .slice p m c, .int .i64 tot]] w1 fun e w' => e = .returned (.int .i64 n) ∧ Below w1.heap.size w1 w') :
    Calls Tryd.prog 59 #[.agg #[.int .i64 fr, .int .i64 to, .slice p m c, .int .i64 tot]] w (Ans n w) := by
  have HP := Lib.hid hp
  clear hp
  by_cases hn : n = 0
  · subst hn
    obtain ⟨hm, hR⟩ := hok rfl
    have HR := Lib.hid hR
    clear hok hR
    go_enter Tryd.func59, Tryd.ntmps59
    go_wp2_with (first
      | (go_at_call 75; refine (HP.out _ (below_alloc w _)).mono ?_; rintro e w1 ⟨rfl, hb1⟩; obtain ⟨s0, s1, s2, s3, hz1⟩ := box_cells hb1; have hw1 : Below w.heap.size w w1 := (below_alloc w _).trans (hb1.mono (by simp))))
    have d0 : w1.drew.cell? ⟨w.heap.size, 0, none⟩ = some (.int .i64 fr) := s0
    have d1 : w1.drew.cell? ⟨w.heap.size, 1, none⟩ = some (.int .i64 to) := s1
    go_region_held3 (fun w' => w'.cell? ⟨w.heap.size, 0, none⟩ = some (.int .i64 fr) ∧ w'.cell? ⟨w.heap.size, 1, none⟩ = some (.int .i64 to)) (go_keep)
      (first
        | (go_at_call 76; (with_reducible refine (numberS fr ⟨w.heap.size, 0, none⟩ ⟨w.heap.size, 1, none⟩ (.int .i64 fr) (.int .i64 to) _ HR.out.2.1 (by assumption) (by assumption)).mono ?_); rintro e w2 ⟨x, rfl, hx, hb2, k0, k1⟩; have l1 : ¬ 9223372036854775807 < 7 + x.size := (by omega); have l2 : ¬ 9223372036854775807 < 7 + x.size + 1 := (by omega); (try have l3 : ¬ 9223372036854775807 < 7 + x.size + 1 + y.size := (by omega)); (try have l4 : ¬ 9223372036854775807 < 7 + x.size + 1 + y.size + 1 := (by omega)))
        | (go_at_call 76; (with_reducible refine (numberS to ⟨w.heap.size, 0, none⟩ ⟨w.heap.size, 1, none⟩ (.int .i64 fr) (.int .i64 to) _ HR.out.2.2.1 (by assumption) (by assumption)).mono ?_); rintro e w3 ⟨y, rfl, hy, hb3, k0, k1⟩; (try have l3 : ¬ 9223372036854775807 < 7 + x.size + 1 + y.size := (by omega)); (try have l4 : ¬ 9223372036854775807 < 7 + x.size + 1 + y.size + 1 := (by omega))))
    go_wp2_with (first
      | (go_at_call 77; refine (words_any _).mono ?_; rintro e w4 ⟨gw, rfl, hb4, hgw, hW⟩))
    have hs2 := hb2.size
    have hs3 := hb3.size
    have hs4 := hb4.size
    have e2 : w1.heap.size ≤ w2.heap.size := hs2
    have h12 : Below w1.heap.size w1 w2 := (Below.drew (Below.refl w1.heap.size w1)).trans hb2
    have h14 : Below w1.heap.size w1 w4 := h12.trans ((hb3.mono e2).trans (hb4.mono (Nat.le_trans e2 hs3)))
    have HW := Lib.hid hW
    have HXY := Lib.hid (And.intro hx hy)
    clear hW hx hy
    go_loopw [5, 7] (fun v i wr => RelR w4 m v i wr) (fun _ i _ => m - (intOf i).toNat)
    case atStart => exact ⟨0, _, Nat.zero_le _, rfl, rfl, by simp only [ByteArray.size_append]; have := HXY.out; simp only [lit7, size1]; omega, Below.refl _ _⟩
    case round =>
      obtain ⟨wo, rfl⟩ : ∃ wo, wo = wr := ⟨_, rfl⟩
      obtain ⟨k, s, hk, rfl, rfl, hs, hnx⟩ := hrel
      have HS := Lib.hid hs
      clear hs
      have t2 := ((h14.trans (hnx.mono (by omega))).cell (p := ⟨w.heap.size, 2, none⟩) hz1).trans s2
      have t3 := ((h14.trans (hnx.mono (by omega))).cell (p := ⟨w.heap.size, 3, none⟩) hz1).trans s3
      by_cases hkm : k < m
      · obtain ⟨bk, o, rfl, hbk, hch⟩ : ∃ bk o, p = some ⟨bk, o, none⟩ ∧ bk < w.heap.size ∧ ∀ k, k < m → ∃ z : Fin 8 → Int, (∀ j, Num (z j)) ∧ ∀ j : Fin 8, w.cell? ⟨bk, o + k * 8 + j, none⟩ = some (.int .i64 (z j)) :=
          HR.out.1.elim (fun h => absurd h (by omega)) id
        obtain ⟨z, hzb, hz⟩ := hch k hkm
        have HZ := Lib.hid hzb
        have hq : ∀ j : Fin 8, wo.cell? ⟨bk, o + k * 8 + j, none⟩ = some (.int .i64 (z j)) := fun j => (((hw1.trans (h14.mono (by omega))).trans (hnx.mono (by omega))).cell (p := ⟨bk, o + k * 8 + j, none⟩) hbk).trans (hz j)
        clear hzb hz hch
        have q0 : wo.cell? ⟨bk, o + k * 8, none⟩ = some (.int .i64 (z 0)) := hq 0
        have q1 : wo.cell? ⟨bk, o + k * 8 + 1, none⟩ = some (.int .i64 (z 1)) := hq 1
        have q2 : wo.cell? ⟨bk, o + k * 8 + 2, none⟩ = some (.int .i64 (z 2)) := hq 2
        have q3 : wo.cell? ⟨bk, o + k * 8 + 3, none⟩ = some (.int .i64 (z 3)) := hq 3
        have q4 : wo.cell? ⟨bk, o + k * 8 + 4, none⟩ = some (.int .i64 (z 4)) := hq 4
        have q5 : wo.cell? ⟨bk, o + k * 8 + 5, none⟩ = some (.int .i64 (z 5)) := hq 5
        have q6 : wo.cell? ⟨bk, o + k * 8 + 6, none⟩ = some (.int .i64 (z 6)) := hq 6
        have q7 : wo.cell? ⟨bk, o + k * 8 + 7, none⟩ = some (.int .i64 (z 7)) := hq 7
        clear hq
        go_wp2_with (first
          | (go_at_call 78; refine (numbersR_any z _).mono ?_; rintro e w5 ⟨g, rfl, hb5, hg0, hg1, hg⟩))
        have hs5 := hb5.size
        have HG := Lib.hid hg
        clear hg
        go_loopw [5, 9] (fun v i wr => RelQ w5 (1000 * (k + 1)) v i wr) (fun _ i _ => 8 - (intOf i).toNat)
        case atStart => exact ⟨0, s, Nat.zero_le _, rfl, rfl, by have := HS.out; omega, Below.refl _ _⟩
        case round =>
          obtain ⟨j, u, hj, rfl, rfl, hu, hni⟩ := hrel
          have hsi := hni.size
          have HU := Lib.hid hu
          clear hu
          by_cases hj8 : j < 8
          · obtain ⟨sw, hsw, hcw⟩ := HW.out j hj8
            have HSW := Lib.hid hsw
            clear hsw
            have c0 : wr.cell? ⟨gw, j, none⟩ = some (.string sw) := ((hnx.trans ((hb5.mono hnx.size).trans (hni.mono (Nat.le_trans hnx.size hs5)))).cell (p := ⟨gw, j, none⟩) hgw).trans hcw
            have c1 : wr.cell? ⟨g, j, none⟩ = some (.int .i64 (z ⟨j, hj8⟩)) := (hni.cell (p := ⟨g, j, none⟩) hg1).trans (HG.out ⟨j, hj8⟩)
            have d0 : wr.drew.cell? ⟨gw, j, none⟩ = some (.string sw) := c0
            have d1 : wr.drew.cell? ⟨g, j, none⟩ = some (.int .i64 (z ⟨j, hj8⟩)) := c1
            have i0 : (0 : Int) ≤ (j : Int) := by omega
            have i1 : (j : Int) < 8 := by omega
            have a1 : ¬ 9223372036854775807 < u.size + 1 := by have := HU.out; omega
            have a2 : ¬ 9223372036854775807 < sw.size + 1 := by have := HSW.out; omega
            clear hcw
            by_cases hj0 : 0 < j
            · have b0 : (0 : Int) < (j : Int) := by omega
              go_wp2
              go_region_held3 (fun w' => w'.cell? ⟨gw, j, none⟩ = some (.string sw) ∧ w'.cell? ⟨g, j, none⟩ = some (.int .i64 (z ⟨j, hj8⟩))) (go_keep)
                (first
                  | (go_at_call 76; (with_reducible refine (numberS (z ⟨j, hj8⟩) ⟨gw, j, none⟩ ⟨g, j, none⟩ (.string sw) (.int .i64 (z ⟨j, hj8⟩)) _ (HZ.out _) (by assumption) (by assumption)).mono ?_); rintro e w6 ⟨y, rfl, hy, hb6, k0, k1⟩; have a3 : ¬ 9223372036854775807 < sw.size + 1 + y.size := (by have := HSW.out; omega); have a4 : ¬ 9223372036854775807 < u.size + 1 + (sw.size + 1 + y.size) := (by have := HSW.out; have := HU.out; omega)))
              go_wp2
              exact ⟨⟨j + 1, _, by omega, by simp, rfl, by simp only [ByteArray.size_append, size1]; have := HU.out; have := HSW.out; omega, hni.trans (((Below.drew (Below.refl wr.heap.size wr)).trans hb6).mono hsi)⟩, by simp [intOf]; omega⟩
            · have b0 : ¬ (0 : Int) < (j : Int) := by omega
              go_wp2
              go_region_held3 (fun w' => w'.cell? ⟨gw, j, none⟩ = some (.string sw) ∧ w'.cell? ⟨g, j, none⟩ = some (.int .i64 (z ⟨j, hj8⟩))) (go_keep)
                (first
                  | (go_at_call 76; (with_reducible refine (numberS (z ⟨j, hj8⟩) ⟨gw, j, none⟩ ⟨g, j, none⟩ (.string sw) (.int .i64 (z ⟨j, hj8⟩)) _ (HZ.out _) (by assumption) (by assumption)).mono ?_); rintro e w6 ⟨y, rfl, hy, hb6, k0, k1⟩; have a3 : ¬ 9223372036854775807 < sw.size + 1 + y.size := (by have := HSW.out; omega); have a4 : ¬ 9223372036854775807 < u.size + (sw.size + 1 + y.size) := (by have := HSW.out; have := HU.out; omega)))
              go_wp2
              exact ⟨⟨j + 1, _, by omega, by simp, rfl, by simp only [ByteArray.size_append, size1]; have := HU.out; have := HSW.out; omega, hni.trans (((Below.drew (Below.refl wr.heap.size wr)).trans hb6).mono hsi)⟩, by simp [intOf]; omega⟩
          · obtain rfl : j = 8 := by omega
            have u1 : ¬ 9223372036854775807 < u.size + 1 := by have := HU.out; omega
            go_wp2
            exact ⟨⟨k + 1, _, by omega, by simp, rfl, by rw [ByteArray.size_append, size1]; have := HU.out; omega, hnx.trans ((hb5.mono hnx.size).trans (hni.mono (Nat.le_trans hnx.size hs5)))⟩, by simp [intOf]; omega⟩
      · obtain rfl : k = m := by omega
        have v1 : ¬ 9223372036854775807 < s.size + 6 := by have := HS.out; omega
        go_wp2_with (first
          | (go_at_call 76; (with_reducible refine (number18 tot _ HR.out.2.2.2).mono ?_); rintro e w6 ⟨y, rfl, hy, hb6⟩; have v2 : ¬ 9223372036854775807 < s.size + 6 + y.size := (by have := HS.out; omega); have v3 : ¬ 9223372036854775807 < s.size + 6 + y.size + 1 := (by have := HS.out; omega)))
        go_ret2
        exact ⟨_, rfl, (hw1.trans (h14.mono (by omega))).trans ((hnx.mono (by omega)).trans (hb6.mono (by have := hnx.size; omega)))⟩
  · have hnb : (n == 0) = false := beq_eq_false_iff_ne.2 hn
    clear hok
    go_enter Tryd.func59, Tryd.ntmps59
    go_wp2_with (go_at_call 75; refine (HP.out _ (below_alloc w _)).mono ?_; rintro e w1 ⟨rfl, hb1⟩)
    go_ret2
    exact ⟨_, rfl, (below_alloc w _).trans (hb1.mono (by simp))⟩
end Go.Proofs.YtedhmdocimkldaaDoor.Pa
