/- What slices.SortStableFunc does with a slice of the call's own: swapping ranges, rotating, inserting. Conditions: those of each law. -/
import Derived.Test.YtaepkinihaipkaaS01s
namespace Go.Proofs.Ytaepkinihaipkaa
open Go Go.Proofs.Ytaepkinihaipkaa.Ev
set_option linter.unusedVariables false
set_option linter.unusedSimpArgs false
set_option maxRecDepth 100000
set_option maxHeartbeats 4000000
section sort
variable {T : Table} {v : V} {sl : List Slot} {id n : Nat} {t : Bool}
/-- Two ranges change places. -/
theorem swapRange_ok (hid : id < sl.length) (hn63 : n < 4611686018427387904) {xs : List Int} (hn : xs.length = n) {a b k : Nat} (hab : a + k ≤ b) (hb : b + k ≤ n) :
    ∃ ys, slices_swapRangeCmpFunc_int T (sS id n t) (a : Int) (b : Int) (k : Int) v (hS sl id xs) = some ((), hS sl id ys) ∧ ys.length = n ∧ ys.Perm xs ∧
      ∀ j, g ys j = if a ≤ j ∧ j < a + k then g xs (j - a + b) else if b ≤ j ∧ j < b + k then g xs (j - b + a) else g xs j := by
  obtain ⟨r, hr, hp⟩ := iter_inv (f := slices_swapRangeCmpFunc_int.loop1 T (sS id n t) (a : Int) (b : Int) (k : Int))
    (Inv := fun st => ∃ (i : Nat) (ys : List Int), st = ((i : Int), hS sl id ys) ∧ i ≤ k ∧ ys.length = n ∧ ys.Perm xs ∧
      ∀ j, g ys j = if a ≤ j ∧ j < a + i then g xs (j - a + b) else if b ≤ j ∧ j < b + i then g xs (j - b + a) else g xs j)
    (Post := fun r => ∃ ys, r = (.ex0 (), hS sl id ys) ∧ ys.length = n ∧ ys.Perm xs ∧
      ∀ j, g ys j = if a ≤ j ∧ j < a + k then g xs (j - a + b) else if b ≤ j ∧ j < b + k then g xs (j - b + a) else g xs j)
    (fun st => k - st.1.toNat) (fun st hi => by
      obtain ⟨i, ys, rfl, hi, hl, hpm, hg⟩ := hi
      rcases Nat.lt_or_ge i k with hlt | hge
      · left
        refine ⟨(((i + 1 : Nat) : Int), hS sl id (swp (a + i) (b + i) ys)), ?_, ⟨i + 1, _, rfl, by omega, by rw [swp_length, hl], (swp_perm (by omega) (by omega)).trans hpm, fun j => ?_⟩, by simp only [Int.toNat_natCast]; omega⟩
        · unfold slices_swapRangeCmpFunc_int.loop1
          simp -implicitDefEqProofs only [reserve0, sS_a, sS_len]
          rw [decide_eq_true (by omega), cond_true, i64n (m := b + i) (by omega) (by omega), i64n (m := a + i) (by omega) (by omega), Int.toNat_natCast, Int.toNat_natCast, guardO_pos (by omega), rdS hid hl (by omega)]
          simp -implicitDefEqProofs only [Option.bind_some]
          rw [guardO_pos (by omega), rdS hid hl (by omega)]
          simp -implicitDefEqProofs only [Option.bind_some]
          rw [guardO_pos (by omega), wrS hid hl (by omega)]
          simp -implicitDefEqProofs only [Option.bind_some]
          rw [guardO_pos (by omega), wrS hid (by simpa using hl) (by omega)]
          simp -implicitDefEqProofs only [Option.bind_some]
          rw [i64_succ (by omega)]
          rfl
        · rw [g_swp (by omega) (by omega), hg, hg, hg]
          by_cases c1 : j = b + i
          · subst c1
            rw [if_pos rfl, if_neg (by omega), if_neg (by omega), if_neg (by omega), if_pos (by omega)]
            congr 1; omega
          · rw [if_neg c1]
            by_cases c2 : j = a + i
            · subst c2
              rw [if_pos rfl, if_neg (by omega), if_neg (by omega), if_pos (by omega)]
              congr 1; omega
            · rw [if_neg c2]
              by_cases c3 : a ≤ j ∧ j < a + i
              · rw [if_pos c3, if_pos (by omega)]
              · rw [if_neg c3, if_neg (show ¬ (a ≤ j ∧ j < a + (i + 1)) by omega)]
                by_cases c4 : b ≤ j ∧ j < b + i
                · rw [if_pos c4, if_pos (by omega)]
                · rw [if_neg c4, if_neg (by omega)]
      · right
        have : i = k := by omega
        subst this
        refine ⟨_, ?_, ys, rfl, hl, hpm, hg⟩
        unfold slices_swapRangeCmpFunc_int.loop1
        simp -implicitDefEqProofs only []
        rw [decide_eq_false (by omega), cond_false]) FUEL ((0 : Int), hS sl id xs) ⟨0, xs, rfl, Nat.zero_le _, hn, .refl _, fun j => by rw [if_neg (by omega), if_neg (by omega)]⟩ (fuel_gt (by
        show k - (0 : Int).toNat < 2 ^ 69
        omega))
  obtain ⟨ys, rfl, h1, h2, h3⟩ := hp
  refine ⟨ys, ?_, h1, h2, h3⟩
  unfold slices_swapRangeCmpFunc_int
  rw [hr]
  rfl
/-- Two neighbouring ranges change places. -/
theorem rotate_ok (hid : id < sl.length) (hn63 : n < 4611686018427387904) {xs : List Int} (hn : xs.length = n) {a m b : Nat} (ham : a < m) (hmb : m < b) (hb : b ≤ n) :
    ∃ ys, slices_rotateCmpFunc_int T (sS id n t) (a : Int) (m : Int) (b : Int) v (hS sl id xs) = some ((), hS sl id ys) ∧ ys.length = n ∧ ys.Perm xs ∧
      ∀ p, g ys p = if a ≤ p ∧ p < a + (b - m) then g xs (p + (m - a)) else if a + (b - m) ≤ p ∧ p < b then g xs (p - (b - m)) else g xs p := by
  obtain ⟨r, hr, hp⟩ := iter_inv (f := slices_rotateCmpFunc_int.loop1 T (sS id n t) (m : Int) v)
    (Inv := fun st => ∃ (i j : Nat) (ys : List Int), st = (((i : Int), (j : Int)), hS sl id ys) ∧ 0 < i ∧ 0 < j ∧ a + i ≤ m ∧ m + j ≤ b ∧ ys.length = n ∧ ys.Perm xs ∧
      ∀ p, (if a ≤ p ∧ p < a + (b - m) then g xs (p + (m - a)) else if a + (b - m) ≤ p ∧ p < b then g xs (p - (b - m)) else g xs p) =
        if m - i ≤ p ∧ p < m - i + j then g ys (p + i) else if m - i + j ≤ p ∧ p < m + j then g ys (p - j) else g ys p)
    (Post := fun r => ∃ (i : Nat) (ys : List Int), r = (.ex0 (i : Int), hS sl id ys) ∧ 0 < i ∧ a + i ≤ m ∧ m + i ≤ b ∧ ys.length = n ∧ ys.Perm xs ∧
      ∀ p, (if a ≤ p ∧ p < a + (b - m) then g xs (p + (m - a)) else if a + (b - m) ≤ p ∧ p < b then g xs (p - (b - m)) else g xs p) =
        if m - i ≤ p ∧ p < m then g ys (p + i) else if m ≤ p ∧ p < m + i then g ys (p - i) else g ys p)
    (fun st => st.1.1.toNat + st.1.2.toNat) (fun st hi => by
      obtain ⟨i, j, ys, rfl, hi0, hj0, hai, hjb, hl, hpm, hg⟩ := hi
      by_cases hij : i = j
      · right
        subst hij
        refine ⟨_, ?_, i, ys, rfl, hi0, hai, hjb, hl, hpm, fun p => ?_⟩
        · unfold slices_rotateCmpFunc_int.loop1
          simp -implicitDefEqProofs only [decide_true, Bool.not_true, cond_false]
        · rw [hg p, show m - i + i = m by omega]
      · left
        rcases Nat.lt_or_ge j i with hlt | hge
        · obtain ⟨zs, h1, h2, h3, h4⟩ := swapRange_ok (T := slices_rotateCmpFunc_int.tb T) (v := v) (t := t) hid hn63 hl (a := m - i) (b := m) (k := j) (by omega) (by omega)
          refine ⟨((((i - j : Nat) : Int), (j : Int)), hS sl id zs), ?_, ⟨i - j, j, zs, rfl, by omega, hj0, by omega, hjb, h2, h3.trans hpm, fun p => ?_⟩, by simp only [Int.toNat_natCast]; omega⟩
          · unfold slices_rotateCmpFunc_int.loop1
            simp -implicitDefEqProofs only []
            rw [decide_eq_false (show ¬ (i : Int) = (j : Int) by omega), decide_eq_true (show (j : Int) < (i : Int) by omega), i64n (m := m - i) (by omega) (by omega), h1]
            simp -implicitDefEqProofs only [Bool.not_false, cond_true, Option.bind_some]
            rw [i64n (m := i - j) (by omega) (by omega)]
          · rw [hg p, h4 (p + (i - j)), h4 (p - j), h4 p]
            by_cases c1 : m - i ≤ p ∧ p < m - i + j
            · rw [if_pos c1, if_neg (by omega), if_neg (by omega), if_pos (by omega)]
              congr 1; omega
            · rw [if_neg c1]
              by_cases c2 : m - i + j ≤ p ∧ p < m + j
              · rw [if_pos c2]
                by_cases c3 : m - (i - j) ≤ p ∧ p < m - (i - j) + j
                · rw [if_pos c3]
                  by_cases c4 : p + (i - j) < m
                  · omega
                  · rw [if_neg (by omega), if_pos (by omega)]
                    congr 1; omega
                · rw [if_neg c3]
                  by_cases c5 : m - (i - j) + j ≤ p ∧ p < m + j
                  · rw [if_pos c5, if_neg (by omega), if_neg (by omega)]
                  · omega
              · rw [if_neg c2, if_neg (by omega), if_neg (by omega), if_neg (by omega), if_neg (by omega)]
        · obtain ⟨zs, h1, h2, h3, h4⟩ := swapRange_ok (T := slices_rotateCmpFunc_int.tb T) (v := v) (t := t) hid hn63 hl (a := m - i) (b := m + j - i) (k := i) (by omega) (by omega)
          refine ⟨(((i : Int), ((j - i : Nat) : Int)), hS sl id zs), ?_, ⟨i, j - i, zs, rfl, hi0, by omega, hai, by omega, h2, h3.trans hpm, fun p => ?_⟩, by simp only [Int.toNat_natCast]; omega⟩
          · unfold slices_rotateCmpFunc_int.loop1
            simp -implicitDefEqProofs only []
            rw [decide_eq_false (show ¬ (i : Int) = (j : Int) by omega), decide_eq_false (show ¬ (j : Int) < (i : Int) by omega), i64n (z := (m : Int) - i) (m := m - i) (by omega) (by omega), i64n (z := (m : Int) + j) (m := m + j) (by omega) (by omega), i64n (z := ((m + j : Nat) : Int) - i) (m := m + j - i) (by omega) (by omega), h1]
            simp -implicitDefEqProofs only [Bool.not_false, cond_true, cond_false, Option.bind_some]
            rw [i64n (m := j - i) (by omega) (by omega)]
          · rw [hg p, h4 (p + i), h4 (p - (j - i)), h4 p]
            by_cases c1 : m - i ≤ p ∧ p < m - i + j
            · rw [if_pos c1]
              by_cases c2 : p < m - i + (j - i)
              · rw [if_pos (show m - i ≤ p ∧ p < m - i + (j - i) by omega), if_neg (by omega), if_neg (by omega)]
              · rw [if_neg (show ¬ (m - i ≤ p ∧ p < m - i + (j - i)) by omega)]
                by_cases c3 : p < m + (j - i)
                · rw [if_pos (show m - i + (j - i) ≤ p ∧ p < m + (j - i) by omega), if_pos (by omega)]
                  congr 1; omega
                · omega
            · rw [if_neg c1]
              by_cases c2 : m - i + j ≤ p ∧ p < m + j
              · rw [if_pos c2, if_neg (by omega), if_neg (by omega), if_neg (by omega), if_pos (by omega)]
                congr 1; omega
              · rw [if_neg c2, if_neg (by omega), if_neg (by omega), if_neg (by omega), if_neg (by omega)]) FUEL ((((m - a : Nat) : Int), ((b - m : Nat) : Int)), hS sl id xs)
      ⟨m - a, b - m, xs, rfl, by omega, by omega, by omega, by omega, hn, .refl _, fun p => by
        rw [show m - (m - a) = a by omega, show m + (b - m) = b by omega]⟩ (fuel_gt (by
        simp only [Int.toNat_natCast]
        omega))
  obtain ⟨i, ys, rfl, k1, k2, k3, k4, k5, k6⟩ := hp
  obtain ⟨zs, h1, h2, h3, h4⟩ := swapRange_ok (T := slices_rotateCmpFunc_int.tb T) (v := v) (t := t) hid hn63 k4 (a := m - i) (b := m) (k := i) (by omega) (by omega)
  refine ⟨zs, ?_, h2, h3.trans k5, fun p => ?_⟩
  · unfold slices_rotateCmpFunc_int
    rw [i64n (m := m - a) (by omega) (by omega), i64n (m := b - m) (by omega) (by omega), hr]
    simp -implicitDefEqProofs only [Option.bind_some]
    rw [i64n (m := m - i) (by omega) (by omega), h1]
    rfl
  · rw [k6 p, h4 p]
    by_cases c1 : m - i ≤ p ∧ p < m
    · rw [if_pos c1, if_pos (by omega)]
      congr 1; omega
    · rw [if_neg c1, if_neg (by omega)]
      by_cases c2 : m ≤ p ∧ p < m + i
      · rw [if_pos c2, if_pos c2]
        congr 1; omega
      · rw [if_neg c2, if_neg c2]
end sort
end Go.Proofs.Ytaepkinihaipkaa
