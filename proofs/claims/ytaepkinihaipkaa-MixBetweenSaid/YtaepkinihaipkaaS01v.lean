/- What slices.SortStableFunc does with a slice of the call's own: merging. Conditions: those of each law. -/
import Derived.Test.YtaepkinihaipkaaS01u
namespace Go.Proofs.Ytaepkinihaipkaa
open Go Go.Proofs.Ytaepkinihaipkaa.Ev
set_option linter.unusedVariables false
set_option linter.unusedSimpArgs false
set_option maxRecDepth 100000
set_option maxHeartbeats 8000000
theorem half_ok {i j : Nat} (h : i + j < 9223372036854775808) : IntKind.wrap .i64 (Int.fdiv (IntKind.wrap .u64 (IntKind.wrap .i64 ((i : Int) + (j : Int)))) (2 ^ (min (Int.toNat 1) (IntKind.bits .u64)))) = (((i + j) / 2 : Nat) : Int) := by
  rw [i64n (z := (i : Int) + j) (m := i + j) (by omega) h, IntWalk.u64_in _ (by omega)]
  rw [show (2 : Int) ^ (min (Int.toNat 1) (IntKind.bits .u64)) = ((2 : Nat) : Int) from rfl, Int.fdiv_eq_ediv_of_nonneg _ (by omega), ← Int.natCast_ediv]
  exact i64_nat (by omega)
/-- A search by halves. -/
theorem bsearch {hh : H} {F : Type} {f : (Int × Int) × H → Option (Stp ((Int × Int) × H) (Flow Int F × H))} {lo hi : Nat} (hlh : lo ≤ hi) (hbig : hi < 4611686018427387904) (P : Nat → Bool) (G B : Nat → Prop)
    (hf : ∀ i j : Nat, lo ≤ i → i < j → j ≤ hi → f (((i : Int), (j : Int)), hh) = some (.more ((((if P ((i + j) / 2) = true then (i + j) / 2 + 1 else i : Nat) : Int), ((if P ((i + j) / 2) = true then j else (i + j) / 2 : Nat) : Int)), hh)))
    (hd : ∀ i : Nat, f (((i : Int), (i : Int)), hh) = some (.done (.ex0 (i : Int), hh)))
    (hG : ∀ c, lo ≤ c → c < hi → P c = true → ∀ c', lo ≤ c' → c' ≤ c → G c') (hB : ∀ c, lo ≤ c → c < hi → P c = false → ∀ c', c ≤ c' → c' < hi → B c') :
    ∃ s : Nat, iter FUEL f (((lo : Int), (hi : Int)), hh) = some (.ex0 (s : Int), hh) ∧ lo ≤ s ∧ s ≤ hi ∧ (∀ c, lo ≤ c → c < s → G c) ∧ ∀ c, s ≤ c → c < hi → B c := by
  obtain ⟨r, hr, hp⟩ := iter_inv (f := f) (Inv := fun st => ∃ i j : Nat, st = (((i : Int), (j : Int)), hh) ∧ lo ≤ i ∧ i ≤ j ∧ j ≤ hi ∧ (∀ c, lo ≤ c → c < i → G c) ∧ ∀ c, j ≤ c → c < hi → B c)
    (Post := fun r => ∃ s : Nat, r = (.ex0 (s : Int), hh) ∧ lo ≤ s ∧ s ≤ hi ∧ (∀ c, lo ≤ c → c < s → G c) ∧ ∀ c, s ≤ c → c < hi → B c)
    (fun st => st.1.2.toNat - st.1.1.toNat) (fun st hi' => by
      obtain ⟨i, j, rfl, h1, h2, h3, h4, h5⟩ := hi'
      rcases Nat.lt_or_ge i j with hlt | hge
      · left
        refine ⟨_, hf i j h1 hlt h3, ?_, ?_⟩
        · cases hP : P ((i + j) / 2) with
          | true =>
            refine ⟨_, _, rfl, by simp only [if_true]; omega, by simp only [if_true]; omega, by simpa using h3, fun c k1 k2 => ?_, by simpa using h5⟩
            simp only [if_true] at k2
            exact hG ((i + j) / 2) (by omega) (by omega) hP c k1 (by omega)
          | false =>
            refine ⟨_, _, rfl, by simpa using h1, by simp; omega, by simp; omega, by simpa using h4, fun c k1 k2 => ?_⟩
            simp at k1
            exact hB ((i + j) / 2) (by omega) (by omega) hP c (by omega) k2
        · cases hP : P ((i + j) / 2) <;> simp <;> omega
      · right
        have : i = j := by omega
        subst this
        exact ⟨_, hd i, i, rfl, h1, h3, h4, h5⟩) FUEL (((lo : Int), (hi : Int)), hh) ⟨lo, hi, rfl, Nat.le_refl _, hlh, Nat.le_refl _, fun c k1 k2 => by omega, fun c k1 k2 => by omega⟩ (fuel_gt (by
      simp only [Int.toNat_natCast]
      omega))
  obtain ⟨s, rfl, k⟩ := hp
  exact ⟨s, hr, k⟩
section sort
variable {T : Table} {v : V} {sl : List Slot} {id n : Nat} {t : Bool} {D : Int → Prop} {c : Int → Int → Int} {lt : Int → Int → Prop}
/-- A number is carried to the right. -/
theorem carryR (hid : id < sl.length) (hn63 : n < 4611686018427387904) {xs : List Int} (hn : xs.length = n) {a i : Nat} (hai : a < i) (hi : i ≤ n) :
    ∃ ys, iter FUEL (slices_symMergeCmpFunc_int.loop2 T (sS id n t) (i : Int)) ((a : Int), hS sl id xs) = some (.ex0 (), hS sl id ys) ∧ ys.length = n ∧ ys.Perm xs ∧
      ∀ p, g ys p = if a ≤ p ∧ p < i - 1 then g xs (p + 1) else if p = i - 1 then g xs a else g xs p := by
  obtain ⟨r, hr, hp⟩ := iter_inv (f := slices_symMergeCmpFunc_int.loop2 T (sS id n t) (i : Int))
    (Inv := fun st => ∃ (k : Nat) (ys : List Int), st = ((k : Int), hS sl id ys) ∧ a ≤ k ∧ k ≤ i - 1 ∧ ys.length = n ∧ ys.Perm xs ∧ ∀ p, g ys p = if a ≤ p ∧ p < k then g xs (p + 1) else if p = k then g xs a else g xs p)
    (Post := fun r => ∃ ys, r = (.ex0 (), hS sl id ys) ∧ ys.length = n ∧ ys.Perm xs ∧ ∀ p, g ys p = if a ≤ p ∧ p < i - 1 then g xs (p + 1) else if p = i - 1 then g xs a else g xs p)
    (fun st => n - st.1.toNat) (fun st hi' => by
      obtain ⟨k, ys, rfl, hak, hki, hl, hpm, hg⟩ := hi'
      rcases Nat.lt_or_ge k (i - 1) with hlt | hge
      · left
        refine ⟨(((k + 1 : Nat) : Int), hS sl id (swp k (k + 1) ys)), ?_, ⟨k + 1, _, rfl, by omega, by omega, by rw [swp_length, hl], (swp_perm (by omega) (by omega)).trans hpm, fun p => ?_⟩, by simp only [Int.toNat_natCast]; omega⟩
        · unfold slices_symMergeCmpFunc_int.loop2
          simp -implicitDefEqProofs only [reserve0, sS_a, sS_len]
          rw [i64n (z := (i : Int) - 1) (m := i - 1) (by omega) (by omega), decide_eq_true (by omega), cond_true, i64n (z := (k : Int) + 1) (m := k + 1) (by omega) (by omega), Int.toNat_natCast, Int.toNat_natCast, guardO_pos (by omega), rdS hid hl (by omega)]
          simp -implicitDefEqProofs only [Option.bind_some]
          rw [guardO_pos (by omega), rdS hid hl (by omega)]
          simp -implicitDefEqProofs only [Option.bind_some]
          rw [guardO_pos (by omega), wrS hid hl (by omega)]
          simp -implicitDefEqProofs only [Option.bind_some]
          rw [guardO_pos (by omega), wrS hid (by simpa using hl) (by omega)]
          rfl
        · rw [g_swp (by omega) (by omega), hg, hg, hg]
          by_cases c1 : p = k + 1
          · subst c1
            rw [if_pos rfl, if_neg (by omega), if_pos rfl, if_neg (by omega), if_pos rfl]
          · rw [if_neg c1]
            by_cases c2 : p = k
            · subst c2
              rw [if_pos rfl, if_neg (by omega), if_neg (by omega), if_pos (by omega)]
            · rw [if_neg c2, if_neg c2]
              by_cases c3 : a ≤ p ∧ p < k
              · rw [if_pos c3, if_pos (by omega)]
              · rw [if_neg c3, if_neg (by omega), if_neg c1]
      · right
        have : k = i - 1 := by omega
        subst this
        refine ⟨(.ex0 (), hS sl id ys), ?_, ys, rfl, hl, hpm, hg⟩
        unfold slices_symMergeCmpFunc_int.loop2
        simp -implicitDefEqProofs only []
        rw [i64n (z := (i : Int) - 1) (m := i - 1) (by omega) (by omega), decide_eq_false (by omega)]
        rfl) FUEL ((a : Int), hS sl id xs) ⟨a, xs, rfl, Nat.le_refl _, by omega, hn, .refl _, fun p => by
        rw [if_neg (by omega)]
        by_cases e : p = a
        · subst e; rw [if_pos rfl]
        · rw [if_neg e]⟩ (fuel_gt (by
        simp only [Int.toNat_natCast]
        omega))
  obtain ⟨ys, rfl, k⟩ := hp
  exact ⟨ys, hr, k⟩
/-- A number is carried to the left. -/
theorem carryL (hid : id < sl.length) (hn63 : n < 4611686018427387904) {xs : List Int} (hn : xs.length = n) {m i : Nat} (him : i ≤ m) (hm : m < n) :
    ∃ ys, iter FUEL (slices_symMergeCmpFunc_int.loop4 T (sS id n t) (i : Int)) ((m : Int), hS sl id xs) = some (.ex0 (), hS sl id ys) ∧ ys.length = n ∧ ys.Perm xs ∧
      ∀ p, g ys p = if i < p ∧ p ≤ m then g xs (p - 1) else if p = i then g xs m else g xs p := by
  obtain ⟨r, hr, hp⟩ := iter_inv (f := slices_symMergeCmpFunc_int.loop4 T (sS id n t) (i : Int))
    (Inv := fun st => ∃ (k : Nat) (ys : List Int), st = ((k : Int), hS sl id ys) ∧ i ≤ k ∧ k ≤ m ∧ ys.length = n ∧ ys.Perm xs ∧ ∀ p, g ys p = if k < p ∧ p ≤ m then g xs (p - 1) else if p = k then g xs m else g xs p)
    (Post := fun r => ∃ ys, r = (.ex0 (), hS sl id ys) ∧ ys.length = n ∧ ys.Perm xs ∧ ∀ p, g ys p = if i < p ∧ p ≤ m then g xs (p - 1) else if p = i then g xs m else g xs p)
    (fun st => st.1.toNat) (fun st hi' => by
      obtain ⟨k, ys, rfl, hak, hki, hl, hpm, hg⟩ := hi'
      rcases Nat.lt_or_ge i k with hlt | hge
      · left
        refine ⟨(((k - 1 : Nat) : Int), hS sl id (swp k (k - 1) ys)), ?_, ⟨k - 1, _, rfl, by omega, by omega, by rw [swp_length, hl], (swp_perm (by omega) (by omega)).trans hpm, fun p => ?_⟩, by simp only [Int.toNat_natCast]; omega⟩
        · unfold slices_symMergeCmpFunc_int.loop4
          simp -implicitDefEqProofs only [reserve0, sS_a, sS_len]
          rw [decide_eq_true (by omega), cond_true, i64n (z := (k : Int) - 1) (m := k - 1) (by omega) (by omega), Int.toNat_natCast, Int.toNat_natCast, guardO_pos (by omega), rdS hid hl (by omega)]
          simp -implicitDefEqProofs only [Option.bind_some]
          rw [guardO_pos (by omega), rdS hid hl (by omega)]
          simp -implicitDefEqProofs only [Option.bind_some]
          rw [guardO_pos (by omega), wrS hid hl (by omega)]
          simp -implicitDefEqProofs only [Option.bind_some]
          rw [guardO_pos (by omega), wrS hid (by simpa using hl) (by omega)]
          rfl
        · rw [g_swp (by omega) (by omega), hg, hg, hg]
          by_cases c1 : p = k - 1
          · subst c1
            rw [if_pos rfl, if_neg (by omega), if_pos rfl, if_neg (by omega), if_pos rfl]
          · rw [if_neg c1]
            by_cases c2 : p = k
            · subst c2
              rw [if_pos rfl, if_neg (by omega), if_neg (by omega), if_pos (by omega)]
            · rw [if_neg c2, if_neg c2]
              by_cases c3 : k < p ∧ p ≤ m
              · rw [if_pos c3, if_pos (by omega)]
              · rw [if_neg c3, if_neg (by omega), if_neg c1]
      · right
        have : k = i := by omega
        subst this
        refine ⟨(.ex0 (), hS sl id ys), ?_, ys, rfl, hl, hpm, hg⟩
        unfold slices_symMergeCmpFunc_int.loop4
        simp -implicitDefEqProofs only []
        rw [decide_eq_false (by omega)]
        rfl) FUEL ((m : Int), hS sl id xs) ⟨m, xs, rfl, him, Nat.le_refl _, hn, .refl _, fun p => by
        rw [if_neg (by omega)]
        by_cases e : p = m
        · subst e; rw [if_pos rfl]
        · rw [if_neg e]⟩ (fuel_gt (by
        simp only [Int.toNat_natCast]
        omega))
  obtain ⟨ys, rfl, k⟩ := hp
  exact ⟨ys, hr, k⟩
end sort
end Go.Proofs.Ytaepkinihaipkaa
