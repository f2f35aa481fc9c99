/- What slices.SortStableFunc does with a slice of the call's own: inserting. Conditions: those of each law. -/
import Derived.Test.YtaepkinihaipkaaS01t
namespace Go.Proofs.Ytaepkinihaipkaa
open Go Go.Proofs.Ytaepkinihaipkaa.Ev
set_option linter.unusedVariables false
set_option linter.unusedSimpArgs false
set_option maxRecDepth 100000
set_option maxHeartbeats 4000000
/-- A comparison that leaves the heap as it is. -/
def Cmp (T : Table) (v : V) (sl : List Slot) (id n : Nat) (D : Int → Prop) (c : Int → Int → Int) : Prop :=
  ∀ (x y : Int) (xs : List Int), D x → D y → xs.length = n → ∀ {R : Type} (k : V → H → Option R), callV T.dy v [.int .i64 x, .int .i64 y] (hS sl id xs) k = k (.int .i64 (c x y)) (hS sl id xs)
/-- What the comparison of a later element with an earlier one says of the order. -/
def Says (c : Int → Int → Int) (lt : Int → Int → Prop) (later earlier : Int) : Prop := (c later earlier < 0 → lt later earlier) ∧ (¬ c later earlier < 0 → lt earlier later)
section sort
variable {T : Table} {v : V} {sl : List Slot} {id n : Nat} {t : Bool} {D : Int → Prop} {c : Int → Int → Int} {lt : Int → Int → Prop}
theorem ins_inner (hid : id < sl.length) (hn63 : n < 4611686018427387904) (hc : Cmp T v sl id n D c) (htr : ∀ x y z, lt x y → lt y z → lt x z) {xs : List Int} (hn : xs.length = n) {a i : Nat} (hai : a ≤ i) (hi : i < n)
    (hD : ∀ k, a ≤ k → k ≤ i → D (g xs k)) (hs : ∀ p q, a ≤ p → p < q → q < i → lt (g xs p) (g xs q)) (hcmp : ∀ p, a ≤ p → p < i → Says c lt (g xs i) (g xs p)) :
    ∃ ys, iter FUEL (slices_insertionSortCmpFunc_int.loop1 T (sS id n t) (a : Int) v) ((i : Int), hS sl id xs) = some (.ex0 (), hS sl id ys) ∧ ys.length = n ∧ ys.Perm xs ∧ (∀ p, ¬ (a ≤ p ∧ p ≤ i) → g ys p = g xs p) ∧
      (∀ p, a ≤ p → p ≤ i → ∃ p', a ≤ p' ∧ p' ≤ i ∧ g ys p = g xs p') ∧ ∀ p q, a ≤ p → p < q → q ≤ i → lt (g ys p) (g ys q) := by
  obtain ⟨r, hr, hp⟩ := iter_inv (f := slices_insertionSortCmpFunc_int.loop1 T (sS id n t) (a : Int) v)
    (Inv := fun st => ∃ (j : Nat) (ys : List Int), st = ((j : Int), hS sl id ys) ∧ a ≤ j ∧ j ≤ i ∧ ys.length = n ∧ ys.Perm xs ∧ (∀ p, ¬ (a ≤ p ∧ p ≤ i) → g ys p = g xs p) ∧ g ys j = g xs i ∧
      (∀ p, a ≤ p → p ≤ i → p ≠ j → ∃ p', a ≤ p' ∧ p' < i ∧ g ys p = g xs p') ∧ (∀ p q, a ≤ p → p < q → q ≤ i → p ≠ j → q ≠ j → lt (g ys p) (g ys q)) ∧ ∀ q, j < q → q ≤ i → lt (g ys j) (g ys q))
    (Post := fun r => ∃ ys, r = (.ex0 (), hS sl id ys) ∧ ys.length = n ∧ ys.Perm xs ∧ (∀ p, ¬ (a ≤ p ∧ p ≤ i) → g ys p = g xs p) ∧
      (∀ p, a ≤ p → p ≤ i → ∃ p', a ≤ p' ∧ p' ≤ i ∧ g ys p = g xs p') ∧ ∀ p q, a ≤ p → p < q → q ≤ i → lt (g ys p) (g ys q))
    (fun st => st.1.toNat) (fun st hi' => by
      obtain ⟨j, ys, rfl, haj, hji, hl, hpm, hout, hj, hE, hso, hbe⟩ := hi'
      have hE' : ∀ p, a ≤ p → p ≤ i → ∃ p', a ≤ p' ∧ p' ≤ i ∧ g ys p = g xs p' := fun p h1 h2 => by
        by_cases e : p = j
        · subst e; exact ⟨i, hai, Nat.le_refl _, hj⟩
        · obtain ⟨p', k1, k2, k3⟩ := hE p h1 h2 e; exact ⟨p', k1, by omega, k3⟩
      by_cases hlt : a < j
      · have hDj : D (g ys j) := by rw [hj]; exact hD i hai (Nat.le_refl _)
        obtain ⟨p', e1, e2, e3⟩ := hE (j - 1) (by omega) (by omega) (by omega)
        have hDp : D (g ys (j - 1)) := by rw [e3]; exact hD p' e1 (by omega)
        have hsays : Says c lt (g ys j) (g ys (j - 1)) := by rw [hj, e3]; exact hcmp p' e1 e2
        by_cases hless : c (g ys j) (g ys (j - 1)) < 0
        · left
          have hlt2 := hsays.1 hless
          refine ⟨(((j - 1 : Nat) : Int), hS sl id (swp j (j - 1) ys)), ?_, ⟨j - 1, _, rfl, by omega, by omega, by rw [swp_length, hl], (swp_perm (by omega) (by omega)).trans hpm, fun p hp => ?_, ?_, fun p h1 h2 h3 => ?_, fun p q h1 h2 h3 h4 h5 => ?_, fun q h1 h2 => ?_⟩, by simp only [Int.toNat_natCast]; omega⟩
          · unfold slices_insertionSortCmpFunc_int.loop1
            simp -implicitDefEqProofs only [reserve0, sS_a, sS_len]
            rw [decide_eq_true (by omega), cond_true, i64n (z := (j : Int) - 1) (m := j - 1) (by omega) (by omega), Int.toNat_natCast, Int.toNat_natCast, guardO_pos (by omega), rdS hid hl (by omega)]
            simp -implicitDefEqProofs only [Option.bind_some]
            rw [guardO_pos (by omega), rdS hid hl (by omega)]
            simp -implicitDefEqProofs only [Option.bind_some]
            rw [hc _ _ ys hDj hDp hl]
            simp -implicitDefEqProofs only [pack_i, Option.bind_some]
            rw [decide_eq_true hless]
            simp -implicitDefEqProofs only [cond_true]
            rw [guardO_pos (by omega), rdS hid hl (by omega)]
            simp -implicitDefEqProofs only [Option.bind_some]
            rw [guardO_pos (by omega), rdS hid hl (by omega)]
            simp -implicitDefEqProofs only [Option.bind_some]
            rw [guardO_pos (by omega), wrS hid hl (by omega)]
            simp -implicitDefEqProofs only [Option.bind_some]
            rw [guardO_pos (by omega), wrS hid (by simpa using hl) (by omega)]
            rfl
          · rw [g_swp (by omega) (by omega), if_neg (by omega), if_neg (by omega)]
            exact hout p hp
          · rw [g_swp (by omega) (by omega), if_pos rfl, hj]
          · rw [g_swp (by omega) (by omega), if_neg h3]
            by_cases e : p = j
            · subst e; rw [if_pos rfl]; exact ⟨p', e1, e2, e3⟩
            · rw [if_neg e]; exact hE p h1 h2 e
          · rw [g_swp (by omega) (by omega), g_swp (by omega) (by omega), if_neg h4, if_neg h5]
            by_cases e : p = j
            · subst e
              rw [if_pos rfl, if_neg (by omega)]
              exact hso (p - 1) q (by omega) (by omega) h3 (by omega) (by omega)
            · rw [if_neg e]
              by_cases e' : q = j
              · subst e'
                rw [if_pos rfl]
                exact hso p (q - 1) h1 (by omega) (by omega) (by omega) (by omega)
              · rw [if_neg e']
                exact hso p q h1 h2 h3 e e'
          · rw [g_swp (by omega) (by omega), g_swp (by omega) (by omega), if_pos rfl, if_neg (by omega)]
            by_cases e : q = j
            · subst e; rw [if_pos rfl]; exact hlt2
            · rw [if_neg e]; exact hbe q (by omega) h2
        · right
          refine ⟨(.ex0 (), hS sl id ys), ?_, ys, rfl, hl, hpm, hout, hE', fun p q h1 h2 h3 => ?_⟩
          · unfold slices_insertionSortCmpFunc_int.loop1
            simp -implicitDefEqProofs only [reserve0, sS_a, sS_len]
            rw [decide_eq_true (by omega), cond_true, i64n (z := (j : Int) - 1) (m := j - 1) (by omega) (by omega), Int.toNat_natCast, Int.toNat_natCast, guardO_pos (by omega), rdS hid hl (by omega)]
            simp -implicitDefEqProofs only [Option.bind_some]
            rw [guardO_pos (by omega), rdS hid hl (by omega)]
            simp -implicitDefEqProofs only [Option.bind_some]
            rw [hc _ _ ys hDj hDp hl]
            simp -implicitDefEqProofs only [pack_i, Option.bind_some]
            rw [decide_eq_false hless]
            rfl
          · have hge := hsays.2 hless
            by_cases e : q = j
            · subst e
              by_cases e' : p = q - 1
              · subst e'; exact hge
              · exact htr _ _ _ (hso p (q - 1) h1 (by omega) (by omega) (by omega) (by omega)) hge
            · by_cases e' : p = j
              · subst e'; exact hbe q h2 h3
              · exact hso p q h1 h2 h3 e' e
      · right
        refine ⟨(.ex0 (), hS sl id ys), ?_, ys, rfl, hl, hpm, hout, hE', fun p q h1 h2 h3 => ?_⟩
        · unfold slices_insertionSortCmpFunc_int.loop1
          simp -implicitDefEqProofs only [reserve0]
          rw [decide_eq_false (by omega)]
          rfl
        · by_cases e' : p = j
          · subst e'; exact hbe q h2 h3
          · exact hso p q h1 h2 h3 e' (by omega)) FUEL ((i : Int), hS sl id xs)
    ⟨i, xs, rfl, hai, Nat.le_refl _, hn, .refl _, fun _ _ => rfl, rfl, fun p h1 h2 h3 => ⟨p, h1, by omega, rfl⟩, fun p q h1 h2 h3 h4 h5 => hs p q h1 h2 (by omega), fun q h1 h2 => by omega⟩ (fuel_gt (by
      simp only [Int.toNat_natCast]
      omega))
  obtain ⟨ys, rfl, k⟩ := hp
  exact ⟨ys, hr, k⟩
theorem insertion_ok (hid : id < sl.length) (hn63 : n < 4611686018427387904) (hc : Cmp T v sl id n D c) (htr : ∀ x y z, lt x y → lt y z → lt x z) {xs : List Int} (hn : xs.length = n) {a b : Nat} (hab : a ≤ b) (hb : b ≤ n)
    (hD : ∀ k, a ≤ k → k < b → D (g xs k)) (hcmp : ∀ p q, a ≤ p → p < q → q < b → Says c lt (g xs q) (g xs p)) :
    ∃ ys, slices_insertionSortCmpFunc_int T (sS id n t) (a : Int) (b : Int) v (hS sl id xs) = some ((), hS sl id ys) ∧ ys.length = n ∧ ys.Perm xs ∧ (∀ p, ¬ (a ≤ p ∧ p < b) → g ys p = g xs p) ∧
      (∀ p, a ≤ p → p < b → ∃ p', a ≤ p' ∧ p' < b ∧ g ys p = g xs p') ∧ ∀ p q, a ≤ p → p < q → q < b → lt (g ys p) (g ys q) := by
  obtain ⟨r, hr, hp⟩ := iter_inv (f := slices_insertionSortCmpFunc_int.loop2 T (sS id n t) (a : Int) (b : Int) v)
    (Inv := fun st => ∃ (i : Nat) (ys : List Int), st = ((i : Int), hS sl id ys) ∧ a < i ∧ (i ≤ b ∨ i = a + 1) ∧ ys.length = n ∧ ys.Perm xs ∧ (∀ p, ¬ (a ≤ p ∧ p < i ∧ p < b) → g ys p = g xs p) ∧
      (∀ p, a ≤ p → p < i → p < b → ∃ p', a ≤ p' ∧ p' < i ∧ p' < b ∧ g ys p = g xs p') ∧ ∀ p q, a ≤ p → p < q → q < i → q < b → lt (g ys p) (g ys q))
    (Post := fun r => ∃ ys, r = (.ex0 (), hS sl id ys) ∧ ys.length = n ∧ ys.Perm xs ∧ (∀ p, ¬ (a ≤ p ∧ p < b) → g ys p = g xs p) ∧
      (∀ p, a ≤ p → p < b → ∃ p', a ≤ p' ∧ p' < b ∧ g ys p = g xs p') ∧ ∀ p q, a ≤ p → p < q → q < b → lt (g ys p) (g ys q))
    (fun st => n + 1 - st.1.toNat) (fun st hi' => by
      obtain ⟨i, ys, rfl, hai, hib, hl, hpm, hout, hE, hso⟩ := hi'
      by_cases hlt : i < b
      · left
        obtain ⟨zs, h1, h2, h3, h4, h5, h6⟩ := ins_inner (t := t) hid hn63 hc htr hl (a := a) (i := i) (by omega) (by omega) (fun k k1 k2 => by
            by_cases e : k < i
            · obtain ⟨p', e1, e2, e3, e4⟩ := hE k k1 e (by omega)
              rw [e4]; exact hD p' e1 e3
            · rw [hout k (by omega)]; exact hD k k1 (by omega)) (fun p q k1 k2 k3 => hso p q k1 k2 k3 (by omega)) (fun p k1 k2 => by
            obtain ⟨p', e1, e2, e3, e4⟩ := hE p k1 k2 (by omega)
            rw [e4, hout i (by omega)]
            exact hcmp p' i e1 e2 hlt)
        refine ⟨(((i + 1 : Nat) : Int), hS sl id zs), ?_, ⟨i + 1, zs, rfl, by omega, by omega, h2, h3.trans hpm, fun p hp => ?_, fun p k1 k2 k3 => ?_, fun p q k1 k2 k3 k4 => h6 p q k1 k2 (by omega)⟩, by simp only [Int.toNat_natCast]; omega⟩
        · unfold slices_insertionSortCmpFunc_int.loop2
          simp -implicitDefEqProofs only []
          rw [decide_eq_true (by omega), cond_true, h1]
          simp -implicitDefEqProofs only [Option.bind_some]
          rw [i64_succ (by omega)]
        · rw [h4 p (by omega), hout p (by omega)]
        · obtain ⟨p', e1, e2, e3⟩ := h5 p k1 (by omega)
          rw [e3]
          by_cases e : p' < i
          · obtain ⟨p2, f1, f2, f3, f4⟩ := hE p' e1 e (by omega)
            exact ⟨p2, f1, by omega, f3, f4⟩
          · exact ⟨p', e1, by omega, by omega, hout p' (by omega)⟩
      · right
        refine ⟨(.ex0 (), hS sl id ys), ?_, ys, rfl, hl, hpm, fun p hp => hout p (by omega), fun p k1 k2 => ?_, fun p q k1 k2 k3 => hso p q k1 k2 (by omega) k3⟩
        · unfold slices_insertionSortCmpFunc_int.loop2
          simp -implicitDefEqProofs only []
          rw [decide_eq_false (by omega)]
          rfl
        · obtain ⟨p', e1, e2, e3, e4⟩ := hE p k1 (by omega) k2
          exact ⟨p', e1, e3, e4⟩) FUEL (((a + 1 : Nat) : Int), hS sl id xs)
    ⟨a + 1, xs, rfl, by omega, .inr rfl, hn, .refl _, fun _ _ => rfl, fun p h1 h2 h3 => ⟨p, h1, h2, h3, rfl⟩, fun p q h1 h2 h3 h4 => by omega⟩ (fuel_gt (by
      simp only [Int.toNat_natCast]
      omega))
  obtain ⟨ys, rfl, k⟩ := hp
  refine ⟨ys, ?_, k⟩
  unfold slices_insertionSortCmpFunc_int
  rw [i64n (z := (a : Int) + 1) (m := a + 1) (by omega) (by omega), hr]
  rfl
end sort
end Go.Proofs.Ytaepkinihaipkaa
