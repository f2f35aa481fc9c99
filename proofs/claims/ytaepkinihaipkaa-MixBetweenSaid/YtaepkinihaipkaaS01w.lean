/- What slices.SortStableFunc does with a slice of the call's own: merging two ordered ranges. Conditions: those of each law. -/
import Derived.Test.YtaepkinihaipkaaS01v
namespace Go.Proofs.Ytaepkinihaipkaa
open Go Go.Proofs.Ytaepkinihaipkaa.Ev
set_option linter.unusedVariables false
set_option linter.unusedSimpArgs false
set_option maxRecDepth 100000
set_option maxHeartbeats 8000000
section sort
variable {T : Table} {v : V} {sl : List Slot} {id n : Nat} {t : Bool} {D : Int → Prop} {c : Int → Int → Int} {lt : Int → Int → Prop}
/-- A range is put in order. -/
def Ordered (lt : Int → Int → Prop) (n a b : Nat) (xs ys : List Int) : Prop :=
  ys.length = n ∧ ys.Perm xs ∧ (∀ p, ¬ (a ≤ p ∧ p < b) → g ys p = g xs p) ∧ (∀ p, a ≤ p → p < b → ∃ p', a ≤ p' ∧ p' < b ∧ g ys p = g xs p') ∧ ∀ p q, a ≤ p → p < q → q < b → lt (g ys p) (g ys q)
theorem lt_le {lt : Int → Int → Prop} (htr : ∀ x y z, lt x y → lt y z → lt x z) {xs : List Int} {a b : Nat} (hs : ∀ p q, a ≤ p → p < q → q < b → lt (g xs p) (g xs q)) {p q : Nat} {z : Int} (h1 : a ≤ p) (h2 : p ≤ q) (h3 : q < b) (h : lt (g xs q) z) : lt (g xs p) z := by
  rcases Nat.lt_or_ge p q with h4 | h4
  · exact htr _ _ _ (hs p q h1 h4 h3) h
  · have : p = q := by omega
    subst this; exact h
theorem le_lt {lt : Int → Int → Prop} (htr : ∀ x y z, lt x y → lt y z → lt x z) {xs : List Int} {a b : Nat} (hs : ∀ p q, a ≤ p → p < q → q < b → lt (g xs p) (g xs q)) {p q : Nat} {z : Int} (h1 : a ≤ p) (h2 : p ≤ q) (h3 : q < b) (h : lt z (g xs p)) : lt z (g xs q) := by
  rcases Nat.lt_or_ge p q with h4 | h4
  · exact htr _ _ _ h (hs p q h1 h4 h3)
  · have : p = q := by omega
    subst this; exact h
/-- One element on the left. -/
theorem merge_left (hid : id < sl.length) (hn63 : n < 4611686018427387904) (hc : Cmp T v sl id n D c) (htr : ∀ x y z, lt x y → lt y z → lt x z) {xs : List Int} (hn : xs.length = n) {a b : Nat} (hab : a + 1 < b) (hb : b ≤ n)
    (hD : ∀ k, a ≤ k → k < b → D (g xs k)) (hs2 : ∀ p q, a + 1 ≤ p → p < q → q < b → lt (g xs p) (g xs q)) (hsays : ∀ q, a + 1 ≤ q → q < b → Says c lt (g xs q) (g xs a)) :
    ∃ (s : Nat) (ys : List Int), iter FUEL (slices_symMergeCmpFunc_int.loop1 T (sS id n t) (a : Int) v) ((((a + 1 : Nat) : Int), (b : Int)), hS sl id xs) = some (.ex0 (s : Int), hS sl id xs) ∧
      iter FUEL (slices_symMergeCmpFunc_int.loop2 T (sS id n t) (s : Int)) ((a : Int), hS sl id xs) = some (.ex0 (), hS sl id ys) ∧ Ordered lt n a b xs ys := by
  obtain ⟨s, h1, h2, h3, h4, h5⟩ := bsearch (f := slices_symMergeCmpFunc_int.loop1 T (sS id n t) (a : Int) v) (hh := hS sl id xs) (lo := a + 1) (hi := b) (by omega) (by omega) (fun k => decide (c (g xs k) (g xs a) < 0)) (fun k => lt (g xs k) (g xs a)) (fun k => lt (g xs a) (g xs k))
    (fun i j k1 k2 k3 => by
      unfold slices_symMergeCmpFunc_int.loop1
      simp -implicitDefEqProofs only [reserve0, sS_a, sS_len]
      rw [decide_eq_true (by omega), cond_true, half_ok (by omega), Int.toNat_natCast, Int.toNat_natCast, guardO_pos (by omega), rdS hid hn (by omega)]
      simp -implicitDefEqProofs only [Option.bind_some]
      rw [guardO_pos (by omega), rdS hid hn (by omega)]
      simp -implicitDefEqProofs only [Option.bind_some]
      rw [hc _ _ xs (hD _ (by omega) (by omega)) (hD _ (by omega) (by omega)) hn]
      simp -implicitDefEqProofs only [pack_i, Option.bind_some]
      rw [i64_succ (by omega)]
      by_cases hl : c (g xs ((i + j) / 2)) (g xs a) < 0
      · simp -implicitDefEqProofs only [decide_eq_true hl, cond_true, if_true]; rfl
      · simp -implicitDefEqProofs only [decide_eq_false hl, cond_false]; rfl)
    (fun i => by
      unfold slices_symMergeCmpFunc_int.loop1
      simp -implicitDefEqProofs only []
      rw [decide_eq_false (by omega)]
      rfl)
    (fun k k1 k2 k3 k' k4 k5 => lt_le htr hs2 k4 k5 k2 ((hsays k k1 k2).1 (of_decide_eq_true k3)))
    (fun k k1 k2 k3 k' k4 k5 => le_lt htr hs2 k1 k4 k5 ((hsays k k1 k2).2 (of_decide_eq_false k3)))
  obtain ⟨ys, g1, g2, g3, g4⟩ := carryR (T := T) (t := t) hid hn63 hn (a := a) (i := s) (by omega) (by omega)
  refine ⟨s, ys, h1, g1, g2, g3, fun p hp => ?_, fun p p1 p2 => ?_, fun p q p1 p2 p3 => ?_⟩
  · rw [g4, if_neg (by omega), if_neg (by omega)]
  · rw [g4]
    by_cases c1 : a ≤ p ∧ p < s - 1
    · rw [if_pos c1]; exact ⟨p + 1, by omega, by omega, rfl⟩
    · rw [if_neg c1]
      by_cases c2 : p = s - 1
      · rw [if_pos c2]; exact ⟨a, by omega, by omega, rfl⟩
      · rw [if_neg c2]; exact ⟨p, p1, p2, rfl⟩
  · rw [g4, g4]
    by_cases c1 : p < s - 1
    · rw [if_pos (by omega)]
      by_cases c2 : q < s - 1
      · rw [if_pos (by omega)]; exact hs2 _ _ (by omega) (by omega) (by omega)
      · rw [if_neg (by omega)]
        by_cases c3 : q = s - 1
        · rw [if_pos c3]; exact h4 _ (by omega) (by omega)
        · rw [if_neg c3]; exact hs2 _ _ (by omega) (by omega) (by omega)
    · rw [if_neg (by omega)]
      by_cases c3 : p = s - 1
      · rw [if_pos c3, if_neg (by omega), if_neg (by omega)]; exact h5 _ (by omega) (by omega)
      · rw [if_neg c3, if_neg (by omega), if_neg (by omega)]; exact hs2 _ _ (by omega) (by omega) (by omega)
/-- One element on the right. -/
theorem merge_right (hid : id < sl.length) (hn63 : n < 4611686018427387904) (hc : Cmp T v sl id n D c) (htr : ∀ x y z, lt x y → lt y z → lt x z) {xs : List Int} (hn : xs.length = n) {a m : Nat} (ham : a < m) (hm : m < n)
    (hD : ∀ k, a ≤ k → k < m + 1 → D (g xs k)) (hs1 : ∀ p q, a ≤ p → p < q → q < m → lt (g xs p) (g xs q)) (hsays : ∀ p, a ≤ p → p < m → Says c lt (g xs m) (g xs p)) :
    ∃ (s : Nat) (ys : List Int), iter FUEL (slices_symMergeCmpFunc_int.loop3 T (sS id n t) (m : Int) v) (((a : Int), (m : Int)), hS sl id xs) = some (.ex0 (s : Int), hS sl id xs) ∧
      iter FUEL (slices_symMergeCmpFunc_int.loop4 T (sS id n t) (s : Int)) ((m : Int), hS sl id xs) = some (.ex0 (), hS sl id ys) ∧ Ordered lt n a (m + 1) xs ys := by
  obtain ⟨s, h1, h2, h3, h4, h5⟩ := bsearch (f := slices_symMergeCmpFunc_int.loop3 T (sS id n t) (m : Int) v) (hh := hS sl id xs) (lo := a) (hi := m) (by omega) (by omega) (fun k => !decide (c (g xs m) (g xs k) < 0)) (fun k => lt (g xs k) (g xs m)) (fun k => lt (g xs m) (g xs k))
    (fun i j k1 k2 k3 => by
      unfold slices_symMergeCmpFunc_int.loop3
      simp -implicitDefEqProofs only [reserve0, sS_a, sS_len]
      rw [decide_eq_true (by omega), cond_true, half_ok (by omega), Int.toNat_natCast, Int.toNat_natCast, guardO_pos (by omega), rdS hid hn (by omega)]
      simp -implicitDefEqProofs only [Option.bind_some]
      rw [guardO_pos (by omega), rdS hid hn (by omega)]
      simp -implicitDefEqProofs only [Option.bind_some]
      rw [hc _ _ xs (hD _ (by omega) (by omega)) (hD _ (by omega) (by omega)) hn]
      simp -implicitDefEqProofs only [pack_i, Option.bind_some]
      rw [i64_succ (by omega)]
      by_cases hl : c (g xs m) (g xs ((i + j) / 2)) < 0
      · simp -implicitDefEqProofs only [decide_eq_true hl, cond_true, cond_false, Bool.not_true]; rfl
      · simp -implicitDefEqProofs only [decide_eq_false hl, cond_true, cond_false, Bool.not_false, if_true]; rfl)
    (fun i => by
      unfold slices_symMergeCmpFunc_int.loop3
      simp -implicitDefEqProofs only []
      rw [decide_eq_false (by omega)]
      rfl)
    (fun k k1 k2 k3 k' k4 k5 => lt_le htr hs1 k4 k5 k2 ((hsays k k1 k2).2 (by simpa using k3)))
    (fun k k1 k2 k3 k' k4 k5 => le_lt htr hs1 k1 k4 k5 ((hsays k k1 k2).1 (by simpa using k3)))
  obtain ⟨ys, g1, g2, g3, g4⟩ := carryL (T := T) (t := t) hid hn63 hn (m := m) (i := s) (by omega) (by omega)
  refine ⟨s, ys, h1, g1, g2, g3, fun p hp => ?_, fun p p1 p2 => ?_, fun p q p1 p2 p3 => ?_⟩
  · rw [g4, if_neg (by omega), if_neg (by omega)]
  · rw [g4]
    by_cases c1 : s < p ∧ p ≤ m
    · rw [if_pos c1]; exact ⟨p - 1, by omega, by omega, rfl⟩
    · rw [if_neg c1]
      by_cases c2 : p = s
      · rw [if_pos c2]; exact ⟨m, by omega, by omega, rfl⟩
      · rw [if_neg c2]; exact ⟨p, p1, p2, rfl⟩
  · rw [g4, g4]
    by_cases c1 : p < s
    · rw [if_neg (show ¬ (s < p ∧ p ≤ m) by omega), if_neg (by omega)]
      by_cases c2 : s < q
      · rw [if_pos (by omega)]; exact hs1 _ _ (by omega) (by omega) (by omega)
      · rw [if_neg (by omega)]
        by_cases c3 : q = s
        · rw [if_pos c3]; exact h4 _ (by omega) (by omega)
        · rw [if_neg c3]; exact hs1 _ _ (by omega) (by omega) (by omega)
    · by_cases c3 : p = s
      · rw [if_neg (show ¬ (s < p ∧ p ≤ m) by omega), if_pos c3, if_pos (by omega)]; exact h5 _ (by omega) (by omega)
      · rw [if_pos (show s < p ∧ p ≤ m by omega), if_pos (by omega)]; exact hs1 _ _ (by omega) (by omega) (by omega)
theorem symMerge_ok (hid : id < sl.length) (hn63 : n < 1152921504606846976) (hc : Cmp T v sl id n D c) (htr : ∀ x y z, lt x y → lt y z → lt x z) : ∀ (d a m b : Nat) (xs : List Int), xs.length = n → a < m → m < b → b ≤ n → b - a ≤ 2 ^ d →
    (∀ k, a ≤ k → k < b → D (g xs k)) → (∀ p q, a ≤ p → p < q → q < m → lt (g xs p) (g xs q)) → (∀ p q, m ≤ p → p < q → q < b → lt (g xs p) (g xs q)) → (∀ p q, a ≤ p → p < m → m ≤ q → q < b → Says c lt (g xs q) (g xs p)) →
    ∃ ys, slices_symMergeCmpFunc_int.lev T d (sS id n t) (a : Int) (m : Int) (b : Int) v (hS sl id xs) = some ((), hS sl id ys) ∧ Ordered lt n a b xs ys
  | 0, a, m, b, xs, hn, ham, hmb, hb, hd, hD, hs1, hs2, hsays => by omega
  | d + 1, a, m, b, xs, hn, ham, hmb, hb, hd, hD, hs1, hs2, hsays => by
    show ∃ ys, slices_symMergeCmpFunc_int.step T (slices_symMergeCmpFunc_int.lev T d) (sS id n t) (a : Int) (m : Int) (b : Int) v (hS sl id xs) = some ((), hS sl id ys) ∧ Ordered lt n a b xs ys
    unfold slices_symMergeCmpFunc_int.step
    rw [i64n (z := (m : Int) - a) (m := m - a) (by omega) (by omega)]
    by_cases h1 : m - a = 1
    · have hma : m = a + 1 := by omega
      subst hma
      obtain ⟨s, ys, k1, k2, k3⟩ := merge_left (t := t) hid (by omega) hc htr hn (a := a) (b := b) (by omega) hb hD hs2 (fun q q1 q2 => hsays a q (Nat.le_refl _) (by omega) q1 q2)
      refine ⟨ys, ?_, k3⟩
      rw [decide_eq_true (by omega), k1]
      simp -implicitDefEqProofs only [cond_true, Option.bind_some]
      rw [k2]
      rfl
    · rw [decide_eq_false (show ¬ (((m - a : Nat) : Int) = 1) by omega), i64n (z := (b : Int) - m) (m := b - m) (by omega) (by omega)]
      simp -implicitDefEqProofs only [cond_false]
      by_cases h2 : b - m = 1
      · have hbm : b = m + 1 := by omega
        subst hbm
        obtain ⟨s, ys, k1, k2, k3⟩ := merge_right (t := t) hid (by omega) hc htr hn (a := a) (m := m) ham (by omega) hD hs1 (fun p p1 p2 => hsays p m p1 p2 (Nat.le_refl _) (by omega))
        refine ⟨ys, ?_, k3⟩
        rw [decide_eq_true (by omega), k1]
        simp -implicitDefEqProofs only [cond_true, Option.bind_some]
        rw [k2]
        rfl
      · rw [decide_eq_false (show ¬ (((b - m : Nat) : Int) = 1) by omega), half_ok (i := a) (j := b) (by omega)]
        simp -implicitDefEqProofs only [cond_false]
        obtain ⟨mid, hmid⟩ : ∃ mid, mid = (a + b) / 2 := ⟨_, rfl⟩
        rw [← hmid, i64n (z := (mid : Int) + m) (m := mid + m) (by omega) (by omega)]
        obtain ⟨lo, hlo⟩ : ∃ lo, lo = if mid < m then mid + m - b else a := ⟨_, rfl⟩
        obtain ⟨hi, hhi⟩ : ∃ hi, hi = if mid < m then mid else m := ⟨_, rfl⟩
        have hcond : (bif decide ((mid : Int) < (m : Int)) then (some (.next (IntKind.wrap .i64 (((mid + m : Nat) : Int) - (b : Int)), (mid : Int)), hS sl id xs) : Option (Flow (Int × Int) Unit × H)) else some (.next ((a : Int), (m : Int)), hS sl id xs)) = some (.next ((lo : Int), (hi : Int)), hS sl id xs) := by
          by_cases e : mid < m
          · rw [decide_eq_true (by omega), i64n (z := ((mid + m : Nat) : Int) - b) (m := mid + m - b) (by omega) (by omega), hlo, hhi, if_pos e, if_pos e]; rfl
          · rw [decide_eq_false (by omega), hlo, hhi, if_neg e, if_neg e]; rfl
        rw [hcond]
        simp -implicitDefEqProofs only [Option.bind_some]
        have b1 : lo ≤ hi ∧ a ≤ lo ∧ hi ≤ m ∧ hi ≤ mid ∧ (lo = a ∨ lo = mid + m - b) ∧ (hi = mid ∨ hi = m) ∧ mid + m - lo ≤ b := by
          by_cases e : mid < m
          · rw [if_pos e] at hlo hhi; omega
          · rw [if_neg e] at hlo hhi; omega
        clear hlo hhi hcond
        obtain ⟨b1, b2, b3, b4, b5, b6, b7⟩ := b1
        obtain ⟨s, g1, g2, g3, g4, g5⟩ := bsearch (f := slices_symMergeCmpFunc_int.loop5 T (sS id n t) (a : Int) (m : Int) (b : Int) v) (hh := hS sl id xs) (lo := lo) (hi := hi) b1 (by omega) (fun k => !decide (c (g xs (mid + m - 1 - k)) (g xs k) < 0)) (fun k => lt (g xs k) (g xs (mid + m - 1 - k))) (fun k => lt (g xs (mid + m - 1 - k)) (g xs k))
          (fun i j k1 k2 k3 => by
            unfold slices_symMergeCmpFunc_int.loop5
            simp -implicitDefEqProofs only [reserve0, sS_a, sS_len]
            rw [decide_eq_true (by omega), cond_true, half_ok (i := a) (j := b) (by omega), half_ok (i := i) (j := j) (by omega), ← hmid, i64n (z := (mid : Int) + m) (m := mid + m) (by omega) (by omega), i64n (z := ((mid + m : Nat) : Int) - 1) (m := mid + m - 1) (by omega) (by omega), i64n (z := ((mid + m - 1 : Nat) : Int) - (((i + j) / 2 : Nat) : Int)) (m := mid + m - 1 - (i + j) / 2) (by omega) (by omega), Int.toNat_natCast, Int.toNat_natCast, guardO_pos (by omega), rdS hid hn (by omega)]
            simp -implicitDefEqProofs only [Option.bind_some]
            rw [guardO_pos (by omega), rdS hid hn (by omega)]
            simp -implicitDefEqProofs only [Option.bind_some]
            rw [hc _ _ xs (hD _ (by omega) (by omega)) (hD _ (by omega) (by omega)) hn]
            simp -implicitDefEqProofs only [pack_i, Option.bind_some]
            rw [i64_succ (by omega)]
            by_cases hl : c (g xs (mid + m - 1 - (i + j) / 2)) (g xs ((i + j) / 2)) < 0
            · simp -implicitDefEqProofs only [decide_eq_true hl, cond_true, cond_false, Bool.not_true]; rfl
            · simp -implicitDefEqProofs only [decide_eq_false hl, cond_true, cond_false, Bool.not_false, if_true]; rfl)
          (fun i => by
            unfold slices_symMergeCmpFunc_int.loop5
            simp -implicitDefEqProofs only []
            rw [decide_eq_false (by omega)]
            rfl)
          (fun k k1 k2 k3 k' k4 k5 => by
            have h0 := (hsays k (mid + m - 1 - k) (by omega) (by omega) (by omega) (by omega)).2 (by simpa using k3)
            exact lt_le htr hs1 (by omega) k5 (by omega) (le_lt htr hs2 (p := mid + m - 1 - k) (by omega) (by omega) (by omega) h0))
          (fun k k1 k2 k3 k' k4 k5 => by
            have h0 := (hsays k (mid + m - 1 - k) (by omega) (by omega) (by omega) (by omega)).1 (by simpa using k3)
            exact le_lt htr hs1 (p := k) (by omega) k4 (by omega) (lt_le htr hs2 (p := mid + m - 1 - k') (q := mid + m - 1 - k) (by omega) (by omega) (by omega) h0))
        rw [g1]
        simp -implicitDefEqProofs only [Option.bind_some]
        obtain ⟨e, he⟩ : ∃ e, e = mid + m - s := ⟨_, rfl⟩
        rw [i64n (z := ((mid + m : Nat) : Int) - s) (m := e) (by omega) (by omega)]
        -- what lies across the middle
        have F1 : a < s → e < b → lt (g xs (s - 1)) (g xs e) := fun h1 h2 => by
          have := g4 (s - 1) (by omega) (by omega)
          rwa [show mid + m - 1 - (s - 1) = e by omega] at this
        have F2 : s < m → m < e → lt (g xs (e - 1)) (g xs s) := fun h1 h2 => by
          have := g5 s (Nat.le_refl _) (by omega)
          rwa [show mid + m - 1 - s = e - 1 by omega] at this
        clear g4 g5 g1
        -- the rotation
        have hrot : ∃ ys, ((bif decide ((s : Int) < (m : Int)) then some (decide ((m : Int) < (e : Int)), hS sl id xs) else some (false, hS sl id xs) : Option (Bool × H)).bind fun x => (bif x.1 then ((slices_rotateCmpFunc_int (slices_symMergeCmpFunc_int.tb T) (sS id n t) (s : Int) (m : Int) (e : Int) v x.2).bind fun x => some (.next (), x.2)) else some (.next (), x.2) : Option (Flow Unit Unit × H))) = some (.next (), hS sl id ys) ∧
            ys.length = n ∧ ys.Perm xs ∧ ∀ p, g ys p = if s ≤ p ∧ p < mid then g xs (p + (m - s)) else if mid ≤ p ∧ p < e then g xs (p - (e - m)) else g xs p := by
          by_cases r1 : s < m ∧ m < e
          · obtain ⟨ys, k1, k2, k3, k4⟩ := rotate_ok (T := slices_symMergeCmpFunc_int.tb T) (v := v) (t := t) hid (by omega) hn (a := s) (m := m) (b := e) r1.1 r1.2 (by omega)
            refine ⟨ys, ?_, k2, k3, fun p => ?_⟩
            · rw [decide_eq_true (by omega), decide_eq_true (by omega)]
              simp -implicitDefEqProofs only [cond_true, Option.bind_some, k1]
            · rw [k4 p, show s + (e - m) = mid by omega]
          · refine ⟨xs, ?_, hn, .refl _, fun p => ?_⟩
            · by_cases r2 : s < m
              · rw [decide_eq_true (by omega), decide_eq_false (by omega)]; rfl
              · rw [decide_eq_false (by omega)]; rfl
            · by_cases c1 : s ≤ p ∧ p < mid
              · rw [if_pos c1]; congr 1; omega
              · rw [if_neg c1]
                by_cases c2 : mid ≤ p ∧ p < e
                · rw [if_pos c2]; congr 1; omega
                · rw [if_neg c2]
        obtain ⟨ys, r1, r2, r3, r4⟩ := hrot
        have ysL : ∀ p, a ≤ p → p < s → g ys p = g xs p := fun p h1 h2 => by rw [r4, if_neg (by omega), if_neg (by omega)]
        have ysM : ∀ p, s ≤ p → p < mid → g ys p = g xs (p + (m - s)) := fun p h1 h2 => by rw [r4, if_pos ⟨h1, h2⟩]
        have ysN : ∀ p, mid ≤ p → p < e → g ys p = g xs (p - (e - m)) := fun p h1 h2 => by rw [r4, if_neg (by omega), if_pos ⟨h1, h2⟩]
        have ysR : ∀ p, e ≤ p → g ys p = g xs p := fun p h1 => by rw [r4, if_neg (by omega), if_neg (by omega)]
        have hDy : ∀ k, a ≤ k → k < b → D (g ys k) := fun k h1 h2 => by
          by_cases c1 : k < s
          · rw [ysL k h1 c1]; exact hD k h1 h2
          · by_cases c2 : k < mid
            · rw [ysM k (by omega) c2]; exact hD _ (by omega) (by omega)
            · by_cases c3 : k < e
              · rw [ysN k (by omega) c3]; exact hD _ (by omega) (by omega)
              · rw [ysR k (by omega)]; exact hD k h1 h2
        rw [← Option.bind_assoc, r1]
        simp -implicitDefEqProofs only [Option.bind_some]
        have s1 : ∀ p q, a ≤ p → p < q → q < s → lt (g ys p) (g ys q) := fun p q h1 h2 h3 => by rw [ysL p h1 (by omega), ysL q (by omega) h3]; exact hs1 p q h1 h2 (by omega)
        have s2 : ∀ p q, s ≤ p → p < q → q < mid → lt (g ys p) (g ys q) := fun p q h1 h2 h3 => by rw [ysM p h1 (by omega), ysM q (by omega) h3]; exact hs2 _ _ (by omega) (by omega) (by omega)
        have s3 : ∀ p q, mid ≤ p → p < q → q < e → lt (g ys p) (g ys q) := fun p q h1 h2 h3 => by rw [ysN p h1 (by omega), ysN q (by omega) h3]; exact hs1 _ _ (by omega) (by omega) (by omega)
        have s4 : ∀ p q, e ≤ p → p < q → q < b → lt (g ys p) (g ys q) := fun p q h1 h2 h3 => by rw [ysR p h1, ysR q (by omega)]; exact hs2 _ _ (by omega) (by omega) (by omega)
        -- the left half
        have hleft : ∃ zs, ((bif decide ((a : Int) < (s : Int)) then some (decide ((s : Int) < (mid : Int)), hS sl id ys) else some (false, hS sl id ys) : Option (Bool × H)).bind fun x => (bif x.1 then ((slices_symMergeCmpFunc_int.lev T d (sS id n t) (a : Int) (s : Int) (mid : Int) v x.2).bind fun x => some (.next (), x.2)) else some (.next (), x.2) : Option (Flow Unit Unit × H))) = some (.next (), hS sl id zs) ∧ Ordered lt n a mid ys zs := by
          by_cases c1 : a < s ∧ s < mid
          · obtain ⟨zs, k1, k2⟩ := symMerge_ok hid hn63 hc htr d a s mid ys r2 c1.1 c1.2 (by omega) (by rw [Nat.pow_succ] at hd; omega) (fun k h1 h2 => hDy k h1 (by omega)) s1 s2 (fun p q h1 h2 h3 h4 => by
              rw [ysL p h1 h2, ysM q h3 h4]; exact hsays _ _ h1 (by omega) (by omega) (by omega))
            refine ⟨zs, ?_, k2⟩
            rw [decide_eq_true (by omega), decide_eq_true (by omega)]
            simp -implicitDefEqProofs only [cond_true, Option.bind_some, k1]
          · refine ⟨ys, ?_, r2, .refl _, fun _ _ => rfl, fun p h1 h2 => ⟨p, h1, h2, rfl⟩, fun p q h1 h2 h3 => ?_⟩
            · by_cases c2 : a < s
              · rw [decide_eq_true (by omega), decide_eq_false (by omega)]; rfl
              · rw [decide_eq_false (by omega)]; rfl
            · by_cases c2 : a < s
              · exact s1 p q h1 h2 (by omega)
              · exact s2 p q (by omega) h2 h3
        obtain ⟨zs, l1, l2, l3, l4, l5, l6⟩ := hleft
        rw [← Option.bind_assoc, l1]
        simp -implicitDefEqProofs only [Option.bind_some]
        have zR : ∀ p, mid ≤ p → g zs p = g ys p := fun p h => l4 p (by omega)
        -- the right half
        have hright : ∃ ws, ((bif decide ((mid : Int) < (e : Int)) then some (decide ((e : Int) < (b : Int)), hS sl id zs) else some (false, hS sl id zs) : Option (Bool × H)).bind fun x => (bif x.1 then ((slices_symMergeCmpFunc_int.lev T d (sS id n t) (mid : Int) (e : Int) (b : Int) v x.2).bind fun x => some (.next (), x.2)) else some (.next (), x.2) : Option (Flow Unit Unit × H))) = some (.next (), hS sl id ws) ∧ Ordered lt n mid b zs ws := by
          by_cases c1 : mid < e ∧ e < b
          · obtain ⟨ws, k1, k2⟩ := symMerge_ok hid hn63 hc htr d mid e b zs l2 c1.1 c1.2 (by omega) (by rw [Nat.pow_succ] at hd; omega) (fun k h1 h2 => by rw [zR k h1]; exact hDy k (by omega) h2) (fun p q h1 h2 h3 => by rw [zR p h1, zR q (by omega)]; exact s3 p q h1 h2 h3) (fun p q h1 h2 h3 => by rw [zR p (by omega), zR q (by omega)]; exact s4 p q h1 h2 h3) (fun p q h1 h2 h3 h4 => by
              rw [zR p h1, zR q (by omega), ysN p h1 h2, ysR q h3]; exact hsays _ _ (by omega) (by omega) (by omega) (by omega))
            refine ⟨ws, ?_, k2⟩
            rw [decide_eq_true (by omega), decide_eq_true (by omega)]
            simp -implicitDefEqProofs only [cond_true, Option.bind_some, k1]
          · refine ⟨zs, ?_, l2, .refl _, fun _ _ => rfl, fun p h1 h2 => ⟨p, h1, h2, rfl⟩, fun p q h1 h2 h3 => ?_⟩
            · by_cases c2 : mid < e
              · rw [decide_eq_true (by omega), decide_eq_false (by omega)]; rfl
              · rw [decide_eq_false (by omega)]; rfl
            · rw [zR p h1, zR q (by omega)]
              by_cases c2 : mid < e
              · exact s3 p q h1 h2 (by omega)
              · exact s4 p q (by omega) h2 h3
        obtain ⟨ws, w1, w2, w3, w4, w5, w6⟩ := hright
        rw [← Option.bind_assoc, w1]
        simp -implicitDefEqProofs only [Option.bind_some]
        refine ⟨ws, rfl, w2, w3.trans (l3.trans r3), fun p hp => ?_, fun p h1 h2 => ?_, fun p q h1 h2 h3 => ?_⟩
        · rw [w4 p (by omega), l4 p (by omega), r4, if_neg (by omega), if_neg (by omega)]
        · have hy : ∃ p', a ≤ p' ∧ p' < b ∧ g ws p = g ys p' := by
            by_cases c1 : p < mid
            · obtain ⟨p', k1, k2, k3⟩ := l5 p h1 c1
              exact ⟨p', k1, by omega, by rw [w4 p (by omega), k3]⟩
            · obtain ⟨p', k1, k2, k3⟩ := w5 p (by omega) h2
              exact ⟨p', by omega, k2, by rw [k3, zR p' k1]⟩
          obtain ⟨p', k1, k2, k3⟩ := hy
          rw [k3]
          by_cases c1 : p' < s
          · exact ⟨p', k1, k2, ysL p' k1 c1⟩
          · by_cases c2 : p' < mid
            · exact ⟨_, by omega, by omega, ysM p' (by omega) c2⟩
            · by_cases c3 : p' < e
              · exact ⟨_, by omega, by omega, ysN p' (by omega) c3⟩
              · exact ⟨p', k1, k2, ysR p' (by omega)⟩
        · by_cases c1 : q < mid
          · rw [w4 p (by omega), w4 q (by omega)]
            exact l6 p q h1 h2 c1
          · by_cases c2 : mid ≤ p
            · exact w6 p q c2 h2 h3
            · obtain ⟨p', k1, k2, k3⟩ := l5 p h1 (by omega)
              obtain ⟨q', k4, k5, k6⟩ := w5 q (by omega) h3
              rw [w4 p (by omega), k3, k6, zR q' k4]
              by_cases d1 : p' < s
              · rw [ysL p' k1 d1]
                by_cases d2 : q' < e
                · rw [ysN q' k4 d2]
                  exact hs1 _ _ k1 (by omega) (by omega)
                · rw [ysR q' (by omega)]
                  exact lt_le htr hs1 k1 (show p' ≤ s - 1 by omega) (by omega) (le_lt htr hs2 (p := e) (q := q') (by omega) (by omega) (by omega) (F1 (by omega) (by omega)))
              · rw [ysM p' (by omega) k2]
                by_cases d2 : q' < e
                · rw [ysN q' k4 d2]
                  exact lt_le htr hs2 (by omega) (show p' + (m - s) ≤ e - 1 by omega) (by omega) (le_lt htr hs1 (p := s) (q := q' - (e - m)) (by omega) (by omega) (by omega) (F2 (by omega) (by omega)))
                · rw [ysR q' (by omega)]
                  exact hs2 _ _ (by omega) (by omega) (by omega)
end sort
end Go.Proofs.Ytaepkinihaipkaa
