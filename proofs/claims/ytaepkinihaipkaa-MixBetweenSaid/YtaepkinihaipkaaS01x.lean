/- What slices.SortStableFunc does with a slice of the call's own of at most 64 numbers. Conditions: those of each law. -/
import Derived.Test.YtaepkinihaipkaaS01w
namespace Go.Proofs.Ytaepkinihaipkaa
open Go Go.Proofs.Ytaepkinihaipkaa.Ev
set_option linter.unusedVariables false
set_option linter.unusedSimpArgs false
set_option maxRecDepth 100000
set_option maxHeartbeats 8000000
theorem iter_more {S F : Type} {f : S → Option (Stp S F)} {s s' : S} {k : Nat} (h : f s = some (.more s')) : iter (k + 1) f s = iter k f s' := by simp [iter, h]
theorem iter_done {S F : Type} {f : S → Option (Stp S F)} {s : S} {x : F} {k : Nat} (h : f s = some (.done x)) : iter (k + 1) f s = some x := by simp [iter, h]
theorem fuel3 : FUEL = FUEL - 3 + 1 + 1 + 1 := by unfold FUEL; omega
section sort
variable {T : Table} {v : V} {sl : List Slot} {id n : Nat} {t : Bool} {D : Int → Prop} {c : Int → Int → Int} {lt : Int → Int → Prop}
/-- In blocks of a size all is in order, and each number stays in its block. -/
def Blocks (lt : Int → Int → Prop) (n w : Nat) (xs ys : List Int) : Prop :=
  ys.length = n ∧ ys.Perm xs ∧ (∀ p, p < n → ∃ p', p' < n ∧ p' / w = p / w ∧ g ys p = g xs p') ∧ ∀ p q, p < q → q < n → p / w = q / w → lt (g ys p) (g ys q)
theorem blocks20 (hid : id < sl.length) (hn64 : n ≤ 64) (hc : Cmp T v sl id n D c) (htr : ∀ x y z, lt x y → lt y z → lt x z) {xs : List Int} (hn : xs.length = n)
    (hD : ∀ k, k < n → D (g xs k)) (hsays : ∀ p q, p < q → q < n → Says c lt (g xs q) (g xs p)) :
    ∃ (a : Nat) (ys zs : List Int), iter FUEL (slices_stableCmpFunc_int.loop1 T (sS id n t) (n : Int) v) ((0, 20), hS sl id xs) = some (.ex0 (a : Int), hS sl id ys) ∧
      slices_insertionSortCmpFunc_int (slices_stableCmpFunc_int.tb T) (sS id n t) (a : Int) (n : Int) v (hS sl id ys) = some ((), hS sl id zs) ∧ Blocks lt n 20 xs zs := by
  obtain ⟨r, hr, hp⟩ := iter_inv (f := slices_stableCmpFunc_int.loop1 T (sS id n t) (n : Int) v)
    (Inv := fun st => ∃ (k : Nat) (ys : List Int), st = ((((20 * k : Nat) : Int), ((20 * k + 20 : Nat) : Int)), hS sl id ys) ∧ 20 * k ≤ n ∧ ys.length = n ∧ ys.Perm xs ∧ (∀ p, 20 * k ≤ p → g ys p = g xs p) ∧
      (∀ p, p < 20 * k → ∃ p', p' < 20 * k ∧ p' / 20 = p / 20 ∧ g ys p = g xs p') ∧ ∀ p q, p < q → q < 20 * k → p / 20 = q / 20 → lt (g ys p) (g ys q))
    (Post := fun r => ∃ (k : Nat) (ys : List Int), r = (.ex0 ((20 * k : Nat) : Int), hS sl id ys) ∧ 20 * k ≤ n ∧ n < 20 * k + 20 ∧ ys.length = n ∧ ys.Perm xs ∧ (∀ p, 20 * k ≤ p → g ys p = g xs p) ∧
      (∀ p, p < 20 * k → ∃ p', p' < 20 * k ∧ p' / 20 = p / 20 ∧ g ys p = g xs p') ∧ ∀ p q, p < q → q < 20 * k → p / 20 = q / 20 → lt (g ys p) (g ys q))
    (fun st => n + 20 - st.1.2.toNat) (fun st hi' => by
      obtain ⟨k, ys, rfl, hk, hl, hpm, hout, hE, hso⟩ := hi'
      by_cases hlt : 20 * k + 20 ≤ n
      · left
        obtain ⟨zs, h1, h2, h3, h4, h5, h6⟩ := insertion_ok (T := slices_stableCmpFunc_int.tb T) (t := t) hid (by omega) (fun x y xs => hc x y xs) htr hl (a := 20 * k) (b := 20 * k + 20) (by omega) hlt (fun p p1 p2 => by rw [hout p p1]; exact hD p (by omega)) (fun p q p1 p2 p3 => by
          rw [hout p p1, hout q (by omega)]; exact hsays p q p2 (by omega))
        refine ⟨((((20 * (k + 1) : Nat) : Int), ((20 * (k + 1) + 20 : Nat) : Int)), hS sl id zs), ?_, ⟨k + 1, zs, rfl, by omega, h2, h3.trans hpm, fun p hp => ?_, fun p hp => ?_, fun p q h7 h8 h9 => ?_⟩, by simp only [Int.toNat_natCast]; omega⟩
        · unfold slices_stableCmpFunc_int.loop1
          simp -implicitDefEqProofs only []
          rw [decide_eq_true (by omega), cond_true, h1]
          simp -implicitDefEqProofs only [Option.bind_some]
          rw [i64n (z := ((20 * k + 20 : Nat) : Int) + 20) (m := 20 * (k + 1) + 20) (by omega) (by omega)]
          rfl
        · rw [h4 p (by omega), hout p (by omega)]
        · by_cases c1 : p < 20 * k
          · obtain ⟨p', e1, e2, e3⟩ := hE p c1
            exact ⟨p', by omega, e2, by rw [h4 p (by omega), e3]⟩
          · obtain ⟨p', e1, e2, e3⟩ := h5 p (by omega) (by omega)
            exact ⟨p', by omega, by omega, by rw [e3, hout p' e1]⟩
        · by_cases c1 : q < 20 * k
          · rw [h4 p (by omega), h4 q (by omega)]
            exact hso p q h7 c1 h9
          · exact h6 p q (by omega) h7 (by omega)
      · right
        refine ⟨_, ?_, k, ys, rfl, hk, by omega, hl, hpm, hout, hE, hso⟩
        unfold slices_stableCmpFunc_int.loop1
        simp -implicitDefEqProofs only []
        rw [decide_eq_false (by omega), cond_false]) FUEL ((0, 20), hS sl id xs) ⟨0, xs, rfl, by omega, hn, .refl _, fun _ _ => rfl, fun p hp => by omega, fun p q h1 h2 => by omega⟩ (fuel_gt (by
      show n + 20 - (20 : Int).toNat < 2 ^ 69
      omega))
  obtain ⟨k, ys, rfl, hk, hk2, hl, hpm, hout, hE, hso⟩ := hp
  obtain ⟨zs, h1, h2, h3, h4, h5, h6⟩ := insertion_ok (T := slices_stableCmpFunc_int.tb T) (t := t) hid (by omega) (fun x y xs => hc x y xs) htr hl (a := 20 * k) (b := n) hk (Nat.le_refl _) (fun p p1 p2 => by rw [hout p p1]; exact hD p p2) (fun p q p1 p2 p3 => by
    rw [hout p p1, hout q (by omega)]; exact hsays p q p2 p3)
  refine ⟨20 * k, ys, zs, hr, h1, h2, h3.trans hpm, fun p hp => ?_, fun p q h7 h8 h9 => ?_⟩
  · by_cases c1 : p < 20 * k
    · obtain ⟨p', e1, e2, e3⟩ := hE p c1
      exact ⟨p', by omega, e2, by rw [h4 p (by omega), e3]⟩
    · obtain ⟨p', e1, e2, e3⟩ := h5 p (by omega) hp
      exact ⟨p', e2, by omega, by rw [e3, hout p' e1]⟩
  · by_cases c1 : q < 20 * k
    · rw [h4 p (by omega), h4 q (by omega)]
      exact hso p q h7 c1 h9
    · exact h6 p q (by omega) h7 h8
/-- Two blocks are merged. -/
theorem mergeBlocks (hid : id < sl.length) (hn64 : n ≤ 64) (hc : Cmp T v sl id n D c) (htr : ∀ x y z, lt x y → lt y z → lt x z) {xs ys : List Int} (hn : ys.length = n) {w a m b : Nat} (hw : 0 < w) (ham : a < m) (hmb : m < b) (hb : b ≤ n)
    (hD : ∀ k, k < n → D (g xs k)) (hsays : ∀ p q, p < q → q < n → Says c lt (g xs q) (g xs p)) (hE : ∀ p, a ≤ p → p < b → ∃ p', p' < n ∧ p' / w = p / w ∧ g ys p = g xs p')
    (h1 : ∀ p q, a ≤ p → p < q → q < m → lt (g ys p) (g ys q)) (h2 : ∀ p q, m ≤ p → p < q → q < b → lt (g ys p) (g ys q)) (hcut : ∀ p q, p < m → m ≤ q → p / w < q / w) :
    ∃ zs, slices_symMergeCmpFunc_int T (sS id n t) (a : Int) (m : Int) (b : Int) v (hS sl id ys) = some ((), hS sl id zs) ∧ Ordered lt n a b ys zs := by
  refine symMerge_ok hid (by omega) hc htr 40 a m b ys hn ham hmb hb (by omega) (fun k k1 k2 => ?_) h1 h2 (fun p q p1 p2 p3 p4 => ?_)
  · obtain ⟨p', e1, e2, e3⟩ := hE k k1 k2
    rw [e3]; exact hD p' e1
  · obtain ⟨p', e1, e2, e3⟩ := hE p p1 (by omega)
    obtain ⟨q', f1, f2, f3⟩ := hE q (by omega) p4
    rw [e3, f3]
    have hc := hcut p q p2 p3
    refine hsays p' q' ?_ f1
    rw [← e2, ← f2] at hc
    exact Nat.lt_of_not_le fun h => Nat.not_lt.2 (Nat.div_le_div_right (c := w) h) hc
theorem SortStable_ok (hid : id < sl.length) (hn64 : n ≤ 64) (hc : Cmp T v sl id n D c) (htr : ∀ x y z, lt x y → lt y z → lt x z) {xs : List Int} (hn : xs.length = n)
    (hD : ∀ k, k < n → D (g xs k)) (hsays : ∀ p q, p < q → q < n → Says c lt (g xs q) (g xs p)) :
    ∃ ys, slices_SortStableFunc_int_int T (sS id n t) v (hS sl id xs) = some ((), hS sl id ys) ∧ ys.length = n ∧ ys.Perm xs ∧ ∀ p q, p < q → q < n → lt (g ys p) (g ys q) := by
  unfold slices_SortStableFunc_int_int slices_stableCmpFunc_int
  simp -implicitDefEqProofs only [sS_len]
  obtain ⟨a, ys0, ys, h1, h2, hl, hpm, hE, hso⟩ := blocks20 (T := slices_SortStableFunc_int_int.tb T) (t := t) hid hn64 (fun x y xs => hc x y xs) htr hn hD hsays
  rw [h1]
  simp -implicitDefEqProofs only [Option.bind_some]
  rw [h2]
  simp -implicitDefEqProofs only [Option.bind_some]
  have hc' : Cmp (slices_stableCmpFunc_int.tb (slices_SortStableFunc_int_int.tb T)) v sl id n D c := fun x y xs => hc x y xs
  have fin : ∃ zs, iter FUEL (slices_stableCmpFunc_int.loop3 (slices_SortStableFunc_int_int.tb T) (sS id n t) (n : Int) v) (20, hS sl id ys) = some (.ex0 (), hS sl id zs) ∧ zs.length = n ∧ zs.Perm xs ∧ ∀ p q, p < q → q < n → lt (g zs p) (g zs q) := by
    by_cases c1 : 20 < n
    · by_cases c2 : 40 ≤ n
      · -- the first two blocks
        obtain ⟨zs, k1, k2, k3, k4, k5, k6⟩ := mergeBlocks (t := t) hid hn64 hc' htr (xs := xs) hl (w := 20) (a := 0) (m := 20) (b := 40) (by omega) (by omega) (by omega) c2 hD hsays (fun p _ hp => hE p (by omega)) (fun p q _ p2 p3 => hso p q p2 (by omega) (by omega)) (fun p q p1 p2 p3 => hso p q p2 (by omega) (by omega)) (fun p q p1 p2 => by omega)
        have hE2 : ∀ p, p < n → ∃ p', p' < n ∧ p' / 20 = p / 20 ∧ g zs p = g xs p' ∨ p < 40 := fun p hp => by
          by_cases e : p < 40
          · exact ⟨0, .inr e⟩
          · obtain ⟨p', e1, e2, e3⟩ := hE p hp
            exact ⟨p', .inl ⟨e1, e2, by rw [k4 p (by omega), e3]⟩⟩
        have hE3 : ∀ p, p < n → p < 40 → ∃ p', p' < 40 ∧ g zs p = g xs p' := fun p hp h40 => by
          obtain ⟨p', e1, e2, e3⟩ := k5 p (by omega) h40
          obtain ⟨p2, f1, f2, f3⟩ := hE p' (by omega)
          exact ⟨p2, by omega, by rw [e3, f3]⟩
        have step2 : slices_stableCmpFunc_int.loop2 (slices_SortStableFunc_int_int.tb T) (sS id n t) (n : Int) v 20 ((0, 40), hS sl id ys) = some (.more ((40, 80), hS sl id zs)) := by
          unfold slices_stableCmpFunc_int.loop2
          simp -implicitDefEqProofs only []
          rw [decide_eq_true (by omega), cond_true, show IntKind.wrap .i64 ((0 : Int) + 20) = ((20 : Nat) : Int) from rfl, show (0 : Int) = ((0 : Nat) : Int) from rfl, show (40 : Int) = ((40 : Nat) : Int) from rfl, k1]
          rfl
        have stop2 : slices_stableCmpFunc_int.loop2 (slices_SortStableFunc_int_int.tb T) (sS id n t) (n : Int) v 20 ((40, 80), hS sl id zs) = some (.done (.ex0 40, hS sl id zs)) := by
          unfold slices_stableCmpFunc_int.loop2
          simp -implicitDefEqProofs only []
          rw [decide_eq_false (by omega), cond_false]
        have inner : iter FUEL (slices_stableCmpFunc_int.loop2 (slices_SortStableFunc_int_int.tb T) (sS id n t) (n : Int) v 20) ((0, IntKind.wrap .i64 (2 * 20)), hS sl id ys) = some (.ex0 40, hS sl id zs) := by
          rw [fuel3, show IntKind.wrap .i64 ((2 : Int) * 20) = 40 from rfl, iter_more step2, iter_done stop2]
        -- the blocks behind them
        have rest : ∃ ws, ((bif decide (IntKind.wrap .i64 ((40 : Int) + 20) < (n : Int)) then ((slices_symMergeCmpFunc_int (slices_stableCmpFunc_int.tb (slices_SortStableFunc_int_int.tb T)) (sS id n t) 40 (IntKind.wrap .i64 ((40 : Int) + 20)) (n : Int) v (hS sl id zs)).bind fun x => some (.next (), x.2)) else some (.next (), hS sl id zs) : Option (Flow Unit Unit × H))) = some (.next (), hS sl id ws) ∧
            ws.length = n ∧ ws.Perm xs ∧ (∀ p, p < n → ∃ p', p' < n ∧ p' / 40 = p / 40 ∧ g ws p = g xs p') ∧ ∀ p q, p < q → q < n → p / 40 = q / 40 → lt (g ws p) (g ws q) := by
          by_cases c3 : 60 < n
          · obtain ⟨ws, m1, m2, m3, m4, m5, m6⟩ := mergeBlocks (t := t) hid hn64 hc' htr (xs := xs) k2 (w := 20) (a := 40) (m := 60) (b := n) (by omega) (by omega) c3 (Nat.le_refl _) hD hsays (fun p p1 p2 => by
                obtain ⟨p', h | h⟩ := hE2 p p2
                · exact ⟨p', h⟩
                · omega) (fun p q p1 p2 p3 => by rw [k4 p (by omega), k4 q (by omega)]; exact hso p q p2 (by omega) (by omega)) (fun p q p1 p2 p3 => by rw [k4 p (by omega), k4 q (by omega)]; exact hso p q p2 (by omega) (by omega)) (fun p q p1 p2 => by omega)
            refine ⟨ws, ?_, m2, m3.trans (k3.trans hpm), fun p hp => ?_, fun p q p1 p2 p3 => ?_⟩
            · rw [show IntKind.wrap .i64 ((40 : Int) + 20) = ((60 : Nat) : Int) from rfl, decide_eq_true (by omega), cond_true, show (40 : Int) = ((40 : Nat) : Int) from rfl, m1]
              rfl
            · by_cases e : p < 40
              · obtain ⟨p', e1, e2⟩ := hE3 p hp e
                exact ⟨p', by omega, by omega, by rw [m4 p (by omega), e2]⟩
              · obtain ⟨p', e1, e2, e3⟩ := m5 p (by omega) hp
                obtain ⟨p2, h | h⟩ := hE2 p' e2
                · exact ⟨p2, h.1, by omega, by rw [e3, h.2.2]⟩
                · omega
            · by_cases e : q < 40
              · rw [m4 p (by omega), m4 q (by omega)]; exact k6 p q (by omega) p1 e
              · exact m6 p q (by omega) p1 p2
          · refine ⟨zs, ?_, k2, k3.trans hpm, fun p hp => ?_, fun p q p1 p2 p3 => ?_⟩
            · rw [show IntKind.wrap .i64 ((40 : Int) + 20) = ((60 : Nat) : Int) from rfl, decide_eq_false (by omega)]; rfl
            · by_cases e : p < 40
              · obtain ⟨p', e1, e2⟩ := hE3 p hp e
                exact ⟨p', by omega, by omega, e2⟩
              · obtain ⟨p2, h | h⟩ := hE2 p hp
                · exact ⟨p2, h.1, by omega, h.2.2⟩
                · omega
            · by_cases e : q < 40
              · exact k6 p q (by omega) p1 e
              · rw [k4 p (by omega), k4 q (by omega)]; exact hso p q p1 p2 (by omega)
        obtain ⟨ws, r1, r2, r3, r4, r5⟩ := rest
        have step3 : slices_stableCmpFunc_int.loop3 (slices_SortStableFunc_int_int.tb T) (sS id n t) (n : Int) v (20, hS sl id ys) = some (.more (40, hS sl id ws)) := by
          unfold slices_stableCmpFunc_int.loop3
          simp -implicitDefEqProofs only []
          rw [decide_eq_true (by omega), cond_true, inner]
          simp -implicitDefEqProofs only [Option.bind_some]
          rw [r1]
          rfl
        by_cases c4 : 40 < n
        · obtain ⟨us, u1, u2, u3, u4, u5, u6⟩ := mergeBlocks (t := t) hid hn64 hc' htr (xs := xs) r2 (w := 40) (a := 0) (m := 40) (b := n) (by omega) (by omega) c4 (Nat.le_refl _) hD hsays (fun p _ hp => r4 p hp) (fun p q _ p2 p3 => r5 p q p2 (by omega) (by omega)) (fun p q p1 p2 p3 => r5 p q p2 p3 (by omega)) (fun p q p1 p2 => by omega)
          have stop4 : slices_stableCmpFunc_int.loop2 (slices_SortStableFunc_int_int.tb T) (sS id n t) (n : Int) v 40 ((0, 80), hS sl id ws) = some (.done (.ex0 0, hS sl id ws)) := by
            unfold slices_stableCmpFunc_int.loop2
            simp -implicitDefEqProofs only []
            rw [decide_eq_false (by omega), cond_false]
          have step4 : slices_stableCmpFunc_int.loop3 (slices_SortStableFunc_int_int.tb T) (sS id n t) (n : Int) v (40, hS sl id ws) = some (.more (80, hS sl id us)) := by
            unfold slices_stableCmpFunc_int.loop3
            simp -implicitDefEqProofs only []
            rw [decide_eq_true (by omega), cond_true, fuel3, show IntKind.wrap .i64 ((2 : Int) * 40) = 80 from rfl, iter_done stop4]
            simp -implicitDefEqProofs only [Option.bind_some]
            rw [show IntKind.wrap .i64 ((0 : Int) + 40) = ((40 : Nat) : Int) from rfl, decide_eq_true (by omega), cond_true, show (0 : Int) = ((0 : Nat) : Int) from rfl, u1]
            rfl
          have stop5 : slices_stableCmpFunc_int.loop3 (slices_SortStableFunc_int_int.tb T) (sS id n t) (n : Int) v (80, hS sl id us) = some (.done (.ex0 (), hS sl id us)) := by
            unfold slices_stableCmpFunc_int.loop3
            simp -implicitDefEqProofs only []
            rw [decide_eq_false (by omega), cond_false]
          exact ⟨us, by rw [fuel3, iter_more step3, iter_more step4, iter_done stop5], u2, u3.trans r3, fun p q p1 p2 => u6 p q (by omega) p1 p2⟩
        · have stop5 : slices_stableCmpFunc_int.loop3 (slices_SortStableFunc_int_int.tb T) (sS id n t) (n : Int) v (40, hS sl id ws) = some (.done (.ex0 (), hS sl id ws)) := by
            unfold slices_stableCmpFunc_int.loop3
            simp -implicitDefEqProofs only []
            rw [decide_eq_false (by omega), cond_false]
          exact ⟨ws, by rw [fuel3, iter_more step3, iter_done stop5], r2, r3, fun p q p1 p2 => r5 p q p1 p2 (by omega)⟩
      · -- one block and a part of another one
        obtain ⟨us, u1, u2, u3, u4, u5, u6⟩ := mergeBlocks (t := t) hid hn64 hc' htr (xs := xs) hl (w := 20) (a := 0) (m := 20) (b := n) (by omega) (by omega) c1 (Nat.le_refl _) hD hsays (fun p _ hp => hE p hp) (fun p q _ p2 p3 => hso p q p2 (by omega) (by omega)) (fun p q p1 p2 p3 => hso p q p2 p3 (by omega)) (fun p q p1 p2 => by omega)
        have stop4 : slices_stableCmpFunc_int.loop2 (slices_SortStableFunc_int_int.tb T) (sS id n t) (n : Int) v 20 ((0, 40), hS sl id ys) = some (.done (.ex0 0, hS sl id ys)) := by
          unfold slices_stableCmpFunc_int.loop2
          simp -implicitDefEqProofs only []
          rw [decide_eq_false (by omega), cond_false]
        have step4 : slices_stableCmpFunc_int.loop3 (slices_SortStableFunc_int_int.tb T) (sS id n t) (n : Int) v (20, hS sl id ys) = some (.more (40, hS sl id us)) := by
          unfold slices_stableCmpFunc_int.loop3
          simp -implicitDefEqProofs only []
          rw [decide_eq_true (by omega), cond_true, fuel3, show IntKind.wrap .i64 ((2 : Int) * 20) = 40 from rfl, iter_done stop4]
          simp -implicitDefEqProofs only [Option.bind_some]
          rw [show IntKind.wrap .i64 ((0 : Int) + 20) = ((20 : Nat) : Int) from rfl, decide_eq_true (by omega), cond_true, show (0 : Int) = ((0 : Nat) : Int) from rfl, u1]
          rfl
        have stop5 : slices_stableCmpFunc_int.loop3 (slices_SortStableFunc_int_int.tb T) (sS id n t) (n : Int) v (40, hS sl id us) = some (.done (.ex0 (), hS sl id us)) := by
          unfold slices_stableCmpFunc_int.loop3
          simp -implicitDefEqProofs only []
          rw [decide_eq_false (by omega), cond_false]
        exact ⟨us, by rw [fuel3, iter_more step4, iter_done stop5], u2, u3.trans hpm, fun p q p1 p2 => u6 p q (by omega) p1 p2⟩
    · have stop5 : slices_stableCmpFunc_int.loop3 (slices_SortStableFunc_int_int.tb T) (sS id n t) (n : Int) v (20, hS sl id ys) = some (.done (.ex0 (), hS sl id ys)) := by
        unfold slices_stableCmpFunc_int.loop3
        simp -implicitDefEqProofs only []
        rw [decide_eq_false (by omega), cond_false]
      exact ⟨ys, by rw [fuel3, iter_done stop5], hl, hpm, fun p q p1 p2 => hso p q p1 p2 (by omega)⟩
  obtain ⟨zs, f1, f2, f3, f4⟩ := fin
  rw [f1]
  exact ⟨zs, rfl, f2, f3, f4⟩
end sort
end Go.Proofs.Ytaepkinihaipkaa
