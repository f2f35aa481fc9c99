/- What the functions of this seat compute: some texts in one. Conditions: those of each law. -/
import Derived.Test.YtbcpdecgfdlaaaaShLo1
/- lot.Check and that of the reference, as far as errors go. Conditions: those of each law. -/
namespace Go.Proofs.Ytbcpdecgfdlaaaa
open Go Go.Proofs.Ytbcpdecgfdlaaaa.Ev
set_option linter.unusedVariables false
set_option linter.unusedSimpArgs false
set_option maxRecDepth 100000
set_option maxHeartbeats 4000000
theorem id_code {n : Int} {h : H} : (bif !(decide (n < 1)) then some ((decide ((1073741824 : Int) < n)), h) else some (true, h) : Option (Bool × H)) = some (!okId n, h) := by
  unfold okId
  by_cases h1 : n < 1
  · rw [decide_eq_true h1, decide_eq_false (p := _ ∧ _) (by omega)]; rfl
  · rw [decide_eq_false h1]
    by_cases h2 : (1073741824 : Int) < n
    · rw [decide_eq_true h2, decide_eq_false (p := _ ∧ _) (by omega)]; rfl
    · rw [decide_eq_false h2, decide_eq_true (p := _ ∧ _) (by omega)]; rfl
theorem Fault_ok (l : List LotT) {i : Nat} (hi : i < l.length) (hl : l.length < 2 ^ 62) : lot_faultP l (i : Int) = some (lfault l i) := by
  have hg1 : 0 ≤ (i : Int) ∧ (i : Int) < (l.length : Int) := by omega
  have hx := atL_some hi
  have hprev : 0 < i → l[i - 1]? = some (atL l (i - 1)) := fun h => atL_some (by omega)
  unfold lot_faultP lot_fault lfault
  generalize atL l i = x at *
  obtain ⟨d, a, m, xs⟩ := x
  simp -implicitDefEqProofs only [evs, reduceIte, rdRes, rdTT, rdTy, rdLT, Res.un, TT.un, Ty.un, LT.un, Leaf.un, Leaf.plain, LT.plain, Int.toNat_natCast, guardO_pos hg1]
  rw [rd_lot hx]
  simp -implicitDefEqProofs only [evs, reduceIte, rdRes, rdTT, rdTy, rdLT, Res.un, TT.un, Ty.un, LT.un, Leaf.un, Leaf.plain, LT.plain, hL_empty, hL_new, hL_next, List.nil_append, List.length_nil]
  have nw := new_cL (sl := []) (x := (d, a, m, rowSV false j2 xs))
  have e0 : ([] ++ [cL (d, a, m, rowSV false j2 xs)])[0]? = some (cL (d, a, m, rowSV false j2 xs)) := rfl
  have r0 := rd_cL e0
  have r1 := rdl_cL e0
  have r2 := rds_cL e0
  simp only [cL, rowSV_len, rowSV_cap, rowSV_tail, List.nil_append, List.length_nil] at nw r0 r1 r2
  rw [nw]
  simp -implicitDefEqProofs only [evs, reduceIte, rdRes, rdTT, rdTy, rdLT, Res.un, TT.un, Ty.un, LT.un, Leaf.un, Leaf.plain, LT.plain]
  rw [r0.1]
  simp -implicitDefEqProofs only [evs, reduceIte, rdRes, rdTT, rdTy, rdLT, Res.un, TT.un, Ty.un, LT.un, Leaf.un, Leaf.plain, LT.plain]
  rw [id_code]
  simp -implicitDefEqProofs only [evs, reduceIte, rdRes, rdTT, rdTy, rdLT, Res.un, TT.un, Ty.un, LT.un, Leaf.un, Leaf.plain, LT.plain]
  cases hid : okId d with
  | false =>
    simp -implicitDefEqProofs only [evs, reduceIte, rdRes, rdTT, rdTy, rdLT, Res.un, TT.un, Ty.un, LT.un, Leaf.un, Leaf.plain, LT.plain, Bool.false_eq_true]
  | true =>
    simp -implicitDefEqProofs only [evs, reduceIte, rdRes, rdTT, rdTy, rdLT, Res.un, TT.un, Ty.un, LT.un, Leaf.un, Leaf.plain, LT.plain, eq_self]
    have rest : ((((rdT (.agg [.int .i64, .int .i64]) (hL [cL (d, a, m, rowSV false j2 xs)]) (.hp 0 4 1)).bind fun (x13_0, x13_1) => ((lot_plainP (x13_0, x13_1)).bind fun r14 =>
        (bif !(!r14) then ((rdT (.leaf (.int .i64)) (hL [cL (d, a, m, rowSV false j2 xs)]) (.hp 0 4 2)).bind fun x15 => (some ((decide (x15 = 0)), (hL [cL (d, a, m, rowSV false j2 xs)])))) else (some (true, (hL [cL (d, a, m, rowSV false j2 xs)]))))))).bind fun (y16, h17) =>
        (bif y16 then (some ((1 : Int), h17)) else ((rdT (.agg [.int .i64, .int .i64, .int .i64, .slice]) h17 (.hp 0 4 0)).bind fun (x18_0, x18_1, x18_2, x18_3) => ((rdRow true h17 [.int .i64, .int .i64] x18_3).bind fun s20 =>
        ((lot_sharesP (x18_0, x18_1, x18_2, s20)).bind fun r19 => (some (r19, h17))))))) = some (oneOf (d, a, m, xs), hL [cL (d, a, m, rowSV false j2 xs)]) := by
      unfold oneOf
      simp only [cL, rowSV_len, rowSV_cap, rowSV_tail]
      rw [r1]
      simp -implicitDefEqProofs only [evs, reduceIte, rdRes, rdTT, rdTy, rdLT, Res.un, TT.un, Ty.un, LT.un, Leaf.un, Leaf.plain, LT.plain]
      rw [lplain_ok]
      simp -implicitDefEqProofs only [evs, reduceIte, rdRes, rdTT, rdTy, rdLT, Res.un, TT.un, Ty.un, LT.un, Leaf.un, Leaf.plain, LT.plain]
      cases hp : isPlain (a, m) with
      | false => simp -implicitDefEqProofs only [evs, reduceIte, rdRes, rdTT, rdTy, rdLT, Res.un, TT.un, Ty.un, LT.un, Leaf.un, Leaf.plain, LT.plain, Bool.false_eq_true, false_and]
      | true =>
        simp -implicitDefEqProofs only [evs, reduceIte, rdRes, rdTT, rdTy, rdLT, Res.un, TT.un, Ty.un, LT.un, Leaf.un, Leaf.plain, LT.plain, eq_self, true_and]
        rw [r0.2.2.1]
        simp -implicitDefEqProofs only [evs, reduceIte, rdRes, rdTT, rdTy, rdLT, Res.un, TT.un, Ty.un, LT.un, Leaf.un, Leaf.plain, LT.plain]
        by_cases hm : m = 0
        · rw [decide_eq_true hm, if_neg (fun h => h hm)]; simp -implicitDefEqProofs only [evs, reduceIte, rdRes, rdTT, rdTy, rdLT, Res.un, TT.un, Ty.un, LT.un, Leaf.un, Leaf.plain, LT.plain]
        · rw [decide_eq_false hm, if_pos hm]
          simp -implicitDefEqProofs only [evs, reduceIte, rdRes, rdTT, rdTy, rdLT, Res.un, TT.un, Ty.un, LT.un, Leaf.un, Leaf.plain, LT.plain]
          rw [r2]
          simp -implicitDefEqProofs only [evs, reduceIte, rdRes, rdTT, rdTy, rdLT, Res.un, TT.un, Ty.un, LT.un, Leaf.un, Leaf.plain, LT.plain]
          rw [Lshares_ok]
          simp -implicitDefEqProofs only [evs, reduceIte, rdRes, rdTT, rdTy, rdLT, Res.un, TT.un, Ty.un, LT.un, Leaf.un, Leaf.plain, LT.plain]
    simp only [cL, rowSV_len, rowSV_cap, rowSV_tail] at rest
    by_cases h0 : 0 < i
    · have hg2 : 0 ≤ ((i - 1 : Nat) : Int) ∧ ((i - 1 : Nat) : Int) < (l.length : Int) := by omega
      have hpr := hprev h0
      rw [decide_eq_true (show (0 : Int) < (i : Int) by omega), show (i : Int) - 1 = ((i - 1 : Nat) : Int) by omega, i64_nat (by omega)]
      simp -implicitDefEqProofs only [evs, reduceIte, rdRes, rdTT, rdTy, rdLT, Res.un, TT.un, Ty.un, LT.un, Leaf.un, Leaf.plain, LT.plain, Int.toNat_natCast, guardO_pos hg2]
      rw [guardO_pos (nn_lot (show i - 1 < l.length by omega)), rd_lot0 hpr]
      simp -implicitDefEqProofs only [evs, reduceIte, rdRes, rdTT, rdTy, rdLT, Res.un, TT.un, Ty.un, LT.un, Leaf.un, Leaf.plain, LT.plain]
      rw [r0.1]
      simp -implicitDefEqProofs only [evs, reduceIte, rdRes, rdTT, rdTy, rdLT, Res.un, TT.un, Ty.un, LT.un, Leaf.un, Leaf.plain, LT.plain]
      by_cases hle : d ≤ (atL l (i - 1)).1
      · rw [decide_eq_true hle, if_pos (show 0 < i ∧ d ≤ (atL l (i - 1)).1 from ⟨h0, hle⟩)]
        simp -implicitDefEqProofs only [evs, reduceIte, rdRes, rdTT, rdTy, rdLT, Res.un, TT.un, Ty.un, LT.un, Leaf.un, Leaf.plain, LT.plain]
      · rw [decide_eq_false hle, if_neg (show ¬ (0 < i ∧ d ≤ (atL l (i - 1)).1) from fun h => hle h.2)]
        simp -implicitDefEqProofs only [evs, reduceIte, rdRes, rdTT, rdTy, rdLT, Res.un, TT.un, Ty.un, LT.un, Leaf.un, Leaf.plain, LT.plain]
        rw [rest]
        simp -implicitDefEqProofs only [evs, reduceIte, rdRes, rdTT, rdTy, rdLT, Res.un, TT.un, Ty.un, LT.un, Leaf.un, Leaf.plain, LT.plain]
    · rw [decide_eq_false (show ¬ (0 : Int) < (i : Int) by omega), if_neg (show ¬ (0 < i ∧ d ≤ (atL l (i - 1)).1) from fun h => h0 h.1)]
      simp -implicitDefEqProofs only [evs, reduceIte, rdRes, rdTT, rdTy, rdLT, Res.un, TT.un, Ty.un, LT.un, Leaf.un, Leaf.plain, LT.plain]
      rw [rest]
      simp -implicitDefEqProofs only [evs, reduceIte, rdRes, rdTT, rdTy, rdLT, Res.un, TT.un, Ty.un, LT.un, Leaf.un, Leaf.plain, LT.plain]
theorem LCheck_ok (l : List LotT) (hl : l.length < 2 ^ 62) : ∃ j, lot_CheckP l = some (j, lotErr l) := by
  unfold lot_CheckP lot_Check lotErr
  by_cases h32 : 32 < l.length
  · rw [if_pos h32, rowSV_len, decide_eq_true (show (32 : Int) < (l.length : Int) by omega)]
    simp -implicitDefEqProofs only [evs, reduceIte, rdRes, rdTT, rdTy, rdLT, Res.un, TT.un, Ty.un, LT.un, Leaf.un, Leaf.plain, LT.plain]
    exact ⟨_, rfl⟩
  · rw [if_neg h32, rowSV_len, decide_eq_false (show ¬ (32 : Int) < (l.length : Int) by omega)]
    simp -implicitDefEqProofs only [evs, reduceIte, rdRes, rdTT, rdTy, rdLT, Res.un, TT.un, Ty.un, LT.un, Leaf.un, Leaf.plain, LT.plain]
    have step : ∀ i, i < l.length → lot_Check.loop1 (rowSV false jL l) ((i : Int), H.empty) = some (if lfault l i = 0 then .more (((i + 1 : Nat) : Int), H.empty) else .done (.ret ((i : Int), lfault l i), H.empty)) := fun i hi => by
      unfold lot_Check.loop1
      simp -implicitDefEqProofs only [evs, reduceIte, rdRes, rdTT, rdTy, rdLT, Res.un, TT.un, Ty.un, LT.un, Leaf.un, Leaf.plain, LT.plain]
      rw [decide_eq_true (show (i : Int) < (l.length : Int) by omega)]
      simp -implicitDefEqProofs only [evs, reduceIte, rdRes, rdTT, rdTy, rdLT, Res.un, TT.un, Ty.un, LT.un, Leaf.un, Leaf.plain, LT.plain]
      rw [Fault_ok l hi hl]
      simp -implicitDefEqProofs only [evs, reduceIte, rdRes, rdTT, rdTy, rdLT, Res.un, TT.un, Ty.un, LT.un, Leaf.un, Leaf.plain, LT.plain]
      by_cases hf : lfault l i = 0
      · rw [decide_eq_true hf, if_pos hf]
        simp -implicitDefEqProofs only [evs, reduceIte, rdRes, rdTT, rdTy, rdLT, Res.un, TT.un, Ty.un, LT.un, Leaf.un, Leaf.plain, LT.plain]
        rw [i64_succ (by omega)]
      · rw [decide_eq_false hf, if_neg hf]
        simp -implicitDefEqProofs only [evs, reduceIte, rdRes, rdTT, rdTy, rdLT, Res.un, TT.un, Ty.un, LT.un, Leaf.un, Leaf.plain, LT.plain]
    rcases first_cases (lfault l) l.length with ⟨h1, h2⟩ | ⟨n, h1, h2, h3, h4⟩
    · rw [h2, iter_from (s0 := ((0 : Int), H.empty)) (f := lot_Check.loop1 (rowSV false jL l)) (x := (.ex0 (), H.empty)) (fun i => ((i : Int), H.empty)) rfl l.length FUEL (fun i hi => by
        rw [step i hi, if_pos (h1 i hi)]) (by
        unfold lot_Check.loop1
        simp -implicitDefEqProofs only [rowSV_len]
        rw [decide_eq_false (by omega), cond_false]) (fuel_gt (by omega))]
      simp -implicitDefEqProofs only [evs, reduceIte, rdRes, rdTT, rdTy, rdLT, Res.un, TT.un, Ty.un, LT.un, Leaf.un, Leaf.plain, LT.plain]
      exact ⟨_, rfl⟩
    · rw [h4, iter_from (s0 := ((0 : Int), H.empty)) (f := lot_Check.loop1 (rowSV false jL l)) (x := (.ret ((n : Int), lfault l n), H.empty)) (fun i => ((i : Int), H.empty)) rfl n FUEL (fun i hi => by
        rw [step i (by omega), if_pos (h3 i hi)]) (by
        rw [step n h1, if_neg h2]) (fuel_gt (by omega))]
      simp -implicitDefEqProofs only [evs, reduceIte, rdRes, rdTT, rdTy, rdLT, Res.un, TT.un, Ty.un, LT.un, Leaf.un, Leaf.plain, LT.plain]
      exact ⟨_, rfl⟩
/-! The reference -/
theorem rId_ok (n : Int) : spileref22_IDP n = some (okId n) := by
  unfold spileref22_IDP spileref22_ID okId
  by_cases h1 : (1 : Int) ≤ n
  · rw [decide_eq_true h1]
    simp -implicitDefEqProofs only [evs, reduceIte, rdRes, rdTT, rdTy, rdLT, Res.un, TT.un, Ty.un, LT.un, Leaf.un, Leaf.plain, LT.plain]
    by_cases h2 : n ≤ 1073741824
    · rw [decide_eq_true h2, decide_eq_true (p := _ ∧ _) (by omega)]
    · rw [decide_eq_false h2, decide_eq_false (p := _ ∧ _) (by omega)]
  · rw [decide_eq_false h1, decide_eq_false (p := _ ∧ _) (by omega)]
    simp -implicitDefEqProofs only [evs, reduceIte, rdRes, rdTT, rdTy, rdLT, Res.un, TT.un, Ty.un, LT.un, Leaf.un, Leaf.plain, LT.plain]
theorem Sid_ok (n : Int) : share_idP n = some (okId n) := by
  unfold share_idP share_id okId
  by_cases h1 : (1 : Int) ≤ n
  · rw [decide_eq_true h1]
    simp -implicitDefEqProofs only [evs, reduceIte, rdRes, rdTT, rdTy, rdLT, Res.un, TT.un, Ty.un, LT.un, Leaf.un, Leaf.plain, LT.plain]
    by_cases h2 : n ≤ 1073741824
    · rw [decide_eq_true h2, decide_eq_true (p := _ ∧ _) (by omega)]
    · rw [decide_eq_false h2, decide_eq_false (p := _ ∧ _) (by omega)]
  · rw [decide_eq_false h1, decide_eq_false (p := _ ∧ _) (by omega)]
    simp -implicitDefEqProofs only [evs, reduceIte, rdRes, rdTT, rdTy, rdLT, Res.un, TT.un, Ty.un, LT.un, Leaf.un, Leaf.plain, LT.plain]
def rshares (xs : List (Int × Int)) : Int := if 32 < xs.length then 12 else if firstF (sfault xs) xs.length = 0 then 0 else 10
theorem rshares_step {xs : List (Int × Int)} {f : Bool} {h : H} {i : Nat} (hi : i < xs.length) (h32 : xs.length ≤ 32) :
    spileref22_Shares.loop1 (rowSV f j2 xs) ((i : Int), h) = some (if sfault xs i = 0 then .more (((i + 1 : Nat) : Int), h) else .done (.ret 10, h)) := by
  have hg1 : 0 ≤ (i : Int) ∧ (i : Int) < (xs.length : Int) := by omega
  unfold spileref22_Shares.loop1
  simp -implicitDefEqProofs only [Int.toNat_natCast, rowSV_len, guardO_pos hg1, reserve0, guardO_pos (nn_at2 hi), (rd_at2 hi).1, (rd_at2 hi).2, Option.bind_some]
  rw [decide_eq_true hg1.2, cond_true, okS_and]
  unfold sfault
  cases hok : okS (at2 xs i) with
  | false =>
    simp -implicitDefEqProofs only [evs, reduceIte, rdRes, rdTT, rdTy, rdLT, Res.un, TT.un, Ty.un, LT.un, Leaf.un, Leaf.plain, LT.plain, Bool.false_eq_true]
    rw [if_neg (by simp)]
  | true =>
    simp -implicitDefEqProofs only [evs, reduceIte, rdRes, rdTT, rdTy, rdLT, Res.un, TT.un, Ty.un, LT.un, Leaf.un, Leaf.plain, LT.plain, eq_self]
    cases i with
    | zero =>
      rw [decide_eq_false (show ¬ (0 : Int) < ((0 : Nat) : Int) by omega)]
      simp -implicitDefEqProofs only [evs, reduceIte, rdRes, rdTT, rdTy, rdLT, Res.un, TT.un, Ty.un, LT.un, Leaf.un, Leaf.plain, LT.plain, Bool.false_eq_true]
      rw [if_neg (show ¬ ((0 : Nat) < 0 ∧ _) by omega), if_pos rfl, i64_succ (by omega)]
    | succ j =>
      have hj : ((j + 1 : Nat) : Int) - 1 = ((j : Nat) : Int) := by omega
      have hg2 : 0 ≤ (j : Int) ∧ (j : Int) < (xs.length : Int) := by omega
      rw [decide_eq_true (show (0 : Int) < ((j + 1 : Nat) : Int) by omega), hj, i64_in (j : Int) (by omega)]
      simp -implicitDefEqProofs only [evs, reduceIte, rdRes, rdTT, rdTy, rdLT, Res.un, TT.un, Ty.un, LT.un, Leaf.un, Leaf.plain, LT.plain, Int.toNat_natCast]
      rw [guardO_pos hg2, guardO_pos (nn_at2 (by omega)), (rd_at2 (by omega)).1]
      simp -implicitDefEqProofs only [evs, reduceIte, rdRes, rdTT, rdTy, rdLT, Res.un, TT.un, Ty.un, LT.un, Leaf.un, Leaf.plain, LT.plain]
      rw [Nat.add_sub_cancel]
      by_cases hle : (at2 xs (j + 1)).1 ≤ (at2 xs j).1
      · rw [decide_eq_true hle, if_pos (show (0 < j + 1 ∧ (at2 xs (j + 1)).1 ≤ (at2 xs j).1) from ⟨by omega, hle⟩), if_neg (by omega)]
        simp -implicitDefEqProofs only [evs, reduceIte, rdRes, rdTT, rdTy, rdLT, Res.un, TT.un, Ty.un, LT.un, Leaf.un, Leaf.plain, LT.plain]
      · rw [decide_eq_false hle, if_neg (show ¬ (0 < j + 1 ∧ (at2 xs (j + 1)).1 ≤ (at2 xs j).1) from fun h => hle h.2), if_pos rfl]
        simp -implicitDefEqProofs only [evs, reduceIte, rdRes, rdTT, rdTy, rdLT, Res.un, TT.un, Ty.un, LT.un, Leaf.un, Leaf.plain, LT.plain, Bool.false_eq_true]
        rw [i64_succ (by omega)]
theorem rShares_ok (xs : List (Int × Int)) (hl : xs.length < 2 ^ 62) : spileref22_SharesP xs = some (rshares xs) := by
  unfold spileref22_SharesP spileref22_Shares rshares
  by_cases h32 : 32 < xs.length
  · rw [if_pos h32, rowSV_len, decide_eq_true (show (32 : Int) < (xs.length : Int) by omega)]
    simp -implicitDefEqProofs only [evs, reduceIte, rdRes, rdTT, rdTy, rdLT, Res.un, TT.un, Ty.un, LT.un, Leaf.un, Leaf.plain, LT.plain]
  · rw [if_neg h32, rowSV_len, decide_eq_false (show ¬ (32 : Int) < (xs.length : Int) by omega)]
    simp -implicitDefEqProofs only [evs, reduceIte, rdRes, rdTT, rdTy, rdLT, Res.un, TT.un, Ty.un, LT.un, Leaf.un, Leaf.plain, LT.plain]
    rcases first_cases (sfault xs) xs.length with ⟨h1, h2⟩ | ⟨n, h1, h2, h3, h4⟩
    · rw [h2, if_pos rfl, iter_from (s0 := ((0 : Int), H.empty)) (f := spileref22_Shares.loop1 (rowSV false j2 xs)) (x := (.ex0 (), H.empty)) (fun i => ((i : Int), H.empty)) rfl xs.length FUEL (fun i hi => by
        rw [rshares_step hi (by omega), if_pos (h1 i hi)]) (by
        unfold spileref22_Shares.loop1
        simp -implicitDefEqProofs only [rowSV_len]
        rw [decide_eq_false (by omega), cond_false]) (fuel_gt (by omega))]
      simp -implicitDefEqProofs only [evs, reduceIte, rdRes, rdTT, rdTy, rdLT, Res.un, TT.un, Ty.un, LT.un, Leaf.un, Leaf.plain, LT.plain]
    · rw [h4, if_neg h2, iter_from (s0 := ((0 : Int), H.empty)) (f := spileref22_Shares.loop1 (rowSV false j2 xs)) (x := (.ret 10, H.empty)) (fun i => ((i : Int), H.empty)) rfl n FUEL (fun i hi => by
        rw [rshares_step (by omega) (by omega), if_pos (h3 i hi)]) (by
        rw [rshares_step h1 (by omega), if_neg h2]) (fuel_gt (by omega))]
      simp -implicitDefEqProofs only [evs, reduceIte, rdRes, rdTT, rdTy, rdLT, Res.un, TT.un, Ty.un, LT.un, Leaf.un, Leaf.plain, LT.plain]
theorem rshares_bound {xs : List (Int × Int)} (h : rshares xs = 0) : xs.length ≤ 32 ∧ firstF (sfault xs) xs.length = 0 ∧ ∀ x ∈ xs, okS x = true := by
  unfold rshares at h
  by_cases h32 : 32 < xs.length
  · rw [if_pos h32] at h; cases h
  · rw [if_neg h32] at h
    by_cases hf : firstF (sfault xs) xs.length = 0
    · refine ⟨by omega, hf, fun x hx => ?_⟩
      rcases first_cases (sfault xs) xs.length with ⟨h1, h2⟩ | ⟨n, h1, h2, h3, h4⟩
      · obtain ⟨j, hj, e⟩ := List.getElem_of_mem hx
        have := sfault_ok (h1 j hj)
        have e1 := at2_some hj
        rw [List.getElem?_eq_getElem hj, e] at e1
        rw [Option.some.inj e1]
        exact this
      · rw [h4] at hf; exact absurd hf h2
    · rw [if_neg hf] at h; cases h
theorem lshares_split (xs : List (Int × Int)) (a : Int) : lshares xs a = if rshares xs = 0 then (if sumA xs = a then 0 else 14) else rshares xs := by
  unfold lshares rshares
  by_cases h32 : 32 < xs.length
  · rw [if_pos h32, if_pos h32, if_neg (by omega)]
  · rw [if_neg h32, if_neg h32]
    by_cases hf : firstF (sfault xs) xs.length = 0
    · rw [if_pos hf, if_pos hf, if_pos rfl]
    · rw [if_neg hf, if_neg hf, if_neg (by omega)]
theorem rOne_ok (y : LotT) (hl : y.2.2.2.length < 2 ^ 62) : spileref22_OneP y = some (oneOf y) := by
  obtain ⟨d, a, m, xs⟩ := y
  simp only at hl
  unfold spileref22_OneP spileref22_One oneOf
  simp -implicitDefEqProofs only [evs, reduceIte, rdRes, rdTT, rdTy, rdLT, Res.un, TT.un, Ty.un, LT.un, Leaf.un, Leaf.plain, LT.plain, hL_empty, hL_new, hL_next, List.nil_append, List.length_nil]
  have e0 : [cL (d, a, m, rowSV false j2 xs)][0]? = some (cL (d, a, m, rowSV false j2 xs)) := rfl
  have r0 := rd_cL e0
  have r1 := rdl_cL e0
  simp only [cL, rowSV_len, rowSV_cap, rowSV_tail] at r0 r1
  rw [r1]
  simp -implicitDefEqProofs only [evs, reduceIte, rdRes, rdTT, rdTy, rdLT, Res.un, TT.un, Ty.un, LT.un, Leaf.un, Leaf.plain, LT.plain]
  rw [rPlain_ok]
  simp -implicitDefEqProofs only [evs, reduceIte, rdRes, rdTT, rdTy, rdLT, Res.un, TT.un, Ty.un, LT.un, Leaf.un, Leaf.plain, LT.plain]
  cases hp : isPlain (a, m) with
  | false => simp -implicitDefEqProofs only [evs, reduceIte, rdRes, rdTT, rdTy, rdLT, Res.un, TT.un, Ty.un, LT.un, Leaf.un, Leaf.plain, LT.plain, Bool.false_eq_true, false_and]
  | true =>
    simp -implicitDefEqProofs only [evs, reduceIte, rdRes, rdTT, rdTy, rdLT, Res.un, TT.un, Ty.un, LT.un, Leaf.un, Leaf.plain, LT.plain, eq_self, true_and]
    rw [r0.2.2.1]
    simp -implicitDefEqProofs only [evs, reduceIte, rdRes, rdTT, rdTy, rdLT, Res.un, TT.un, Ty.un, LT.un, Leaf.un, Leaf.plain, LT.plain]
    by_cases hm : m = 0
    · rw [decide_eq_true hm, if_neg (fun h => h hm)]; simp -implicitDefEqProofs only [evs, reduceIte, rdRes, rdTT, rdTy, rdLT, Res.un, TT.un, Ty.un, LT.un, Leaf.un, Leaf.plain, LT.plain]
    · rw [decide_eq_false hm, if_pos hm]
      simp -implicitDefEqProofs only [evs, reduceIte, rdRes, rdTT, rdTy, rdLT, Res.un, TT.un, Ty.un, LT.un, Leaf.un, Leaf.plain, LT.plain]
      rw [r0.2.2.2]
      simp -implicitDefEqProofs only [evs, reduceIte, rdRes, rdTT, rdTy, rdLT, Res.un, TT.un, Ty.un, LT.un, Leaf.un, Leaf.plain, LT.plain]
      rw [rShares_ok xs hl, lshares_split]
      simp -implicitDefEqProofs only [evs, reduceIte, rdRes, rdTT, rdTy, rdLT, Res.un, TT.un, Ty.un, LT.un, Leaf.un, Leaf.plain, LT.plain]
      by_cases hs : rshares xs = 0
      · obtain ⟨k1, k2, k3⟩ := rshares_bound hs
        rw [decide_eq_true hs, if_pos hs]
        simp -implicitDefEqProofs only [evs, reduceIte, rdRes, rdTT, rdTy, rdLT, Res.un, TT.un, Ty.un, LT.un, Leaf.un, Leaf.plain, LT.plain]
        rw [rAlcohol_ok xs (by omega) (okS_bound k3)]
        simp -implicitDefEqProofs only [evs, reduceIte, rdRes, rdTT, rdTy, rdLT, Res.un, TT.un, Ty.un, LT.un, Leaf.un, Leaf.plain, LT.plain]
        rw [r0.2.1]
        simp -implicitDefEqProofs only [evs, reduceIte, rdRes, rdTT, rdTy, rdLT, Res.un, TT.un, Ty.un, LT.un, Leaf.un, Leaf.plain, LT.plain]
        by_cases ha : sumA xs = a
        · rw [decide_eq_true ha, if_pos ha]; simp -implicitDefEqProofs only [evs, reduceIte, rdRes, rdTT, rdTy, rdLT, Res.un, TT.un, Ty.un, LT.un, Leaf.un, Leaf.plain, LT.plain]
        · rw [decide_eq_false ha, if_neg ha]; simp -implicitDefEqProofs only [evs, reduceIte, rdRes, rdTT, rdTy, rdLT, Res.un, TT.un, Ty.un, LT.un, Leaf.un, Leaf.plain, LT.plain]
      · rw [decide_eq_false hs, if_neg hs]
        simp -implicitDefEqProofs only [evs, reduceIte, rdRes, rdTT, rdTy, rdLT, Res.un, TT.un, Ty.un, LT.un, Leaf.un, Leaf.plain, LT.plain]
theorem rLCheck_ok (l : List LotT) (hl : l.length < 2 ^ 62) (hs : ∀ x ∈ l, x.2.2.2.length < 2 ^ 62) : ∃ j, spileref22_CheckP l = some (j, lotErr l) := by
  unfold spileref22_CheckP spileref22_Check lotErr
  by_cases h32 : 32 < l.length
  · rw [if_pos h32, rowSV_len, decide_eq_true (show (32 : Int) < (l.length : Int) by omega)]
    simp -implicitDefEqProofs only [evs, reduceIte, rdRes, rdTT, rdTy, rdLT, Res.un, TT.un, Ty.un, LT.un, Leaf.un, Leaf.plain, LT.plain]
    exact ⟨_, rfl⟩
  · rw [if_neg h32, rowSV_len, decide_eq_false (show ¬ (32 : Int) < (l.length : Int) by omega)]
    simp -implicitDefEqProofs only [evs, reduceIte, rdRes, rdTT, rdTy, rdLT, Res.un, TT.un, Ty.un, LT.un, Leaf.un, Leaf.plain, LT.plain]
    have step : ∀ i, i < l.length → spileref22_Check.loop1 (rowSV false jL l) ((i : Int), H.empty) = some (if lfault l i = 0 then .more (((i + 1 : Nat) : Int), H.empty) else .done (.ret ((i : Int), lfault l i), H.empty)) := fun i hi => by
      have hg1 : 0 ≤ (i : Int) ∧ (i : Int) < (l.length : Int) := by omega
      have hx := atL_some hi
      have hmem := hs _ (atL_mem hi)
      have hprev : 0 < i → l[i - 1]? = some (atL l (i - 1)) := fun h => atL_some (by omega)
      unfold spileref22_Check.loop1 lfault
      simp -implicitDefEqProofs only [evs, reduceIte, rdRes, rdTT, rdTy, rdLT, Res.un, TT.un, Ty.un, LT.un, Leaf.un, Leaf.plain, LT.plain, Int.toNat_natCast, guardO_pos hg1]
      rw [decide_eq_true hg1.2]
      simp -implicitDefEqProofs only [evs, reduceIte, rdRes, rdTT, rdTy, rdLT, Res.un, TT.un, Ty.un, LT.un, Leaf.un, Leaf.plain, LT.plain, guardO_pos hg1, guardO_pos (nn_lot hi)]
      rw [rd_lot0 hx]
      simp -implicitDefEqProofs only [evs, reduceIte, rdRes, rdTT, rdTy, rdLT, Res.un, TT.un, Ty.un, LT.un, Leaf.un, Leaf.plain, LT.plain]
      rw [rId_ok]
      simp -implicitDefEqProofs only [evs, reduceIte, rdRes, rdTT, rdTy, rdLT, Res.un, TT.un, Ty.un, LT.un, Leaf.un, Leaf.plain, LT.plain]
      cases hid : okId (atL l i).1 with
      | false =>
        simp -implicitDefEqProofs only [evs, reduceIte, rdRes, rdTT, rdTy, rdLT, Res.un, TT.un, Ty.un, LT.un, Leaf.un, Leaf.plain, LT.plain, Bool.false_eq_true]
        rw [if_neg (by omega)]
      | true =>
        simp -implicitDefEqProofs only [evs, reduceIte, rdRes, rdTT, rdTy, rdLT, Res.un, TT.un, Ty.un, LT.un, Leaf.un, Leaf.plain, LT.plain, eq_self]
        have rest : ((rdT (.agg [.int .i64, .int .i64, .int .i64, .slice]) H.empty (V.add (rowSV false jL l).a (i * 4))).bind fun (x10_0, x10_1, x10_2, x10_3) => ((rdRow true H.empty [.int .i64, .int .i64] x10_3).bind fun s12 => ((spileref22_OneP (x10_0, x10_1, x10_2, s12)).bind fun r11 =>
            (bif (!(decide (r11 = 0))) then (some (.done (.ret ((i : Int), r11), H.empty))) else (some (.more ((IntKind.wrap .i64 ((i : Int) + 1)), H.empty))) : Option (Stp ((Int) × H) (Flow (Unit) (Int × Int) × H)))))) = some (if oneOf (atL l i) = 0 then .more (((i + 1 : Nat) : Int), H.empty) else .done (.ret ((i : Int), oneOf (atL l i)), H.empty)) := by
          rw [rd_lot hx]
          simp -implicitDefEqProofs only [evs, reduceIte, rdRes, rdTT, rdTy, rdLT, Res.un, TT.un, Ty.un, LT.un, Leaf.un, Leaf.plain, LT.plain]
          rw [rOne_ok (atL l i) hmem]
          simp -implicitDefEqProofs only [evs, reduceIte, rdRes, rdTT, rdTy, rdLT, Res.un, TT.un, Ty.un, LT.un, Leaf.un, Leaf.plain, LT.plain]
          by_cases hf : oneOf (atL l i) = 0
          · rw [decide_eq_true hf, if_pos hf]
            simp -implicitDefEqProofs only [evs, reduceIte, rdRes, rdTT, rdTy, rdLT, Res.un, TT.un, Ty.un, LT.un, Leaf.un, Leaf.plain, LT.plain]
            rw [i64_succ (by omega)]
          · rw [decide_eq_false hf, if_neg hf]
            simp -implicitDefEqProofs only [evs, reduceIte, rdRes, rdTT, rdTy, rdLT, Res.un, TT.un, Ty.un, LT.un, Leaf.un, Leaf.plain, LT.plain]
        by_cases h0 : 0 < i
        · have hg2 : 0 ≤ ((i - 1 : Nat) : Int) ∧ ((i - 1 : Nat) : Int) < (l.length : Int) := by omega
          have hpr := hprev h0
          rw [decide_eq_true (show (0 : Int) < (i : Int) by omega), show (i : Int) - 1 = ((i - 1 : Nat) : Int) by omega, i64_nat (by omega)]
          simp -implicitDefEqProofs only [evs, reduceIte, rdRes, rdTT, rdTy, rdLT, Res.un, TT.un, Ty.un, LT.un, Leaf.un, Leaf.plain, LT.plain, Int.toNat_natCast, guardO_pos hg1, guardO_pos hg2, guardO_pos (nn_lot hi), guardO_pos (nn_lot (show i - 1 < l.length by omega))]
          rw [rd_lot0 hpr]
          simp -implicitDefEqProofs only [evs, reduceIte, rdRes, rdTT, rdTy, rdLT, Res.un, TT.un, Ty.un, LT.un, Leaf.un, Leaf.plain, LT.plain]
          by_cases hle : (atL l i).1 ≤ (atL l (i - 1)).1
          · rw [decide_eq_true hle, if_pos (show 0 < i ∧ (atL l i).1 ≤ (atL l (i - 1)).1 from ⟨h0, hle⟩)]
            simp -implicitDefEqProofs only [evs, reduceIte, rdRes, rdTT, rdTy, rdLT, Res.un, TT.un, Ty.un, LT.un, Leaf.un, Leaf.plain, LT.plain]
            rw [if_neg (by omega)]
          · rw [decide_eq_false hle, if_neg (show ¬ (0 < i ∧ (atL l i).1 ≤ (atL l (i - 1)).1) from fun h => hle h.2)]
            simp -implicitDefEqProofs only [evs, reduceIte, rdRes, rdTT, rdTy, rdLT, Res.un, TT.un, Ty.un, LT.un, Leaf.un, Leaf.plain, LT.plain, guardO_pos hg1]
            exact rest
        · rw [decide_eq_false (show ¬ (0 : Int) < (i : Int) by omega), if_neg (show ¬ (0 < i ∧ (atL l i).1 ≤ (atL l (i - 1)).1) from fun h => h0 h.1)]
          simp -implicitDefEqProofs only [evs, reduceIte, rdRes, rdTT, rdTy, rdLT, Res.un, TT.un, Ty.un, LT.un, Leaf.un, Leaf.plain, LT.plain, guardO_pos hg1]
          exact rest
    rcases first_cases (lfault l) l.length with ⟨h1, h2⟩ | ⟨n, h1, h2, h3, h4⟩
    · rw [h2, iter_from (s0 := ((0 : Int), H.empty)) (f := spileref22_Check.loop1 (rowSV false jL l)) (x := (.ex0 (), H.empty)) (fun i => ((i : Int), H.empty)) rfl l.length FUEL (fun i hi => by
        rw [step i hi, if_pos (h1 i hi)]) (by
        unfold spileref22_Check.loop1
        simp -implicitDefEqProofs only [rowSV_len]
        rw [decide_eq_false (by omega), cond_false]) (fuel_gt (by omega))]
      simp -implicitDefEqProofs only [evs, reduceIte, rdRes, rdTT, rdTy, rdLT, Res.un, TT.un, Ty.un, LT.un, Leaf.un, Leaf.plain, LT.plain]
      exact ⟨_, rfl⟩
    · rw [h4, iter_from (s0 := ((0 : Int), H.empty)) (f := spileref22_Check.loop1 (rowSV false jL l)) (x := (.ret ((n : Int), lfault l n), H.empty)) (fun i => ((i : Int), H.empty)) rfl n FUEL (fun i hi => by
        rw [step i (by omega), if_pos (h3 i hi)]) (by
        rw [step n h1, if_neg h2]) (fuel_gt (by omega))]
      simp -implicitDefEqProofs only [evs, reduceIte, rdRes, rdTT, rdTy, rdLT, Res.un, TT.un, Ty.un, LT.un, Leaf.un, Leaf.plain, LT.plain]
      exact ⟨_, rfl⟩
theorem rLRight_ok (l : List LotT) (hl : l.length < 2 ^ 62) (hs : ∀ x ∈ l, x.2.2.2.length < 2 ^ 62) : spileref22_RightP l = some (decide (lotErr l = 0)) := by
  obtain ⟨j, hj⟩ := rLCheck_ok l hl hs
  unfold spileref22_RightP spileref22_Right
  simp -implicitDefEqProofs only [evs, reduceIte, rdRes, rdTT, rdTy, rdLT, Res.un, TT.un, Ty.un, LT.un, Leaf.un, Leaf.plain, LT.plain]
  rw [hj]
  simp -implicitDefEqProofs only [evs, reduceIte, rdRes, rdTT, rdTy, rdLT, Res.un, TT.un, Ty.un, LT.un, Leaf.un, Leaf.plain, LT.plain]
end Go.Proofs.Ytbcpdecgfdlaaaa
/- share.Draw and that of the reference. Conditions: those of each law. -/
namespace Go.Proofs.Ytbcpdecgfdlaaaa
open Go Go.Proofs.Ytbcpdecgfdlaaaa.Ev
set_option linter.unusedVariables false
set_option linter.unusedSimpArgs false
set_option maxRecDepth 100000
set_option maxHeartbeats 4000000
/-- What is known of a right lot. -/
theorem oneOf_right {x : LotT} (h : oneOf x = 0) : isPlain (x.2.1, x.2.2.1) = true ∧ x.2.2.1 ≠ 0 ∧ shareCheck x.2.2.2 = 0 ∧ sumA x.2.2.2 = x.2.1 := by
  unfold oneOf at h
  by_cases hp : isPlain (x.2.1, x.2.2.1) = true ∧ x.2.2.1 ≠ 0
  · rw [if_pos hp, lshares_split] at h
    by_cases hr : rshares x.2.2.2 = 0
    · rw [if_pos hr] at h
      by_cases hs : sumA x.2.2.2 = x.2.1
      · refine ⟨hp.1, hp.2, ?_, hs⟩
        obtain ⟨k1, k2, k3⟩ := rshares_bound hr
        have hb := isPlain_iff.1 hp.1
        simp only at hb
        unfold shareCheck
        rw [if_neg (by omega), if_pos k2, if_neg (by omega)]
      · rw [if_neg hs] at h; cases h
    · rw [if_neg hr] at h; exact absurd h hr
  · rw [if_neg hp] at h; cases h
theorem oneOf_intro {x : LotT} (h1 : isPlain (x.2.1, x.2.2.1) = true) (h2 : x.2.2.1 ≠ 0) (h3 : shareCheck x.2.2.2 = 0) (h4 : sumA x.2.2.2 = x.2.1) : oneOf x = 0 := by
  unfold oneOf
  rw [if_pos ⟨h1, h2⟩]
  obtain ⟨k1, k2, k3, k4⟩ := shareCheck_ok h3
  unfold lshares
  rw [if_neg (by omega), if_pos, if_pos h4]
  rcases first_cases (sfault x.2.2.2) x.2.2.2.length with ⟨_, e⟩ | ⟨m, hm, hne, _⟩
  · exact e
  · exact absurd (k2 m hm) hne
theorem lotErr_one {x : LotT} : lotErr [x] = if okId x.1 = true then oneOf x else 2 := by
  have h0 : lfault [x] 0 = if okId x.1 = true then oneOf x else 2 := by
    unfold lfault
    show (if okId x.1 = true then (if 0 < 0 ∧ _ then 5 else oneOf x) else 2) = _
    rw [if_neg (show ¬ ((0 : Nat) < 0 ∧ _) by omega)]
  unfold lotErr
  rw [if_neg (by simp)]
  rw [← h0]
  rcases first_cases (lfault [x]) [x].length with ⟨h1, h2⟩ | ⟨n, h1, h2, h3, h4⟩
  · rw [h2, h1 0 (by simp)]
  · have : n = 0 := by simpa using h1
    subst this
    exact h4
theorem lotErr_right {l : List LotT} (h : lotErr l = 0) : l.length ≤ 32 ∧ ∀ i, i < l.length → lfault l i = 0 := by
  unfold lotErr at h
  by_cases h32 : 32 < l.length
  · rw [if_pos h32] at h; cases h
  · rw [if_neg h32] at h
    refine ⟨by omega, ?_⟩
    rcases first_cases (lfault l) l.length with ⟨h1, _⟩ | ⟨n, h1, h2, h3, h4⟩
    · exact h1
    · rw [h4] at h; exact absurd h h2
theorem lotErr_mem {l : List LotT} (h : lotErr l = 0) : ∀ x ∈ l, okId x.1 = true ∧ oneOf x = 0 := fun x hx => by
  obtain ⟨h1, h2⟩ := lotErr_right h
  obtain ⟨i, hi, e⟩ := List.getElem_of_mem hx
  have h3 := h2 i hi
  have e1 := atL_some hi
  rw [List.getElem?_eq_getElem hi, e] at e1
  unfold lfault at h3
  rw [← Option.some.inj e1] at h3
  by_cases hid : okId x.1 = true
  · rw [if_pos hid] at h3
    split at h3
    · cases h3
    · exact ⟨hid, h3⟩
  · rw [if_neg hid] at h3; cases h3
def drawL (x : LotT) (w n : Int) : LotT × LotT × Int :=
  if lotErr [x] = 0 then (if okId n = true ∧ 0 ≤ w then (if x.2.2.1 < w then ((0, 0, 0, []), (0, 0, 0, []), 17) else
    ((n, x.2.1 * w / x.2.2.1, w, (takeOf x.2.2.2 (x.2.1 * w / x.2.2.1)).1), (x.1, x.2.1 - x.2.1 * w / x.2.2.1, x.2.2.1 - w, (takeOf x.2.2.2 (x.2.1 * w / x.2.2.1)).2.1), 0)) else ((0, 0, 0, []), (0, 0, 0, []), 2)) else ((0, 0, 0, []), (0, 0, 0, []), 1)
theorem draw_facts {x : LotT} {w : Int} (h : lotErr [x] = 0) (h0 : 0 ≤ w) (h1 : w ≤ x.2.2.1) : shareCheck x.2.2.2 = 0 ∧ isPlain (x.2.1, x.2.2.1) = true ∧ 0 < x.2.2.1 ∧ 0 ≤ x.2.1 * w / x.2.2.1 ∧ x.2.1 * w / x.2.2.1 ≤ x.2.1 ∧ sumA x.2.2.2 = x.2.1 ∧ okId x.1 = true := by
  rw [lotErr_one] at h
  by_cases hid : okId x.1 = true
  · rw [if_pos hid] at h
    obtain ⟨k1, k2, k3, k4⟩ := oneOf_right h
    have hb := isPlain_iff.1 k1
    simp only at hb
    have hs := share_bounds k1 h0 h1
    simp only at hs
    exact ⟨k3, k1, by omega, hs.1, hs.2, k4, hid⟩
  · rw [if_neg hid] at h; cases h
theorem SDraw_ok (x : LotT) (w n : Int) (hl : x.2.2.2.length < 2 ^ 62) : share_DrawP x w n = some (drawL x w n) := by
  obtain ⟨j, hj⟩ := LCheck_ok [x] (by simp)
  unfold share_DrawP share_Draw drawL
  obtain ⟨d, a, m, xs⟩ := x
  simp only at hl
  simp -implicitDefEqProofs only [evs, reduceIte, rdRes, rdTT, rdTy, rdLT, Res.un, TT.un, Ty.un, LT.un, Leaf.un, Leaf.plain, LT.plain, evh, List.replicate, splice, LT.pack, Leaf.pack, Nat.reduceAdd, Nat.reduceSub, Nat.reduceLeDiff, Nat.reduceLT, Nat.reduceEqDiff, LT.lo, Leaf.lo, rdRow_oneL, rdRow_a2]
  rw [hj]
  simp -implicitDefEqProofs only [evs, reduceIte, rdRes, rdTT, rdTy, rdLT, Res.un, TT.un, Ty.un, LT.un, Leaf.un, Leaf.plain, LT.plain, evh, List.replicate, splice, LT.pack, Leaf.pack, Nat.reduceAdd, Nat.reduceSub, Nat.reduceLeDiff, Nat.reduceLT, Nat.reduceEqDiff, LT.lo, Leaf.lo, rdRow_a2]
  by_cases he : lotErr [(d, a, m, xs)] = 0
  · rw [decide_eq_true he, if_pos he]
    simp -implicitDefEqProofs only [evs, reduceIte, rdRes, rdTT, rdTy, rdLT, Res.un, TT.un, Ty.un, LT.un, Leaf.un, Leaf.plain, LT.plain, evh, List.replicate, splice, LT.pack, Leaf.pack, Nat.reduceAdd, Nat.reduceSub, Nat.reduceLeDiff, Nat.reduceLT, Nat.reduceEqDiff, LT.lo, Leaf.lo, rdRow_a2]
    rw [Sid_ok]
    simp -implicitDefEqProofs only [evs, reduceIte, rdRes, rdTT, rdTy, rdLT, Res.un, TT.un, Ty.un, LT.un, Leaf.un, Leaf.plain, LT.plain, evh, List.replicate, splice, LT.pack, Leaf.pack, Nat.reduceAdd, Nat.reduceSub, Nat.reduceLeDiff, Nat.reduceLT, Nat.reduceEqDiff, LT.lo, Leaf.lo, rdRow_a2]
    cases hid : okId n with
    | false =>
      simp -implicitDefEqProofs only [evs, reduceIte, rdRes, rdTT, rdTy, rdLT, Res.un, TT.un, Ty.un, LT.un, Leaf.un, Leaf.plain, LT.plain, evh, List.replicate, splice, LT.pack, Leaf.pack, Nat.reduceAdd, Nat.reduceSub, Nat.reduceLeDiff, Nat.reduceLT, Nat.reduceEqDiff, LT.lo, Leaf.lo, Bool.false_eq_true, false_and]
    | true =>
      simp -implicitDefEqProofs only [evs, reduceIte, rdRes, rdTT, rdTy, rdLT, Res.un, TT.un, Ty.un, LT.un, Leaf.un, Leaf.plain, LT.plain, evh, List.replicate, splice, LT.pack, Leaf.pack, Nat.reduceAdd, Nat.reduceSub, Nat.reduceLeDiff, Nat.reduceLT, Nat.reduceEqDiff, LT.lo, Leaf.lo, eq_self, true_and]
      by_cases h0 : w < 0
      · rw [decide_eq_true h0, if_neg (by omega)]
        simp -implicitDefEqProofs only [evs, reduceIte, rdRes, rdTT, rdTy, rdLT, Res.un, TT.un, Ty.un, LT.un, Leaf.un, Leaf.plain, LT.plain, evh, List.replicate, splice, LT.pack, Leaf.pack, Nat.reduceAdd, Nat.reduceSub, Nat.reduceLeDiff, Nat.reduceLT, Nat.reduceEqDiff, LT.lo, Leaf.lo, rdRow_a2]
      · rw [decide_eq_false h0, if_pos (show 0 ≤ w by omega)]
        simp -implicitDefEqProofs only [evs, reduceIte, rdRes, rdTT, rdTy, rdLT, Res.un, TT.un, Ty.un, LT.un, Leaf.un, Leaf.plain, LT.plain, evh, List.replicate, splice, LT.pack, Leaf.pack, Nat.reduceAdd, Nat.reduceSub, Nat.reduceLeDiff, Nat.reduceLT, Nat.reduceEqDiff, LT.lo, Leaf.lo, rdRow_a2]
        by_cases h1 : m < w
        · rw [decide_eq_true h1, if_pos h1]
          simp -implicitDefEqProofs only [evs, reduceIte, rdRes, rdTT, rdTy, rdLT, Res.un, TT.un, Ty.un, LT.un, Leaf.un, Leaf.plain, LT.plain, evh, List.replicate, splice, LT.pack, Leaf.pack, Nat.reduceAdd, Nat.reduceSub, Nat.reduceLeDiff, Nat.reduceLT, Nat.reduceEqDiff, LT.lo, Leaf.lo, rdRow_a2]
        · rw [decide_eq_false h1, if_neg h1]
          obtain ⟨k1, k2, k3, k4, k5, k6, k7⟩ := draw_facts he (show 0 ≤ w by omega) (show w ≤ m by omega)
          simp only at k1 k2 k3 k4 k5 k6
          have hd : drawOf (a, m) w = ((a * w / m, w), (a - a * w / m, m - w), 0) := by
            unfold drawOf
            rw [if_pos k2, if_neg h0, if_neg h1]
          simp -implicitDefEqProofs only [evs, reduceIte, rdRes, rdTT, rdTy, rdLT, Res.un, TT.un, Ty.un, LT.un, Leaf.un, Leaf.plain, LT.plain, evh, List.replicate, splice, LT.pack, Leaf.pack, Nat.reduceAdd, Nat.reduceSub, Nat.reduceLeDiff, Nat.reduceLT, Nat.reduceEqDiff, LT.lo, Leaf.lo, rdRow_a2]
          rw [Draw_ok, hd]
          simp -implicitDefEqProofs only [evs, reduceIte, rdRes, rdTT, rdTy, rdLT, Res.un, TT.un, Ty.un, LT.un, Leaf.un, Leaf.plain, LT.plain, evh, List.replicate, splice, LT.pack, Leaf.pack, Nat.reduceAdd, Nat.reduceSub, Nat.reduceLeDiff, Nat.reduceLT, Nat.reduceEqDiff, LT.lo, Leaf.lo, rdRow_a2]
          rw [STake_ok xs _ (by omega)]
          simp -implicitDefEqProofs only [evs, reduceIte, rdRes, rdTT, rdTy, rdLT, Res.un, TT.un, Ty.un, LT.un, Leaf.un, Leaf.plain, LT.plain, evh, List.replicate, splice, LT.pack, Leaf.pack, Nat.reduceAdd, Nat.reduceSub, Nat.reduceLeDiff, Nat.reduceLT, Nat.reduceEqDiff, LT.lo, Leaf.lo, rdRow_a2]
          rw [guardO_pos (by rfl), guardO_pos (by rfl)]
          simp -implicitDefEqProofs only [evs, reduceIte, rdRes, rdTT, rdTy, rdLT, Res.un, TT.un, Ty.un, LT.un, Leaf.un, Leaf.plain, LT.plain, evh, List.replicate, splice, LT.pack, Leaf.pack, Nat.reduceAdd, Nat.reduceSub, Nat.reduceLeDiff, Nat.reduceLT, Nat.reduceEqDiff, LT.lo, Leaf.lo, rdRow_j2]
  · rw [decide_eq_false he, if_neg he]
    simp -implicitDefEqProofs only [evs, reduceIte, rdRes, rdTT, rdTy, rdLT, Res.un, TT.un, Ty.un, LT.un, Leaf.un, Leaf.plain, LT.plain, evh, List.replicate, splice, LT.pack, Leaf.pack, Nat.reduceAdd, Nat.reduceSub, Nat.reduceLeDiff, Nat.reduceLT, Nat.reduceEqDiff, LT.lo, Leaf.lo, rdRow_a2]
theorem rtake_ok {xs : List (Int × Int)} {n : Int} (h : shareCheck xs = 0) (h0 : 0 ≤ n) (h1 : n ≤ sumA xs) : spileref23_takeP xs n = some ((takeOf xs n).1, (takeOf xs n).2.1) := by
  obtain ⟨k1, k2, k3, k4⟩ := shareCheck_ok h
  have ht : takeOf xs n = if xs.length = 0 then ([], [], 0) else (withL xs (drawP (amts xs) n).1, withL xs (drawP (amts xs) n).2.1, 0) := by
    unfold takeOf
    rw [if_pos h, if_neg (by omega), if_neg (by omega)]
  rw [ht]
  unfold spileref23_takeP spileref23_take
  simp -implicitDefEqProofs only [evs, reduceIte, rdRes, rdTT, rdTy, rdLT, Res.un, TT.un, Ty.un, LT.un, Leaf.un, Leaf.plain, LT.plain]
  by_cases h2 : xs.length = 0
  · rw [decide_eq_true (show (xs.length : Int) = 0 by omega), if_pos h2]
    simp -implicitDefEqProofs only [evs, reduceIte, rdRes, rdTT, rdTy, rdLT, Res.un, TT.un, Ty.un, LT.un, Leaf.un, Leaf.plain, LT.plain]
  · rw [decide_eq_false (show ¬ (xs.length : Int) = 0 by omega), if_neg h2]
    simp -implicitDefEqProofs only [evs, reduceIte, rdRes, rdTT, rdTy, rdLT, Res.un, TT.un, Ty.un, LT.un, Leaf.un, Leaf.plain, LT.plain]
    rw [ramounts_ok xs (by omega)]
    simp -implicitDefEqProofs only [evs, reduceIte, rdRes, rdTT, rdTy, rdLT, Res.un, TT.un, Ty.un, LT.un, Leaf.un, Leaf.plain, LT.plain]
    rw [show List.map (fun x : Int × Int => x.2) xs = amts xs from rfl, rPDraw_ok n (amts xs) (by unfold amts; rw [List.length_map]; omega)]
    simp -implicitDefEqProofs only [evs, reduceIte, rdRes, rdTT, rdTy, rdLT, Res.un, TT.un, Ty.un, LT.un, Leaf.un, Leaf.plain, LT.plain]
    obtain ⟨d1, _⟩ := draw_right (n := n) h (by omega) (by omega) (show 0 < xs.length by omega)
    have e1 : (drawP (amts xs) n).1.length = xs.length := by rw [d1]; simp only [divParts_length]; simp [amts]
    have e2 : (drawP (amts xs) n).2.1.length = xs.length := by rw [d1]; simp only [less_length]; simp [amts]
    rw [rwith_ok xs _ (by omega) e1]
    simp -implicitDefEqProofs only [evs, reduceIte, rdRes, rdTT, rdTy, rdLT, Res.un, TT.un, Ty.un, LT.un, Leaf.un, Leaf.plain, LT.plain]
    rw [rwith_ok xs _ (by omega) e2]
    simp -implicitDefEqProofs only [evs, reduceIte, rdRes, rdTT, rdTy, rdLT, Res.un, TT.un, Ty.un, LT.un, Leaf.un, Leaf.plain, LT.plain, rdRow_j2]
theorem rPart_ok {x : LotT} {w n : Int} (he : lotErr [x] = 0) (h0 : 0 ≤ w) (h1 : w ≤ x.2.2.1) : spileref23_PartP x w n = some ((n, x.2.1 * w / x.2.2.1, w, (takeOf x.2.2.2 (x.2.1 * w / x.2.2.1)).1), (x.1, x.2.1 - x.2.1 * w / x.2.2.1, x.2.2.1 - w, (takeOf x.2.2.2 (x.2.1 * w / x.2.2.1)).2.1)) := by
  obtain ⟨k1, k2, k3, k4, k5, k6, k7⟩ := draw_facts he h0 h1
  obtain ⟨d, a, m, xs⟩ := x
  simp only at k1 k2 k3 k4 k5 k6 h1
  have hb := isPlain_iff.1 k2
  simp only at hb
  unfold spileref23_PartP spileref23_Part
  simp -implicitDefEqProofs only [evs, reduceIte, rdRes, rdTT, rdTy, rdLT, Res.un, TT.un, Ty.un, LT.un, Leaf.un, Leaf.plain, LT.plain, evh, List.replicate, splice, LT.pack, Leaf.pack, Nat.reduceAdd, Nat.reduceSub, Nat.reduceLeDiff, Nat.reduceLT, Nat.reduceEqDiff, LT.lo, Leaf.lo, rdRow_a2]
  rw [rMTake_ok k2 h0 h1]
  simp -implicitDefEqProofs only [evs, reduceIte, rdRes, rdTT, rdTy, rdLT, Res.un, TT.un, Ty.un, LT.un, Leaf.un, Leaf.plain, LT.plain, evh, List.replicate, splice, LT.pack, Leaf.pack, Nat.reduceAdd, Nat.reduceSub, Nat.reduceLeDiff, Nat.reduceLT, Nat.reduceEqDiff, LT.lo, Leaf.lo, rdRow_a2]
  rw [rtake_ok k1 k4 (by omega)]
  simp -implicitDefEqProofs only [evs, reduceIte, rdRes, rdTT, rdTy, rdLT, Res.un, TT.un, Ty.un, LT.un, Leaf.un, Leaf.plain, LT.plain, evh, List.replicate, splice, LT.pack, Leaf.pack, Nat.reduceAdd, Nat.reduceSub, Nat.reduceLeDiff, Nat.reduceLT, Nat.reduceEqDiff, LT.lo, Leaf.lo, rdRow_a2]
  rw [rMinus_ok]
  simp -implicitDefEqProofs only [evs, reduceIte, rdRes, rdTT, rdTy, rdLT, Res.un, TT.un, Ty.un, LT.un, Leaf.un, Leaf.plain, LT.plain, evh, List.replicate, splice, LT.pack, Leaf.pack, Nat.reduceAdd, Nat.reduceSub, Nat.reduceLeDiff, Nat.reduceLT, Nat.reduceEqDiff, LT.lo, Leaf.lo, rdRow_a2]
  rw [guardO_pos (by rfl), i64_in _ (by omega), i64_in _ (by omega)]
  simp -implicitDefEqProofs only [evs, reduceIte, rdRes, rdTT, rdTy, rdLT, Res.un, TT.un, Ty.un, LT.un, Leaf.un, Leaf.plain, LT.plain, evh, List.replicate, splice, LT.pack, Leaf.pack, Nat.reduceAdd, Nat.reduceSub, Nat.reduceLeDiff, Nat.reduceLT, Nat.reduceEqDiff, LT.lo, Leaf.lo, rdRow_j2]
theorem rDrawL_ok (x : LotT) (w n : Int) (hl : x.2.2.2.length < 2 ^ 62) : spileref23_DrawP x w n = some (drawL x w n) := by
  have hr := rLRight_ok [x] (by simp) (fun y hy => by rw [List.mem_singleton.1 hy]; exact hl)
  unfold spileref23_DrawP spileref23_Draw drawL
  obtain ⟨d, a, m, xs⟩ := x
  simp only at hl
  simp -implicitDefEqProofs only [evs, reduceIte, rdRes, rdTT, rdTy, rdLT, Res.un, TT.un, Ty.un, LT.un, Leaf.un, Leaf.plain, LT.plain, evh, List.replicate, splice, LT.pack, Leaf.pack, Nat.reduceAdd, Nat.reduceSub, Nat.reduceLeDiff, Nat.reduceLT, Nat.reduceEqDiff, LT.lo, Leaf.lo, rdRow_oneL, rdRow_a2]
  rw [hr]
  simp -implicitDefEqProofs only [evs, reduceIte, rdRes, rdTT, rdTy, rdLT, Res.un, TT.un, Ty.un, LT.un, Leaf.un, Leaf.plain, LT.plain, evh, List.replicate, splice, LT.pack, Leaf.pack, Nat.reduceAdd, Nat.reduceSub, Nat.reduceLeDiff, Nat.reduceLT, Nat.reduceEqDiff, LT.lo, Leaf.lo, rdRow_a2]
  by_cases he : lotErr [(d, a, m, xs)] = 0
  · rw [decide_eq_true he, if_pos he]
    simp -implicitDefEqProofs only [evs, reduceIte, rdRes, rdTT, rdTy, rdLT, Res.un, TT.un, Ty.un, LT.un, Leaf.un, Leaf.plain, LT.plain, evh, List.replicate, splice, LT.pack, Leaf.pack, Nat.reduceAdd, Nat.reduceSub, Nat.reduceLeDiff, Nat.reduceLT, Nat.reduceEqDiff, LT.lo, Leaf.lo, rdRow_a2]
    rw [rId_ok]
    simp -implicitDefEqProofs only [evs, reduceIte, rdRes, rdTT, rdTy, rdLT, Res.un, TT.un, Ty.un, LT.un, Leaf.un, Leaf.plain, LT.plain, evh, List.replicate, splice, LT.pack, Leaf.pack, Nat.reduceAdd, Nat.reduceSub, Nat.reduceLeDiff, Nat.reduceLT, Nat.reduceEqDiff, LT.lo, Leaf.lo, rdRow_a2]
    cases hid : okId n with
    | false =>
      simp -implicitDefEqProofs only [evs, reduceIte, rdRes, rdTT, rdTy, rdLT, Res.un, TT.un, Ty.un, LT.un, Leaf.un, Leaf.plain, LT.plain, evh, List.replicate, splice, LT.pack, Leaf.pack, Nat.reduceAdd, Nat.reduceSub, Nat.reduceLeDiff, Nat.reduceLT, Nat.reduceEqDiff, LT.lo, Leaf.lo, Bool.false_eq_true, false_and]
    | true =>
      simp -implicitDefEqProofs only [evs, reduceIte, rdRes, rdTT, rdTy, rdLT, Res.un, TT.un, Ty.un, LT.un, Leaf.un, Leaf.plain, LT.plain, evh, List.replicate, splice, LT.pack, Leaf.pack, Nat.reduceAdd, Nat.reduceSub, Nat.reduceLeDiff, Nat.reduceLT, Nat.reduceEqDiff, LT.lo, Leaf.lo, eq_self, true_and]
      by_cases h0 : w < 0
      · rw [decide_eq_true h0, if_neg (by omega)]
        simp -implicitDefEqProofs only [evs, reduceIte, rdRes, rdTT, rdTy, rdLT, Res.un, TT.un, Ty.un, LT.un, Leaf.un, Leaf.plain, LT.plain, evh, List.replicate, splice, LT.pack, Leaf.pack, Nat.reduceAdd, Nat.reduceSub, Nat.reduceLeDiff, Nat.reduceLT, Nat.reduceEqDiff, LT.lo, Leaf.lo, rdRow_a2]
      · rw [decide_eq_false h0, if_pos (show 0 ≤ w by omega)]
        simp -implicitDefEqProofs only [evs, reduceIte, rdRes, rdTT, rdTy, rdLT, Res.un, TT.un, Ty.un, LT.un, Leaf.un, Leaf.plain, LT.plain, evh, List.replicate, splice, LT.pack, Leaf.pack, Nat.reduceAdd, Nat.reduceSub, Nat.reduceLeDiff, Nat.reduceLT, Nat.reduceEqDiff, LT.lo, Leaf.lo, rdRow_a2]
        by_cases h1 : m < w
        · rw [decide_eq_true h1, if_pos h1]
          simp -implicitDefEqProofs only [evs, reduceIte, rdRes, rdTT, rdTy, rdLT, Res.un, TT.un, Ty.un, LT.un, Leaf.un, Leaf.plain, LT.plain, evh, List.replicate, splice, LT.pack, Leaf.pack, Nat.reduceAdd, Nat.reduceSub, Nat.reduceLeDiff, Nat.reduceLT, Nat.reduceEqDiff, LT.lo, Leaf.lo, rdRow_a2]
        · rw [decide_eq_false h1, if_neg h1]
          simp -implicitDefEqProofs only [evs, reduceIte, rdRes, rdTT, rdTy, rdLT, Res.un, TT.un, Ty.un, LT.un, Leaf.un, Leaf.plain, LT.plain, evh, List.replicate, splice, LT.pack, Leaf.pack, Nat.reduceAdd, Nat.reduceSub, Nat.reduceLeDiff, Nat.reduceLT, Nat.reduceEqDiff, LT.lo, Leaf.lo, rdRow_a2]
          rw [rPart_ok he (show 0 ≤ w by omega) (show w ≤ m by omega)]
          simp -implicitDefEqProofs only [evs, reduceIte, rdRes, rdTT, rdTy, rdLT, Res.un, TT.un, Ty.un, LT.un, Leaf.un, Leaf.plain, LT.plain, evh, List.replicate, splice, LT.pack, Leaf.pack, Nat.reduceAdd, Nat.reduceSub, Nat.reduceLeDiff, Nat.reduceLT, Nat.reduceEqDiff, LT.lo, Leaf.lo, rdRow_a2]
          rw [guardO_pos (by rfl)]
          simp -implicitDefEqProofs only [evs, reduceIte, rdRes, rdTT, rdTy, rdLT, Res.un, TT.un, Ty.un, LT.un, Leaf.un, Leaf.plain, LT.plain, evh, List.replicate, splice, LT.pack, Leaf.pack, Nat.reduceAdd, Nat.reduceSub, Nat.reduceLeDiff, Nat.reduceLT, Nat.reduceEqDiff, LT.lo, Leaf.lo, rdRow_j2]
  · rw [decide_eq_false he, if_neg he]
    simp -implicitDefEqProofs only [evs, reduceIte, rdRes, rdTT, rdTy, rdLT, Res.un, TT.un, Ty.un, LT.un, Leaf.un, Leaf.plain, LT.plain, evh, List.replicate, splice, LT.pack, Leaf.pack, Nat.reduceAdd, Nat.reduceSub, Nat.reduceLeDiff, Nat.reduceLT, Nat.reduceEqDiff, LT.lo, Leaf.lo, rdRow_a2]
end Go.Proofs.Ytbcpdecgfdlaaaa
/- share.Vat and that of the reference; the law ShareLots. Conditions: none. -/
namespace Go.Proofs.Ytbcpdecgfdlaaaa
open Go Go.Proofs.Ytbcpdecgfdlaaaa.Ev
set_option linter.unusedVariables false
set_option linter.unusedSimpArgs false
set_option maxRecDepth 100000
set_option maxHeartbeats 4000000
theorem joinL_bound2 (xs ys : List (Int × Int)) (B C : Int) (hB : 0 ≤ B) (hC : 0 ≤ C) : (∀ x ∈ xs, 0 ≤ x.2 ∧ x.2 ≤ B) → (∀ x ∈ ys, 0 ≤ x.2 ∧ x.2 ≤ C) → ∀ x ∈ joinL xs ys, 0 ≤ x.2 ∧ x.2 ≤ B + C := by
  refine joinL_cases (P := fun xs ys => (∀ x ∈ xs, 0 ≤ x.2 ∧ x.2 ≤ B) → (∀ x ∈ ys, 0 ≤ x.2 ∧ x.2 ≤ C) → ∀ x ∈ joinL xs ys, 0 ≤ x.2 ∧ x.2 ≤ B + C) (fun ys h1 h2 p hp => by rw [nil_joinL] at hp; have := h2 p hp; omega) (fun xs h1 h2 p hp => by rw [joinL_nil] at hp; have := h1 p hp; omega) (fun x xs y ys h ih h1 h2 p hp => ?_) (fun x xs y ys h ih h1 h2 p hp => ?_) (fun x xs y ys h ih h1 h2 p hp => ?_) _ xs ys (Nat.le_refl _)
  · rw [joinL_lt h] at hp
    rcases List.mem_cons.1 hp with rfl | hp
    · have := h1 p (by simp); omega
    · exact ih (fun z hz => h1 z (by simp [hz])) h2 p hp
  · rw [joinL_gt h] at hp
    rcases List.mem_cons.1 hp with rfl | hp
    · have := h2 p (by simp); omega
    · exact ih h1 (fun z hz => h2 z (by simp [hz])) p hp
  · rw [joinL_eq h] at hp
    rcases List.mem_cons.1 hp with rfl | hp
    · have := h1 x (by simp); have := h2 y (by simp); simp only; omega
    · exact ih (fun z hz => h1 z (by simp [hz])) (fun z hz => h2 z (by simp [hz])) p hp
/-- All shares, joined; the sum of the liquids. -/
def joinAll (l : List LotT) : List (Int × Int) := l.foldl (fun acc x => joinL acc x.2.2.2) []
def liqs (l : List LotT) : List (Int × Int) := l.map fun x => (x.2.1, x.2.2.1)
theorem joinAll_snoc {l : List LotT} {i : Nat} (h : i < l.length) : joinAll (l.take (i + 1)) = joinL (joinAll (l.take i)) (atL l i).2.2.2 := by
  obtain ⟨hi, he⟩ := List.getElem?_eq_some_iff.1 (atL_some h)
  unfold joinAll
  rw [← List.take_append_getElem hi, he, List.foldl_append]
  rfl
theorem liqs_snoc {l : List LotT} {i : Nat} (h : i < l.length) : sumL (liqs (l.take (i + 1))) = ((sumL (liqs (l.take i))).1 + (atL l i).2.1, (sumL (liqs (l.take i))).2 + (atL l i).2.2.1) := by
  have hx : (liqs l)[i]? = some ((atL l i).2.1, (atL l i).2.2.1) := by unfold liqs; rw [List.getElem?_map, atL_some h]; rfl
  have := sumL_take hx
  unfold liqs at this ⊢
  rw [List.map_take, List.map_take, this]
/-- What holds of some right lots. -/
structure RightL (l : List LotT) : Prop where
  len : l.length ≤ 32
  all : ∀ x ∈ l, isPlain (x.2.1, x.2.2.1) = true ∧ x.2.2.1 ≠ 0 ∧ shareCheck x.2.2.2 = 0 ∧ sumA x.2.2.2 = x.2.1
theorem rightL_of {l : List LotT} (h : lotErr l = 0) : RightL l := ⟨(lotErr_right h).1, fun x hx => oneOf_right (lotErr_mem h x hx).2⟩
theorem RightL.take {l : List LotT} (h : RightL l) (i : Nat) : RightL (l.take i) := ⟨by have := h.len; rw [List.length_take]; omega, fun x hx => h.all x (List.mem_of_mem_take hx)⟩
theorem joinAll_facts {l : List LotT} (h : RightL l) : ∀ i, i ≤ l.length → SortedF (joinAll (l.take i)) ∧ (joinAll (l.take i)).length ≤ 32 * i ∧ (∀ x ∈ joinAll (l.take i), 0 ≤ x.2 ∧ x.2 ≤ i * 10737418240000) ∧ sumA (joinAll (l.take i)) = (sumL (liqs (l.take i))).1
  | 0, _ => by
    have e : joinAll (l.take 0) = [] := by simp [joinAll]
    rw [e]
    exact ⟨List.Pairwise.nil, by simp, fun x hx => (by cases hx), by simp [sumA, sumL, liqs]⟩
  | i + 1, hi => by
    obtain ⟨k1, k2, k3, k4⟩ := joinAll_facts h i (by omega)
    obtain ⟨a1, a2, a3, a4⟩ := h.all _ (atL_mem (show i < l.length by omega))
    obtain ⟨b1, b2, b3, b4⟩ := shareCheck_ok a3
    rw [joinAll_snoc (by omega), liqs_snoc (by omega)]
    have hlen := joinL_length (joinAll (l.take i)) (atL l i).2.2.2
    refine ⟨joinL_sorted _ _ k1 (shareCheck_sorted a3), by omega, fun x hx => ?_, by rw [joinL_sum, k4, a4]⟩
    have := joinL_bound2 _ _ (i * 10737418240000) 10737418240000 (by omega) (by omega) k3 (okS_bound' b3) x hx
    omega
theorem liqs_bound {l : List LotT} (h : RightL l) (i : Nat) (hi : i ≤ l.length) : 0 ≤ (sumL (liqs (l.take i))).1 ∧ (sumL (liqs (l.take i))).1 ≤ i * 10737418240000 ∧ 0 ≤ (sumL (liqs (l.take i))).2 ∧ (sumL (liqs (l.take i))).2 ≤ i * 128849018880000 := by
  have := sumL_bound (xs := liqs (l.take i)) (fun x hx => by
    obtain ⟨y, hy, rfl⟩ := List.mem_map.1 hx
    exact ((h.take i).all y hy).1)
  have e : (liqs (l.take i)).length = i := by unfold liqs; rw [List.length_map, List.length_take]; omega
  rw [e] at this
  exact this
/-- A slice that holds shares: of no elements at first. -/
def ShS (S : SV) (J : List (Int × Int)) : Prop := (S = ⟨.nil, 0, 0, false⟩ ∧ J = []) ∨ S = rowSV true j2 J
theorem ShS.read {S : SV} {J : List (Int × Int)} {lp : Bool} {h : H} (hs : ShS S J) : rdRow lp h [.int .i64, .int .i64] S = some J := by
  rcases hs with ⟨rfl, rfl⟩ | rfl
  · exact rdRow_nil
  · exact rdRow_res rfl
theorem ShS.slen {S : SV} {J : List (Int × Int)} (hs : ShS S J) : S.len = J.length := by
  rcases hs with ⟨rfl, rfl⟩ | rfl <;> rfl
theorem wr_cL {sl : List Slot} {id : Nat} {x : Int × Int × Int × SV} (h : sl[id]? = some (cL x)) :
    (∀ s : SV, H.wrs (hL sl) (.hp id 4 3) [.slice s.a s.len s.cap s.tail] = some (hL (sl.set id (cL (x.1, x.2.1, x.2.2.1, s))))) ∧ (∀ a, H.wrs (hL sl) (.hp id 4 1) [.int .i64 a] = some (hL (sl.set id (cL (x.1, a, x.2.2.1, x.2.2.2))))) ∧ (∀ m, H.wrs (hL sl) (.hp id 4 2) [.int .i64 m] = some (hL (sl.set id (cL (x.1, x.2.1, m, x.2.2.2))))) := by
  refine ⟨fun s => ?_, fun a => ?_, fun m => ?_⟩ <;> (rw [wrs_own (g := 4) h rfl (by simp)]; rfl)
def vatOf (l : List LotT) (n : Int) : LotT × Int :=
  if lotErr l = 0 then (if okId n = true then (if 32 < (joinAll l).length then ((0, 0, 0, []), 12) else if isPlain (sumL (liqs l)) = true then ((n, (sumL (liqs l)).1, (sumL (liqs l)).2, joinAll l), 0) else ((0, 0, 0, []), 15)) else ((0, 0, 0, []), 2)) else ((0, 0, 0, []), 1)
abbrev nilL : Int × Int × Int × SV := (0, 0, 0, ⟨.nil, 0, 0, false⟩)
theorem rdRow_argL {f : Bool} {h : H} {l : List LotT} : rdRow true h [.int .i64, .int .i64, .int .i64, .row [.int .i64, .int .i64]] (rowSV f [.int .i64, .int .i64, .int .i64, .row [.int .i64, .int .i64]] l) = some l := rdRow_args rfl
theorem vat_loop {l : List LotT} {n : Int} (hr : RightL l) : ∃ sl S, iter FUEL (share_Vat.loop1 (rowSV false jL l) (hL [cL nilL])) (0, hL [cL nilL, cL (n, 0, 0, ⟨.nil, 0, 0, false⟩)]) = some (.ex0 (), hL sl) ∧ sl[0]? = some (cL nilL) ∧ sl[1]? = some (cL (n, (sumL (liqs l)).1, (sumL (liqs l)).2, S)) ∧ ShS S (joinAll l) := by
  have hlen := hr.len
  obtain ⟨x, h1, sl, S, rfl, h2⟩ := iter_upto (f := share_Vat.loop1 (rowSV false jL l) (hL [cL nilL])) (fun i st => ∃ sl S, st = ((i : Int), hL sl) ∧ sl[0]? = some (cL nilL) ∧ sl[1]? = some (cL (n, (sumL (liqs (l.take i))).1, (sumL (liqs (l.take i))).2, S)) ∧ ShS S (joinAll (l.take i)))
    (fun x => ∃ sl S, x = (.ex0 (), hL sl) ∧ sl[0]? = some (cL nilL) ∧ sl[1]? = some (cL (n, (sumL (liqs l)).1, (sumL (liqs l)).2, S)) ∧ ShS S (joinAll l)) l.length (fun i st hi hst => by
      obtain ⟨sl, S, rfl, e0, e1, hS⟩ := hst
      have hg1 : 0 ≤ (i : Int) ∧ (i : Int) < (l.length : Int) := by omega
      have hx := atL_some hi
      obtain ⟨a1, a2, a3, a4⟩ := hr.all _ (atL_mem hi)
      obtain ⟨b1, b2, b3, b4⟩ := shareCheck_ok a3
      obtain ⟨j1, j2', j3, j4⟩ := joinAll_facts hr i (by omega)
      have lb := liqs_bound hr i (by omega)
      have hb := isPlain_iff.1 a1
      simp only at hb
      have hl1 := (List.getElem?_eq_some_iff.1 e1).1
      have hja := joinAll_snoc hi
      have hls := liqs_snoc hi
      generalize atL l i = x at *
      obtain ⟨d, a, m, xs⟩ := x
      simp only at a1 a2 a3 a4 b1 b2 b3 b4 hb hja hls
      generalize hA : (sumL (liqs (l.take i))).1 = A at *
      generalize hM : (sumL (liqs (l.take i))).2 = M at *
      generalize hJ : joinAll (l.take i) = J at *
      have e0' : (sl ++ [cL (d, a, m, rowSV false j2 xs)])[0]? = some (cL nilL) := by rw [List.getElem?_append_left (by omega), e0]
      have e1' : (sl ++ [cL (d, a, m, rowSV false j2 xs)])[1]? = some (cL (n, A, M, S)) := by rw [List.getElem?_append_left hl1, e1]
      have e2' : (sl ++ [cL (d, a, m, rowSV false j2 xs)])[sl.length]? = some (cL (d, a, m, rowSV false j2 xs)) := by simp
      have nw := new_cL (sl := sl) (x := (d, a, m, rowSV false j2 xs))
      have r1 := rd_cL e1'
      have r2 := rd_cL e2'
      have w1 := (wr_cL e1').1 (rowSV true j2 (joinL J xs))
      generalize hT : sl ++ [cL (d, a, m, rowSV false j2 xs)] = T at *
      have hTl : 1 < T.length := (List.getElem?_eq_some_iff.1 e1').1
      have hTl2 : sl.length < T.length := (List.getElem?_eq_some_iff.1 e2').1
      have f1 : (T.set 1 (cL (n, A, M, rowSV true j2 (joinL J xs))))[1]? = some (cL (n, A, M, rowSV true j2 (joinL J xs))) := by rw [List.getElem?_set_self hTl]
      have f2 : (T.set 1 (cL (n, A, M, rowSV true j2 (joinL J xs))))[sl.length]? = some (cL (d, a, m, rowSV false j2 xs)) := by rw [List.getElem?_set_ne (by omega), e2']
      have q1 := rd_cL f1
      have q2 := rd_cL f2
      have w2 := (wr_cL f1).2.1 (A + a)
      rw [List.set_set] at w2
      have g1 : (T.set 1 (cL (n, A + a, M, rowSV true j2 (joinL J xs))))[1]? = some (cL (n, A + a, M, rowSV true j2 (joinL J xs))) := by rw [List.getElem?_set_self hTl]
      have w3 := (wr_cL g1).2.2 (M + m)
      rw [List.set_set] at w3
      refine ⟨(((i + 1 : Nat) : Int), hL (T.set 1 (cL (n, A + a, M + m, rowSV true j2 (joinL J xs))))), ?_, _, rowSV true j2 (joinL J xs), rfl, by rw [List.getElem?_set_ne (by omega), e0'], ?_, .inr ?_⟩
      · unfold share_Vat.loop1
        simp only [cL, rowSV_len, rowSV_cap, rowSV_tail] at nw r1 r2 w1 w2 w3 q1 q2 hT
        simp -implicitDefEqProofs only [Int.toNat_natCast, rowSV_len, guardO_pos hg1]
        rw [decide_eq_true hg1.2, cond_true, rd_lot hx]
        simp -implicitDefEqProofs only [evs, reduceIte, rdRes, rdTT, rdTy, rdLT, Res.un, TT.un, Ty.un, LT.un, Leaf.un, Leaf.plain, LT.plain, hL_new, hL_next, List.length_cons, List.length_nil, Nat.zero_add]
        rw [nw]
        simp -implicitDefEqProofs only [evs, reduceIte, rdRes, rdTT, rdTy, rdLT, Res.un, TT.un, Ty.un, LT.un, Leaf.un, Leaf.plain, LT.plain]
        rw [r1.2.2.2]
        simp -implicitDefEqProofs only [evs, reduceIte, rdRes, rdTT, rdTy, rdLT, Res.un, TT.un, Ty.un, LT.un, Leaf.un, Leaf.plain, LT.plain]
        rw [r2.2.2.2]
        simp -implicitDefEqProofs only [evs, reduceIte, rdRes, rdTT, rdTy, rdLT, Res.un, TT.un, Ty.un, LT.un, Leaf.un, Leaf.plain, LT.plain]
        rw [hS.read]
        simp -implicitDefEqProofs only [evs, reduceIte, rdRes, rdTT, rdTy, rdLT, Res.un, TT.un, Ty.un, LT.un, Leaf.un, Leaf.plain, LT.plain]
        rw [union_ok J xs (fun x hx => by have := j3 x hx; omega) (okS_bound b3) (by omega) j1 (shareCheck_sorted a3)]
        simp -implicitDefEqProofs only [evs, reduceIte, rdRes, rdTT, rdTy, rdLT, Res.un, TT.un, Ty.un, LT.un, Leaf.un, Leaf.plain, LT.plain]
        rw [w1]
        simp -implicitDefEqProofs only [evs, reduceIte, rdRes, rdTT, rdTy, rdLT, Res.un, TT.un, Ty.un, LT.un, Leaf.un, Leaf.plain, LT.plain]
        rw [q1.2.1]
        simp -implicitDefEqProofs only [evs, reduceIte, rdRes, rdTT, rdTy, rdLT, Res.un, TT.un, Ty.un, LT.un, Leaf.un, Leaf.plain, LT.plain]
        rw [q2.2.1]
        simp -implicitDefEqProofs only [evs, reduceIte, rdRes, rdTT, rdTy, rdLT, Res.un, TT.un, Ty.un, LT.un, Leaf.un, Leaf.plain, LT.plain]
        rw [q1.2.2.1]
        simp -implicitDefEqProofs only [evs, reduceIte, rdRes, rdTT, rdTy, rdLT, Res.un, TT.un, Ty.un, LT.un, Leaf.un, Leaf.plain, LT.plain]
        rw [q2.2.2.1]
        simp -implicitDefEqProofs only [evs, reduceIte, rdRes, rdTT, rdTy, rdLT, Res.un, TT.un, Ty.un, LT.un, Leaf.un, Leaf.plain, LT.plain]
        rw [i64_in (A + a) (by omega), i64_in (M + m) (by omega), w2]
        simp -implicitDefEqProofs only [evs, reduceIte, rdRes, rdTT, rdTy, rdLT, Res.un, TT.un, Ty.un, LT.un, Leaf.un, Leaf.plain, LT.plain]
        rw [w3]
        simp -implicitDefEqProofs only [evs, reduceIte, rdRes, rdTT, rdTy, rdLT, Res.un, TT.un, Ty.un, LT.un, Leaf.un, Leaf.plain, LT.plain]
        rw [guardO_pos (apart_hp (by omega)), i64_succ (by omega)]
        rfl
      · rw [List.getElem?_set_self hTl, hls]
      · rw [hja]) (fun st hst => by
      obtain ⟨sl, S, rfl, e0, e1, hS⟩ := hst
      rw [List.take_length] at e1 hS
      refine ⟨_, ?_, sl, S, rfl, e0, e1, hS⟩
      unfold share_Vat.loop1
      simp -implicitDefEqProofs only [rowSV_len]
      rw [decide_eq_false (by omega), cond_false]) FUEL 0 (0, hL [cL nilL, cL (n, 0, 0, ⟨.nil, 0, 0, false⟩)]) (by omega) ⟨_, _, rfl, rfl, rfl, .inl ⟨rfl, by simp [joinAll]⟩⟩ (by have := fuel_gt (n := l.length) (by omega); omega)
  exact ⟨sl, S, h1, h2⟩
theorem Vat_ok (l : List LotT) (n : Int) (hl : l.length < 2 ^ 62) : share_VatP l n = some (vatOf l n) := by
  obtain ⟨j, hj⟩ := LCheck_ok l hl
  unfold share_VatP share_Vat vatOf
  simp -implicitDefEqProofs only [evs, reduceIte, rdRes, rdTT, rdTy, rdLT, Res.un, TT.un, Ty.un, LT.un, Leaf.un, Leaf.plain, LT.plain, hL_empty, hL_new, hL_next, List.nil_append, List.length_nil, List.length_cons, Nat.zero_add, List.cons_append, rdRow_argL]
  rw [hj]
  simp -implicitDefEqProofs only [evs, reduceIte, rdRes, rdTT, rdTy, rdLT, Res.un, TT.un, Ty.un, LT.un, Leaf.un, Leaf.plain, LT.plain]
  have z0 : [cL nilL][0]? = some (cL nilL) := rfl
  have zw := wrs_cL (y := nilL) z0
  have zr := rds_cL z0
  simp only [cL, List.set_cons_zero] at zw zr
  by_cases he : lotErr l = 0
  · rw [decide_eq_true he, if_pos he]
    simp -implicitDefEqProofs only [evs, reduceIte, rdRes, rdTT, rdTy, rdLT, Res.un, TT.un, Ty.un, LT.un, Leaf.un, Leaf.plain, LT.plain]
    rw [Sid_ok]
    simp -implicitDefEqProofs only [evs, reduceIte, rdRes, rdTT, rdTy, rdLT, Res.un, TT.un, Ty.un, LT.un, Leaf.un, Leaf.plain, LT.plain]
    cases hid : okId n with
    | false =>
      simp -implicitDefEqProofs only [evs, reduceIte, rdRes, rdTT, rdTy, rdLT, Res.un, TT.un, Ty.un, LT.un, Leaf.un, Leaf.plain, LT.plain, Bool.false_eq_true]
      rw [zw]
      simp -implicitDefEqProofs only [evs, reduceIte, rdRes, rdTT, rdTy, rdLT, Res.un, TT.un, Ty.un, LT.un, Leaf.un, Leaf.plain, LT.plain]
      rw [zr]
      simp -implicitDefEqProofs only [evs, reduceIte, rdRes, rdTT, rdTy, rdLT, Res.un, TT.un, Ty.un, LT.un, Leaf.un, Leaf.plain, LT.plain]
    | true =>
      simp -implicitDefEqProofs only [evs, reduceIte, rdRes, rdTT, rdTy, rdLT, Res.un, TT.un, Ty.un, LT.un, Leaf.un, Leaf.plain, LT.plain, eq_self]
      have nw := new_cL (sl := [cL nilL]) (x := (n, 0, 0, ⟨.nil, 0, 0, false⟩))
      simp only [cL, List.cons_append, List.nil_append, List.length_cons, List.length_nil, Nat.zero_add] at nw
      rw [nw]
      simp -implicitDefEqProofs only [evs, reduceIte, rdRes, rdTT, rdTy, rdLT, Res.un, TT.un, Ty.un, LT.un, Leaf.un, Leaf.plain, LT.plain]
      obtain ⟨sl, S, hloop, e0, e1, hS⟩ := vat_loop (n := n) (rightL_of he)
      simp only [cL] at hloop
      rw [hloop]
      simp -implicitDefEqProofs only [evs, reduceIte, rdRes, rdTT, rdTy, rdLT, Res.un, TT.un, Ty.un, LT.un, Leaf.un, Leaf.plain, LT.plain]
      rw [rdl_cL e1]
      simp -implicitDefEqProofs only [evs, reduceIte, rdRes, rdTT, rdTy, rdLT, Res.un, TT.un, Ty.un, LT.un, Leaf.un, Leaf.plain, LT.plain, rdRow_one2]
      have hb := liqs_bound (rightL_of he) l.length (Nat.le_refl _)
      rw [List.take_length] at hb
      rw [Sum_ok _ (by simp)]
      generalize hT : sumL (liqs l) = tot at *
      obtain ⟨A, M⟩ := tot
      simp only at hb e1
      have hsum : sumOf [(A, M)] = if isPlain (A, M) = true then ((A, M), 0) else ((0, 0), 1) := by
        have hs : sumL [(A, M)] = (A, M) := by simp [sumL]
        unfold sumOf
        rw [if_neg (by simp), hs]
        cases h : isPlain (A, M) <;> simp [h]
      rw [hsum]
      have nw2 : ∀ y : Int × Int, H.wrs (hL (sl ++ [Slot.own [V.int .i64 0, V.int .i64 0] 2])) (.hp sl.length 2 0) [.int .i64 y.1, .int .i64 y.2] = some (hL (sl ++ [c2 y])) := fun y => new_c2
      have e0' : ∀ y : Int × Int, (sl ++ [c2 y])[0]? = some (cL nilL) := fun y => by rw [List.getElem?_append_left (List.getElem?_eq_some_iff.1 e0).1, e0]
      have e1' : ∀ y : Int × Int, (sl ++ [c2 y])[1]? = some (cL (n, A, M, S)) := fun y => by rw [List.getElem?_append_left (List.getElem?_eq_some_iff.1 e1).1, e1]
      have hl0 : ∀ y : Int × Int, 0 < (sl ++ [c2 y]).length := fun y => by simp
      have fin : ∀ (y : Int × Int) (x : Int × Int × Int × SV), H.wrs (hL (sl ++ [c2 y])) (.hp 0 4 0) [.int .i64 x.1, .int .i64 x.2.1, .int .i64 x.2.2.1, .slice x.2.2.2.a x.2.2.2.len x.2.2.2.cap x.2.2.2.tail] = some (hL ((sl ++ [c2 y]).set 0 (cL x))) ∧ rdT (.agg [.int .i64, .int .i64, .int .i64, .slice]) (hL ((sl ++ [c2 y]).set 0 (cL x))) (.hp 0 4 0) = some x := fun y x => ⟨wrs_cL (e0' y), rds_cL (by rw [List.getElem?_set_self (hl0 y)])⟩
      have hSl := hS.slen
      by_cases hp : isPlain (A, M) = true
      · rw [if_pos hp]
        simp -implicitDefEqProofs only [evs, reduceIte, rdRes, rdTT, rdTy, rdLT, Res.un, TT.un, Ty.un, LT.un, Leaf.un, Leaf.plain, LT.plain, hL_new, hL_next]
        rw [nw2 (A, M)]
        simp -implicitDefEqProofs only [evs, reduceIte, rdRes, rdTT, rdTy, rdLT, Res.un, TT.un, Ty.un, LT.un, Leaf.un, Leaf.plain, LT.plain]
        rw [(rd_cL (e1' _)).2.2.2]
        simp -implicitDefEqProofs only [evs, reduceIte, rdRes, rdTT, rdTy, rdLT, Res.un, TT.un, Ty.un, LT.un, Leaf.un, Leaf.plain, LT.plain, hSl]
        by_cases h32 : 32 < (joinAll l).length
        · rw [decide_eq_true (show (32 : Int) < ((joinAll l).length : Int) by omega), if_pos h32]
          simp -implicitDefEqProofs only [evs, reduceIte, rdRes, rdTT, rdTy, rdLT, Res.un, TT.un, Ty.un, LT.un, Leaf.un, Leaf.plain, LT.plain]
          rw [(fin _ nilL).1]
          simp -implicitDefEqProofs only [evs, reduceIte, rdRes, rdTT, rdTy, rdLT, Res.un, TT.un, Ty.un, LT.un, Leaf.un, Leaf.plain, LT.plain]
          rw [(fin _ nilL).2]
          simp -implicitDefEqProofs only [evs, reduceIte, rdRes, rdTT, rdTy, rdLT, Res.un, TT.un, Ty.un, LT.un, Leaf.un, Leaf.plain, LT.plain]
        · rw [decide_eq_false (show ¬ (32 : Int) < ((joinAll l).length : Int) by omega), if_neg h32, if_pos hp]
          simp -implicitDefEqProofs only [evs, reduceIte, rdRes, rdTT, rdTy, rdLT, Res.un, TT.un, Ty.un, LT.un, Leaf.un, Leaf.plain, LT.plain, eq_self, decide_true]
          rw [rds_cL (e1' _)]
          simp -implicitDefEqProofs only [evs, reduceIte, rdRes, rdTT, rdTy, rdLT, Res.un, TT.un, Ty.un, LT.un, Leaf.un, Leaf.plain, LT.plain]
          rw [(fin _ (n, A, M, S)).1]
          simp -implicitDefEqProofs only [evs, reduceIte, rdRes, rdTT, rdTy, rdLT, Res.un, TT.un, Ty.un, LT.un, Leaf.un, Leaf.plain, LT.plain]
          rw [(fin _ (n, A, M, S)).2]
          simp -implicitDefEqProofs only [evs, reduceIte, rdRes, rdTT, rdTy, rdLT, Res.un, TT.un, Ty.un, LT.un, Leaf.un, Leaf.plain, LT.plain]
          rw [hS.read]
          simp -implicitDefEqProofs only [evs, reduceIte, rdRes, rdTT, rdTy, rdLT, Res.un, TT.un, Ty.un, LT.un, Leaf.un, Leaf.plain, LT.plain]
      · rw [if_neg hp]
        simp -implicitDefEqProofs only [evs, reduceIte, rdRes, rdTT, rdTy, rdLT, Res.un, TT.un, Ty.un, LT.un, Leaf.un, Leaf.plain, LT.plain, hL_new, hL_next]
        rw [nw2 (0, 0)]
        simp -implicitDefEqProofs only [evs, reduceIte, rdRes, rdTT, rdTy, rdLT, Res.un, TT.un, Ty.un, LT.un, Leaf.un, Leaf.plain, LT.plain]
        rw [(rd_cL (e1' _)).2.2.2]
        simp -implicitDefEqProofs only [evs, reduceIte, rdRes, rdTT, rdTy, rdLT, Res.un, TT.un, Ty.un, LT.un, Leaf.un, Leaf.plain, LT.plain, hSl]
        by_cases h32 : 32 < (joinAll l).length
        · rw [decide_eq_true (show (32 : Int) < ((joinAll l).length : Int) by omega), if_pos h32]
          simp -implicitDefEqProofs only [evs, reduceIte, rdRes, rdTT, rdTy, rdLT, Res.un, TT.un, Ty.un, LT.un, Leaf.un, Leaf.plain, LT.plain]
          rw [(fin _ nilL).1]
          simp -implicitDefEqProofs only [evs, reduceIte, rdRes, rdTT, rdTy, rdLT, Res.un, TT.un, Ty.un, LT.un, Leaf.un, Leaf.plain, LT.plain]
          rw [(fin _ nilL).2]
          simp -implicitDefEqProofs only [evs, reduceIte, rdRes, rdTT, rdTy, rdLT, Res.un, TT.un, Ty.un, LT.un, Leaf.un, Leaf.plain, LT.plain]
        · rw [decide_eq_false (show ¬ (32 : Int) < ((joinAll l).length : Int) by omega), if_neg h32, if_neg hp, decide_eq_false (show ¬ (1 : Int) = 0 by omega)]
          simp -implicitDefEqProofs only [evs, reduceIte, rdRes, rdTT, rdTy, rdLT, Res.un, TT.un, Ty.un, LT.un, Leaf.un, Leaf.plain, LT.plain]
          rw [(fin _ nilL).1]
          simp -implicitDefEqProofs only [evs, reduceIte, rdRes, rdTT, rdTy, rdLT, Res.un, TT.un, Ty.un, LT.un, Leaf.un, Leaf.plain, LT.plain]
          rw [(fin _ nilL).2]
          simp -implicitDefEqProofs only [evs, reduceIte, rdRes, rdTT, rdTy, rdLT, Res.un, TT.un, Ty.un, LT.un, Leaf.un, Leaf.plain, LT.plain]
  · rw [decide_eq_false he, if_neg he]
    simp -implicitDefEqProofs only [evs, reduceIte, rdRes, rdTT, rdTy, rdLT, Res.un, TT.un, Ty.un, LT.un, Leaf.un, Leaf.plain, LT.plain]
    rw [zw]
    simp -implicitDefEqProofs only [evs, reduceIte, rdRes, rdTT, rdTy, rdLT, Res.un, TT.un, Ty.un, LT.un, Leaf.un, Leaf.plain, LT.plain]
    rw [zr]
    simp -implicitDefEqProofs only [evs, reduceIte, rdRes, rdTT, rdTy, rdLT, Res.un, TT.un, Ty.un, LT.un, Leaf.un, Leaf.plain, LT.plain]
end Go.Proofs.Ytbcpdecgfdlaaaa
/- Vat of the reference; the law ShareLots in plain numbers. Conditions: none. -/
namespace Go.Proofs.Ytbcpdecgfdlaaaa
open Go Go.Proofs.Ytbcpdecgfdlaaaa.Ev
set_option linter.unusedVariables false
set_option linter.unusedSimpArgs false
set_option maxRecDepth 100000
set_option maxHeartbeats 4000000
theorem rd_lotl {f : Bool} {h : H} {l : List LotT} {i : Nat} {x : LotT} (hx : l[i]? = some x) : rdT (.agg [.int .i64, .int .i64]) h (((rowSV f jL l).a.add (i * 4)).add 1) = some (x.2.1, x.2.2.1) := by
  obtain ⟨hlt, e⟩ := List.getElem?_eq_some_iff.1 hx
  have e1 := flat_get (f := f) (ls := jL) (xs := l) (i := i) (o := 1) (by simp)
  have e2 := flat_get (f := f) (ls := jL) (xs := l) (i := i) (o := 2) (by simp)
  rw [hx] at e1 e2
  have hlen := flat_length (f := f) (ls := jL) l
  have hm : (i + 1) * 4 ≤ l.length * 4 := Nat.mul_le_mul_right _ hlt
  have hd : (l.flatMap fun x => LT.lo f jL x).drop (i * 4 + 1) = V.int .i64 x.2.1 :: V.int .i64 x.2.2.1 :: (l.flatMap fun x => LT.lo f jL x).drop (i * 4 + 3) := by
    rw [List.drop_eq_getElem_cons (by rw [hlen]; simp only [List.length_cons, List.length_nil]; omega), List.drop_eq_getElem_cons (by rw [hlen]; simp only [List.length_cons, List.length_nil]; omega)]
    congr 1
    · rw [List.getElem?_eq_getElem (by rw [hlen]; simp only [List.length_cons, List.length_nil]; omega)] at e1
      exact Option.some.inj e1
    · congr 1
      rw [List.getElem?_eq_getElem (by rw [hlen]; simp only [List.length_cons, List.length_nil]; omega)] at e2
      exact Option.some.inj e2
  rw [add_add]
  show ((H.from h (.lp f (l.flatMap fun x => LT.lo f jL x) (0 + (i * 4 + 1)))).bind fun cs => if 2 ≤ cs.length ∧ 2 ≠ 0 then some (cs.take 2) else none).bind (LT.pack [.int .i64, .int .i64]) = _
  simp only [H.from, Nat.zero_add, Option.bind_some, hd]
  rw [if_pos (by simp)]
  rfl
theorem rvat_loop {l : List LotT} {n : Int} (hr : RightL l) : ∃ S, iter FUEL (spileref23_Vat.loop1 (rowSV false jL l) n (hL [cL nilL])) (0, hL [cL nilL, cL (n, 0, 0, ⟨.nil, 0, 0, false⟩)]) = some (.ex0 (), hL [cL nilL, cL (n, (sumL (liqs l)).1, (sumL (liqs l)).2, S)]) ∧ ShS S (joinAll l) := by
  have hlen := hr.len
  obtain ⟨x, h1, S, rfl, h2⟩ := iter_upto (f := spileref23_Vat.loop1 (rowSV false jL l) n (hL [cL nilL])) (fun i st => ∃ S, st = ((i : Int), hL [cL nilL, cL (n, (sumL (liqs (l.take i))).1, (sumL (liqs (l.take i))).2, S)]) ∧ ShS S (joinAll (l.take i)))
    (fun x => ∃ S, x = (.ex0 (), hL [cL nilL, cL (n, (sumL (liqs l)).1, (sumL (liqs l)).2, S)]) ∧ ShS S (joinAll l)) l.length (fun i st hi hst => by
      obtain ⟨S, rfl, hS⟩ := hst
      have hg1 : 0 ≤ (i : Int) ∧ (i : Int) < (l.length : Int) := by omega
      have hx := atL_some hi
      obtain ⟨a1, a2, a3, a4⟩ := hr.all _ (atL_mem hi)
      obtain ⟨b1, b2, b3, b4⟩ := shareCheck_ok a3
      obtain ⟨j1, j2', j3, j4⟩ := joinAll_facts hr i (by omega)
      have lb := liqs_bound hr i (by omega)
      have hb := isPlain_iff.1 a1
      simp only at hb
      have hja := joinAll_snoc hi
      have hls := liqs_snoc hi
      generalize atL l i = x at *
      obtain ⟨d, a, m, xs⟩ := x
      simp only at a1 a2 a3 a4 b1 b2 b3 b4 hb hja hls
      refine ⟨(((i + 1 : Nat) : Int), hL [cL nilL, cL (n, (sumL (liqs (l.take (i + 1)))).1, (sumL (liqs (l.take (i + 1)))).2, rowSV true j2 (joinL (joinAll (l.take i)) xs))]), ?_, _, rfl, .inr (by rw [hja])⟩
      rw [hls]
      generalize hA : (sumL (liqs (l.take i))).1 = A at *
      generalize hM : (sumL (liqs (l.take i))).2 = M at *
      generalize hJ : joinAll (l.take i) = J at *
      have e1 : [cL nilL, cL (n, A, M, S)][1]? = some (cL (n, A, M, S)) := rfl
      have r1 := rd_cL e1
      have r2 := rdl_cL e1
      have w1 := wrs_cL (y := (n, A + a, M + m, rowSV true j2 (joinL J xs))) e1
      simp only [cL, rowSV_len, rowSV_cap, rowSV_tail, List.set_cons_succ, List.set_cons_zero] at r1 r2 w1
      unfold spileref23_Vat.loop1
      simp -implicitDefEqProofs only [Int.toNat_natCast, rowSV_len, guardO_pos hg1, reserve0, hL_next, List.length_cons, List.length_nil, Nat.zero_add]
      rw [decide_eq_true hg1.2, cond_true, r2]
      simp -implicitDefEqProofs only [evs, reduceIte, rdRes, rdTT, rdTy, rdLT, Res.un, TT.un, Ty.un, LT.un, Leaf.un, Leaf.plain, LT.plain]
      rw [guardO_pos (nn_lot hi), rd_lotl hx]
      simp -implicitDefEqProofs only [evs, reduceIte, rdRes, rdTT, rdTy, rdLT, Res.un, TT.un, Ty.un, LT.un, Leaf.un, Leaf.plain, LT.plain]
      rw [rPlus_ok]
      simp -implicitDefEqProofs only [evs, reduceIte, rdRes, rdTT, rdTy, rdLT, Res.un, TT.un, Ty.un, LT.un, Leaf.un, Leaf.plain, LT.plain]
      rw [r1.2.2.2]
      simp -implicitDefEqProofs only [evs, reduceIte, rdRes, rdTT, rdTy, rdLT, Res.un, TT.un, Ty.un, LT.un, Leaf.un, Leaf.plain, LT.plain]
      rw [guardO_pos (nn_lot hi), rd_lot3 hx]
      simp -implicitDefEqProofs only [evs, reduceIte, rdRes, rdTT, rdTy, rdLT, Res.un, TT.un, Ty.un, LT.un, Leaf.un, Leaf.plain, LT.plain]
      rw [hS.read]
      simp -implicitDefEqProofs only [evs, reduceIte, rdRes, rdTT, rdTy, rdLT, Res.un, TT.un, Ty.un, LT.un, Leaf.un, Leaf.plain, LT.plain]
      rw [rjoin_ok J xs (fun x hx => by have := j3 x hx; omega) (okS_bound b3) (by omega)]
      simp -implicitDefEqProofs only [evs, reduceIte, rdRes, rdTT, rdTy, rdLT, Res.un, TT.un, Ty.un, LT.un, Leaf.un, Leaf.plain, LT.plain]
      rw [i64_in (A + a) (by omega), i64_in (M + m) (by omega), w1]
      simp -implicitDefEqProofs only [evs, reduceIte, rdRes, rdTT, rdTy, rdLT, Res.un, TT.un, Ty.un, LT.un, Leaf.un, Leaf.plain, LT.plain]
      rw [i64_succ (by omega)]
      rfl) (fun st hst => by
      obtain ⟨S, rfl, hS⟩ := hst
      rw [List.take_length] at hS ⊢
      refine ⟨_, ?_, S, rfl, hS⟩
      unfold spileref23_Vat.loop1
      simp -implicitDefEqProofs only [rowSV_len]
      rw [decide_eq_false (by omega), cond_false]) FUEL 0 (0, hL [cL nilL, cL (n, 0, 0, ⟨.nil, 0, 0, false⟩)]) (by omega) ⟨_, rfl, .inl ⟨rfl, by simp [joinAll]⟩⟩ (by have := fuel_gt (n := l.length) (by omega); omega)
  exact ⟨S, h1, h2⟩
theorem rVat_ok (l : List LotT) (n : Int) (hl : l.length < 2 ^ 62) (hs : ∀ x ∈ l, x.2.2.2.length < 2 ^ 62) : spileref23_VatP l n = some (vatOf l n) := by
  have hr := rLRight_ok l hl hs
  unfold spileref23_VatP spileref23_Vat vatOf
  simp -implicitDefEqProofs only [evs, reduceIte, rdRes, rdTT, rdTy, rdLT, Res.un, TT.un, Ty.un, LT.un, Leaf.un, Leaf.plain, LT.plain, hL_empty, hL_new, hL_next, List.nil_append, List.length_nil, List.length_cons, Nat.zero_add, List.cons_append, rdRow_argL]
  rw [hr]
  simp -implicitDefEqProofs only [evs, reduceIte, rdRes, rdTT, rdTy, rdLT, Res.un, TT.un, Ty.un, LT.un, Leaf.un, Leaf.plain, LT.plain]
  have z0 : [cL nilL][0]? = some (cL nilL) := rfl
  have zw := wrs_cL (y := nilL) z0
  have zr := rds_cL z0
  simp only [cL, List.set_cons_zero] at zw zr
  by_cases he : lotErr l = 0
  · rw [decide_eq_true he, if_pos he]
    simp -implicitDefEqProofs only [evs, reduceIte, rdRes, rdTT, rdTy, rdLT, Res.un, TT.un, Ty.un, LT.un, Leaf.un, Leaf.plain, LT.plain]
    rw [rId_ok]
    simp -implicitDefEqProofs only [evs, reduceIte, rdRes, rdTT, rdTy, rdLT, Res.un, TT.un, Ty.un, LT.un, Leaf.un, Leaf.plain, LT.plain]
    cases hid : okId n with
    | false =>
      simp -implicitDefEqProofs only [evs, reduceIte, rdRes, rdTT, rdTy, rdLT, Res.un, TT.un, Ty.un, LT.un, Leaf.un, Leaf.plain, LT.plain, Bool.false_eq_true]
      rw [zw]
      simp -implicitDefEqProofs only [evs, reduceIte, rdRes, rdTT, rdTy, rdLT, Res.un, TT.un, Ty.un, LT.un, Leaf.un, Leaf.plain, LT.plain]
      rw [zr]
      simp -implicitDefEqProofs only [evs, reduceIte, rdRes, rdTT, rdTy, rdLT, Res.un, TT.un, Ty.un, LT.un, Leaf.un, Leaf.plain, LT.plain]
    | true =>
      simp -implicitDefEqProofs only [evs, reduceIte, rdRes, rdTT, rdTy, rdLT, Res.un, TT.un, Ty.un, LT.un, Leaf.un, Leaf.plain, LT.plain, eq_self]
      have nw := new_cL (sl := [cL nilL]) (x := (n, 0, 0, ⟨.nil, 0, 0, false⟩))
      simp only [cL, List.cons_append, List.nil_append, List.length_cons, List.length_nil, Nat.zero_add] at nw
      rw [nw]
      simp -implicitDefEqProofs only [evs, reduceIte, rdRes, rdTT, rdTy, rdLT, Res.un, TT.un, Ty.un, LT.un, Leaf.un, Leaf.plain, LT.plain]
      obtain ⟨S, hloop, hS⟩ := rvat_loop (n := n) (rightL_of he)
      simp only [cL] at hloop
      rw [hloop]
      generalize hT : sumL (liqs l) = tot at *
      obtain ⟨A, M⟩ := tot
      have e0 : [cL nilL, cL (n, A, M, S)][0]? = some (cL nilL) := rfl
      have e1 : [cL nilL, cL (n, A, M, S)][1]? = some (cL (n, A, M, S)) := rfl
      have r1 := rd_cL e1
      have r2 := rdl_cL e1
      have r3 := rds_cL e1
      have fin : ∀ (x : Int × Int × Int × SV), H.wrs (hL [cL nilL, cL (n, A, M, S)]) (.hp 0 4 0) [.int .i64 x.1, .int .i64 x.2.1, .int .i64 x.2.2.1, .slice x.2.2.2.a x.2.2.2.len x.2.2.2.cap x.2.2.2.tail] = some (hL [cL x, cL (n, A, M, S)]) ∧ rdT (.agg [.int .i64, .int .i64, .int .i64, .slice]) (hL [cL x, cL (n, A, M, S)]) (.hp 0 4 0) = some x := fun x => ⟨wrs_cL e0, rds_cL rfl⟩
      have fin0 := fin nilL
      have fin1 := fin (n, A, M, S)
      simp only [cL] at r1 r2 r3 fin0 fin1
      simp -implicitDefEqProofs only [evs, reduceIte, rdRes, rdTT, rdTy, rdLT, Res.un, TT.un, Ty.un, LT.un, Leaf.un, Leaf.plain, LT.plain]
      rw [r1.2.2.2]
      simp -implicitDefEqProofs only [evs, reduceIte, rdRes, rdTT, rdTy, rdLT, Res.un, TT.un, Ty.un, LT.un, Leaf.un, Leaf.plain, LT.plain]
      by_cases h32 : 32 < (joinAll l).length
      · rw [decide_eq_true (show (32 : Int) < (S.len : Int) by rw [hS.slen]; omega), if_pos h32]
        simp -implicitDefEqProofs only [evs, reduceIte, rdRes, rdTT, rdTy, rdLT, Res.un, TT.un, Ty.un, LT.un, Leaf.un, Leaf.plain, LT.plain]
        rw [fin0.1]
        simp -implicitDefEqProofs only [evs, reduceIte, rdRes, rdTT, rdTy, rdLT, Res.un, TT.un, Ty.un, LT.un, Leaf.un, Leaf.plain, LT.plain]
        rw [fin0.2]
        simp -implicitDefEqProofs only [evs, reduceIte, rdRes, rdTT, rdTy, rdLT, Res.un, TT.un, Ty.un, LT.un, Leaf.un, Leaf.plain, LT.plain]
      · rw [decide_eq_false (show ¬ (32 : Int) < (S.len : Int) by rw [hS.slen]; omega), if_neg h32]
        simp -implicitDefEqProofs only [evs, reduceIte, rdRes, rdTT, rdTy, rdLT, Res.un, TT.un, Ty.un, LT.un, Leaf.un, Leaf.plain, LT.plain]
        rw [r2]
        simp -implicitDefEqProofs only [evs, reduceIte, rdRes, rdTT, rdTy, rdLT, Res.un, TT.un, Ty.un, LT.un, Leaf.un, Leaf.plain, LT.plain]
        rw [rPlain_ok]
        simp -implicitDefEqProofs only [evs, reduceIte, rdRes, rdTT, rdTy, rdLT, Res.un, TT.un, Ty.un, LT.un, Leaf.un, Leaf.plain, LT.plain]
        cases hp : isPlain (A, M) with
        | true =>
          simp -implicitDefEqProofs only [evs, reduceIte, rdRes, rdTT, rdTy, rdLT, Res.un, TT.un, Ty.un, LT.un, Leaf.un, Leaf.plain, LT.plain, eq_self]
          rw [r3]
          simp -implicitDefEqProofs only [evs, reduceIte, rdRes, rdTT, rdTy, rdLT, Res.un, TT.un, Ty.un, LT.un, Leaf.un, Leaf.plain, LT.plain]
          rw [fin1.1]
          simp -implicitDefEqProofs only [evs, reduceIte, rdRes, rdTT, rdTy, rdLT, Res.un, TT.un, Ty.un, LT.un, Leaf.un, Leaf.plain, LT.plain]
          rw [fin1.2]
          simp -implicitDefEqProofs only [evs, reduceIte, rdRes, rdTT, rdTy, rdLT, Res.un, TT.un, Ty.un, LT.un, Leaf.un, Leaf.plain, LT.plain]
          rw [hS.read]
          simp -implicitDefEqProofs only [evs, reduceIte, rdRes, rdTT, rdTy, rdLT, Res.un, TT.un, Ty.un, LT.un, Leaf.un, Leaf.plain, LT.plain]
        | false =>
          simp -implicitDefEqProofs only [evs, reduceIte, rdRes, rdTT, rdTy, rdLT, Res.un, TT.un, Ty.un, LT.un, Leaf.un, Leaf.plain, LT.plain, Bool.false_eq_true]
          rw [fin0.1]
          simp -implicitDefEqProofs only [evs, reduceIte, rdRes, rdTT, rdTy, rdLT, Res.un, TT.un, Ty.un, LT.un, Leaf.un, Leaf.plain, LT.plain]
          rw [fin0.2]
          simp -implicitDefEqProofs only [evs, reduceIte, rdRes, rdTT, rdTy, rdLT, Res.un, TT.un, Ty.un, LT.un, Leaf.un, Leaf.plain, LT.plain]
  · rw [decide_eq_false he, if_neg he]
    simp -implicitDefEqProofs only [evs, reduceIte, rdRes, rdTT, rdTy, rdLT, Res.un, TT.un, Ty.un, LT.un, Leaf.un, Leaf.plain, LT.plain]
    rw [zw]
    simp -implicitDefEqProofs only [evs, reduceIte, rdRes, rdTT, rdTy, rdLT, Res.un, TT.un, Ty.un, LT.un, Leaf.un, Leaf.plain, LT.plain]
    rw [zr]
    simp -implicitDefEqProofs only [evs, reduceIte, rdRes, rdTT, rdTy, rdLT, Res.un, TT.un, Ty.un, LT.un, Leaf.un, Leaf.plain, LT.plain]
theorem Few22_ok (l : List LotT) : ∃ b, spileref22_FewP l = some b ∧ (b = true → l.length ≤ 37 ∧ ∀ x ∈ l, x.2.2.2.length ≤ 37) := by
  unfold spileref22_FewP spileref22_Few
  have loop : l.length ≤ 37 → ∃ fl, iter FUEL (spileref22_Few.loop1 (rowSV false jL l)) (0, H.empty) = some (fl, H.empty) ∧ (fl = .ret false ∨ fl = .ex0 () ∧ ∀ x ∈ l, x.2.2.2.length ≤ 37) := fun hl => by
    obtain ⟨x, h1, h2⟩ := iter_inv (f := spileref22_Few.loop1 (rowSV false jL l)) (Inv := fun st => ∃ i : Nat, st = ((i : Int), H.empty) ∧ i ≤ l.length ∧ ∀ j, j < i → (atL l j).2.2.2.length ≤ 37)
      (Post := fun x => ∃ fl, x = (fl, H.empty) ∧ (fl = .ret false ∨ fl = .ex0 () ∧ ∀ x ∈ l, x.2.2.2.length ≤ 37)) (fun st => l.length - st.1.toNat) (fun st hst => by
        obtain ⟨i, rfl, hi, hall⟩ := hst
        rcases Nat.lt_or_ge i l.length with hlt | hge
        · have hg1 : 0 ≤ (i : Int) ∧ (i : Int) < (l.length : Int) := by omega
          obtain ⟨b, hb, hb2⟩ := FewShares_ok (atL l i).2.2.2
          have step : spileref22_Few.loop1 (rowSV false jL l) ((i : Int), H.empty) = some (if b = true then .more (((i + 1 : Nat) : Int), H.empty) else .done (.ret false, H.empty)) := by
            unfold spileref22_Few.loop1
            simp -implicitDefEqProofs only [evs, reduceIte, rdRes, rdTT, rdTy, rdLT, Res.un, TT.un, Ty.un, LT.un, Leaf.un, Leaf.plain, LT.plain, Int.toNat_natCast, guardO_pos hg1]
            rw [decide_eq_true hg1.2]
            simp -implicitDefEqProofs only [evs, reduceIte, rdRes, rdTT, rdTy, rdLT, Res.un, TT.un, Ty.un, LT.un, Leaf.un, Leaf.plain, LT.plain, guardO_pos hg1]
            rw [guardO_pos (nn_lot hlt), rd_lot3 (atL_some hlt)]
            simp -implicitDefEqProofs only [evs, reduceIte, rdRes, rdTT, rdTy, rdLT, Res.un, TT.un, Ty.un, LT.un, Leaf.un, Leaf.plain, LT.plain]
            rw [hb]
            simp -implicitDefEqProofs only [evs, reduceIte, rdRes, rdTT, rdTy, rdLT, Res.un, TT.un, Ty.un, LT.un, Leaf.un, Leaf.plain, LT.plain]
            cases b with
            | true => simp -implicitDefEqProofs only [evs, reduceIte, rdRes, rdTT, rdTy, rdLT, Res.un, TT.un, Ty.un, LT.un, Leaf.un, Leaf.plain, LT.plain, eq_self]; rw [i64_succ (by omega)]
            | false => simp -implicitDefEqProofs only [evs, reduceIte, rdRes, rdTT, rdTy, rdLT, Res.un, TT.un, Ty.un, LT.un, Leaf.un, Leaf.plain, LT.plain, Bool.false_eq_true]
          cases b with
          | true =>
            refine .inl ⟨_, step, ⟨i + 1, rfl, by omega, fun j hj => ?_⟩, ?_⟩
            · rcases Nat.lt_or_ge j i with h | h
              · exact hall j h
              · obtain rfl : j = i := by omega
                exact hb2 rfl
            · simp only [Int.toNat_natCast]; omega
          | false => exact .inr ⟨_, step, _, rfl, .inl rfl⟩
        · refine .inr ⟨(.ex0 (), H.empty), ?_, _, rfl, .inr ⟨rfl, fun x hx => ?_⟩⟩
          · unfold spileref22_Few.loop1
            simp -implicitDefEqProofs only [rowSV_len]
            rw [decide_eq_false (by omega), cond_false]
          · obtain ⟨j, hj, e⟩ := List.getElem_of_mem hx
            have := hall j (by omega)
            have e1 := atL_some hj
            rw [List.getElem?_eq_getElem hj, e] at e1
            rw [Option.some.inj e1]
            exact this) FUEL (0, H.empty) ⟨0, rfl, by omega, fun j hj => by omega⟩ (by simp only; have := fuel_gt (n := l.length) (by omega); simp; omega)
    obtain ⟨fl, rfl, h3⟩ := h2
    exact ⟨fl, h1, h3⟩
  have rest : ∃ b, ((bif decide ((37 : Int) < (l.length : Int)) then some (false, H.empty) else ((iter FUEL (spileref22_Few.loop1 (rowSV false jL l)) (0, H.empty)).bind fun (fl9, h8) => match fl9 with
      | .next _ => none
      | .ret rr10 => (some (rr10, h8))
      | .ex0 _ => (some (true, h8))
      | .ex1 _ => none) : Option (Bool × H)).bind fun p => some p.1) = some b ∧ (b = true → l.length ≤ 37 ∧ ∀ x ∈ l, x.2.2.2.length ≤ 37) := by
    by_cases h37 : 37 < l.length
    · rw [decide_eq_true (show (37 : Int) < (l.length : Int) by omega)]
      exact ⟨false, rfl, fun h => by cases h⟩
    · rw [decide_eq_false (show ¬ (37 : Int) < (l.length : Int) by omega)]
      obtain ⟨fl, h1, h2⟩ := loop (by omega)
      rw [h1]
      rcases h2 with rfl | ⟨rfl, h2⟩
      · exact ⟨false, rfl, fun h => by cases h⟩
      · exact ⟨true, rfl, fun _ => ⟨by omega, h2⟩⟩
  simp -implicitDefEqProofs only [evs, reduceIte, rdRes, rdTT, rdTy, rdLT, Res.un, TT.un, Ty.un, LT.un, Leaf.un, Leaf.plain, LT.plain]
  by_cases h8 : (8 : Int) < (l.length : Int)
  · rw [decide_eq_true h8]
    simp -implicitDefEqProofs only [evs, reduceIte, rdRes, rdTT, rdTy, rdLT, Res.un, TT.un, Ty.un, LT.un, Leaf.un, Leaf.plain, LT.plain]
    by_cases h32 : (l.length : Int) ≤ 32
    · rw [decide_eq_true h32]
      simp -implicitDefEqProofs only [evs, reduceIte, rdRes, rdTT, rdTy, rdLT, Res.un, TT.un, Ty.un, LT.un, Leaf.un, Leaf.plain, LT.plain]
      exact ⟨false, rfl, fun h => by cases h⟩
    · rw [decide_eq_false h32]
      simp -implicitDefEqProofs only [evs, reduceIte, rdRes, rdTT, rdTy, rdLT, Res.un, TT.un, Ty.un, LT.un, Leaf.un, Leaf.plain, LT.plain]
      exact rest
  · rw [decide_eq_false h8]
    simp -implicitDefEqProofs only [evs, reduceIte, rdRes, rdTT, rdTy, rdLT, Res.un, TT.un, Ty.un, LT.un, Leaf.un, Leaf.plain, LT.plain]
    exact rest
theorem SameLot_ok (x y : LotT) (hl : x.2.2.2.length < 2 ^ 63) : spileref22_SameLotP x y = some (decide (x = y)) := by
  obtain ⟨d, a, m, xs⟩ := x
  obtain ⟨d', a', m', ys⟩ := y
  simp only at hl
  unfold spileref22_SameLotP spileref22_SameLot
  simp -implicitDefEqProofs only [evs, reduceIte, rdRes, rdTT, rdTy, rdLT, Res.un, TT.un, Ty.un, LT.un, Leaf.un, Leaf.plain, LT.plain, evh, List.replicate, splice, LT.pack, Leaf.pack, Nat.reduceAdd, Nat.reduceSub, Nat.reduceLeDiff, Nat.reduceLT, Nat.reduceEqDiff, LT.lo, Leaf.lo, rdRow_a2]
  by_cases h1 : d = d'
  · rw [decide_eq_true h1]
    simp -implicitDefEqProofs only [evs, reduceIte, rdRes, rdTT, rdTy, rdLT, Res.un, TT.un, Ty.un, LT.un, Leaf.un, Leaf.plain, LT.plain, evh, List.replicate, splice, LT.pack, Leaf.pack, Nat.reduceAdd, Nat.reduceSub, Nat.reduceLeDiff, Nat.reduceLT, Nat.reduceEqDiff, LT.lo, Leaf.lo, rdRow_a2]
    by_cases h2 : a = a'
    · rw [decide_eq_true h2]
      by_cases h3 : m = m'
      · rw [decide_eq_true h3]
        simp -implicitDefEqProofs only [evs, reduceIte, rdRes, rdTT, rdTy, rdLT, Res.un, TT.un, Ty.un, LT.un, Leaf.un, Leaf.plain, LT.plain, evh, List.replicate, splice, LT.pack, Leaf.pack, Nat.reduceAdd, Nat.reduceSub, Nat.reduceLeDiff, Nat.reduceLT, Nat.reduceEqDiff, LT.lo, Leaf.lo, rdRow_a2]
        rw [same23_ok xs ys hl]
        simp -implicitDefEqProofs only [evs, reduceIte, rdRes, rdTT, rdTy, rdLT, Res.un, TT.un, Ty.un, LT.un, Leaf.un, Leaf.plain, LT.plain, evh, List.replicate, splice, LT.pack, Leaf.pack, Nat.reduceAdd, Nat.reduceSub, Nat.reduceLeDiff, Nat.reduceLT, Nat.reduceEqDiff, LT.lo, Leaf.lo]
        by_cases h4 : xs = ys
        · rw [decide_eq_true h4, decide_eq_true (by rw [h1, h2, h3, h4])]
        · rw [decide_eq_false h4, decide_eq_false (show ¬ ((d, a, m, xs) : LotT) = (d', a', m', ys) from fun h => h4 (by cases h; rfl))]
      · rw [decide_eq_false h3, decide_eq_false (show ¬ ((d, a, m, xs) : LotT) = (d', a', m', ys) from fun h => h3 (by cases h; rfl))]
        simp -implicitDefEqProofs only [evs, reduceIte, rdRes, rdTT, rdTy, rdLT, Res.un, TT.un, Ty.un, LT.un, Leaf.un, Leaf.plain, LT.plain, evh, List.replicate, splice, LT.pack, Leaf.pack, Nat.reduceAdd, Nat.reduceSub, Nat.reduceLeDiff, Nat.reduceLT, Nat.reduceEqDiff, LT.lo, Leaf.lo]
    · rw [decide_eq_false h2, decide_eq_false (show ¬ ((d, a, m, xs) : LotT) = (d', a', m', ys) from fun h => h2 (by cases h; rfl))]
      simp -implicitDefEqProofs only [evs, reduceIte, rdRes, rdTT, rdTy, rdLT, Res.un, TT.un, Ty.un, LT.un, Leaf.un, Leaf.plain, LT.plain, evh, List.replicate, splice, LT.pack, Leaf.pack, Nat.reduceAdd, Nat.reduceSub, Nat.reduceLeDiff, Nat.reduceLT, Nat.reduceEqDiff, LT.lo, Leaf.lo, Bool.false_and]
  · rw [decide_eq_false h1, decide_eq_false (show ¬ ((d, a, m, xs) : LotT) = (d', a', m', ys) from fun h => h1 (by cases h; rfl))]
    simp -implicitDefEqProofs only [evs, reduceIte, rdRes, rdTT, rdTy, rdLT, Res.un, TT.un, Ty.un, LT.un, Leaf.un, Leaf.plain, LT.plain, evh, List.replicate, splice, LT.pack, Leaf.pack, Nat.reduceAdd, Nat.reduceSub, Nat.reduceLeDiff, Nat.reduceLT, Nat.reduceEqDiff, LT.lo, Leaf.lo]
theorem drawL_length {x : LotT} {w n : Int} : (drawL x w n).1.2.2.2.length ≤ x.2.2.2.length ∧ (drawL x w n).2.1.2.2.2.length ≤ x.2.2.2.length := by
  unfold drawL
  have := takeOf_length (xs := x.2.2.2) (n := x.2.1 * w / x.2.2.1)
  repeat' split
  all_goals first | exact this | simp
theorem vatOf_length {l : List LotT} {n : Int} : (vatOf l n).1.2.2.2.length ≤ 32 := by
  unfold vatOf
  repeat' split
  all_goals first | (simp only; omega) | simp
theorem ShareLots_ok (l : List LotT) (x : LotT) (w n : Int) : spilelaw23_ShareLotsP l x w n = some true := by
  obtain ⟨b, hb, hb2⟩ := Few22_ok l
  obtain ⟨c, hc, hc2⟩ := FewShares_ok x.2.2.2
  unfold spilelaw23_ShareLotsP spilelaw23_ShareLots
  obtain ⟨d, a, m, xs⟩ := x
  simp only at hc
  simp -implicitDefEqProofs only [awake23, evs, reduceIte, rdRes, rdTT, rdTy, rdLT, Res.un, TT.un, Ty.un, LT.un, Leaf.un, Leaf.plain, LT.plain, evh, List.replicate, splice, LT.pack, Leaf.pack, Nat.reduceAdd, Nat.reduceSub, Nat.reduceLeDiff, Nat.reduceLT, Nat.reduceEqDiff, LT.lo, Leaf.lo, rdRow_argL, hb]
  cases b with
  | false => simp -implicitDefEqProofs only [evs, reduceIte, rdRes, rdTT, rdTy, rdLT, Res.un, TT.un, Ty.un, LT.un, Leaf.un, Leaf.plain, LT.plain, evh, List.replicate, splice, LT.pack, Leaf.pack, Nat.reduceAdd, Nat.reduceSub, Nat.reduceLeDiff, Nat.reduceLT, Nat.reduceEqDiff, LT.lo, Leaf.lo, Bool.false_eq_true]
  | true =>
    simp -implicitDefEqProofs only [evs, reduceIte, rdRes, rdTT, rdTy, rdLT, Res.un, TT.un, Ty.un, LT.un, Leaf.un, Leaf.plain, LT.plain, evh, List.replicate, splice, LT.pack, Leaf.pack, Nat.reduceAdd, Nat.reduceSub, Nat.reduceLeDiff, Nat.reduceLT, Nat.reduceEqDiff, LT.lo, Leaf.lo, rdRow_a2, hc]
    cases c with
    | false => simp -implicitDefEqProofs only [evs, reduceIte, rdRes, rdTT, rdTy, rdLT, Res.un, TT.un, Ty.un, LT.un, Leaf.un, Leaf.plain, LT.plain, evh, List.replicate, splice, LT.pack, Leaf.pack, Nat.reduceAdd, Nat.reduceSub, Nat.reduceLeDiff, Nat.reduceLT, Nat.reduceEqDiff, LT.lo, Leaf.lo, Bool.false_eq_true]
    | true =>
      obtain ⟨h1, h2⟩ := hb2 rfl
      have h3 := hc2 rfl
      simp only at h3
      simp -implicitDefEqProofs only [evs, reduceIte, rdRes, rdTT, rdTy, rdLT, Res.un, TT.un, Ty.un, LT.un, Leaf.un, Leaf.plain, LT.plain, evh, List.replicate, splice, LT.pack, Leaf.pack, Nat.reduceAdd, Nat.reduceSub, Nat.reduceLeDiff, Nat.reduceLT, Nat.reduceEqDiff, LT.lo, Leaf.lo, rdRow_a2]
      rw [SDraw_ok (d, a, m, xs) w n (by simp only; omega), rDrawL_ok (d, a, m, xs) w n (by simp only; omega)]
      have t1 := drawL_length (x := (d, a, m, xs)) (w := w) (n := n)
      generalize drawL (d, a, m, xs) w n = t at *
      obtain ⟨⟨u1, u2, u3, u4⟩, ⟨v1, v2, v3, v4⟩, e⟩ := t
      simp only at t1
      simp -implicitDefEqProofs only [evs, reduceIte, rdRes, rdTT, rdTy, rdLT, Res.un, TT.un, Ty.un, LT.un, Leaf.un, Leaf.plain, LT.plain, evh, List.replicate, splice, LT.pack, Leaf.pack, Nat.reduceAdd, Nat.reduceSub, Nat.reduceLeDiff, Nat.reduceLT, Nat.reduceEqDiff, LT.lo, Leaf.lo, rdRow_a2, rdRow_argL]
      rw [Vat_ok l n (by omega), rVat_ok l n (by omega) (fun y hy => by have := h2 y hy; omega)]
      have t2 := vatOf_length (l := l) (n := n)
      generalize vatOf l n = t at *
      obtain ⟨⟨z1, z2, z3, z4⟩, e'⟩ := t
      simp only at t2
      simp -implicitDefEqProofs only [evs, reduceIte, rdRes, rdTT, rdTy, rdLT, Res.un, TT.un, Ty.un, LT.un, Leaf.un, Leaf.plain, LT.plain, evh, List.replicate, splice, LT.pack, Leaf.pack, Nat.reduceAdd, Nat.reduceSub, Nat.reduceLeDiff, Nat.reduceLT, Nat.reduceEqDiff, LT.lo, Leaf.lo, rdRow_a2]
      rw [SameLot_ok _ _ (by simp only; omega), SameLot_ok _ _ (by simp only; omega), SameLot_ok _ _ (by simp only; omega)]
      simp -implicitDefEqProofs only [evs, reduceIte, rdRes, rdTT, rdTy, rdLT, Res.un, TT.un, Ty.un, LT.un, Leaf.un, Leaf.plain, LT.plain, evh, List.replicate, splice, LT.pack, Leaf.pack, Nat.reduceAdd, Nat.reduceSub, Nat.reduceLeDiff, Nat.reduceLT, Nat.reduceEqDiff, LT.lo, Leaf.lo, eq_self, decide_true]
end Go.Proofs.Ytbcpdecgfdlaaaa
