/- The laws of package loss about Between and the reference, in plain numbers. Conditions: none. -/
import Derived.Test.YtadlfinlbaogeaaS32b
namespace Go.Proofs.Ytadlfinlbaogeaa
open Go Go.Proofs.Ytadlfinlbaogeaa.Ev
set_option linter.unusedVariables false
set_option linter.unusedSimpArgs false
set_option maxRecDepth 100000
set_option maxHeartbeats 1000000
theorem loss_amount5 (a b c d e : Int) : (loss_amountP ⟨.lp false [.int .i64 a, .int .i64 b, .int .i64 c, .int .i64 d, .int .i64 e] 0, 5, 5, false⟩) = some (isAlc a && (isAlc b && (isAlc c && (isAlc d && isAlc e)))) := by
  have h : Ints H.empty ⟨.lp false [.int .i64 a, .int .i64 b, .int .i64 c, .int .i64 d, .int .i64 e] 0, 5, 5, false⟩ [a, b, c, d, e] := RoInts.lp (xs := [a, b, c, d, e]) rfl (Nat.le_refl _) _
  unfold loss_amountP
  rw [loss_amount_ok h (by simp)]
  simp only [List.all_cons, List.all_nil, Bool.and_true]
  rfl
abbrev L4 := Int × Int × Int × Int
def betweenOf (e lo hi a o : Int) : L4 × L4 × Int :=
  if (isAlc e && (isAlc lo && (isAlc hi && (isAlc a && isAlc o)))) = true then (if hi < lo then ((0, 0, 0, 0), (0, 0, 0, 0), 5) else (lossOf e hi a o, lossOf e lo a o, 0)) else ((0, 0, 0, 0), (0, 0, 0, 0), 2)
theorem loss_Between_ok (e lo hi a o : Int) : loss_BetweenP e (lo, hi) a o = some (betweenOf e lo hi a o) := by
  unfold loss_BetweenP loss_Between betweenOf
  simp only [Option.bind_some, Option.bind_none, rd_hp, rds_hp, wrs_hp, new_m, put_m, reserve_m, new_next, put_next, reserve_next, empty_next, if_true, if_false, ite_true, ite_false, reduceIte, List.length_cons, List.length_nil, List.length_append, splice, List.take_zero, List.take_succ_cons, List.take_nil, List.drop_zero, List.drop_succ_cons, List.drop_nil, List.nil_append, List.cons_append, List.append_nil, List.getElem?_cons_zero, List.getElem?_cons_succ, LT.pack, Leaf.pack, Nat.reduceAdd, Nat.reduceSub, Nat.reduceLeDiff, Nat.reduceEqDiff, Nat.zero_add, Nat.add_zero, Nat.zero_le, Nat.le_refl, and_self, and_true, true_and, cond_true, cond_false, Bool.not_true, Bool.not_false, cond_some, cond_pair, cond_same, snap_arg, List.all_cons, List.all_nil, flatV, Bool.and_self, Bool.and_true, Bool.true_and, loss_amount5]
  cases h : (isAlc e && (isAlc lo && (isAlc hi && (isAlc a && isAlc o)))) with
  | false => kernel_rfl
  | true =>
    simp only [Bool.and_eq_true] at h
    obtain ⟨h1, h2, h3, h4, h5⟩ := h
    simp only [Option.bind_some, Option.bind_none, rd_hp, rds_hp, wrs_hp, new_m, put_m, reserve_m, new_next, put_next, reserve_next, empty_next, if_true, if_false, ite_true, ite_false, reduceIte, List.length_cons, List.length_nil, List.length_append, splice, List.take_zero, List.take_succ_cons, List.take_nil, List.drop_zero, List.drop_succ_cons, List.drop_nil, List.nil_append, List.cons_append, List.append_nil, List.getElem?_cons_zero, List.getElem?_cons_succ, LT.pack, Leaf.pack, Nat.reduceAdd, Nat.reduceSub, Nat.reduceLeDiff, Nat.reduceEqDiff, Nat.zero_add, Nat.add_zero, Nat.zero_le, Nat.le_refl, and_self, and_true, true_and, cond_true, cond_false, Bool.not_true, Bool.not_false, cond_some, cond_pair, cond_same, snap_arg, List.all_cons, List.all_nil, flatV, Bool.and_self, Bool.and_true, Bool.true_and, loss_split_ok h1 h2 h4 h5, loss_split_ok h1 h3 h4 h5]
    generalize lossOf e hi a o = y
    obtain ⟨y0, y1, y2, y3⟩ := y
    generalize lossOf e lo a o = z
    obtain ⟨z0, z1, z2, z3⟩ := z
    by_cases hh : hi < lo
    · simp only [decide_eq_true hh, if_pos hh]; kernel_rfl
    · simp only [decide_eq_false hh, if_neg hh]; kernel_rfl
theorem ref_Is_ok (n : Int) : spileref32_IsP n = some (isAlc n) := by
  unfold spileref32_IsP spileref32_Is isAlc
  cases decide (0 ≤ n) <;> rfl
theorem ref_Of_ok {e f a o : Int} (he : isAlc e = true) (hf : isAlc f = true) (ha : isAlc a = true) (ho : isAlc o = true) : spileref32_OfP e f a o = some (lossOf e f a o) := by
  rw [isAlc_iff] at he hf ha ho
  have key : spileref32_OfP e f a o = bif decide (e < f) then some (0, 0, 0, IntKind.i64.wrap (f - e)) else
      some (minI a (IntKind.i64.wrap (e - f)), minI o (IntKind.i64.wrap (IntKind.i64.wrap (e - f) - minI a (IntKind.i64.wrap (e - f)))),
        IntKind.i64.wrap (IntKind.i64.wrap (IntKind.i64.wrap (e - f) - minI a (IntKind.i64.wrap (e - f))) - minI o (IntKind.i64.wrap (IntKind.i64.wrap (e - f) - minI a (IntKind.i64.wrap (e - f))))), 0) := by
    unfold spileref32_OfP spileref32_Of
    cases decide (e < f) <;> kernel_rfl
  rw [key]
  unfold lossOf
  by_cases h : e < f
  · rw [decide_eq_true h, if_pos h, IntWalk.i64_in _ (by omega)]; rfl
  · rw [decide_eq_false h, if_neg h, IntWalk.i64_in (e - f) (by omega), minI_eq', Int.min_comm a, IntWalk.i64_in (e - f - min (e - f) a) (by omega), minI_eq', Int.min_comm o, IntWalk.i64_in (e - f - min (e - f) a - _) (by omega)]; rfl
theorem ref_Split_ok (e f a o : Int) : spileref32_SplitP e f a o = some (if (isAlc e && (isAlc f && (isAlc a && isAlc o))) = true then (lossOf e f a o, 0) else ((0, 0, 0, 0), 2)) := by
  unfold spileref32_SplitP spileref32_Split
  simp only [Option.bind_some, Option.bind_none, rd_hp, rds_hp, wrs_hp, new_m, put_m, reserve_m, new_next, put_next, reserve_next, empty_next, if_true, if_false, ite_true, ite_false, reduceIte, List.length_cons, List.length_nil, List.length_append, splice, List.take_zero, List.take_succ_cons, List.take_nil, List.drop_zero, List.drop_succ_cons, List.drop_nil, List.nil_append, List.cons_append, List.append_nil, List.getElem?_cons_zero, List.getElem?_cons_succ, LT.pack, Leaf.pack, Nat.reduceAdd, Nat.reduceSub, Nat.reduceLeDiff, Nat.reduceEqDiff, Nat.zero_add, Nat.add_zero, Nat.zero_le, Nat.le_refl, and_self, and_true, true_and, cond_true, cond_false, Bool.not_true, Bool.not_false, cond_some, cond_pair, cond_same, snap_arg, List.all_cons, List.all_nil, flatV, Bool.and_self, Bool.and_true, Bool.true_and, ref_Is_ok]
  cases h1 : isAlc e with
  | false => kernel_rfl
  | true =>
    cases h2 : isAlc f with
    | false => kernel_rfl
    | true =>
      cases h3 : isAlc a with
      | false => kernel_rfl
      | true =>
        cases h4 : isAlc o with
        | false => kernel_rfl
        | true =>
          rw [ref_Of_ok h1 h2 h3 h4]
          generalize lossOf e f a o = y
          obtain ⟨y0, y1, y2, y3⟩ := y
          kernel_rfl
theorem ref_Between_ok (e lo hi a o : Int) : spileref32_BetweenP e (lo, hi) a o = some (betweenOf e lo hi a o) := by
  unfold spileref32_BetweenP spileref32_Between betweenOf
  simp only [Option.bind_some, Option.bind_none, rd_hp, rds_hp, wrs_hp, new_m, put_m, reserve_m, new_next, put_next, reserve_next, empty_next, if_true, if_false, ite_true, ite_false, reduceIte, List.length_cons, List.length_nil, List.length_append, splice, List.take_zero, List.take_succ_cons, List.take_nil, List.drop_zero, List.drop_succ_cons, List.drop_nil, List.nil_append, List.cons_append, List.append_nil, List.getElem?_cons_zero, List.getElem?_cons_succ, LT.pack, Leaf.pack, Nat.reduceAdd, Nat.reduceSub, Nat.reduceLeDiff, Nat.reduceEqDiff, Nat.zero_add, Nat.add_zero, Nat.zero_le, Nat.le_refl, and_self, and_true, true_and, cond_true, cond_false, Bool.not_true, Bool.not_false, cond_some, cond_pair, cond_same, snap_arg, List.all_cons, List.all_nil, flatV, Bool.and_self, Bool.and_true, Bool.true_and, ref_Is_ok]
  cases h1 : isAlc e with
  | false => kernel_rfl
  | true =>
    cases h2 : isAlc lo with
    | false => kernel_rfl
    | true =>
      cases h3 : isAlc hi with
      | false => kernel_rfl
      | true =>
        cases h4 : isAlc a with
        | false => kernel_rfl
        | true =>
          cases h5 : isAlc o with
          | false => kernel_rfl
          | true =>
            simp only [Option.bind_some, Option.bind_none, rd_hp, rds_hp, wrs_hp, new_m, put_m, reserve_m, new_next, put_next, reserve_next, empty_next, if_true, if_false, ite_true, ite_false, reduceIte, List.length_cons, List.length_nil, List.length_append, splice, List.take_zero, List.take_succ_cons, List.take_nil, List.drop_zero, List.drop_succ_cons, List.drop_nil, List.nil_append, List.cons_append, List.append_nil, List.getElem?_cons_zero, List.getElem?_cons_succ, LT.pack, Leaf.pack, Nat.reduceAdd, Nat.reduceSub, Nat.reduceLeDiff, Nat.reduceEqDiff, Nat.zero_add, Nat.add_zero, Nat.zero_le, Nat.le_refl, and_self, and_true, true_and, cond_true, cond_false, Bool.not_true, Bool.not_false, cond_some, cond_pair, cond_same, snap_arg, List.all_cons, List.all_nil, flatV, Bool.and_self, Bool.and_true, Bool.true_and, ref_Of_ok h1 h2 h4 h5, ref_Of_ok h1 h3 h4 h5]
            generalize lossOf e hi a o = y
            obtain ⟨y0, y1, y2, y3⟩ := y
            generalize lossOf e lo a o = z
            obtain ⟨z0, z1, z2, z3⟩ := z
            by_cases hh : hi < lo
            · simp only [decide_eq_true hh, if_pos hh]; kernel_rfl
            · simp only [decide_eq_false hh, if_neg hh]; kernel_rfl
theorem ref_Check_ok (e f a o : Int) (l : L4) : spileref32_CheckP e f a o l = some (bif allAlc e f a o then (bif decide (lossOf e f a o = l) then 0 else 14) else 2) := by
  obtain ⟨l0, l1, l2, l3⟩ := l
  unfold spileref32_CheckP spileref32_Check allAlc
  simp only [Option.bind_some, Option.bind_none, rd_hp, rds_hp, wrs_hp, new_m, put_m, reserve_m, new_next, put_next, reserve_next, empty_next, if_true, if_false, ite_true, ite_false, reduceIte, List.length_cons, List.length_nil, List.length_append, splice, List.take_zero, List.take_succ_cons, List.take_nil, List.drop_zero, List.drop_succ_cons, List.drop_nil, List.nil_append, List.cons_append, List.append_nil, List.getElem?_cons_zero, List.getElem?_cons_succ, LT.pack, Leaf.pack, Nat.reduceAdd, Nat.reduceSub, Nat.reduceLeDiff, Nat.reduceEqDiff, Nat.zero_add, Nat.add_zero, Nat.zero_le, Nat.le_refl, and_self, and_true, true_and, cond_true, cond_false, Bool.not_true, Bool.not_false, cond_some, cond_pair, cond_same, snap_arg, List.all_cons, List.all_nil, flatV, Bool.and_self, Bool.and_true, Bool.true_and, ref_Split_ok]
  cases h : (isAlc e && (isAlc f && (isAlc a && isAlc o))) with
  | false => kernel_rfl
  | true =>
    simp only [if_true]
    generalize lossOf e f a o = y
    obtain ⟨y0, y1, y2, y3⟩ := y
    have : decide ((y0, y1, y2, y3) = (l0, l1, l2, l3)) = (decide (y0 = l0) && (decide (y1 = l1) && (decide (y2 = l2) && decide (y3 = l3)))) := by simp [Prod.mk.injEq, Bool.decide_and]
    rw [this]
    simp only [Option.bind_some, Option.bind_none, rd_hp, rds_hp, wrs_hp, new_m, put_m, reserve_m, new_next, put_next, reserve_next, empty_next, if_true, if_false, ite_true, ite_false, reduceIte, List.length_cons, List.length_nil, List.length_append, splice, List.take_zero, List.take_succ_cons, List.take_nil, List.drop_zero, List.drop_succ_cons, List.drop_nil, List.nil_append, List.cons_append, List.append_nil, List.getElem?_cons_zero, List.getElem?_cons_succ, LT.pack, Leaf.pack, Nat.reduceAdd, Nat.reduceSub, Nat.reduceLeDiff, Nat.reduceEqDiff, Nat.zero_add, Nat.add_zero, Nat.zero_le, Nat.le_refl, and_self, and_true, true_and, cond_true, cond_false, Bool.not_true, Bool.not_false, cond_some, cond_pair, cond_same, snap_arg, List.all_cons, List.all_nil, flatV, Bool.and_self, Bool.and_true, Bool.true_and]
    cases (decide (y0 = l0) && (decide (y1 = l1) && (decide (y2 = l2) && decide (y3 = l3)))) <;> rfl
theorem LossSplits_ok (e lo f a o l0 l1 l2 l3 : Int) (h0 : Dat (.int .i64) (.int .i64 e)) (h1 : Dat (.int .i64) (.int .i64 lo)) (h2 : Dat (.int .i64) (.int .i64 f)) (h3 : Dat (.int .i64) (.int .i64 a)) (h4 : Dat (.int .i64) (.int .i64 o))
    (h5 : Dat (.int .i64) (.int .i64 l0)) (h6 : Dat (.int .i64) (.int .i64 l1)) (h7 : Dat (.int .i64) (.int .i64 l2)) (h8 : Dat (.int .i64) (.int .i64 l3)) :
    ∃ h', spilelaw32_LossSplits (e, lo, f, a, o) (l0, l1, l2, l3) H.empty = some (true, h') := by
  apply law_of
  unfold spilelaw32_LossSplits
  simp only [Option.bind_some, Option.bind_none, rd_hp, rds_hp, wrs_hp, new_m, put_m, reserve_m, new_next, put_next, reserve_next, empty_next, if_true, if_false, ite_true, ite_false, reduceIte, List.length_cons, List.length_nil, List.length_append, splice, List.take_zero, List.take_succ_cons, List.take_nil, List.drop_zero, List.drop_succ_cons, List.drop_nil, List.nil_append, List.cons_append, List.append_nil, List.getElem?_cons_zero, List.getElem?_cons_succ, LT.pack, Leaf.pack, Nat.reduceAdd, Nat.reduceSub, Nat.reduceLeDiff, Nat.reduceEqDiff, Nat.zero_add, Nat.add_zero, Nat.zero_le, Nat.le_refl, and_self, and_true, true_and, cond_true, cond_false, Bool.not_true, Bool.not_false, cond_some, cond_pair, cond_same, snap_arg, List.all_cons, List.all_nil, flatV, Bool.and_self, Bool.and_true, Bool.true_and, awake32, loss_Split_ok, ref_Split_ok, loss_Between_ok, ref_Between_ok, loss_Check_ok, ref_Check_ok, cond_fst, cond_map, Option.map_some, decide_true]
theorem lossOf_mono {e f g a o : Int} (he : isAlc e = true) (hf : isAlc f = true) (hg : isAlc g = true) (ha : isAlc a = true) (ho : isAlc o = true) (h : f ≤ g) :
    (lossOf e g a o).1 ≤ (lossOf e f a o).1 ∧ (lossOf e g a o).2.1 ≤ (lossOf e f a o).2.1 ∧ (lossOf e g a o).2.2.1 ≤ (lossOf e f a o).2.2.1 ∧ (lossOf e f a o).2.2.2 ≤ (lossOf e g a o).2.2.2 := by
  rw [isAlc_iff] at he hf hg ha ho
  unfold lossOf
  split <;> split <;> simp only <;> omega
theorem less_ok (x y : L4) : spilelaw32_LossOrdered_1P x y = some (bif decide (x.1 ≤ y.1) then bif decide (x.2.1 ≤ y.2.1) then bif decide (x.2.2.1 ≤ y.2.2.1) then decide (y.2.2.2 ≤ x.2.2.2) else false else false else false) := by
  obtain ⟨x0, x1, x2, x3⟩ := x
  obtain ⟨y0, y1, y2, y3⟩ := y
  unfold spilelaw32_LossOrdered_1P spilelaw32_LossOrdered_1
  simp only [Option.bind_some, Option.bind_none, rd_hp, rds_hp, wrs_hp, new_m, put_m, reserve_m, new_next, put_next, reserve_next, empty_next, if_true, if_false, ite_true, ite_false, reduceIte, List.length_cons, List.length_nil, List.length_append, splice, List.take_zero, List.take_succ_cons, List.take_nil, List.drop_zero, List.drop_succ_cons, List.drop_nil, List.nil_append, List.cons_append, List.append_nil, List.getElem?_cons_zero, List.getElem?_cons_succ, LT.pack, Leaf.pack, Nat.reduceAdd, Nat.reduceSub, Nat.reduceLeDiff, Nat.reduceEqDiff, Nat.zero_add, Nat.add_zero, Nat.zero_le, Nat.le_refl, and_self, and_true, true_and, cond_true, cond_false, Bool.not_true, Bool.not_false, cond_some, cond_pair, cond_same, snap_arg, List.all_cons, List.all_nil, flatV, Bool.and_self, Bool.and_true, Bool.true_and]
  rfl
theorem LossOrdered_ok (e lo f a o p : Int) (h0 : Dat (.int .i64) (.int .i64 e)) (h1 : Dat (.int .i64) (.int .i64 lo)) (h2 : Dat (.int .i64) (.int .i64 f)) (h3 : Dat (.int .i64) (.int .i64 a)) (h4 : Dat (.int .i64) (.int .i64 o))
    (h5 : Dat (.int .u16) (.int .u16 p)) : ∃ h', spilelaw32_LossOrdered (e, lo, f, a, o) p H.empty = some (true, h') := by
  have hp : 0 ≤ p ∧ p ≤ 65535 := by
    cases h5 with
    | int k n h =>
      simp only [Lit.wf, Bool.and_eq_true, decide_eq_true_eq] at h
      exact ⟨h.1, h.2⟩
  apply law_of
  unfold spilelaw32_LossOrdered
  simp only [Option.bind_some, Option.bind_none, rd_hp, rds_hp, wrs_hp, new_m, put_m, reserve_m, new_next, put_next, reserve_next, empty_next, if_true, if_false, ite_true, ite_false, reduceIte, List.length_cons, List.length_nil, List.length_append, splice, List.take_zero, List.take_succ_cons, List.take_nil, List.drop_zero, List.drop_succ_cons, List.drop_nil, List.nil_append, List.cons_append, List.append_nil, List.getElem?_cons_zero, List.getElem?_cons_succ, LT.pack, Leaf.pack, Nat.reduceAdd, Nat.reduceSub, Nat.reduceLeDiff, Nat.reduceEqDiff, Nat.zero_add, Nat.add_zero, Nat.zero_le, Nat.le_refl, and_self, and_true, true_and, cond_true, cond_false, Bool.not_true, Bool.not_false, cond_some, cond_pair, cond_same, snap_arg, List.all_cons, List.all_nil, flatV, Bool.and_self, Bool.and_true, Bool.true_and, awake32, loss_Split_ok, loss_Between_ok, cond_fst, cond_map, Option.map_some, decide_true]
  unfold betweenOf
  by_cases h : (isAlc e && (isAlc lo && (isAlc f && (isAlc a && isAlc o)))) = true
  · simp only [if_pos h]
    simp only [Bool.and_eq_true] at h
    obtain ⟨k0, k1, k2, k3, k4⟩ := h
    by_cases hh : f < lo
    · simp only [if_pos hh]; rfl
    · simp only [if_neg hh]
      have b1 := isAlc_iff.1 k1
      have b2 := isAlc_iff.1 k2
      rw [IntWalk.i64_in p (by omega), IntWalk.i64_in (1 + p) (by omega), IntWalk.i64_in (f - lo) (by omega)]
      have q0 : 0 ≤ (f - lo).tdiv (1 + p) := Int.tdiv_nonneg (by omega) (by omega)
      have q1 : (f - lo).tdiv (1 + p) ≤ f - lo := by
        rw [Int.tdiv_eq_ediv_of_nonneg (by omega)]
        exact Int.ediv_le_self _ (by omega)
      generalize (f - lo).tdiv (1 + p) = q at q0 q1
      rw [IntWalk.i64_in q (by omega), IntWalk.i64_in (lo + q) (by omega)]
      have k5 : isAlc (lo + q) = true := isAlc_iff.2 ⟨by omega, by omega⟩
      have m1 := lossOf_mono k0 k5 k2 k3 k4 (show lo + q ≤ f by omega)
      have m2 := lossOf_mono k0 k1 k5 k3 k4 (show lo ≤ lo + q by omega)
      simp only [guardO_pos (show (1 + p : Int) ≠ 0 by omega), k0, k5, k3, k4, Bool.and_self, if_true, Option.bind_some, Option.bind_none, rd_hp, rds_hp, wrs_hp, new_m, put_m, reserve_m, new_next, put_next, reserve_next, empty_next, if_true, if_false, ite_true, ite_false, reduceIte, List.length_cons, List.length_nil, List.length_append, splice, List.take_zero, List.take_succ_cons, List.take_nil, List.drop_zero, List.drop_succ_cons, List.drop_nil, List.nil_append, List.cons_append, List.append_nil, List.getElem?_cons_zero, List.getElem?_cons_succ, LT.pack, Leaf.pack, Nat.reduceAdd, Nat.reduceSub, Nat.reduceLeDiff, Nat.reduceEqDiff, Nat.zero_add, Nat.add_zero, Nat.zero_le, Nat.le_refl, and_self, and_true, true_and, cond_true, cond_false, Bool.not_true, Bool.not_false, cond_some, cond_pair, cond_same, snap_arg, List.all_cons, List.all_nil, flatV, Bool.and_self, Bool.and_true, Bool.true_and, less_ok, Option.map_some, m1.1, m1.2.1, m1.2.2.1, m1.2.2.2, m2.1, m2.2.1, m2.2.2.1, m2.2.2.2, decide_true]
  · simp only [if_neg h]
    rfl
end Go.Proofs.Ytadlfinlbaogeaa
