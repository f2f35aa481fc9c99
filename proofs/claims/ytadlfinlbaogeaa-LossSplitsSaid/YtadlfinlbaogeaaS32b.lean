/- The laws of package loss about Split, Between and Check, in plain numbers. Conditions: none. -/
import Derived.Test.YtadlfinlbaogeaaS32a
namespace Go.Proofs.Ytadlfinlbaogeaa
open Go Go.Proofs.Ytadlfinlbaogeaa.Ev
set_option linter.unusedVariables false
set_option linter.unusedSimpArgs false
set_option maxRecDepth 100000
theorem awake32 : spilelaw32_awakeP = some true := by kernel_rfl
theorem LossCloses_ok (e lo f a o : Int) : ∃ h', spilelaw32_LossCloses (e, lo, f, a, o) H.empty = some (true, h') := by
  apply law_of
  unfold spilelaw32_LossCloses
  simp only [Option.bind_some, Option.bind_none, rd_hp, rds_hp, wrs_hp, new_m, put_m, reserve_m, new_next, put_next, reserve_next, empty_next, if_true, if_false, ite_true, ite_false, reduceIte, List.length_cons, List.length_nil, List.length_append, splice, List.take_zero, List.take_succ_cons, List.take_nil, List.drop_zero, List.drop_succ_cons, List.drop_nil, List.nil_append, List.cons_append, List.append_nil, List.getElem?_cons_zero, List.getElem?_cons_succ, LT.pack, Leaf.pack, Nat.reduceAdd, Nat.reduceSub, Nat.reduceLeDiff, Nat.reduceEqDiff, Nat.zero_add, Nat.add_zero, Nat.zero_le, Nat.le_refl, and_self, and_true, true_and, cond_true, cond_false, Bool.not_true, Bool.not_false, cond_some, cond_pair, cond_same, snap_arg, List.all_cons, List.all_nil, flatV, Bool.and_self, Bool.and_true, Bool.true_and, awake32, loss_Split_ok]
  by_cases h : (isAlc e && (isAlc f && (isAlc a && isAlc o))) = true
  · simp only [if_pos h]
    generalize hy : lossOf e f a o = y
    obtain ⟨y0, y1, y2, y3⟩ := y
    have hall : allAlc e f a o = true := h
    simp only [Option.bind_some, Option.bind_none, rd_hp, rds_hp, wrs_hp, new_m, put_m, reserve_m, new_next, put_next, reserve_next, empty_next, if_true, if_false, ite_true, ite_false, reduceIte, List.length_cons, List.length_nil, List.length_append, splice, List.take_zero, List.take_succ_cons, List.take_nil, List.drop_zero, List.drop_succ_cons, List.drop_nil, List.nil_append, List.cons_append, List.append_nil, List.getElem?_cons_zero, List.getElem?_cons_succ, LT.pack, Leaf.pack, Nat.reduceAdd, Nat.reduceSub, Nat.reduceLeDiff, Nat.reduceEqDiff, Nat.zero_add, Nat.add_zero, Nat.zero_le, Nat.le_refl, and_self, and_true, true_and, cond_true, cond_false, Bool.not_true, Bool.not_false, cond_some, cond_pair, cond_same, snap_arg, List.all_cons, List.all_nil, flatV, Bool.and_self, Bool.and_true, Bool.true_and, lost_ok, loss_Check_ok, hy, hall, cond_fst, cond_map, Option.map_some, decide_true]
    simp only [Bool.and_eq_true, isAlc_iff] at h
    unfold lossOf at hy
    have key : (¬ y0 < 0 ∧ ¬ y1 < 0 ∧ ¬ y2 < 0 ∧ ¬ y3 < 0 ∧ ¬ a < y0 ∧ ¬ o < y1) ∧ (0 < y1 + y2 → y0 = a) ∧ (0 < y2 → y1 = o) ∧ e + y3 = f + (y0 + y1 + y2) ∧ (y3 = 0 ∨ y0 + y1 + y2 = 0) ∧
        y0 ≤ 10737418240000 ∧ y1 ≤ 10737418240000 ∧ y2 ≤ 10737418240000 ∧ y3 ≤ 10737418240000 := by
      split at hy <;> (simp only [Prod.mk.injEq] at hy; omega)
    obtain ⟨⟨k0, k1, k2, k3, k4, k5⟩, k6, k7, k8, k9, b0, b1, b2, b3⟩ := key
    rw [IntWalk.i64_in (y1 + y2) (by omega), IntWalk.i64_in (y0 + y1) (by omega), IntWalk.i64_in (y0 + y1 + y2) (by omega), IntWalk.i64_in (e + y3) (by omega), IntWalk.i64_in (f + _) (by omega)]
    simp only [k0, k1, k2, k3, k4, k5, decide_false, decide_true, Option.bind_some, Option.bind_none, rd_hp, rds_hp, wrs_hp, new_m, put_m, reserve_m, new_next, put_next, reserve_next, empty_next, if_true, if_false, ite_true, ite_false, reduceIte, List.length_cons, List.length_nil, List.length_append, splice, List.take_zero, List.take_succ_cons, List.take_nil, List.drop_zero, List.drop_succ_cons, List.drop_nil, List.nil_append, List.cons_append, List.append_nil, List.getElem?_cons_zero, List.getElem?_cons_succ, LT.pack, Leaf.pack, Nat.reduceAdd, Nat.reduceSub, Nat.reduceLeDiff, Nat.reduceEqDiff, Nat.zero_add, Nat.add_zero, Nat.zero_le, Nat.le_refl, and_self, and_true, true_and, cond_true, cond_false, Bool.not_true, Bool.not_false, cond_some, cond_pair, cond_same, snap_arg, List.all_cons, List.all_nil, flatV, Bool.and_self, Bool.and_true, Bool.true_and, k8]
    by_cases c1 : 0 < y1 + y2 <;> by_cases c2 : 0 < y2 <;> by_cases c3 : y3 = 0 <;> clear hy hall <;> simp_all <;> split <;> omega
  · simp only [if_neg h]
    simp
end Go.Proofs.Ytadlfinlbaogeaa
