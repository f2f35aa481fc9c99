/- The laws ProportionExact and ProportionOrder in plain numbers. Conditions: none. -/
import Derived.Test.YtadlfinlbaogeaaS01f
namespace Go.Proofs.Ytadlfinlbaogeaa
open Go Go.Proofs.Ytadlfinlbaogeaa.Ev
set_option linter.unusedVariables false
set_option linter.unusedSimpArgs false
set_option maxRecDepth 100000
set_option maxHeartbeats 1000000
theorem awake01 : spilelaw01_awakeP = some true := by kernel_rfl
theorem ProportionExact_ok (x : Int × Int × Int × Int) : spilelaw01_ProportionExactP x = some true := by
  obtain ⟨a, b, c, d⟩ := x
  unfold spilelaw01_ProportionExactP spilelaw01_ProportionExact
  simp -implicitDefEqProofs only [awake01, Option.bind_some, Option.bind_none, Option.map_some, Option.map_none, cond_true, cond_false, Bool.not_true, Bool.not_false, if_true, if_false, reduceIte, rdRes, rdTT, rdTy, rdLT, rdLeaf_int, rdLeaf_bool, rdLeaf_str, rdLeaf_row, Res.un, TT.un, Ty.un, LT.un, Leaf.un, rdRow_i1, rdRow_i2, rdRow_i3, rdRow_i4, rdRow_i5, rdRow_args, rdRow_res, rdRow_nil, Leaf.plain, LT.plain, List.isEmpty_cons, Bool.and_self, Bool.and_true, Bool.true_and, Bool.or_true, Bool.true_or, Bool.or_false, Bool.false_or, reserve0, rowSV_len, rowSV_cap, rowSV_tail, guardO_true, hL_empty, hL_new, hL_next, hL_put, hL_reserve, List.replicate, rd_hp, rds_hp, wrs_hp, hL_m, List.nil_append, List.cons_append, List.append_nil, List.getElem?_cons_zero, List.getElem?_cons_succ, Option.getD_some, List.length_cons, List.length_nil, List.length_append, splice, List.take_zero, List.take_succ_cons, List.take_nil, List.drop_zero, List.drop_succ_cons, List.drop_nil, List.set_cons_zero, List.set_cons_succ, LT.pack, Leaf.pack, Nat.reduceAdd, Nat.reduceSub, Nat.reduceLeDiff, Nat.reduceLT, Nat.reduceEqDiff, Nat.zero_add, Nat.add_zero, Nat.zero_le, Nat.le_refl, and_self, and_true, true_and, Nat.lt_add_one, Nat.zero_lt_succ, ne_eq, not_false_eq_true, Nat.succ_ne_zero, List.flatMap_cons, List.flatMap_nil, LT.lo, Leaf.lo, Of_ok, rOfChecked_ok, Up_ok, rUp_ok, Compare_ok, rCompare_ok, decide_true]
theorem frac_trans {a b c d e f : Int} (hb : 0 < b) (hd : 0 < d) (hf : 0 < f) (h1 : a * d ≤ c * b) (h2 : c * f ≤ e * d) : a * f ≤ e * b := by
  have k1 : a * d * f ≤ c * b * f := Int.mul_le_mul_of_nonneg_right h1 (by omega)
  have k2 : c * f * b ≤ e * d * b := Int.mul_le_mul_of_nonneg_right h2 (by omega)
  have e1 : a * d * f = a * f * d := Int.mul_right_comm a d f
  have e2 : c * b * f = c * f * b := Int.mul_right_comm c b f
  have e3 : e * d * b = e * b * d := Int.mul_right_comm e d b
  have : a * f * d ≤ e * b * d := by omega
  exact Int.le_of_mul_le_mul_right this hd
def sgn (x y : Int) : Int := if x < y then -1 else if y < x then 1 else 0
theorem cmpOf_eq (a b c d : Int) : cmpOf a b c d = if (isAmt a && (isAmt b && (isAmt c && isAmt d))) = true then (if b = 0 ∨ d = 0 then (0, 16) else (sgn (a * d) (c * b), 0)) else (0, 2) := rfl
theorem sgn_swap (x y : Int) : sgn y x = - sgn x y := by unfold sgn; split <;> split <;> omega
theorem sgn_range (x y : Int) : sgn x y = -1 ∨ sgn x y = 0 ∨ sgn x y = 1 := by unfold sgn; split <;> (try split) <;> simp
theorem sgn_le {x y : Int} : sgn x y ≤ 0 ↔ x ≤ y := by unfold sgn; split <;> (try split) <;> simp <;> omega
theorem sgn_ge {x y : Int} : 0 ≤ sgn x y ↔ y ≤ x := by unfold sgn; split <;> (try split) <;> simp <;> omega
theorem ProportionOrder_ok (x : Int × Int × Int × Int × Int × Int) : spilelaw01_ProportionOrderP x = some true := by
  obtain ⟨x0, x1, x2, x3, x4, x5⟩ := x
  unfold spilelaw01_ProportionOrderP spilelaw01_ProportionOrder
  simp -implicitDefEqProofs only [awake01, Option.bind_some, Option.bind_none, Option.map_some, Option.map_none, cond_true, cond_false, Bool.not_true, Bool.not_false, if_true, if_false, reduceIte, rdRes, rdTT, rdTy, rdLT, rdLeaf_int, rdLeaf_bool, rdLeaf_str, rdLeaf_row, Res.un, TT.un, Ty.un, LT.un, Leaf.un, rdRow_i1, rdRow_i2, rdRow_i3, rdRow_i4, rdRow_i5, rdRow_args, rdRow_res, rdRow_nil, Leaf.plain, LT.plain, List.isEmpty_cons, Bool.and_self, Bool.and_true, Bool.true_and, Bool.or_true, Bool.true_or, Bool.or_false, Bool.false_or, reserve0, rowSV_len, rowSV_cap, rowSV_tail, guardO_true, hL_empty, hL_new, hL_next, hL_put, hL_reserve, List.replicate, rd_hp, rds_hp, wrs_hp, hL_m, List.nil_append, List.cons_append, List.append_nil, List.getElem?_cons_zero, List.getElem?_cons_succ, Option.getD_some, List.length_cons, List.length_nil, List.length_append, splice, List.take_zero, List.take_succ_cons, List.take_nil, List.drop_zero, List.drop_succ_cons, List.drop_nil, List.set_cons_zero, List.set_cons_succ, LT.pack, Leaf.pack, Nat.reduceAdd, Nat.reduceSub, Nat.reduceLeDiff, Nat.reduceLT, Nat.reduceEqDiff, Nat.zero_add, Nat.add_zero, Nat.zero_le, Nat.le_refl, and_self, and_true, true_and, Nat.lt_add_one, Nat.zero_lt_succ, ne_eq, not_false_eq_true, Nat.succ_ne_zero, List.flatMap_cons, List.flatMap_nil, LT.lo, Leaf.lo, Compare_ok]
  have facts : ((cmpOf x0 x1 x2 x3).2 = 0 ∧ (cmpOf x2 x3 x0 x1).2 = 0 ∧ (cmpOf x2 x3 x0 x1).1 = - (cmpOf x0 x1 x2 x3).1 ∧ ((cmpOf x0 x1 x2 x3).1 = -1 ∨ (cmpOf x0 x1 x2 x3).1 = 0 ∨ (cmpOf x0 x1 x2 x3).1 = 1) ∧ (cmpOf x0 x1 x4 x5).2 = (cmpOf x2 x3 x4 x5).2 ∧
      ((cmpOf x2 x3 x4 x5).2 = 0 → ((cmpOf x0 x1 x2 x3).1 ≤ 0 → (cmpOf x2 x3 x4 x5).1 ≤ 0 → (cmpOf x0 x1 x4 x5).1 ≤ 0) ∧ (0 ≤ (cmpOf x0 x1 x2 x3).1 → 0 ≤ (cmpOf x2 x3 x4 x5).1 → 0 ≤ (cmpOf x0 x1 x4 x5).1))) ∨
      ((cmpOf x0 x1 x2 x3).2 ≠ 0 ∧ (cmpOf x2 x3 x0 x1).2 = (cmpOf x0 x1 x2 x3).2 ∧ (cmpOf x0 x1 x2 x3).1 = 0 ∧ (cmpOf x2 x3 x0 x1).1 = 0) := by
    simp only [cmpOf_eq]
    by_cases h : (isAmt x0 && (isAmt x1 && (isAmt x2 && isAmt x3))) = true
    · have h' : (isAmt x2 && (isAmt x3 && (isAmt x0 && isAmt x1))) = true := by simp_all
      rw [if_pos h, if_pos h']
      by_cases hz : x1 = 0 ∨ x3 = 0
      · right
        rw [if_pos hz, if_pos (Or.symm hz)]
        simp
      · left
        rw [if_neg hz, if_neg (fun h => hz (Or.symm h))]
        simp only [Bool.and_eq_true, isAmt_iff] at h
        have e1 : (isAmt x0 && (isAmt x1 && (isAmt x4 && isAmt x5))) = (isAmt x2 && (isAmt x3 && (isAmt x4 && isAmt x5))) := by simp only [Bool.and_eq_true] at h'; simp [h']
        rw [e1]
        by_cases h4 : (isAmt x2 && (isAmt x3 && (isAmt x4 && isAmt x5))) = true
        · rw [if_pos h4, if_pos h4]
          simp only [Bool.and_eq_true, isAmt_iff] at h4
          by_cases h5 : x5 = 0
          · simp only [h5, or_true, if_true]
            exact ⟨trivial, trivial, sgn_swap _ _, sgn_range _ _, trivial, by simp⟩
          · rw [if_neg (show ¬ (x1 = 0 ∨ x5 = 0) by omega), if_neg (show ¬ (x3 = 0 ∨ x5 = 0) by omega)]
            refine ⟨rfl, rfl, sgn_swap _ _, sgn_range _ _, rfl, fun _ => ⟨fun a b => ?_, fun a b => ?_⟩⟩
            · rw [sgn_le] at *
              exact frac_trans (b := x1) (d := x3) (f := x5) (by omega) (by omega) (by omega) a b
            · rw [sgn_ge] at *
              exact frac_trans (b := x5) (d := x3) (f := x1) (by omega) (by omega) (by omega) b a
        · rw [if_neg h4, if_neg h4]
          exact ⟨rfl, rfl, sgn_swap _ _, sgn_range _ _, rfl, by simp⟩
    · have h' : ¬ (isAmt x2 && (isAmt x3 && (isAmt x0 && isAmt x1))) = true := fun hh => h (by simp_all)
      rw [if_neg h, if_neg h']
      right
      simp
  generalize cmpOf x0 x1 x2 x3 = A at *
  generalize cmpOf x2 x3 x0 x1 = B at *
  generalize cmpOf x2 x3 x4 x5 = C at *
  generalize cmpOf x0 x1 x4 x5 = D at *
  obtain ⟨a, e⟩ := A
  obtain ⟨b, f⟩ := B
  obtain ⟨c, g⟩ := C
  obtain ⟨d, hh⟩ := D
  simp only at facts
  rcases facts with ⟨rfl, rfl, rfl, ha, rfl, hcd⟩ | ⟨he, rfl, rfl, rfl⟩
  · rw [show IntKind.wrap .i64 (0 - -a) = a by rw [i64_in _ (by omega)]; omega]
    simp -implicitDefEqProofs only [Option.bind_some, Option.bind_none, Option.map_some, Option.map_none, cond_true, cond_false, Bool.not_true, Bool.not_false, if_true, if_false, reduceIte, rdRes, rdTT, rdTy, rdLT, rdLeaf_int, rdLeaf_bool, rdLeaf_str, rdLeaf_row, Res.un, TT.un, Ty.un, LT.un, Leaf.un, rdRow_i1, rdRow_i2, rdRow_i3, rdRow_i4, rdRow_i5, rdRow_args, rdRow_res, rdRow_nil, Leaf.plain, LT.plain, List.isEmpty_cons, Bool.and_self, Bool.and_true, Bool.true_and, Bool.or_true, Bool.true_or, Bool.or_false, Bool.false_or, reserve0, rowSV_len, rowSV_cap, rowSV_tail, guardO_true, decide_true]
    rw [decide_eq_false (show ¬ a < -1 by omega), decide_eq_false (show ¬ 1 < a by omega)]
    simp -implicitDefEqProofs only [Option.bind_some, Option.bind_none, Option.map_some, Option.map_none, cond_true, cond_false, Bool.not_true, Bool.not_false, if_true, if_false, reduceIte, rdRes, rdTT, rdTy, rdLT, rdLeaf_int, rdLeaf_bool, rdLeaf_str, rdLeaf_row, Res.un, TT.un, Ty.un, LT.un, Leaf.un, rdRow_i1, rdRow_i2, rdRow_i3, rdRow_i4, rdRow_i5, rdRow_args, rdRow_res, rdRow_nil, Leaf.plain, LT.plain, List.isEmpty_cons, Bool.and_self, Bool.and_true, Bool.true_and, Bool.or_true, Bool.true_or, Bool.or_false, Bool.false_or, reserve0, rowSV_len, rowSV_cap, rowSV_tail, guardO_true]
    by_cases hg : hh = 0
    · subst hg
      obtain ⟨k1, k2⟩ := hcd rfl
      simp -implicitDefEqProofs only [Option.bind_some, Option.bind_none, Option.map_some, Option.map_none, cond_true, cond_false, Bool.not_true, Bool.not_false, if_true, if_false, reduceIte, rdRes, rdTT, rdTy, rdLT, rdLeaf_int, rdLeaf_bool, rdLeaf_str, rdLeaf_row, Res.un, TT.un, Ty.un, LT.un, Leaf.un, rdRow_i1, rdRow_i2, rdRow_i3, rdRow_i4, rdRow_i5, rdRow_args, rdRow_res, rdRow_nil, Leaf.plain, LT.plain, List.isEmpty_cons, Bool.and_self, Bool.and_true, Bool.true_and, Bool.or_true, Bool.true_or, Bool.or_false, Bool.false_or, reserve0, rowSV_len, rowSV_cap, rowSV_tail, guardO_true, decide_true]
      by_cases p1 : 0 < a
      · rw [decide_eq_true p1, decide_eq_false (show ¬ a < 0 by omega)]
        simp -implicitDefEqProofs only [Option.bind_some, Option.bind_none, Option.map_some, Option.map_none, cond_true, cond_false, Bool.not_true, Bool.not_false, if_true, if_false, reduceIte, rdRes, rdTT, rdTy, rdLT, rdLeaf_int, rdLeaf_bool, rdLeaf_str, rdLeaf_row, Res.un, TT.un, Ty.un, LT.un, Leaf.un, rdRow_i1, rdRow_i2, rdRow_i3, rdRow_i4, rdRow_i5, rdRow_args, rdRow_res, rdRow_nil, Leaf.plain, LT.plain, List.isEmpty_cons, Bool.and_self, Bool.and_true, Bool.true_and, Bool.or_true, Bool.true_or, Bool.or_false, Bool.false_or, reserve0, rowSV_len, rowSV_cap, rowSV_tail, guardO_true]
        by_cases p2 : c < 0
        · rw [decide_eq_true p2]; rfl
        · rw [decide_eq_false p2, decide_eq_true (k2 (by omega) (by omega))]; rfl
      · rw [decide_eq_false p1]
        simp -implicitDefEqProofs only [Option.bind_some, Option.bind_none, Option.map_some, Option.map_none, cond_true, cond_false, Bool.not_true, Bool.not_false, if_true, if_false, reduceIte, rdRes, rdTT, rdTy, rdLT, rdLeaf_int, rdLeaf_bool, rdLeaf_str, rdLeaf_row, Res.un, TT.un, Ty.un, LT.un, Leaf.un, rdRow_i1, rdRow_i2, rdRow_i3, rdRow_i4, rdRow_i5, rdRow_args, rdRow_res, rdRow_nil, Leaf.plain, LT.plain, List.isEmpty_cons, Bool.and_self, Bool.and_true, Bool.true_and, Bool.or_true, Bool.true_or, Bool.or_false, Bool.false_or, reserve0, rowSV_len, rowSV_cap, rowSV_tail, guardO_true]
        by_cases p2 : 0 < c
        · rw [decide_eq_true p2, decide_eq_false (show ¬ c < 0 by omega)]
          simp -implicitDefEqProofs only [Option.bind_some, Option.bind_none, Option.map_some, Option.map_none, cond_true, cond_false, Bool.not_true, Bool.not_false, if_true, if_false, reduceIte, rdRes, rdTT, rdTy, rdLT, rdLeaf_int, rdLeaf_bool, rdLeaf_str, rdLeaf_row, Res.un, TT.un, Ty.un, LT.un, Leaf.un, rdRow_i1, rdRow_i2, rdRow_i3, rdRow_i4, rdRow_i5, rdRow_args, rdRow_res, rdRow_nil, Leaf.plain, LT.plain, List.isEmpty_cons, Bool.and_self, Bool.and_true, Bool.true_and, Bool.or_true, Bool.true_or, Bool.or_false, Bool.false_or, reserve0, rowSV_len, rowSV_cap, rowSV_tail, guardO_true]
          by_cases p3 : a < 0
          · rw [decide_eq_true p3]; rfl
          · rw [decide_eq_false p3, decide_eq_true (k2 (by omega) (by omega))]; rfl
        · rw [decide_eq_false p2, decide_eq_true (k1 (by omega) (by omega))]
          simp -implicitDefEqProofs only [Option.bind_some, Option.bind_none, Option.map_some, Option.map_none, cond_true, cond_false, Bool.not_true, Bool.not_false, if_true, if_false, reduceIte, rdRes, rdTT, rdTy, rdLT, rdLeaf_int, rdLeaf_bool, rdLeaf_str, rdLeaf_row, Res.un, TT.un, Ty.un, LT.un, Leaf.un, rdRow_i1, rdRow_i2, rdRow_i3, rdRow_i4, rdRow_i5, rdRow_args, rdRow_res, rdRow_nil, Leaf.plain, LT.plain, List.isEmpty_cons, Bool.and_self, Bool.and_true, Bool.true_and, Bool.or_true, Bool.true_or, Bool.or_false, Bool.false_or, reserve0, rowSV_len, rowSV_cap, rowSV_tail, guardO_true]
          by_cases p3 : a < 0
          · rw [decide_eq_true p3]; rfl
          · rw [decide_eq_false p3]
            simp -implicitDefEqProofs only [Option.bind_some, Option.bind_none, Option.map_some, Option.map_none, cond_true, cond_false, Bool.not_true, Bool.not_false, if_true, if_false, reduceIte, rdRes, rdTT, rdTy, rdLT, rdLeaf_int, rdLeaf_bool, rdLeaf_str, rdLeaf_row, Res.un, TT.un, Ty.un, LT.un, Leaf.un, rdRow_i1, rdRow_i2, rdRow_i3, rdRow_i4, rdRow_i5, rdRow_args, rdRow_res, rdRow_nil, Leaf.plain, LT.plain, List.isEmpty_cons, Bool.and_self, Bool.and_true, Bool.true_and, Bool.or_true, Bool.true_or, Bool.or_false, Bool.false_or, reserve0, rowSV_len, rowSV_cap, rowSV_tail, guardO_true]
            by_cases p4 : c < 0
            · rw [decide_eq_true p4]; rfl
            · rw [decide_eq_false p4, decide_eq_true (k2 (by omega) (by omega))]; rfl
    · simp -implicitDefEqProofs only [Option.bind_some, Option.bind_none, Option.map_some, Option.map_none, cond_true, cond_false, Bool.not_true, Bool.not_false, if_true, if_false, reduceIte, rdRes, rdTT, rdTy, rdLT, rdLeaf_int, rdLeaf_bool, rdLeaf_str, rdLeaf_row, Res.un, TT.un, Ty.un, LT.un, Leaf.un, rdRow_i1, rdRow_i2, rdRow_i3, rdRow_i4, rdRow_i5, rdRow_args, rdRow_res, rdRow_nil, Leaf.plain, LT.plain, List.isEmpty_cons, Bool.and_self, Bool.and_true, Bool.true_and, Bool.or_true, Bool.true_or, Bool.or_false, Bool.false_or, reserve0, rowSV_len, rowSV_cap, rowSV_tail, guardO_true, decide_eq_false hg, decide_true]
  · simp -implicitDefEqProofs only [Option.bind_some, Option.bind_none, Option.map_some, Option.map_none, cond_true, cond_false, Bool.not_true, Bool.not_false, if_true, if_false, reduceIte, rdRes, rdTT, rdTy, rdLT, rdLeaf_int, rdLeaf_bool, rdLeaf_str, rdLeaf_row, Res.un, TT.un, Ty.un, LT.un, Leaf.un, rdRow_i1, rdRow_i2, rdRow_i3, rdRow_i4, rdRow_i5, rdRow_args, rdRow_res, rdRow_nil, Leaf.plain, LT.plain, List.isEmpty_cons, Bool.and_self, Bool.and_true, Bool.true_and, Bool.or_true, Bool.true_or, Bool.or_false, Bool.false_or, reserve0, rowSV_len, rowSV_cap, rowSV_tail, guardO_true, decide_eq_false he, decide_true]
end Go.Proofs.Ytadlfinlbaogeaa
