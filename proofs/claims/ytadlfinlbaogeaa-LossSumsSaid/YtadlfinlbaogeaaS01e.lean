/- What package proportion and its reference compute of two or three numbers. Conditions: those of each law. -/
import Derived.Test.YtadlfinlbaogeaaS01d
namespace Go.Proofs.Ytadlfinlbaogeaa
open Go Go.Proofs.Ytadlfinlbaogeaa.Ev
set_option linter.unusedVariables false
set_option linter.unusedSimpArgs false
set_option maxRecDepth 100000
set_option maxHeartbeats 1000000
theorem Div64_ok {hi lo y : Nat} (hy : hi < y) (hy1 : y < 18446744073709551616) (hl : lo < 18446744073709551616) :
    math_bits_Div64P (hi : Int) (lo : Int) (y : Int) = some ((((hi * 18446744073709551616 + lo) / y : Nat) : Int), (((hi * 18446744073709551616 + lo) % y : Nat) : Int)) := by
  rcases Nat.eq_zero_or_pos hi with rfl | h
  · rw [Nat.zero_mul, Nat.zero_add]
    exact Div64_small hy hl
  · exact Div64_great h hy hy1 hl
theorem product_ok {a b : Nat} (ha : a < 9223372036854775808) (hb : b < 9223372036854775808) : proportion_productP (a : Int) (b : Int) = some (((a * b / 18446744073709551616 : Nat) : Int), ((a * b % 18446744073709551616 : Nat) : Int)) := by
  unfold proportion_productP proportion_product
  rw [u64_nat (by omega), u64_nat (by omega), Mul64_ok (by omega) (by omega)]
  rfl
/-- A proportion and its remainder. -/
def divOf (a b c : Int) : Int × Int × Bool := if 128849018880000 < a * b / c then (0, 0, false) else (a * b / c, a * b % c, true)
theorem divided_nat {a b c : Nat} (ha : a ≤ 128849018880000) (hb : b ≤ 128849018880000) (hc : c ≤ 128849018880000) (h0 : 0 < c) :
    proportion_dividedP (a : Int) (b : Int) (c : Int) = some (if 128849018880000 < a * b / c then (0, 0, false) else (((a * b / c : Nat) : Int), ((a * b % c : Nat) : Int), true)) := by
  unfold proportion_dividedP proportion_divided
  rw [product_ok (by omega) (by omega)]
  simp only [Option.bind_some, Option.bind_none, Option.map_some, Option.map_none, cond_true, cond_false, Bool.not_true, Bool.not_false, if_true, if_false, reduceIte, rdRes, rdTT, rdTy, rdLT, rdLeaf_int, rdLeaf_bool, rdLeaf_str, rdLeaf_row, Res.un, TT.un, Ty.un, LT.un, Leaf.un, rdRow_i1, rdRow_i2, rdRow_i3, rdRow_i4, rdRow_i5, rdRow_args, rdRow_res, rdRow_nil, Leaf.plain, LT.plain, List.isEmpty_cons, Bool.and_self, Bool.and_true, Bool.true_and, Bool.or_true, Bool.true_or, Bool.or_false, Bool.false_or, reserve0, rowSV_len, rowSV_cap, rowSV_tail, guardO_true, hL_empty, hL_new, hL_next, hL_put, hL_reserve, List.replicate, rd_hp, rds_hp, wrs_hp, hL_m, List.nil_append, List.cons_append, List.append_nil, List.getElem?_cons_zero, List.getElem?_cons_succ, Option.getD_some, List.length_cons, List.length_nil, List.length_append, splice, List.take_zero, List.take_succ_cons, List.take_nil, List.drop_zero, List.drop_succ_cons, List.drop_nil, List.set_cons_zero, List.set_cons_succ, LT.pack, Leaf.pack, Nat.reduceAdd, Nat.reduceSub, Nat.reduceLeDiff, Nat.reduceLT, Nat.reduceEqDiff, Nat.zero_add, Nat.add_zero, Nat.zero_le, Nat.le_refl, and_self, and_true, true_and, Nat.lt_add_one, Nat.zero_lt_succ, ne_eq, not_false_eq_true, Nat.succ_ne_zero, List.flatMap_cons, List.flatMap_nil, LT.lo, Leaf.lo]
  rw [u64_nat (n := c) (by omega)]
  generalize hp : a * b = p at *
  by_cases h : c ≤ p / 18446744073709551616
  · rw [decide_eq_true (by omega)]
    have : 128849018880000 < p / c := by
      rw [Nat.lt_div_iff_mul_lt h0]
      have h1 : c * 18446744073709551616 ≤ p := by
        have := Nat.mul_le_mul_right 18446744073709551616 h
        omega
      omega
    rw [if_pos this]
    simp only [Option.bind_some, Option.bind_none, Option.map_some, Option.map_none, cond_true, cond_false, Bool.not_true, Bool.not_false, if_true, if_false, reduceIte, rdRes, rdTT, rdTy, rdLT, rdLeaf_int, rdLeaf_bool, rdLeaf_str, rdLeaf_row, Res.un, TT.un, Ty.un, LT.un, Leaf.un, rdRow_i1, rdRow_i2, rdRow_i3, rdRow_i4, rdRow_i5, rdRow_args, rdRow_res, rdRow_nil, Leaf.plain, LT.plain, List.isEmpty_cons, Bool.and_self, Bool.and_true, Bool.true_and, Bool.or_true, Bool.true_or, Bool.or_false, Bool.false_or, reserve0, rowSV_len, rowSV_cap, rowSV_tail, guardO_true, hL_empty, hL_new, hL_next, hL_put, hL_reserve, List.replicate, rd_hp, rds_hp, wrs_hp, hL_m, List.nil_append, List.cons_append, List.append_nil, List.getElem?_cons_zero, List.getElem?_cons_succ, Option.getD_some, List.length_cons, List.length_nil, List.length_append, splice, List.take_zero, List.take_succ_cons, List.take_nil, List.drop_zero, List.drop_succ_cons, List.drop_nil, List.set_cons_zero, List.set_cons_succ, LT.pack, Leaf.pack, Nat.reduceAdd, Nat.reduceSub, Nat.reduceLeDiff, Nat.reduceLT, Nat.reduceEqDiff, Nat.zero_add, Nat.add_zero, Nat.zero_le, Nat.le_refl, and_self, and_true, true_and, Nat.lt_add_one, Nat.zero_lt_succ, ne_eq, not_false_eq_true, Nat.succ_ne_zero, List.flatMap_cons, List.flatMap_nil, LT.lo, Leaf.lo]
  · rw [decide_eq_false (by omega), Div64_ok (by omega) (by omega) (by omega)]
    rw [show p / 18446744073709551616 * 18446744073709551616 + p % 18446744073709551616 = p by omega]
    simp only [Option.bind_some, Option.bind_none, Option.map_some, Option.map_none, cond_true, cond_false, Bool.not_true, Bool.not_false, if_true, if_false, reduceIte, rdRes, rdTT, rdTy, rdLT, rdLeaf_int, rdLeaf_bool, rdLeaf_str, rdLeaf_row, Res.un, TT.un, Ty.un, LT.un, Leaf.un, rdRow_i1, rdRow_i2, rdRow_i3, rdRow_i4, rdRow_i5, rdRow_args, rdRow_res, rdRow_nil, Leaf.plain, LT.plain, List.isEmpty_cons, Bool.and_self, Bool.and_true, Bool.true_and, Bool.or_true, Bool.true_or, Bool.or_false, Bool.false_or, reserve0, rowSV_len, rowSV_cap, rowSV_tail, guardO_true, hL_empty, hL_new, hL_next, hL_put, hL_reserve, List.replicate, rd_hp, rds_hp, wrs_hp, hL_m, List.nil_append, List.cons_append, List.append_nil, List.getElem?_cons_zero, List.getElem?_cons_succ, Option.getD_some, List.length_cons, List.length_nil, List.length_append, splice, List.take_zero, List.take_succ_cons, List.take_nil, List.drop_zero, List.drop_succ_cons, List.drop_nil, List.set_cons_zero, List.set_cons_succ, LT.pack, Leaf.pack, Nat.reduceAdd, Nat.reduceSub, Nat.reduceLeDiff, Nat.reduceLT, Nat.reduceEqDiff, Nat.zero_add, Nat.add_zero, Nat.zero_le, Nat.le_refl, and_self, and_true, true_and, Nat.lt_add_one, Nat.zero_lt_succ, ne_eq, not_false_eq_true, Nat.succ_ne_zero, List.flatMap_cons, List.flatMap_nil, LT.lo, Leaf.lo]
    by_cases hq : 128849018880000 < p / c
    · rw [decide_eq_true (by omega), if_pos hq]
      simp only [Option.bind_some, Option.bind_none, Option.map_some, Option.map_none, cond_true, cond_false, Bool.not_true, Bool.not_false, if_true, if_false, reduceIte, rdRes, rdTT, rdTy, rdLT, rdLeaf_int, rdLeaf_bool, rdLeaf_str, rdLeaf_row, Res.un, TT.un, Ty.un, LT.un, Leaf.un, rdRow_i1, rdRow_i2, rdRow_i3, rdRow_i4, rdRow_i5, rdRow_args, rdRow_res, rdRow_nil, Leaf.plain, LT.plain, List.isEmpty_cons, Bool.and_self, Bool.and_true, Bool.true_and, Bool.or_true, Bool.true_or, Bool.or_false, Bool.false_or, reserve0, rowSV_len, rowSV_cap, rowSV_tail, guardO_true, hL_empty, hL_new, hL_next, hL_put, hL_reserve, List.replicate, rd_hp, rds_hp, wrs_hp, hL_m, List.nil_append, List.cons_append, List.append_nil, List.getElem?_cons_zero, List.getElem?_cons_succ, Option.getD_some, List.length_cons, List.length_nil, List.length_append, splice, List.take_zero, List.take_succ_cons, List.take_nil, List.drop_zero, List.drop_succ_cons, List.drop_nil, List.set_cons_zero, List.set_cons_succ, LT.pack, Leaf.pack, Nat.reduceAdd, Nat.reduceSub, Nat.reduceLeDiff, Nat.reduceLT, Nat.reduceEqDiff, Nat.zero_add, Nat.add_zero, Nat.zero_le, Nat.le_refl, and_self, and_true, true_and, Nat.lt_add_one, Nat.zero_lt_succ, ne_eq, not_false_eq_true, Nat.succ_ne_zero, List.flatMap_cons, List.flatMap_nil, LT.lo, Leaf.lo]
    · have hr : p % c < c := Nat.mod_lt _ h0
      rw [decide_eq_false (by omega), if_neg hq, i64_nat (by omega), i64_nat (by omega)]
      simp only [Option.bind_some, Option.bind_none, Option.map_some, Option.map_none, cond_true, cond_false, Bool.not_true, Bool.not_false, if_true, if_false, reduceIte, rdRes, rdTT, rdTy, rdLT, rdLeaf_int, rdLeaf_bool, rdLeaf_str, rdLeaf_row, Res.un, TT.un, Ty.un, LT.un, Leaf.un, rdRow_i1, rdRow_i2, rdRow_i3, rdRow_i4, rdRow_i5, rdRow_args, rdRow_res, rdRow_nil, Leaf.plain, LT.plain, List.isEmpty_cons, Bool.and_self, Bool.and_true, Bool.true_and, Bool.or_true, Bool.true_or, Bool.or_false, Bool.false_or, reserve0, rowSV_len, rowSV_cap, rowSV_tail, guardO_true, hL_empty, hL_new, hL_next, hL_put, hL_reserve, List.replicate, rd_hp, rds_hp, wrs_hp, hL_m, List.nil_append, List.cons_append, List.append_nil, List.getElem?_cons_zero, List.getElem?_cons_succ, Option.getD_some, List.length_cons, List.length_nil, List.length_append, splice, List.take_zero, List.take_succ_cons, List.take_nil, List.drop_zero, List.drop_succ_cons, List.drop_nil, List.set_cons_zero, List.set_cons_succ, LT.pack, Leaf.pack, Nat.reduceAdd, Nat.reduceSub, Nat.reduceLeDiff, Nat.reduceLT, Nat.reduceEqDiff, Nat.zero_add, Nat.add_zero, Nat.zero_le, Nat.le_refl, and_self, and_true, true_and, Nat.lt_add_one, Nat.zero_lt_succ, ne_eq, not_false_eq_true, Nat.succ_ne_zero, List.flatMap_cons, List.flatMap_nil, LT.lo, Leaf.lo]
theorem isAmt_nat {a : Int} (h : isAmt a = true) : ∃ n : Nat, a = (n : Int) ∧ n ≤ 128849018880000 := by
  rw [isAmt_iff] at h
  exact ⟨a.toNat, by omega, by omega⟩
theorem divOf_nat (a b c : Nat) : divOf (a : Int) (b : Int) (c : Int) = if 128849018880000 < a * b / c then (0, 0, false) else (((a * b / c : Nat) : Int), ((a * b % c : Nat) : Int), true) := by
  unfold divOf
  rw [← Int.natCast_mul, ← Int.natCast_ediv, ← Int.natCast_emod]
  by_cases h : 128849018880000 < a * b / c
  · rw [if_pos h, if_pos (by omega)]
  · rw [if_neg h, if_neg (by omega)]
theorem divided_ok {a b c : Int} (ha : isAmt a = true) (hb : isAmt b = true) (hc : isAmt c = true) (h0 : c ≠ 0) : proportion_dividedP a b c = some (divOf a b c) := by
  obtain ⟨a, rfl, ha'⟩ := isAmt_nat ha
  obtain ⟨b, rfl, hb'⟩ := isAmt_nat hb
  obtain ⟨c, rfl, hc'⟩ := isAmt_nat hc
  rw [divided_nat ha' hb' hc' (by omega), divOf_nat]
/-- The proportion, or the error. -/
def ofOf (a b c : Int) : Int × Int × Int :=
  if (isAmt a && (isAmt b && isAmt c)) = true then (if c = 0 then (0, 0, 16) else if 128849018880000 < a * b / c then (0, 0, 15) else (a * b / c, a * b % c, 0)) else (0, 0, 2)
theorem Of_ok (a b c : Int) : proportion_OfP a b c = some (ofOf a b c) := by
  unfold proportion_OfP proportion_Of ofOf
  simp only [Option.bind_some, Option.bind_none, Option.map_some, Option.map_none, cond_true, cond_false, Bool.not_true, Bool.not_false, if_true, if_false, reduceIte, rdRes, rdTT, rdTy, rdLT, rdLeaf_int, rdLeaf_bool, rdLeaf_str, rdLeaf_row, Res.un, TT.un, Ty.un, LT.un, Leaf.un, rdRow_i1, rdRow_i2, rdRow_i3, rdRow_i4, rdRow_i5, rdRow_args, rdRow_res, rdRow_nil, Leaf.plain, LT.plain, List.isEmpty_cons, Bool.and_self, Bool.and_true, Bool.true_and, Bool.or_true, Bool.true_or, Bool.or_false, Bool.false_or, reserve0, rowSV_len, rowSV_cap, rowSV_tail, guardO_true]
  rw [amounts_ok [a, b, c] (by simp)]
  simp only [Option.bind_some, Option.bind_none, Option.map_some, Option.map_none, cond_true, cond_false, Bool.not_true, Bool.not_false, if_true, if_false, reduceIte, rdRes, rdTT, rdTy, rdLT, rdLeaf_int, rdLeaf_bool, rdLeaf_str, rdLeaf_row, Res.un, TT.un, Ty.un, LT.un, Leaf.un, rdRow_i1, rdRow_i2, rdRow_i3, rdRow_i4, rdRow_i5, rdRow_args, rdRow_res, rdRow_nil, Leaf.plain, LT.plain, List.isEmpty_cons, Bool.and_self, Bool.and_true, Bool.true_and, Bool.or_true, Bool.true_or, Bool.or_false, Bool.false_or, reserve0, rowSV_len, rowSV_cap, rowSV_tail, guardO_true, List.all_cons, List.all_nil]
  cases h : (isAmt a && (isAmt b && isAmt c)) with
  | false => simp only [Option.bind_some, Option.bind_none, Option.map_some, Option.map_none, cond_true, cond_false, Bool.not_true, Bool.not_false, if_true, if_false, reduceIte, rdRes, rdTT, rdTy, rdLT, rdLeaf_int, rdLeaf_bool, rdLeaf_str, rdLeaf_row, Res.un, TT.un, Ty.un, LT.un, Leaf.un, rdRow_i1, rdRow_i2, rdRow_i3, rdRow_i4, rdRow_i5, rdRow_args, rdRow_res, rdRow_nil, Leaf.plain, LT.plain, List.isEmpty_cons, Bool.and_self, Bool.and_true, Bool.true_and, Bool.or_true, Bool.true_or, Bool.or_false, Bool.false_or, reserve0, rowSV_len, rowSV_cap, rowSV_tail, guardO_true]; rfl
  | true =>
    simp only [Bool.and_eq_true] at h
    by_cases h0 : c = 0
    · rw [decide_eq_true h0, if_pos h0]; simp only [Option.bind_some, Option.bind_none, Option.map_some, Option.map_none, cond_true, cond_false, Bool.not_true, Bool.not_false, if_true, if_false, reduceIte, rdRes, rdTT, rdTy, rdLT, rdLeaf_int, rdLeaf_bool, rdLeaf_str, rdLeaf_row, Res.un, TT.un, Ty.un, LT.un, Leaf.un, rdRow_i1, rdRow_i2, rdRow_i3, rdRow_i4, rdRow_i5, rdRow_args, rdRow_res, rdRow_nil, Leaf.plain, LT.plain, List.isEmpty_cons, Bool.and_self, Bool.and_true, Bool.true_and, Bool.or_true, Bool.true_or, Bool.or_false, Bool.false_or, reserve0, rowSV_len, rowSV_cap, rowSV_tail, guardO_true]
    · rw [decide_eq_false h0, if_neg h0, divided_ok h.1 h.2.1 h.2.2 h0]
      unfold divOf
      by_cases hq : 128849018880000 < a * b / c
      · simp only [if_pos hq, Option.bind_some, Option.bind_none, Option.map_some, Option.map_none, cond_true, cond_false, Bool.not_true, Bool.not_false, if_true, if_false, reduceIte, rdRes, rdTT, rdTy, rdLT, rdLeaf_int, rdLeaf_bool, rdLeaf_str, rdLeaf_row, Res.un, TT.un, Ty.un, LT.un, Leaf.un, rdRow_i1, rdRow_i2, rdRow_i3, rdRow_i4, rdRow_i5, rdRow_args, rdRow_res, rdRow_nil, Leaf.plain, LT.plain, List.isEmpty_cons, Bool.and_self, Bool.and_true, Bool.true_and, Bool.or_true, Bool.true_or, Bool.or_false, Bool.false_or, reserve0, rowSV_len, rowSV_cap, rowSV_tail, guardO_true]
      · simp only [if_neg hq, Option.bind_some, Option.bind_none, Option.map_some, Option.map_none, cond_true, cond_false, Bool.not_true, Bool.not_false, if_true, if_false, reduceIte, rdRes, rdTT, rdTy, rdLT, rdLeaf_int, rdLeaf_bool, rdLeaf_str, rdLeaf_row, Res.un, TT.un, Ty.un, LT.un, Leaf.un, rdRow_i1, rdRow_i2, rdRow_i3, rdRow_i4, rdRow_i5, rdRow_args, rdRow_res, rdRow_nil, Leaf.plain, LT.plain, List.isEmpty_cons, Bool.and_self, Bool.and_true, Bool.true_and, Bool.or_true, Bool.true_or, Bool.or_false, Bool.false_or, reserve0, rowSV_len, rowSV_cap, rowSV_tail, guardO_true]
def upOf (a b c : Int) : Int × Int :=
  let x := ofOf a b c
  if x.2.2 = 0 then (if 128849018880000 < x.1 + (if 0 < x.2.1 then 1 else 0) then (0, 15) else (x.1 + (if 0 < x.2.1 then 1 else 0), 0)) else (0, x.2.2)
theorem ofOf_le (a b c : Int) : (ofOf a b c).1 ≤ 128849018880000 ∧ 0 ≤ (ofOf a b c).1 ∧ 0 ≤ (ofOf a b c).2.1 := by
  unfold ofOf
  split
  · rename_i h
    simp only [Bool.and_eq_true, isAmt_iff] at h
    split
    · simp
    · split
      · simp
      · refine ⟨by omega, ?_, ?_⟩
        · exact Int.ediv_nonneg (Int.mul_nonneg h.1.1 h.2.1.1) h.2.2.1
        · exact Int.emod_nonneg _ (by omega)
  · simp
theorem Up_ok (a b c : Int) : proportion_UpP a b c = some (upOf a b c) := by
  unfold proportion_UpP proportion_Up upOf
  rw [Of_ok]
  have hle := ofOf_le a b c
  generalize ofOf a b c = x at *
  obtain ⟨q, r, e⟩ := x
  simp only at hle
  simp only [Option.bind_some, Option.bind_none, Option.map_some, Option.map_none, cond_true, cond_false, Bool.not_true, Bool.not_false, if_true, if_false, reduceIte, rdRes, rdTT, rdTy, rdLT, rdLeaf_int, rdLeaf_bool, rdLeaf_str, rdLeaf_row, Res.un, TT.un, Ty.un, LT.un, Leaf.un, rdRow_i1, rdRow_i2, rdRow_i3, rdRow_i4, rdRow_i5, rdRow_args, rdRow_res, rdRow_nil, Leaf.plain, LT.plain, List.isEmpty_cons, Bool.and_self, Bool.and_true, Bool.true_and, Bool.or_true, Bool.true_or, Bool.or_false, Bool.false_or, reserve0, rowSV_len, rowSV_cap, rowSV_tail, guardO_true]
  by_cases he : e = 0
  · rw [decide_eq_true he, if_pos he]
    simp only [Option.bind_some, Option.bind_none, Option.map_some, Option.map_none, cond_true, cond_false, Bool.not_true, Bool.not_false, if_true, if_false, reduceIte, rdRes, rdTT, rdTy, rdLT, rdLeaf_int, rdLeaf_bool, rdLeaf_str, rdLeaf_row, Res.un, TT.un, Ty.un, LT.un, Leaf.un, rdRow_i1, rdRow_i2, rdRow_i3, rdRow_i4, rdRow_i5, rdRow_args, rdRow_res, rdRow_nil, Leaf.plain, LT.plain, List.isEmpty_cons, Bool.and_self, Bool.and_true, Bool.true_and, Bool.or_true, Bool.true_or, Bool.or_false, Bool.false_or, reserve0, rowSV_len, rowSV_cap, rowSV_tail, guardO_true]
    by_cases hr : 0 < r
    · rw [decide_eq_true hr, i64_in _ (by omega)]
      simp only [if_pos hr, Option.bind_some, Option.bind_none, Option.map_some, Option.map_none, cond_true, cond_false, Bool.not_true, Bool.not_false, if_true, if_false, reduceIte, rdRes, rdTT, rdTy, rdLT, rdLeaf_int, rdLeaf_bool, rdLeaf_str, rdLeaf_row, Res.un, TT.un, Ty.un, LT.un, Leaf.un, rdRow_i1, rdRow_i2, rdRow_i3, rdRow_i4, rdRow_i5, rdRow_args, rdRow_res, rdRow_nil, Leaf.plain, LT.plain, List.isEmpty_cons, Bool.and_self, Bool.and_true, Bool.true_and, Bool.or_true, Bool.true_or, Bool.or_false, Bool.false_or, reserve0, rowSV_len, rowSV_cap, rowSV_tail, guardO_true]
      by_cases hq : 128849018880000 < q + 1
      · rw [decide_eq_true hq, if_pos hq]; simp only [Option.bind_some, Option.bind_none, Option.map_some, Option.map_none, cond_true, cond_false, Bool.not_true, Bool.not_false, if_true, if_false, reduceIte, rdRes, rdTT, rdTy, rdLT, rdLeaf_int, rdLeaf_bool, rdLeaf_str, rdLeaf_row, Res.un, TT.un, Ty.un, LT.un, Leaf.un, rdRow_i1, rdRow_i2, rdRow_i3, rdRow_i4, rdRow_i5, rdRow_args, rdRow_res, rdRow_nil, Leaf.plain, LT.plain, List.isEmpty_cons, Bool.and_self, Bool.and_true, Bool.true_and, Bool.or_true, Bool.true_or, Bool.or_false, Bool.false_or, reserve0, rowSV_len, rowSV_cap, rowSV_tail, guardO_true]
      · rw [decide_eq_false hq, if_neg hq]; simp only [Option.bind_some, Option.bind_none, Option.map_some, Option.map_none, cond_true, cond_false, Bool.not_true, Bool.not_false, if_true, if_false, reduceIte, rdRes, rdTT, rdTy, rdLT, rdLeaf_int, rdLeaf_bool, rdLeaf_str, rdLeaf_row, Res.un, TT.un, Ty.un, LT.un, Leaf.un, rdRow_i1, rdRow_i2, rdRow_i3, rdRow_i4, rdRow_i5, rdRow_args, rdRow_res, rdRow_nil, Leaf.plain, LT.plain, List.isEmpty_cons, Bool.and_self, Bool.and_true, Bool.true_and, Bool.or_true, Bool.true_or, Bool.or_false, Bool.false_or, reserve0, rowSV_len, rowSV_cap, rowSV_tail, guardO_true]
    · rw [decide_eq_false hr]
      simp only [if_neg hr, Option.bind_some, Option.bind_none, Option.map_some, Option.map_none, cond_true, cond_false, Bool.not_true, Bool.not_false, if_true, if_false, reduceIte, rdRes, rdTT, rdTy, rdLT, rdLeaf_int, rdLeaf_bool, rdLeaf_str, rdLeaf_row, Res.un, TT.un, Ty.un, LT.un, Leaf.un, rdRow_i1, rdRow_i2, rdRow_i3, rdRow_i4, rdRow_i5, rdRow_args, rdRow_res, rdRow_nil, Leaf.plain, LT.plain, List.isEmpty_cons, Bool.and_self, Bool.and_true, Bool.true_and, Bool.or_true, Bool.true_or, Bool.or_false, Bool.false_or, reserve0, rowSV_len, rowSV_cap, rowSV_tail, guardO_true, Int.add_zero]
      by_cases hq : 128849018880000 < q
      · rw [decide_eq_true hq, if_pos hq]; simp only [Option.bind_some, Option.bind_none, Option.map_some, Option.map_none, cond_true, cond_false, Bool.not_true, Bool.not_false, if_true, if_false, reduceIte, rdRes, rdTT, rdTy, rdLT, rdLeaf_int, rdLeaf_bool, rdLeaf_str, rdLeaf_row, Res.un, TT.un, Ty.un, LT.un, Leaf.un, rdRow_i1, rdRow_i2, rdRow_i3, rdRow_i4, rdRow_i5, rdRow_args, rdRow_res, rdRow_nil, Leaf.plain, LT.plain, List.isEmpty_cons, Bool.and_self, Bool.and_true, Bool.true_and, Bool.or_true, Bool.true_or, Bool.or_false, Bool.false_or, reserve0, rowSV_len, rowSV_cap, rowSV_tail, guardO_true]
      · rw [decide_eq_false hq, if_neg hq]; simp only [Option.bind_some, Option.bind_none, Option.map_some, Option.map_none, cond_true, cond_false, Bool.not_true, Bool.not_false, if_true, if_false, reduceIte, rdRes, rdTT, rdTy, rdLT, rdLeaf_int, rdLeaf_bool, rdLeaf_str, rdLeaf_row, Res.un, TT.un, Ty.un, LT.un, Leaf.un, rdRow_i1, rdRow_i2, rdRow_i3, rdRow_i4, rdRow_i5, rdRow_args, rdRow_res, rdRow_nil, Leaf.plain, LT.plain, List.isEmpty_cons, Bool.and_self, Bool.and_true, Bool.true_and, Bool.or_true, Bool.true_or, Bool.or_false, Bool.false_or, reserve0, rowSV_len, rowSV_cap, rowSV_tail, guardO_true]
  · rw [decide_eq_false he, if_neg he]; simp only [Option.bind_some, Option.bind_none, Option.map_some, Option.map_none, cond_true, cond_false, Bool.not_true, Bool.not_false, if_true, if_false, reduceIte, rdRes, rdTT, rdTy, rdLT, rdLeaf_int, rdLeaf_bool, rdLeaf_str, rdLeaf_row, Res.un, TT.un, Ty.un, LT.un, Leaf.un, rdRow_i1, rdRow_i2, rdRow_i3, rdRow_i4, rdRow_i5, rdRow_args, rdRow_res, rdRow_nil, Leaf.plain, LT.plain, List.isEmpty_cons, Bool.and_self, Bool.and_true, Bool.true_and, Bool.or_true, Bool.true_or, Bool.or_false, Bool.false_or, reserve0, rowSV_len, rowSV_cap, rowSV_tail, guardO_true]
theorem cmpU_ok (a b : Int) : cmp_Compare_uint64P a b = some (if a < b then -1 else if b < a then 1 else 0) := by
  unfold cmp_Compare_uint64P cmp_Compare_uint64
  have hn : ∀ x, cmp_isNaN_uint64P x = some false := fun x => by unfold cmp_isNaN_uint64P cmp_isNaN_uint64; simp only [Option.bind_some, Option.bind_none, Option.map_some, Option.map_none, cond_true, cond_false, Bool.not_true, Bool.not_false, if_true, if_false, reduceIte, rdRes, rdTT, rdTy, rdLT, rdLeaf_int, rdLeaf_bool, rdLeaf_str, rdLeaf_row, Res.un, TT.un, Ty.un, LT.un, Leaf.un, rdRow_i1, rdRow_i2, rdRow_i3, rdRow_i4, rdRow_i5, rdRow_args, rdRow_res, rdRow_nil, Leaf.plain, LT.plain, List.isEmpty_cons, Bool.and_self, Bool.and_true, Bool.true_and, Bool.or_true, Bool.true_or, Bool.or_false, Bool.false_or, reserve0, rowSV_len, rowSV_cap, rowSV_tail, guardO_true, decide_true]
  simp only [hn, Option.bind_some, Option.bind_none, Option.map_some, Option.map_none, cond_true, cond_false, Bool.not_true, Bool.not_false, if_true, if_false, reduceIte, rdRes, rdTT, rdTy, rdLT, rdLeaf_int, rdLeaf_bool, rdLeaf_str, rdLeaf_row, Res.un, TT.un, Ty.un, LT.un, Leaf.un, rdRow_i1, rdRow_i2, rdRow_i3, rdRow_i4, rdRow_i5, rdRow_args, rdRow_res, rdRow_nil, Leaf.plain, LT.plain, List.isEmpty_cons, Bool.and_self, Bool.and_true, Bool.true_and, Bool.or_true, Bool.true_or, Bool.or_false, Bool.false_or, reserve0, rowSV_len, rowSV_cap, rowSV_tail, guardO_true]
  by_cases h : a < b
  · rw [decide_eq_true h, if_pos h]; rfl
  · rw [decide_eq_false h, if_neg h]
    by_cases h2 : b < a
    · rw [decide_eq_true h2, if_pos h2]; rfl
    · rw [decide_eq_false h2, if_neg h2]; rfl
theorem SCompare_ok (a b c d : Int) : slices_Compare_uint64_uint64P [a, b] [c, d] = some (if a < c then -1 else if c < a then 1 else if b < d then -1 else if d < b then 1 else 0) := by
  unfold slices_Compare_uint64_uint64P slices_Compare_uint64_uint64
  have h0 : slices_Compare_uint64_uint64.loop1 (rowSV false [.int .u64] [a, b]) (rowSV false [.int .u64] [c, d]) (0, H.empty) =
      some (bif !decide ((if a < c then -1 else if c < a then 1 else 0 : Int) = 0) then .done (.ret (if a < c then -1 else if c < a then 1 else 0), H.empty) else .more (1, H.empty)) := by
    unfold slices_Compare_uint64_uint64.loop1
    simp only [rowSV_len, show Int.toNat 0 * 1 = 0 * 1 from rfl, rd_rowI, List.getElem?_cons_zero, Option.bind_some, cmpU_ok]
    generalize decide ((if a < c then -1 else if c < a then 1 else 0 : Int) = 0) = x
    cases x <;> rfl
  have h1 : slices_Compare_uint64_uint64.loop1 (rowSV false [.int .u64] [a, b]) (rowSV false [.int .u64] [c, d]) (1, H.empty) =
      some (bif !decide ((if b < d then -1 else if d < b then 1 else 0 : Int) = 0) then .done (.ret (if b < d then -1 else if d < b then 1 else 0), H.empty) else .more (2, H.empty)) := by
    unfold slices_Compare_uint64_uint64.loop1
    simp only [rowSV_len, show Int.toNat 1 * 1 = 1 * 1 from rfl, rd_rowI, List.getElem?_cons_zero, List.getElem?_cons_succ, Option.bind_some, cmpU_ok]
    generalize decide ((if b < d then -1 else if d < b then 1 else 0 : Int) = 0) = x
    cases x <;> rfl
  have h2 : slices_Compare_uint64_uint64.loop1 (rowSV false [.int .u64] [a, b]) (rowSV false [.int .u64] [c, d]) (2, H.empty) = some (.done (.ex0 (), H.empty)) := rfl
  have hit : iter FUEL (slices_Compare_uint64_uint64.loop1 (rowSV false [.int .u64] [a, b]) (rowSV false [.int .u64] [c, d])) (0, H.empty) =
      iter (FUEL - 1 + 1) (slices_Compare_uint64_uint64.loop1 (rowSV false [.int .u64] [a, b]) (rowSV false [.int .u64] [c, d])) (0, H.empty) := by
    rw [Nat.sub_add_cancel (by unfold FUEL; omega)]
  have hit2 : iter (FUEL - 1) (slices_Compare_uint64_uint64.loop1 (rowSV false [.int .u64] [a, b]) (rowSV false [.int .u64] [c, d])) (1, H.empty) =
      iter (FUEL - 3 + 1 + 1) (slices_Compare_uint64_uint64.loop1 (rowSV false [.int .u64] [a, b]) (rowSV false [.int .u64] [c, d])) (1, H.empty) := by
    congr 1
  rw [hit]
  simp only [iter, h0, Option.bind_some]
  by_cases c1 : a < c
  · simp only [if_pos c1]; rfl
  · simp only [if_neg c1]
    by_cases c2 : c < a
    · simp only [if_pos c2]; rfl
    · simp only [if_neg c2, decide_true, Bool.not_true, cond_false]
      rw [hit2]
      simp only [iter, h1, Option.bind_some]
      by_cases c3 : b < d
      · simp only [if_pos c3]; rfl
      · simp only [if_neg c3]
        by_cases c4 : d < b
        · simp only [if_pos c4]; rfl
        · simp only [if_neg c4, decide_true, Bool.not_true, cond_false, h2, Option.bind_some]
          rfl
def cmpOf (a b c d : Int) : Int × Int :=
  if (isAmt a && (isAmt b && (isAmt c && isAmt d))) = true then (if b = 0 ∨ d = 0 then (0, 16) else (if a * d < c * b then -1 else if c * b < a * d then 1 else 0, 0)) else (0, 2)
theorem Compare_ok (a b c d : Int) : proportion_CompareP a b c d = some (cmpOf a b c d) := by
  unfold proportion_CompareP proportion_Compare cmpOf
  simp only [Option.bind_some, Option.bind_none, Option.map_some, Option.map_none, cond_true, cond_false, Bool.not_true, Bool.not_false, if_true, if_false, reduceIte, rdRes, rdTT, rdTy, rdLT, rdLeaf_int, rdLeaf_bool, rdLeaf_str, rdLeaf_row, Res.un, TT.un, Ty.un, LT.un, Leaf.un, rdRow_i1, rdRow_i2, rdRow_i3, rdRow_i4, rdRow_i5, rdRow_args, rdRow_res, rdRow_nil, Leaf.plain, LT.plain, List.isEmpty_cons, Bool.and_self, Bool.and_true, Bool.true_and, Bool.or_true, Bool.true_or, Bool.or_false, Bool.false_or, reserve0, rowSV_len, rowSV_cap, rowSV_tail, guardO_true]
  rw [amounts_ok [a, b, c, d] (by simp)]
  simp only [Option.bind_some, Option.bind_none, Option.map_some, Option.map_none, cond_true, cond_false, Bool.not_true, Bool.not_false, if_true, if_false, reduceIte, rdRes, rdTT, rdTy, rdLT, rdLeaf_int, rdLeaf_bool, rdLeaf_str, rdLeaf_row, Res.un, TT.un, Ty.un, LT.un, Leaf.un, rdRow_i1, rdRow_i2, rdRow_i3, rdRow_i4, rdRow_i5, rdRow_args, rdRow_res, rdRow_nil, Leaf.plain, LT.plain, List.isEmpty_cons, Bool.and_self, Bool.and_true, Bool.true_and, Bool.or_true, Bool.true_or, Bool.or_false, Bool.false_or, reserve0, rowSV_len, rowSV_cap, rowSV_tail, guardO_true, List.all_cons, List.all_nil]
  cases h : (isAmt a && (isAmt b && (isAmt c && isAmt d))) with
  | false => simp only [Option.bind_some, Option.bind_none, Option.map_some, Option.map_none, cond_true, cond_false, Bool.not_true, Bool.not_false, if_true, if_false, reduceIte, rdRes, rdTT, rdTy, rdLT, rdLeaf_int, rdLeaf_bool, rdLeaf_str, rdLeaf_row, Res.un, TT.un, Ty.un, LT.un, Leaf.un, rdRow_i1, rdRow_i2, rdRow_i3, rdRow_i4, rdRow_i5, rdRow_args, rdRow_res, rdRow_nil, Leaf.plain, LT.plain, List.isEmpty_cons, Bool.and_self, Bool.and_true, Bool.true_and, Bool.or_true, Bool.true_or, Bool.or_false, Bool.false_or, reserve0, rowSV_len, rowSV_cap, rowSV_tail, guardO_true]; rfl
  | true =>
    simp only [Bool.and_eq_true] at h
    obtain ⟨h1, h2, h3, h4⟩ := h
    by_cases hb : b = 0
    · rw [decide_eq_true hb]
      simp only [Option.bind_some, Option.bind_none, Option.map_some, Option.map_none, cond_true, cond_false, Bool.not_true, Bool.not_false, if_true, if_false, reduceIte, rdRes, rdTT, rdTy, rdLT, rdLeaf_int, rdLeaf_bool, rdLeaf_str, rdLeaf_row, Res.un, TT.un, Ty.un, LT.un, Leaf.un, rdRow_i1, rdRow_i2, rdRow_i3, rdRow_i4, rdRow_i5, rdRow_args, rdRow_res, rdRow_nil, Leaf.plain, LT.plain, List.isEmpty_cons, Bool.and_self, Bool.and_true, Bool.true_and, Bool.or_true, Bool.true_or, Bool.or_false, Bool.false_or, reserve0, rowSV_len, rowSV_cap, rowSV_tail, guardO_true, hb, true_or]
    · rw [decide_eq_false hb]
      by_cases hd : d = 0
      · rw [decide_eq_true hd]
        simp only [Option.bind_some, Option.bind_none, Option.map_some, Option.map_none, cond_true, cond_false, Bool.not_true, Bool.not_false, if_true, if_false, reduceIte, rdRes, rdTT, rdTy, rdLT, rdLeaf_int, rdLeaf_bool, rdLeaf_str, rdLeaf_row, Res.un, TT.un, Ty.un, LT.un, Leaf.un, rdRow_i1, rdRow_i2, rdRow_i3, rdRow_i4, rdRow_i5, rdRow_args, rdRow_res, rdRow_nil, Leaf.plain, LT.plain, List.isEmpty_cons, Bool.and_self, Bool.and_true, Bool.true_and, Bool.or_true, Bool.true_or, Bool.or_false, Bool.false_or, reserve0, rowSV_len, rowSV_cap, rowSV_tail, guardO_true, hd, or_true]
      · rw [decide_eq_false hd]
        simp only [Option.bind_some, Option.bind_none, Option.map_some, Option.map_none, cond_true, cond_false, Bool.not_true, Bool.not_false, if_true, if_false, reduceIte, rdRes, rdTT, rdTy, rdLT, rdLeaf_int, rdLeaf_bool, rdLeaf_str, rdLeaf_row, Res.un, TT.un, Ty.un, LT.un, Leaf.un, rdRow_i1, rdRow_i2, rdRow_i3, rdRow_i4, rdRow_i5, rdRow_args, rdRow_res, rdRow_nil, Leaf.plain, LT.plain, List.isEmpty_cons, Bool.and_self, Bool.and_true, Bool.true_and, Bool.or_true, Bool.true_or, Bool.or_false, Bool.false_or, reserve0, rowSV_len, rowSV_cap, rowSV_tail, guardO_true, hb, hd, or_self]
        obtain ⟨a, rfl, k1⟩ := isAmt_nat h1
        obtain ⟨b, rfl, k2⟩ := isAmt_nat h2
        obtain ⟨c, rfl, k3⟩ := isAmt_nat h3
        obtain ⟨d, rfl, k4⟩ := isAmt_nat h4
        rw [product_ok (by omega) (by omega), product_ok (by omega) (by omega)]
        simp only [Option.bind_some]
        have key : ∀ x y : Nat, (if ((x / 18446744073709551616 : Nat) : Int) < ((y / 18446744073709551616 : Nat) : Int) then (-1 : Int) else if ((y / 18446744073709551616 : Nat) : Int) < ((x / 18446744073709551616 : Nat) : Int) then 1 else
            if ((x % 18446744073709551616 : Nat) : Int) < ((y % 18446744073709551616 : Nat) : Int) then -1 else if ((y % 18446744073709551616 : Nat) : Int) < ((x % 18446744073709551616 : Nat) : Int) then 1 else 0) = if (x : Int) < (y : Int) then -1 else if (y : Int) < (x : Int) then 1 else 0 := fun x y => by
          split <;> split <;> (try split) <;> (try split) <;> (try split) <;> omega
        have hk := key (a * d) (c * b)
        rw [Int.natCast_mul, Int.natCast_mul] at hk
        rw [← hk]
        generalize ((a * d / 18446744073709551616 : Nat) : Int) = p0
        generalize ((a * d % 18446744073709551616 : Nat) : Int) = p1
        generalize ((c * b / 18446744073709551616 : Nat) : Int) = q0
        generalize ((c * b % 18446744073709551616 : Nat) : Int) = q1
        have hs : ∀ h p q : Nat, True := fun _ _ _ => trivial
        simp only [Option.bind_some, Option.bind_none, Option.map_some, Option.map_none, cond_true, cond_false, Bool.not_true, Bool.not_false, if_true, if_false, reduceIte, rdRes, rdTT, rdTy, rdLT, rdLeaf_int, rdLeaf_bool, rdLeaf_str, rdLeaf_row, Res.un, TT.un, Ty.un, LT.un, Leaf.un, rdRow_i1, rdRow_i2, rdRow_i3, rdRow_i4, rdRow_i5, rdRow_args, rdRow_res, rdRow_nil, Leaf.plain, LT.plain, List.isEmpty_cons, Bool.and_self, Bool.and_true, Bool.true_and, Bool.or_true, Bool.true_or, Bool.or_false, Bool.false_or, reserve0, rowSV_len, rowSV_cap, rowSV_tail, guardO_true, hL_empty, hL_new, hL_next, hL_put, hL_reserve, List.replicate, rd_hp, rds_hp, wrs_hp, hL_m, List.nil_append, List.cons_append, List.append_nil, List.getElem?_cons_zero, List.getElem?_cons_succ, Option.getD_some, List.length_cons, List.length_nil, List.length_append, splice, List.take_zero, List.take_succ_cons, List.take_nil, List.drop_zero, List.drop_succ_cons, List.drop_nil, List.set_cons_zero, List.set_cons_succ, LT.pack, Leaf.pack, Nat.reduceAdd, Nat.reduceSub, Nat.reduceLeDiff, Nat.reduceLT, Nat.reduceEqDiff, Nat.zero_add, Nat.add_zero, Nat.zero_le, Nat.le_refl, and_self, and_true, true_and, Nat.lt_add_one, Nat.zero_lt_succ, ne_eq, not_false_eq_true, Nat.succ_ne_zero, List.flatMap_cons, List.flatMap_nil, LT.lo, Leaf.lo, guardO_pos (show (0 : Int) ≤ 0 ∧ (0 : Int) ≤ ((2 : Nat) : Int) ∧ ((2 : Nat) : Int) ≤ ((2 : Nat) : Int) by decide)]
        rw [show (rdRow true (hL [Slot.own [V.int .u64 p0, V.int .u64 p1] 2, Slot.own [V.int .u64 q0, V.int .u64 q1] 2]) [.int .u64] ⟨.hp 0 2 0, Int.toNat ((2 : Nat) : Int) - Int.toNat 0, 2 - Int.toNat 0, false⟩) = some [p0, p1] from rfl,
          show (rdRow true (hL [Slot.own [V.int .u64 p0, V.int .u64 p1] 2, Slot.own [V.int .u64 q0, V.int .u64 q1] 2]) [.int .u64] ⟨.hp 1 2 0, Int.toNat ((2 : Nat) : Int) - Int.toNat 0, 2 - Int.toNat 0, false⟩) = some [q0, q1] from rfl]
        simp only [Option.bind_some]
        rw [SCompare_ok]
        rfl
end Go.Proofs.Ytadlfinlbaogeaa
