/- What package alcohol computes: Check, Strength. Conditions: those of each law. -/
import Derived.Test.YtaepkinihaipkaaN21d
namespace Go.Proofs.Ytaepkinihaipkaa
open Go Go.Proofs.Ytaepkinihaipkaa.Ev
set_option linter.unusedVariables false
set_option linter.unusedSimpArgs false
set_option maxRecDepth 100000
set_option maxHeartbeats 4000000
theorem alcof_ok {xs : List (Int × Int)} {t : Int} (hc : (checkOf xs).2 = 0) (h0 : 0 ≤ t) (h1 : t ≤ 10000) : alcohol_ofP xs t = some (dens xs t) := by
  unfold alcohol_ofP alcohol_of
  simp -implicitDefEqProofs only [Option.bind_some, Option.bind_none, Option.map_some, Option.map_none, cond_true, cond_false, Bool.not_true, Bool.not_false, if_true, if_false, reduceIte, rdRes, rdTT, rdTy, rdLT, rdLeaf_int, rdLeaf_bool, rdLeaf_str, rdLeaf_row, Res.un, TT.un, Ty.un, LT.un, Leaf.un, rdRow_i1, rdRow_i2, rdRow_i3, rdRow_i4, rdRow_i5, rdRow_args, rdRow_res, rdRow_nil, Leaf.plain, LT.plain, List.isEmpty_cons, Bool.and_self, Bool.and_true, Bool.true_and, Bool.or_true, Bool.true_or, Bool.or_false, Bool.false_or, reserve0, rowSV_len, rowSV_cap, rowSV_tail, guardO_true, Density_ok]
  rw [if_pos hc, if_pos ⟨h0, h1⟩]
def inA (x : Int × Int) : Bool := decide (0 ≤ x.1 ∧ x.1 ≤ 10737418240000 ∧ 0 ≤ x.2 ∧ x.2 ≤ 128849018880000)
theorem inA_iff {x : Int × Int} : inA x = true ↔ 0 ≤ x.1 ∧ x.1 ≤ 10737418240000 ∧ 0 ≤ x.2 ∧ x.2 ≤ 128849018880000 := by simp [inA]
noncomputable def acheckOf (xs : List (Int × Int)) (x : Int × Int) : Int :=
  if (checkOf xs).2 = 0 then (if inA x = true then (if x.2 * 10000 < x.1 * dens xs 10000 then 10 else 0) else 2) else 1
theorem badA_code {x1 x2 : Int} {h : H} : (bif !(decide (x1 < 0)) then (bif !(decide ((10737418240000 : Int) < x1)) then (bif !(decide (x2 < 0)) then some (decide ((128849018880000 : Int) < x2), h) else some (true, h)) else some (true, h)) else some (true, h) : Option (Bool × H)) = some (!inA (x1, x2), h) := by
  unfold inA
  by_cases h1 : x1 < 0
  · rw [decide_eq_true h1, decide_eq_false (p := _ ∧ _) (by simp only; omega)]; rfl
  · rw [decide_eq_false h1]
    by_cases h2 : (10737418240000 : Int) < x1
    · rw [decide_eq_true h2, decide_eq_false (p := _ ∧ _) (by simp only; omega)]; rfl
    · rw [decide_eq_false h2]
      by_cases h3 : x2 < 0
      · rw [decide_eq_true h3, decide_eq_false (p := _ ∧ _) (by simp only; omega)]; rfl
      · rw [decide_eq_false h3]
        by_cases h4 : (128849018880000 : Int) < x2
        · rw [decide_eq_true h4, decide_eq_false (p := _ ∧ _) (by simp only; omega)]; rfl
        · rw [decide_eq_false h4, decide_eq_true (p := _ ∧ _) (by simp only; omega)]; rfl
theorem mul_small {a d : Int} (ha : 0 ≤ a ∧ a ≤ 10737418240000) (hd : 50000 ≤ d ∧ d ≤ 120000) : 0 ≤ a * d ∧ a * d ≤ 10737418240000 * 120000 := ⟨Int.mul_nonneg ha.1 (by omega), Int.mul_le_mul ha.2 hd.2 (by omega) (by omega)⟩
theorem ACheck_ok (xs : List (Int × Int)) (a v : Int) : alcohol_CheckP xs (a, v) = some (acheckOf xs (a, v)) := by
  unfold alcohol_CheckP alcohol_Check acheckOf
  simp -implicitDefEqProofs only [Option.bind_some, Option.bind_none, Option.map_some, Option.map_none, cond_true, cond_false, Bool.not_true, Bool.not_false, if_true, if_false, reduceIte, rdRes, rdTT, rdTy, rdLT, rdLeaf_int, rdLeaf_bool, rdLeaf_str, rdLeaf_row, Res.un, TT.un, Ty.un, LT.un, Leaf.un, rdRow_i1, rdRow_i2, rdRow_i3, rdRow_i4, rdRow_i5, rdRow_args, rdRow_res, rdRow_nil, Leaf.plain, LT.plain, List.isEmpty_cons, Bool.and_self, Bool.and_true, Bool.true_and, Bool.or_true, Bool.true_or, Bool.or_false, Bool.false_or, reserve0, rowSV_len, rowSV_cap, rowSV_tail, guardO_true, hL_empty, hL_new, hL_next, hL_put, hL_reserve, List.replicate, rd_hp, rds_hp, wrs_hp, hL_m, List.nil_append, List.cons_append, List.append_nil, List.getElem?_cons_zero, List.getElem?_cons_succ, Option.getD_some, List.length_cons, List.length_nil, List.length_append, splice, List.take_zero, List.take_succ_cons, List.take_nil, List.drop_zero, List.drop_succ_cons, List.drop_nil, List.set_cons_zero, List.set_cons_succ, LT.pack, Leaf.pack, Nat.reduceAdd, Nat.reduceSub, Nat.reduceLeDiff, Nat.reduceLT, Nat.reduceEqDiff, Nat.zero_add, Nat.add_zero, Nat.zero_le, Nat.le_refl, and_self, and_true, true_and, Nat.lt_add_one, Nat.zero_lt_succ, ne_eq, not_false_eq_true, Nat.succ_ne_zero, List.flatMap_cons, List.flatMap_nil, LT.lo, Leaf.lo, DCheck_ok]
  by_cases hc : (checkOf xs).2 = 0
  · have ht := check_table hc
    rw [decide_eq_true hc, if_pos hc]
    simp -implicitDefEqProofs only [Option.bind_some, Option.bind_none, Option.map_some, Option.map_none, cond_true, cond_false, Bool.not_true, Bool.not_false, if_true, if_false, reduceIte, rdRes, rdTT, rdTy, rdLT, rdLeaf_int, rdLeaf_bool, rdLeaf_str, rdLeaf_row, Res.un, TT.un, Ty.un, LT.un, Leaf.un, rdRow_i1, rdRow_i2, rdRow_i3, rdRow_i4, rdRow_i5, rdRow_args, rdRow_res, rdRow_nil, Leaf.plain, LT.plain, List.isEmpty_cons, Bool.and_self, Bool.and_true, Bool.true_and, Bool.or_true, Bool.true_or, Bool.or_false, Bool.false_or, reserve0, rowSV_len, rowSV_cap, rowSV_tail, guardO_true, hL_empty, hL_new, hL_next, hL_put, hL_reserve, List.replicate, rd_hp, rds_hp, wrs_hp, hL_m, List.nil_append, List.cons_append, List.append_nil, List.getElem?_cons_zero, List.getElem?_cons_succ, Option.getD_some, List.length_cons, List.length_nil, List.length_append, splice, List.take_zero, List.take_succ_cons, List.take_nil, List.drop_zero, List.drop_succ_cons, List.drop_nil, List.set_cons_zero, List.set_cons_succ, LT.pack, Leaf.pack, Nat.reduceAdd, Nat.reduceSub, Nat.reduceLeDiff, Nat.reduceLT, Nat.reduceEqDiff, Nat.zero_add, Nat.add_zero, Nat.zero_le, Nat.le_refl, and_self, and_true, true_and, Nat.lt_add_one, Nat.zero_lt_succ, ne_eq, not_false_eq_true, Nat.succ_ne_zero, List.flatMap_cons, List.flatMap_nil, LT.lo, Leaf.lo]
    rw [badA_code]
    simp -implicitDefEqProofs only [Option.bind_some, Option.bind_none, Option.map_some, Option.map_none, cond_true, cond_false, Bool.not_true, Bool.not_false, if_true, if_false, reduceIte, rdRes, rdTT, rdTy, rdLT, rdLeaf_int, rdLeaf_bool, rdLeaf_str, rdLeaf_row, Res.un, TT.un, Ty.un, LT.un, Leaf.un, rdRow_i1, rdRow_i2, rdRow_i3, rdRow_i4, rdRow_i5, rdRow_args, rdRow_res, rdRow_nil, Leaf.plain, LT.plain, List.isEmpty_cons, Bool.and_self, Bool.and_true, Bool.true_and, Bool.or_true, Bool.true_or, Bool.or_false, Bool.false_or, reserve0, rowSV_len, rowSV_cap, rowSV_tail, guardO_true, hL_empty, hL_new, hL_next, hL_put, hL_reserve, List.replicate, rd_hp, rds_hp, wrs_hp, hL_m, List.nil_append, List.cons_append, List.append_nil, List.getElem?_cons_zero, List.getElem?_cons_succ, Option.getD_some, List.length_cons, List.length_nil, List.length_append, splice, List.take_zero, List.take_succ_cons, List.take_nil, List.drop_zero, List.drop_succ_cons, List.drop_nil, List.set_cons_zero, List.set_cons_succ, LT.pack, Leaf.pack, Nat.reduceAdd, Nat.reduceSub, Nat.reduceLeDiff, Nat.reduceLT, Nat.reduceEqDiff, Nat.zero_add, Nat.add_zero, Nat.zero_le, Nat.le_refl, and_self, and_true, true_and, Nat.lt_add_one, Nat.zero_lt_succ, ne_eq, not_false_eq_true, Nat.succ_ne_zero, List.flatMap_cons, List.flatMap_nil, LT.lo, Leaf.lo]
    cases hin : inA (a, v) with
    | false => simp -implicitDefEqProofs only [Option.bind_some, Option.bind_none, Option.map_some, Option.map_none, cond_true, cond_false, Bool.not_true, Bool.not_false, if_true, if_false, reduceIte, rdRes, rdTT, rdTy, rdLT, rdLeaf_int, rdLeaf_bool, rdLeaf_str, rdLeaf_row, Res.un, TT.un, Ty.un, LT.un, Leaf.un, rdRow_i1, rdRow_i2, rdRow_i3, rdRow_i4, rdRow_i5, rdRow_args, rdRow_res, rdRow_nil, Leaf.plain, LT.plain, List.isEmpty_cons, Bool.and_self, Bool.and_true, Bool.true_and, Bool.or_true, Bool.true_or, Bool.or_false, Bool.false_or, reserve0, rowSV_len, rowSV_cap, rowSV_tail, guardO_true, hL_empty, hL_new, hL_next, hL_put, hL_reserve, List.replicate, rd_hp, rds_hp, wrs_hp, hL_m, List.nil_append, List.cons_append, List.append_nil, List.getElem?_cons_zero, List.getElem?_cons_succ, Option.getD_some, List.length_cons, List.length_nil, List.length_append, splice, List.take_zero, List.take_succ_cons, List.take_nil, List.drop_zero, List.drop_succ_cons, List.drop_nil, List.set_cons_zero, List.set_cons_succ, LT.pack, Leaf.pack, Nat.reduceAdd, Nat.reduceSub, Nat.reduceLeDiff, Nat.reduceLT, Nat.reduceEqDiff, Nat.zero_add, Nat.add_zero, Nat.zero_le, Nat.le_refl, and_self, and_true, true_and, Nat.lt_add_one, Nat.zero_lt_succ, ne_eq, not_false_eq_true, Nat.succ_ne_zero, List.flatMap_cons, List.flatMap_nil, LT.lo, Leaf.lo, Bool.false_eq_true]
    | true =>
      have hi := inA_iff.1 hin
      simp only at hi
      have hd := dens_bound ht (show (0 : Int) ≤ 10000 by omega) (Int.le_refl _)
      have hm := mul_small (a := a) (d := dens xs 10000) (by omega) hd
      simp -implicitDefEqProofs only [Option.bind_some, Option.bind_none, Option.map_some, Option.map_none, cond_true, cond_false, Bool.not_true, Bool.not_false, if_true, if_false, reduceIte, rdRes, rdTT, rdTy, rdLT, rdLeaf_int, rdLeaf_bool, rdLeaf_str, rdLeaf_row, Res.un, TT.un, Ty.un, LT.un, Leaf.un, rdRow_i1, rdRow_i2, rdRow_i3, rdRow_i4, rdRow_i5, rdRow_args, rdRow_res, rdRow_nil, Leaf.plain, LT.plain, List.isEmpty_cons, Bool.and_self, Bool.and_true, Bool.true_and, Bool.or_true, Bool.true_or, Bool.or_false, Bool.false_or, reserve0, rowSV_len, rowSV_cap, rowSV_tail, guardO_true, hL_empty, hL_new, hL_next, hL_put, hL_reserve, List.replicate, rd_hp, rds_hp, wrs_hp, hL_m, List.nil_append, List.cons_append, List.append_nil, List.getElem?_cons_zero, List.getElem?_cons_succ, Option.getD_some, List.length_cons, List.length_nil, List.length_append, splice, List.take_zero, List.take_succ_cons, List.take_nil, List.drop_zero, List.drop_succ_cons, List.drop_nil, List.set_cons_zero, List.set_cons_succ, LT.pack, Leaf.pack, Nat.reduceAdd, Nat.reduceSub, Nat.reduceLeDiff, Nat.reduceLT, Nat.reduceEqDiff, Nat.zero_add, Nat.add_zero, Nat.zero_le, Nat.le_refl, and_self, and_true, true_and, Nat.lt_add_one, Nat.zero_lt_succ, ne_eq, not_false_eq_true, Nat.succ_ne_zero, List.flatMap_cons, List.flatMap_nil, LT.lo, Leaf.lo, reserve0]
      rw [alcof_ok hc (by omega) (by omega)]
      simp -implicitDefEqProofs only [Option.bind_some, Option.bind_none, Option.map_some, Option.map_none, cond_true, cond_false, Bool.not_true, Bool.not_false, if_true, if_false, reduceIte, rdRes, rdTT, rdTy, rdLT, rdLeaf_int, rdLeaf_bool, rdLeaf_str, rdLeaf_row, Res.un, TT.un, Ty.un, LT.un, Leaf.un, rdRow_i1, rdRow_i2, rdRow_i3, rdRow_i4, rdRow_i5, rdRow_args, rdRow_res, rdRow_nil, Leaf.plain, LT.plain, List.isEmpty_cons, Bool.and_self, Bool.and_true, Bool.true_and, Bool.or_true, Bool.true_or, Bool.or_false, Bool.false_or, reserve0, rowSV_len, rowSV_cap, rowSV_tail, guardO_true, hL_empty, hL_new, hL_next, hL_put, hL_reserve, List.replicate, rd_hp, rds_hp, wrs_hp, hL_m, List.nil_append, List.cons_append, List.append_nil, List.getElem?_cons_zero, List.getElem?_cons_succ, Option.getD_some, List.length_cons, List.length_nil, List.length_append, splice, List.take_zero, List.take_succ_cons, List.take_nil, List.drop_zero, List.drop_succ_cons, List.drop_nil, List.set_cons_zero, List.set_cons_succ, LT.pack, Leaf.pack, Nat.reduceAdd, Nat.reduceSub, Nat.reduceLeDiff, Nat.reduceLT, Nat.reduceEqDiff, Nat.zero_add, Nat.add_zero, Nat.zero_le, Nat.le_refl, and_self, and_true, true_and, Nat.lt_add_one, Nat.zero_lt_succ, ne_eq, not_false_eq_true, Nat.succ_ne_zero, List.flatMap_cons, List.flatMap_nil, LT.lo, Leaf.lo]
      rw [i64_in (v * 10000) (by omega), i64_in (a * dens xs 10000) (by omega)]
      by_cases hlt : v * 10000 < a * dens xs 10000
      · rw [decide_eq_true hlt, if_pos hlt]
        simp -implicitDefEqProofs only [Option.bind_some, Option.bind_none, Option.map_some, Option.map_none, cond_true, cond_false, Bool.not_true, Bool.not_false, if_true, if_false, reduceIte, rdRes, rdTT, rdTy, rdLT, rdLeaf_int, rdLeaf_bool, rdLeaf_str, rdLeaf_row, Res.un, TT.un, Ty.un, LT.un, Leaf.un, rdRow_i1, rdRow_i2, rdRow_i3, rdRow_i4, rdRow_i5, rdRow_args, rdRow_res, rdRow_nil, Leaf.plain, LT.plain, List.isEmpty_cons, Bool.and_self, Bool.and_true, Bool.true_and, Bool.or_true, Bool.true_or, Bool.or_false, Bool.false_or, reserve0, rowSV_len, rowSV_cap, rowSV_tail, guardO_true, hL_empty, hL_new, hL_next, hL_put, hL_reserve, List.replicate, rd_hp, rds_hp, wrs_hp, hL_m, List.nil_append, List.cons_append, List.append_nil, List.getElem?_cons_zero, List.getElem?_cons_succ, Option.getD_some, List.length_cons, List.length_nil, List.length_append, splice, List.take_zero, List.take_succ_cons, List.take_nil, List.drop_zero, List.drop_succ_cons, List.drop_nil, List.set_cons_zero, List.set_cons_succ, LT.pack, Leaf.pack, Nat.reduceAdd, Nat.reduceSub, Nat.reduceLeDiff, Nat.reduceLT, Nat.reduceEqDiff, Nat.zero_add, Nat.add_zero, Nat.zero_le, Nat.le_refl, and_self, and_true, true_and, Nat.lt_add_one, Nat.zero_lt_succ, ne_eq, not_false_eq_true, Nat.succ_ne_zero, List.flatMap_cons, List.flatMap_nil, LT.lo, Leaf.lo]
      · rw [decide_eq_false hlt, if_neg hlt]
        simp -implicitDefEqProofs only [Option.bind_some, Option.bind_none, Option.map_some, Option.map_none, cond_true, cond_false, Bool.not_true, Bool.not_false, if_true, if_false, reduceIte, rdRes, rdTT, rdTy, rdLT, rdLeaf_int, rdLeaf_bool, rdLeaf_str, rdLeaf_row, Res.un, TT.un, Ty.un, LT.un, Leaf.un, rdRow_i1, rdRow_i2, rdRow_i3, rdRow_i4, rdRow_i5, rdRow_args, rdRow_res, rdRow_nil, Leaf.plain, LT.plain, List.isEmpty_cons, Bool.and_self, Bool.and_true, Bool.true_and, Bool.or_true, Bool.true_or, Bool.or_false, Bool.false_or, reserve0, rowSV_len, rowSV_cap, rowSV_tail, guardO_true, hL_empty, hL_new, hL_next, hL_put, hL_reserve, List.replicate, rd_hp, rds_hp, wrs_hp, hL_m, List.nil_append, List.cons_append, List.append_nil, List.getElem?_cons_zero, List.getElem?_cons_succ, Option.getD_some, List.length_cons, List.length_nil, List.length_append, splice, List.take_zero, List.take_succ_cons, List.take_nil, List.drop_zero, List.drop_succ_cons, List.drop_nil, List.set_cons_zero, List.set_cons_succ, LT.pack, Leaf.pack, Nat.reduceAdd, Nat.reduceSub, Nat.reduceLeDiff, Nat.reduceLT, Nat.reduceEqDiff, Nat.zero_add, Nat.add_zero, Nat.zero_le, Nat.le_refl, and_self, and_true, true_and, Nat.lt_add_one, Nat.zero_lt_succ, ne_eq, not_false_eq_true, Nat.succ_ne_zero, List.flatMap_cons, List.flatMap_nil, LT.lo, Leaf.lo]
  · rw [decide_eq_false hc, if_neg hc]
    simp -implicitDefEqProofs only [Option.bind_some, Option.bind_none, Option.map_some, Option.map_none, cond_true, cond_false, Bool.not_true, Bool.not_false, if_true, if_false, reduceIte, rdRes, rdTT, rdTy, rdLT, rdLeaf_int, rdLeaf_bool, rdLeaf_str, rdLeaf_row, Res.un, TT.un, Ty.un, LT.un, Leaf.un, rdRow_i1, rdRow_i2, rdRow_i3, rdRow_i4, rdRow_i5, rdRow_args, rdRow_res, rdRow_nil, Leaf.plain, LT.plain, List.isEmpty_cons, Bool.and_self, Bool.and_true, Bool.true_and, Bool.or_true, Bool.true_or, Bool.or_false, Bool.false_or, reserve0, rowSV_len, rowSV_cap, rowSV_tail, guardO_true, hL_empty, hL_new, hL_next, hL_put, hL_reserve, List.replicate, rd_hp, rds_hp, wrs_hp, hL_m, List.nil_append, List.cons_append, List.append_nil, List.getElem?_cons_zero, List.getElem?_cons_succ, Option.getD_some, List.length_cons, List.length_nil, List.length_append, splice, List.take_zero, List.take_succ_cons, List.take_nil, List.drop_zero, List.drop_succ_cons, List.drop_nil, List.set_cons_zero, List.set_cons_succ, LT.pack, Leaf.pack, Nat.reduceAdd, Nat.reduceSub, Nat.reduceLeDiff, Nat.reduceLT, Nat.reduceEqDiff, Nat.zero_add, Nat.add_zero, Nat.zero_le, Nat.le_refl, and_self, and_true, true_and, Nat.lt_add_one, Nat.zero_lt_succ, ne_eq, not_false_eq_true, Nat.succ_ne_zero, List.flatMap_cons, List.flatMap_nil, LT.lo, Leaf.lo]
/-- Is a grade above a liquid's? -/
noncomputable def above (xs : List (Int × Int)) (x : Int × Int) (k : Nat) : Bool := decide (x.1 * dens xs k < x.2 * k)
theorem above_up {xs : List (Int × Int)} {x : Int × Int} (ht : Table2 xs) (hi : inA x = true) (j k : Nat) (hjk : j ≤ k) (hk : k < 10001) (h : above xs x j = true) : above xs x k = true := by
  have hi := inA_iff.1 hi
  have h := of_decide_eq_true h
  have hd := dens_down (s := j) (t := k) ht (by omega) (by omega) (by omega)
  have k1 : x.1 * dens xs k ≤ x.1 * dens xs j := Int.mul_le_mul_of_nonneg_left hd hi.1
  have k2 : x.2 * (j : Int) ≤ x.2 * (k : Int) := Int.mul_le_mul_of_nonneg_left (by omega) hi.2.2.1
  exact decide_eq_true (by omega)
abbrev sH (xs : List (Int × Int)) (x : Int × Int) : H := hL [.own [.slice (rowSV false j2 xs).a xs.length xs.length true] 1, c2 x]
theorem strength1_ok {xs : List (Int × Int)} {x : Int × Int} {k : Nat} (hc : (checkOf xs).2 = 0) (hi : inA x = true) (hk : k < 10001) : alcohol_Strength_1 (k : Int) (.hp 1 2 0) (.hp 0 1 0) (sH xs x) = some (above xs x k, sH xs x) := by
  have ht := check_table hc
  have r0 : rdT (.leaf .slice) (sH xs x) (.hp 0 1 0) = some (rowSV false j2 xs) := by
    unfold sH
    rw [rd_own (g := 1) (id := 0) rfl rfl]; rfl
  have e1 : [.own [.slice (rowSV false j2 xs).a xs.length xs.length true] 1, c2 x][1]? = some (c2 x) := rfl
  have r1 : rdT (.leaf (.int .i64)) (sH xs x) (.hp 1 2 0) = some x.1 ∧ rdT (.leaf (.int .i64)) (sH xs x) (.hp 1 2 1) = some x.2 := rd_c2 e1
  have hi := inA_iff.1 hi
  have hd := dens_bound (t := k) ht (by omega) (by omega)
  have hm := mul_small (a := x.1) (d := dens xs k) (by omega) hd
  have hv : 0 ≤ x.2 * (k : Int) ∧ x.2 * (k : Int) ≤ 128849018880000 * 10000 := ⟨Int.mul_nonneg (by omega) (by omega), Int.mul_le_mul (by omega) (by omega) (by omega) (by omega)⟩
  unfold alcohol_Strength_1
  simp -implicitDefEqProofs only [reserve0]
  rw [guardO_pos (p := V.nn _ = true) (by rfl)]
  show ((rdT (.leaf (.int .i64)) (sH xs x) (.hp 1 2 0)).bind _) = _
  rw [r1.1]
  simp -implicitDefEqProofs only [Option.bind_some, Option.bind_none, Option.map_some, Option.map_none, cond_true, cond_false, Bool.not_true, Bool.not_false, if_true, if_false, reduceIte, rdRes, rdTT, rdTy, rdLT, rdLeaf_int, rdLeaf_bool, rdLeaf_str, rdLeaf_row, Res.un, TT.un, Ty.un, LT.un, Leaf.un, rdRow_i1, rdRow_i2, rdRow_i3, rdRow_i4, rdRow_i5, rdRow_args, rdRow_res, rdRow_nil, Leaf.plain, LT.plain, List.isEmpty_cons, Bool.and_self, Bool.and_true, Bool.true_and, Bool.or_true, Bool.true_or, Bool.or_false, Bool.false_or, reserve0, rowSV_len, rowSV_cap, rowSV_tail, guardO_true]
  rw [r0]
  simp -implicitDefEqProofs only [Option.bind_some, Option.bind_none, Option.map_some, Option.map_none, cond_true, cond_false, Bool.not_true, Bool.not_false, if_true, if_false, reduceIte, rdRes, rdTT, rdTy, rdLT, rdLeaf_int, rdLeaf_bool, rdLeaf_str, rdLeaf_row, Res.un, TT.un, Ty.un, LT.un, Leaf.un, rdRow_i1, rdRow_i2, rdRow_i3, rdRow_i4, rdRow_i5, rdRow_args, rdRow_res, rdRow_nil, Leaf.plain, LT.plain, List.isEmpty_cons, Bool.and_self, Bool.and_true, Bool.true_and, Bool.or_true, Bool.true_or, Bool.or_false, Bool.false_or, reserve0, rowSV_len, rowSV_cap, rowSV_tail, guardO_true]
  rw [alcof_ok hc (by omega) (by omega)]
  simp -implicitDefEqProofs only [Option.bind_some, Option.bind_none, Option.map_some, Option.map_none, cond_true, cond_false, Bool.not_true, Bool.not_false, if_true, if_false, reduceIte, rdRes, rdTT, rdTy, rdLT, rdLeaf_int, rdLeaf_bool, rdLeaf_str, rdLeaf_row, Res.un, TT.un, Ty.un, LT.un, Leaf.un, rdRow_i1, rdRow_i2, rdRow_i3, rdRow_i4, rdRow_i5, rdRow_args, rdRow_res, rdRow_nil, Leaf.plain, LT.plain, List.isEmpty_cons, Bool.and_self, Bool.and_true, Bool.true_and, Bool.or_true, Bool.true_or, Bool.or_false, Bool.false_or, reserve0, rowSV_len, rowSV_cap, rowSV_tail, guardO_true]
  rw [guardO_pos (p := V.nn _ = true) (by rfl)]
  show ((rdT (.leaf (.int .i64)) (sH xs x) (.hp 1 2 1)).bind _) = _
  rw [r1.2]
  simp -implicitDefEqProofs only [Option.bind_some, Option.bind_none, Option.map_some, Option.map_none, cond_true, cond_false, Bool.not_true, Bool.not_false, if_true, if_false, reduceIte, rdRes, rdTT, rdTy, rdLT, rdLeaf_int, rdLeaf_bool, rdLeaf_str, rdLeaf_row, Res.un, TT.un, Ty.un, LT.un, Leaf.un, rdRow_i1, rdRow_i2, rdRow_i3, rdRow_i4, rdRow_i5, rdRow_args, rdRow_res, rdRow_nil, Leaf.plain, LT.plain, List.isEmpty_cons, Bool.and_self, Bool.and_true, Bool.true_and, Bool.or_true, Bool.true_or, Bool.or_false, Bool.false_or, reserve0, rowSV_len, rowSV_cap, rowSV_tail, guardO_true]
  rw [i64_in (x.1 * dens xs k) (by omega), i64_in (x.2 * (k : Int)) (by omega)]
  rfl
/-- A liquid's strength: one below the first grade above it. -/
theorem Strength_ok (xs : List (Int × Int)) (a v : Int) : ∃ r, alcohol_StrengthP xs (a, v) = some r ∧
    ((acheckOf xs (a, v) ≠ 0 ∧ r = (0, 1)) ∨ (acheckOf xs (a, v) = 0 ∧ a = 0 ∧ v = 0 ∧ r = (0, 0)) ∨
      (acheckOf xs (a, v) = 0 ∧ ¬(a = 0 ∧ v = 0) ∧ ∃ m : Nat, m ≤ 10001 ∧ r = ((m : Int) - 1, 0) ∧ (∀ q, q < m → above xs (a, v) q = false) ∧ ∀ q, m ≤ q → q < 10001 → above xs (a, v) q = true)) := by
  have r0 : rdT (.leaf .slice) (sH xs (a, v)) (.hp 0 1 0) = some (rowSV false j2 xs) := by
    unfold sH
    rw [rd_own (g := 1) (id := 0) rfl rfl]; rfl
  have e1 : [.own [.slice (rowSV false j2 xs).a xs.length xs.length true] 1, c2 (a, v)][1]? = some (c2 (a, v)) := rfl
  have s1 : rdT (.agg j2) (sH xs (a, v)) (.hp 1 2 0) = some (a, v) := rds_c2 e1
  unfold alcohol_StrengthP alcohol_Strength
  simp -implicitDefEqProofs only [Option.bind_some, Option.bind_none, Option.map_some, Option.map_none, cond_true, cond_false, Bool.not_true, Bool.not_false, if_true, if_false, reduceIte, rdRes, rdTT, rdTy, rdLT, rdLeaf_int, rdLeaf_bool, rdLeaf_str, rdLeaf_row, Res.un, TT.un, Ty.un, LT.un, Leaf.un, rdRow_i1, rdRow_i2, rdRow_i3, rdRow_i4, rdRow_i5, rdRow_args, rdRow_res, rdRow_nil, Leaf.plain, LT.plain, List.isEmpty_cons, Bool.and_self, Bool.and_true, Bool.true_and, Bool.or_true, Bool.true_or, Bool.or_false, Bool.false_or, reserve0, rowSV_len, rowSV_cap, rowSV_tail, guardO_true, hL_empty, hL_new, hL_next, List.length_nil, List.length_cons, List.nil_append, List.cons_append, Nat.zero_add]
  simp only [sH, c2] at r0 s1
  rw [r0]
  simp -implicitDefEqProofs only [Option.bind_some, Option.bind_none, Option.map_some, Option.map_none, cond_true, cond_false, Bool.not_true, Bool.not_false, if_true, if_false, reduceIte, rdRes, rdTT, rdTy, rdLT, rdLeaf_int, rdLeaf_bool, rdLeaf_str, rdLeaf_row, Res.un, TT.un, Ty.un, LT.un, Leaf.un, rdRow_i1, rdRow_i2, rdRow_i3, rdRow_i4, rdRow_i5, rdRow_args, rdRow_res, rdRow_nil, Leaf.plain, LT.plain, List.isEmpty_cons, Bool.and_self, Bool.and_true, Bool.true_and, Bool.or_true, Bool.true_or, Bool.or_false, Bool.false_or, reserve0, rowSV_len, rowSV_cap, rowSV_tail, guardO_true]
  rw [s1]
  simp -implicitDefEqProofs only [Option.bind_some, Option.bind_none, Option.map_some, Option.map_none, cond_true, cond_false, Bool.not_true, Bool.not_false, if_true, if_false, reduceIte, rdRes, rdTT, rdTy, rdLT, rdLeaf_int, rdLeaf_bool, rdLeaf_str, rdLeaf_row, Res.un, TT.un, Ty.un, LT.un, Leaf.un, rdRow_i1, rdRow_i2, rdRow_i3, rdRow_i4, rdRow_i5, rdRow_args, rdRow_res, rdRow_nil, Leaf.plain, LT.plain, List.isEmpty_cons, Bool.and_self, Bool.and_true, Bool.true_and, Bool.or_true, Bool.true_or, Bool.or_false, Bool.false_or, reserve0, rowSV_len, rowSV_cap, rowSV_tail, guardO_true]
  rw [ACheck_ok]
  simp -implicitDefEqProofs only [Option.bind_some, Option.bind_none, Option.map_some, Option.map_none, cond_true, cond_false, Bool.not_true, Bool.not_false, if_true, if_false, reduceIte, rdRes, rdTT, rdTy, rdLT, rdLeaf_int, rdLeaf_bool, rdLeaf_str, rdLeaf_row, Res.un, TT.un, Ty.un, LT.un, Leaf.un, rdRow_i1, rdRow_i2, rdRow_i3, rdRow_i4, rdRow_i5, rdRow_args, rdRow_res, rdRow_nil, Leaf.plain, LT.plain, List.isEmpty_cons, Bool.and_self, Bool.and_true, Bool.true_and, Bool.or_true, Bool.true_or, Bool.or_false, Bool.false_or, reserve0, rowSV_len, rowSV_cap, rowSV_tail, guardO_true]
  by_cases hc : acheckOf xs (a, v) = 0
  · rw [decide_eq_true hc]
    simp -implicitDefEqProofs only [Option.bind_some, Option.bind_none, Option.map_some, Option.map_none, cond_true, cond_false, Bool.not_true, Bool.not_false, if_true, if_false, reduceIte, rdRes, rdTT, rdTy, rdLT, rdLeaf_int, rdLeaf_bool, rdLeaf_str, rdLeaf_row, Res.un, TT.un, Ty.un, LT.un, Leaf.un, rdRow_i1, rdRow_i2, rdRow_i3, rdRow_i4, rdRow_i5, rdRow_args, rdRow_res, rdRow_nil, Leaf.plain, LT.plain, List.isEmpty_cons, Bool.and_self, Bool.and_true, Bool.true_and, Bool.or_true, Bool.true_or, Bool.or_false, Bool.false_or, reserve0, rowSV_len, rowSV_cap, rowSV_tail, guardO_true]
    by_cases hz : a = 0 ∧ v = 0
    · rw [decide_eq_true hz.1, decide_eq_true hz.2]
      simp -implicitDefEqProofs only [Option.bind_some, Option.bind_none, Option.map_some, Option.map_none, cond_true, cond_false, Bool.not_true, Bool.not_false, if_true, if_false, reduceIte, rdRes, rdTT, rdTy, rdLT, rdLeaf_int, rdLeaf_bool, rdLeaf_str, rdLeaf_row, Res.un, TT.un, Ty.un, LT.un, Leaf.un, rdRow_i1, rdRow_i2, rdRow_i3, rdRow_i4, rdRow_i5, rdRow_args, rdRow_res, rdRow_nil, Leaf.plain, LT.plain, List.isEmpty_cons, Bool.and_self, Bool.and_true, Bool.true_and, Bool.or_true, Bool.true_or, Bool.or_false, Bool.false_or, reserve0, rowSV_len, rowSV_cap, rowSV_tail, guardO_true]
      exact ⟨_, rfl, .inr (.inl ⟨hc, hz.1, hz.2, rfl⟩)⟩
    · have hfalse : (decide (a = 0) && decide (v = 0)) = false := by
        rw [← Bool.decide_and]
        exact decide_eq_false hz
      rw [hfalse]
      simp -implicitDefEqProofs only [Option.bind_some, Option.bind_none, Option.map_some, Option.map_none, cond_true, cond_false, Bool.not_true, Bool.not_false, if_true, if_false, reduceIte, rdRes, rdTT, rdTy, rdLT, rdLeaf_int, rdLeaf_bool, rdLeaf_str, rdLeaf_row, Res.un, TT.un, Ty.un, LT.un, Leaf.un, rdRow_i1, rdRow_i2, rdRow_i3, rdRow_i4, rdRow_i5, rdRow_args, rdRow_res, rdRow_nil, Leaf.plain, LT.plain, List.isEmpty_cons, Bool.and_self, Bool.and_true, Bool.true_and, Bool.or_true, Bool.true_or, Bool.or_false, Bool.false_or, reserve0, rowSV_len, rowSV_cap, rowSV_tail, guardO_true]
      have hck : (checkOf xs).2 = 0 := by
        refine Classical.byContradiction fun h => ?_
        unfold acheckOf at hc
        rw [if_neg h] at hc
        simp at hc
      have hin : inA (a, v) = true := by
        unfold acheckOf at hc
        rw [if_pos hck] at hc
        cases h : inA (a, v) with
        | true => rfl
        | false => rw [h] at hc; simp at hc
      obtain ⟨m, q1, q2', q3, q4⟩ := Search_ok (T := alcohol_Strength.tb) (v := .func 43 [.hp 1 2 0, .hp 0 1 0]) (h := sH xs (a, v)) (n := 10001) (above xs (a, v)) (by omega) (fun j k hjk hk hj => above_up (check_table hck) hin j k hjk hk hj) (fun k hk R K => by
        show (alcohol_Strength_1 (k : Int) (.hp 1 2 0) (.hp 0 1 0) _).bind (fun p => K (.bool p.1) p.2) = _
        rw [strength1_ok hck hin hk]
        rfl)
      have hn : ((10001 : Nat) : Int) = 10001 := rfl
      simp only [sH, c2, hn] at q1
      rw [q1]
      simp -implicitDefEqProofs only [Option.bind_some, Option.bind_none, Option.map_some, Option.map_none, cond_true, cond_false, Bool.not_true, Bool.not_false, if_true, if_false, reduceIte, rdRes, rdTT, rdTy, rdLT, rdLeaf_int, rdLeaf_bool, rdLeaf_str, rdLeaf_row, Res.un, TT.un, Ty.un, LT.un, Leaf.un, rdRow_i1, rdRow_i2, rdRow_i3, rdRow_i4, rdRow_i5, rdRow_args, rdRow_res, rdRow_nil, Leaf.plain, LT.plain, List.isEmpty_cons, Bool.and_self, Bool.and_true, Bool.true_and, Bool.or_true, Bool.true_or, Bool.or_false, Bool.false_or, reserve0, rowSV_len, rowSV_cap, rowSV_tail, guardO_true]
      rw [i64_in _ (by omega)]
      exact ⟨_, rfl, .inr (.inr ⟨hc, hz, m, q2', rfl, q3, q4⟩)⟩
  · rw [decide_eq_false hc]
    simp -implicitDefEqProofs only [Option.bind_some, Option.bind_none, Option.map_some, Option.map_none, cond_true, cond_false, Bool.not_true, Bool.not_false, if_true, if_false, reduceIte, rdRes, rdTT, rdTy, rdLT, rdLeaf_int, rdLeaf_bool, rdLeaf_str, rdLeaf_row, Res.un, TT.un, Ty.un, LT.un, Leaf.un, rdRow_i1, rdRow_i2, rdRow_i3, rdRow_i4, rdRow_i5, rdRow_args, rdRow_res, rdRow_nil, Leaf.plain, LT.plain, List.isEmpty_cons, Bool.and_self, Bool.and_true, Bool.true_and, Bool.or_true, Bool.true_or, Bool.or_false, Bool.false_or, reserve0, rowSV_len, rowSV_cap, rowSV_tail, guardO_true]
    exact ⟨_, rfl, .inl ⟨hc, rfl⟩⟩
end Go.Proofs.Ytaepkinihaipkaa
