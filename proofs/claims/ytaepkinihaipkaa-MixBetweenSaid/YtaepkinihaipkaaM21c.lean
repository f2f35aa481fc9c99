/- What Sum of package mix, and Sum, Draw, Divide of its reference compute. Conditions: those of each law. -/
import Derived.Test.YtaepkinihaipkaaL21b
namespace Go.Proofs.Ytaepkinihaipkaa
open Go Go.Proofs.Ytaepkinihaipkaa.Ev
set_option linter.unusedVariables false
set_option linter.unusedSimpArgs false
set_option maxRecDepth 100000
set_option maxHeartbeats 4000000
theorem IndexFunc_liq {T : Table} {v : V} {h : H} {xs : List (Int × Int)} {f : Bool} (p : Int × Int → Bool) (hn : xs.length < 2 ^ 63) (hc : ∀ x ∈ xs, ∀ {R : Type} (k : V → H → Option R), callV T.dy v [.agg [.int .i64 x.1, .int .i64 x.2]] h k = k (.bool (p x)) h) :
    slices_IndexFunc_api_Liquid_api_Liquid T (rowSV f [.int .i64, .int .i64] xs) v h = some (idxOf p xs, h) := by
  unfold slices_IndexFunc_api_Liquid_api_Liquid
  rw [iter_find xs p (fun i => (i : Int)) hn (fun i x hx => by
    obtain ⟨hlt, rfl⟩ := List.getElem?_eq_some_iff.1 hx
    unfold slices_IndexFunc_api_Liquid_api_Liquid.loop1
    simp only [rowSV_len, Int.toNat_natCast]
    rw [decide_eq_true (by omega), cond_true, guardO_pos (by omega), rds_rowF (ls := j2) (w := 2) rfl (by omega) rfl, hx]
    simp only [Option.bind_some]
    rw [hc _ (List.getElem_mem hlt)]
    simp only [Res.pack, Ty.pack, Leaf.pack, Option.bind_some]
    rw [i64_succ (by omega)]
    cases p xs[i] <;> rfl) (by
    unfold slices_IndexFunc_api_Liquid_api_Liquid.loop1
    simp only [rowSV_len]
    rw [decide_eq_false (by omega), cond_false])]
  unfold idxOf
  cases xs.findIdx? p <;> rfl
theorem ContainsFunc_liq {T : Table} {v : V} {h : H} {xs : List (Int × Int)} {f : Bool} (p : Int × Int → Bool) (hn : xs.length < 2 ^ 63) (hc : ∀ x ∈ xs, ∀ {R : Type} (k : V → H → Option R), callV T.dy v [.agg [.int .i64 x.1, .int .i64 x.2]] h k = k (.bool (p x)) h) :
    slices_ContainsFunc_api_Liquid_api_Liquid T (rowSV f [.int .i64, .int .i64] xs) v h = some (xs.any p, h) := by
  unfold slices_ContainsFunc_api_Liquid_api_Liquid
  rw [IndexFunc_liq (T := slices_ContainsFunc_api_Liquid_api_Liquid.tb T) p hn hc]
  simp only [Option.bind_some, idxOf_nonneg]
theorem sum1_ok (a v : Int) : mix_Sum_1P (a, v) = some (!isPlain (a, v)) := by
  unfold mix_Sum_1P mix_Sum_1
  simp -implicitDefEqProofs only [Option.bind_some, Option.bind_none, Option.map_some, Option.map_none, cond_true, cond_false, Bool.not_true, Bool.not_false, if_true, if_false, reduceIte, rdRes, rdTT, rdTy, rdLT, rdLeaf_int, rdLeaf_bool, rdLeaf_str, rdLeaf_row, Res.un, TT.un, Ty.un, LT.un, Leaf.un, rdRow_i1, rdRow_i2, rdRow_i3, rdRow_i4, rdRow_i5, rdRow_args, rdRow_res, rdRow_nil, Leaf.plain, LT.plain, List.isEmpty_cons, Bool.and_self, Bool.and_true, Bool.true_and, Bool.or_true, Bool.true_or, Bool.or_false, Bool.false_or, reserve0, rowSV_len, rowSV_cap, rowSV_tail, guardO_true, hL_empty, hL_new, hL_next, hL_put, hL_reserve, List.replicate, rd_hp, rds_hp, wrs_hp, hL_m, List.nil_append, List.cons_append, List.append_nil, List.getElem?_cons_zero, List.getElem?_cons_succ, Option.getD_some, List.length_cons, List.length_nil, List.length_append, splice, List.take_zero, List.take_succ_cons, List.take_nil, List.drop_zero, List.drop_succ_cons, List.drop_nil, List.set_cons_zero, List.set_cons_succ, LT.pack, Leaf.pack, Nat.reduceAdd, Nat.reduceSub, Nat.reduceLeDiff, Nat.reduceLT, Nat.reduceEqDiff, Nat.zero_add, Nat.add_zero, Nat.zero_le, Nat.le_refl, and_self, and_true, true_and, Nat.lt_add_one, Nat.zero_lt_succ, ne_eq, not_false_eq_true, Nat.succ_ne_zero, List.flatMap_cons, List.flatMap_nil, LT.lo, Leaf.lo]
  rw [plain_ok]
  simp -implicitDefEqProofs only [Option.bind_some, Option.bind_none, Option.map_some, Option.map_none, cond_true, cond_false, Bool.not_true, Bool.not_false, if_true, if_false, reduceIte, rdRes, rdTT, rdTy, rdLT, rdLeaf_int, rdLeaf_bool, rdLeaf_str, rdLeaf_row, Res.un, TT.un, Ty.un, LT.un, Leaf.un, rdRow_i1, rdRow_i2, rdRow_i3, rdRow_i4, rdRow_i5, rdRow_args, rdRow_res, rdRow_nil, Leaf.plain, LT.plain, List.isEmpty_cons, Bool.and_self, Bool.and_true, Bool.true_and, Bool.or_true, Bool.true_or, Bool.or_false, Bool.false_or, reserve0, rowSV_len, rowSV_cap, rowSV_tail, guardO_true, hL_empty, hL_new, hL_next, hL_put, hL_reserve, List.replicate, rd_hp, rds_hp, wrs_hp, hL_m, List.nil_append, List.cons_append, List.append_nil, List.getElem?_cons_zero, List.getElem?_cons_succ, Option.getD_some, List.length_cons, List.length_nil, List.length_append, splice, List.take_zero, List.take_succ_cons, List.take_nil, List.drop_zero, List.drop_succ_cons, List.drop_nil, List.set_cons_zero, List.set_cons_succ, LT.pack, Leaf.pack, Nat.reduceAdd, Nat.reduceSub, Nat.reduceLeDiff, Nat.reduceLT, Nat.reduceEqDiff, Nat.zero_add, Nat.add_zero, Nat.zero_le, Nat.le_refl, and_self, and_true, true_and, Nat.lt_add_one, Nat.zero_lt_succ, ne_eq, not_false_eq_true, Nat.succ_ne_zero, List.flatMap_cons, List.flatMap_nil, LT.lo, Leaf.lo]
/-- The sum of liquids. -/
def sumL (xs : List (Int × Int)) : Int × Int := ((xs.map (·.1)).sum, (xs.map (·.2)).sum)
theorem sumL_take {xs : List (Int × Int)} {i : Nat} {x : Int × Int} (h : xs[i]? = some x) : sumL (xs.take (i + 1)) = ((sumL (xs.take i)).1 + x.1, (sumL (xs.take i)).2 + x.2) := by
  obtain ⟨hi, rfl⟩ := List.getElem?_eq_some_iff.1 h
  rw [← List.take_append_getElem hi]
  unfold sumL
  simp only [List.map_append, List.map_cons, List.map_nil, List.sum_append, List.sum_cons, List.sum_nil, Int.add_zero]
theorem sumL_bound {xs : List (Int × Int)} (h : ∀ x ∈ xs, isPlain x = true) : 0 ≤ (sumL xs).1 ∧ (sumL xs).1 ≤ xs.length * 10737418240000 ∧ 0 ≤ (sumL xs).2 ∧ (sumL xs).2 ≤ xs.length * 128849018880000 := by
  induction xs with
  | nil => simp [sumL]
  | cons x xs ih =>
    have h1 := ih fun y hy => h y (by simp [hy])
    have h2 := isPlain_iff.1 (h x (by simp))
    simp only [sumL, List.map_cons, List.sum_cons, List.length_cons] at h1 ⊢
    omega
def slotsT (xs : List (Int × Int)) (i : Nat) : List Slot := c2 (0, 0) :: c2 (sumL (xs.take i)) :: (xs.take i).map c2
theorem slotsT_succ {xs : List (Int × Int)} {i : Nat} {x : Int × Int} (h : xs[i]? = some x) : (slotsT xs i ++ [c2 x]).set 1 (c2 ((sumL (xs.take i)).1 + x.1, (sumL (xs.take i)).2 + x.2)) = slotsT xs (i + 1) := by
  unfold slotsT
  rw [sumL_take h]
  obtain ⟨hi, rfl⟩ := List.getElem?_eq_some_iff.1 h
  rw [← List.take_append_getElem hi, List.map_append]
  rfl
theorem wr0_c2 {sl : List Slot} {id : Nat} {x : Int × Int} {y : Int} (h : sl[id]? = some (c2 x)) : H.wrs (hL sl) (.hp id 2 0) [.int .i64 y] = some (hL (sl.set id (c2 (y, x.2)))) := by
  rw [wrs_own (g := 2) h rfl (by simp)]; rfl
theorem wr1_c2 {sl : List Slot} {id : Nat} {x : Int × Int} {y : Int} (h : sl[id]? = some (c2 x)) : H.wrs (hL sl) (.hp id 2 1) [.int .i64 y] = some (hL (sl.set id (c2 (x.1, y)))) := by
  rw [wrs_own (g := 2) h rfl (by simp)]; rfl
theorem total_ok {xs : List (Int × Int)} (hl : xs.length ≤ 8) (h : ∀ x ∈ xs, isPlain x = true) : mix_totalP xs = some (sumL xs) := by
  unfold mix_totalP mix_total
  simp -implicitDefEqProofs only [hL_empty, hL_new, hL_next, List.length_nil, List.nil_append, List.length_cons, Nat.zero_add, List.cons_append]
  have hloop : iter FUEL (mix_total.loop1 (rowSV false [.int .i64, .int .i64] xs) (hL [c2 (0, 0)])) (0, hL [c2 (0, 0), c2 (0, 0)]) = some (.ex0 (), hL (slotsT xs xs.length)) := by
    refine (iter_from (f := mix_total.loop1 (rowSV false [.int .i64, .int .i64] xs) (hL [c2 (0, 0)])) (fun i => ((i : Int), hL (slotsT xs i))) rfl xs.length FUEL (fun i hi => ?_) ?_ (fuel_gt (by omega)))
    · have hget := List.getElem?_eq_getElem hi
      have hb := sumL_bound (xs := xs.take i) (fun x hx => h x (List.mem_of_mem_take hx))
      have hx := isPlain_iff.1 (h _ (List.getElem_mem hi))
      rw [List.length_take, Nat.min_eq_left (by omega)] at hb
      generalize hxi : xs[i] = x at *
      have hlen : (slotsT xs i).length = i + 2 := by simp [slotsT]; omega
      have hrow : (slotsT xs i ++ [c2 x])[(slotsT xs i).length]? = some (c2 x) := by simp
      have htot : (slotsT xs i ++ [c2 x])[1]? = some (c2 (sumL (xs.take i))) := rfl
      have r1 := rd_c2 hrow
      have t1 := rd_c2 htot
      have nw := new_c2 (sl := slotsT xs i) (x := x)
      have w1 := wr0_c2 (y := (sumL (xs.take i)).1 + x.1) htot
      have htot2 : ((slotsT xs i ++ [c2 x]).set 1 (c2 ((sumL (xs.take i)).1 + x.1, (sumL (xs.take i)).2)))[1]? = some (c2 ((sumL (xs.take i)).1 + x.1, (sumL (xs.take i)).2)) := rfl
      have w2 := wr1_c2 (y := (sumL (xs.take i)).2 + x.2) htot2
      rw [List.set_set, slotsT_succ hget] at w2
      have hg1 : 0 ≤ (i : Int) ∧ (i : Int) < (xs.length : Int) := by omega
      unfold mix_total.loop1
      simp -implicitDefEqProofs only [Int.toNat_natCast, rowSV_len, reserve0, guardO_pos hg1]
      rw [decide_eq_true hg1.2, cond_true, rds_rowF (ls := j2) (w := 2) rfl (by omega) rfl, hget]
      simp -implicitDefEqProofs only [Option.bind_some, hL_new, hL_next, List.length_cons, List.length_nil, Nat.zero_add]
      rw [nw]
      simp -implicitDefEqProofs only [Option.bind_some, r1.1, r1.2, t1.1, t1.2]
      rw [i64_in _ (by omega), i64_in _ (by omega), w1]
      simp -implicitDefEqProofs only [Option.bind_some]
      rw [w2]
      simp -implicitDefEqProofs only [Option.bind_some]
      rw [guardO_pos (p := apartA _ _ = true) (by rw [hlen]; rfl), i64_succ (by omega)]
    · unfold mix_total.loop1
      simp -implicitDefEqProofs only [rowSV_len]
      rw [decide_eq_false (by omega), cond_false]
  simp only [c2] at hloop
  rw [hloop]
  have e0 : (slotsT xs xs.length)[0]? = some (c2 (0, 0)) := rfl
  have e1 : (slotsT xs xs.length)[1]? = some (c2 (sumL xs)) := by rw [slotsT, List.take_length]; rfl
  have w0 := wrs_c2 (y := sumL xs) e0
  have e2 : ((slotsT xs xs.length).set 0 (c2 (sumL xs)))[0]? = some (c2 (sumL xs)) := rfl
  simp -implicitDefEqProofs only [Option.bind_some, (rd_c2 e1).1, (rd_c2 e1).2]
  rw [w0]
  simp -implicitDefEqProofs only [Option.bind_some]
  rw [rds_c2 e2]
  simp -implicitDefEqProofs only [Option.bind_some, Option.bind_none, Option.map_some, Option.map_none, cond_true, cond_false, Bool.not_true, Bool.not_false, if_true, if_false, reduceIte, rdRes, rdTT, rdTy, rdLT, rdLeaf_int, rdLeaf_bool, rdLeaf_str, rdLeaf_row, Res.un, TT.un, Ty.un, LT.un, Leaf.un, rdRow_i1, rdRow_i2, rdRow_i3, rdRow_i4, rdRow_i5, rdRow_args, rdRow_res, rdRow_nil, Leaf.plain, LT.plain, List.isEmpty_cons, Bool.and_self, Bool.and_true, Bool.true_and, Bool.or_true, Bool.true_or, Bool.or_false, Bool.false_or, reserve0, rowSV_len, rowSV_cap, rowSV_tail, guardO_true]
def sumOf (xs : List (Int × Int)) : (Int × Int) × Int :=
  if 8 < xs.length then ((0, 0), 8) else if xs.any (fun x => !isPlain x) = true then ((0, 0), 1) else if isPlain (sumL xs) = true then (sumL xs, 0) else ((0, 0), 15)
theorem Sum_ok (xs : List (Int × Int)) (hl : xs.length < 2 ^ 63) : mix_SumP xs = some (sumOf xs) := by
  unfold mix_SumP mix_Sum sumOf
  simp -implicitDefEqProofs only [Option.bind_some, Option.bind_none, Option.map_some, Option.map_none, cond_true, cond_false, Bool.not_true, Bool.not_false, if_true, if_false, reduceIte, rdRes, rdTT, rdTy, rdLT, rdLeaf_int, rdLeaf_bool, rdLeaf_str, rdLeaf_row, Res.un, TT.un, Ty.un, LT.un, Leaf.un, rdRow_i1, rdRow_i2, rdRow_i3, rdRow_i4, rdRow_i5, rdRow_args, rdRow_res, rdRow_nil, Leaf.plain, LT.plain, List.isEmpty_cons, Bool.and_self, Bool.and_true, Bool.true_and, Bool.or_true, Bool.true_or, Bool.or_false, Bool.false_or, reserve0, rowSV_len, rowSV_cap, rowSV_tail, guardO_true, hL_empty, hL_new, hL_next, List.length_nil, List.nil_append, List.length_cons, Nat.zero_add, List.cons_append]
  have e0 : [c2 (0, 0)][0]? = some (c2 (0, 0)) := rfl
  have w0 := wrs_c2 (y := (0, 0)) e0
  have r0 := rds_c2 e0
  simp only [List.set_cons_zero, c2] at w0 r0
  by_cases h8 : 8 < xs.length
  · rw [if_pos h8, decide_eq_true (show (8 : Int) < (xs.length : Int) by omega)]
    simp -implicitDefEqProofs only [Option.bind_some, Option.bind_none, Option.map_some, Option.map_none, cond_true, cond_false, Bool.not_true, Bool.not_false, if_true, if_false, reduceIte, rdRes, rdTT, rdTy, rdLT, rdLeaf_int, rdLeaf_bool, rdLeaf_str, rdLeaf_row, Res.un, TT.un, Ty.un, LT.un, Leaf.un, rdRow_i1, rdRow_i2, rdRow_i3, rdRow_i4, rdRow_i5, rdRow_args, rdRow_res, rdRow_nil, Leaf.plain, LT.plain, List.isEmpty_cons, Bool.and_self, Bool.and_true, Bool.true_and, Bool.or_true, Bool.true_or, Bool.or_false, Bool.false_or, reserve0, rowSV_len, rowSV_cap, rowSV_tail, guardO_true]
    rw [w0]
    simp -implicitDefEqProofs only [Option.bind_some, Option.bind_none, Option.map_some, Option.map_none, cond_true, cond_false, Bool.not_true, Bool.not_false, if_true, if_false, reduceIte, rdRes, rdTT, rdTy, rdLT, rdLeaf_int, rdLeaf_bool, rdLeaf_str, rdLeaf_row, Res.un, TT.un, Ty.un, LT.un, Leaf.un, rdRow_i1, rdRow_i2, rdRow_i3, rdRow_i4, rdRow_i5, rdRow_args, rdRow_res, rdRow_nil, Leaf.plain, LT.plain, List.isEmpty_cons, Bool.and_self, Bool.and_true, Bool.true_and, Bool.or_true, Bool.true_or, Bool.or_false, Bool.false_or, reserve0, rowSV_len, rowSV_cap, rowSV_tail, guardO_true]
    rw [r0]
    simp -implicitDefEqProofs only [Option.bind_some, Option.bind_none, Option.map_some, Option.map_none, cond_true, cond_false, Bool.not_true, Bool.not_false, if_true, if_false, reduceIte, rdRes, rdTT, rdTy, rdLT, rdLeaf_int, rdLeaf_bool, rdLeaf_str, rdLeaf_row, Res.un, TT.un, Ty.un, LT.un, Leaf.un, rdRow_i1, rdRow_i2, rdRow_i3, rdRow_i4, rdRow_i5, rdRow_args, rdRow_res, rdRow_nil, Leaf.plain, LT.plain, List.isEmpty_cons, Bool.and_self, Bool.and_true, Bool.true_and, Bool.or_true, Bool.true_or, Bool.or_false, Bool.false_or, reserve0, rowSV_len, rowSV_cap, rowSV_tail, guardO_true]
  · rw [if_neg h8, decide_eq_false (show ¬ (8 : Int) < (xs.length : Int) by omega)]
    simp -implicitDefEqProofs only [Option.bind_some, Option.bind_none, Option.map_some, Option.map_none, cond_true, cond_false, Bool.not_true, Bool.not_false, if_true, if_false, reduceIte, rdRes, rdTT, rdTy, rdLT, rdLeaf_int, rdLeaf_bool, rdLeaf_str, rdLeaf_row, Res.un, TT.un, Ty.un, LT.un, Leaf.un, rdRow_i1, rdRow_i2, rdRow_i3, rdRow_i4, rdRow_i5, rdRow_args, rdRow_res, rdRow_nil, Leaf.plain, LT.plain, List.isEmpty_cons, Bool.and_self, Bool.and_true, Bool.true_and, Bool.or_true, Bool.true_or, Bool.or_false, Bool.false_or, reserve0, rowSV_len, rowSV_cap, rowSV_tail, guardO_true]
    rw [ContainsFunc_liq (fun x => !isPlain x) hl (fun x hx R k => by
      obtain ⟨a, v⟩ := x
      show (mix_Sum_1P (a, v)).bind (fun r => k ((Res.one (.leaf .bool)).lo true r) _) = _
      rw [sum1_ok]; rfl)]
    simp -implicitDefEqProofs only [Option.bind_some, Option.bind_none, Option.map_some, Option.map_none, cond_true, cond_false, Bool.not_true, Bool.not_false, if_true, if_false, reduceIte, rdRes, rdTT, rdTy, rdLT, rdLeaf_int, rdLeaf_bool, rdLeaf_str, rdLeaf_row, Res.un, TT.un, Ty.un, LT.un, Leaf.un, rdRow_i1, rdRow_i2, rdRow_i3, rdRow_i4, rdRow_i5, rdRow_args, rdRow_res, rdRow_nil, Leaf.plain, LT.plain, List.isEmpty_cons, Bool.and_self, Bool.and_true, Bool.true_and, Bool.or_true, Bool.true_or, Bool.or_false, Bool.false_or, reserve0, rowSV_len, rowSV_cap, rowSV_tail, guardO_true]
    cases hany : xs.any (fun x => !isPlain x) with
    | true =>
      simp -implicitDefEqProofs only [Option.bind_some, Option.bind_none, Option.map_some, Option.map_none, cond_true, cond_false, Bool.not_true, Bool.not_false, if_true, if_false, reduceIte, rdRes, rdTT, rdTy, rdLT, rdLeaf_int, rdLeaf_bool, rdLeaf_str, rdLeaf_row, Res.un, TT.un, Ty.un, LT.un, Leaf.un, rdRow_i1, rdRow_i2, rdRow_i3, rdRow_i4, rdRow_i5, rdRow_args, rdRow_res, rdRow_nil, Leaf.plain, LT.plain, List.isEmpty_cons, Bool.and_self, Bool.and_true, Bool.true_and, Bool.or_true, Bool.true_or, Bool.or_false, Bool.false_or, reserve0, rowSV_len, rowSV_cap, rowSV_tail, guardO_true]
      rw [w0]
      simp -implicitDefEqProofs only [Option.bind_some, Option.bind_none, Option.map_some, Option.map_none, cond_true, cond_false, Bool.not_true, Bool.not_false, if_true, if_false, reduceIte, rdRes, rdTT, rdTy, rdLT, rdLeaf_int, rdLeaf_bool, rdLeaf_str, rdLeaf_row, Res.un, TT.un, Ty.un, LT.un, Leaf.un, rdRow_i1, rdRow_i2, rdRow_i3, rdRow_i4, rdRow_i5, rdRow_args, rdRow_res, rdRow_nil, Leaf.plain, LT.plain, List.isEmpty_cons, Bool.and_self, Bool.and_true, Bool.true_and, Bool.or_true, Bool.true_or, Bool.or_false, Bool.false_or, reserve0, rowSV_len, rowSV_cap, rowSV_tail, guardO_true]
      rw [r0]
      simp -implicitDefEqProofs only [Option.bind_some, Option.bind_none, Option.map_some, Option.map_none, cond_true, cond_false, Bool.not_true, Bool.not_false, if_true, if_false, reduceIte, rdRes, rdTT, rdTy, rdLT, rdLeaf_int, rdLeaf_bool, rdLeaf_str, rdLeaf_row, Res.un, TT.un, Ty.un, LT.un, Leaf.un, rdRow_i1, rdRow_i2, rdRow_i3, rdRow_i4, rdRow_i5, rdRow_args, rdRow_res, rdRow_nil, Leaf.plain, LT.plain, List.isEmpty_cons, Bool.and_self, Bool.and_true, Bool.true_and, Bool.or_true, Bool.true_or, Bool.or_false, Bool.false_or, reserve0, rowSV_len, rowSV_cap, rowSV_tail, guardO_true]
    | false =>
      have hp : ∀ x ∈ xs, isPlain x = true := fun x hx => by
        have := List.any_eq_false.1 hany x hx
        simpa using this
      simp -implicitDefEqProofs only [Option.bind_some, Option.bind_none, Option.map_some, Option.map_none, cond_true, cond_false, Bool.not_true, Bool.not_false, if_true, if_false, reduceIte, rdRes, rdTT, rdTy, rdLT, rdLeaf_int, rdLeaf_bool, rdLeaf_str, rdLeaf_row, Res.un, TT.un, Ty.un, LT.un, Leaf.un, rdRow_i1, rdRow_i2, rdRow_i3, rdRow_i4, rdRow_i5, rdRow_args, rdRow_res, rdRow_nil, Leaf.plain, LT.plain, List.isEmpty_cons, Bool.and_self, Bool.and_true, Bool.true_and, Bool.or_true, Bool.true_or, Bool.or_false, Bool.false_or, reserve0, rowSV_len, rowSV_cap, rowSV_tail, guardO_true, Bool.false_eq_true]
      rw [total_ok (by omega) hp]
      generalize sumL xs = s
      obtain ⟨s1, s2⟩ := s
      simp -implicitDefEqProofs only [Option.bind_some, Option.bind_none, Option.map_some, Option.map_none, cond_true, cond_false, Bool.not_true, Bool.not_false, if_true, if_false, reduceIte, rdRes, rdTT, rdTy, rdLT, rdLeaf_int, rdLeaf_bool, rdLeaf_str, rdLeaf_row, Res.un, TT.un, Ty.un, LT.un, Leaf.un, rdRow_i1, rdRow_i2, rdRow_i3, rdRow_i4, rdRow_i5, rdRow_args, rdRow_res, rdRow_nil, Leaf.plain, LT.plain, List.isEmpty_cons, Bool.and_self, Bool.and_true, Bool.true_and, Bool.or_true, Bool.true_or, Bool.or_false, Bool.false_or, reserve0, rowSV_len, rowSV_cap, rowSV_tail, guardO_true, hL_empty, hL_new, hL_next, hL_put, hL_reserve, List.replicate, rd_hp, rds_hp, wrs_hp, hL_m, List.nil_append, List.cons_append, List.append_nil, List.getElem?_cons_zero, List.getElem?_cons_succ, Option.getD_some, List.length_cons, List.length_nil, List.length_append, splice, List.take_zero, List.take_succ_cons, List.take_nil, List.drop_zero, List.drop_succ_cons, List.drop_nil, List.set_cons_zero, List.set_cons_succ, LT.pack, Leaf.pack, Nat.reduceAdd, Nat.reduceSub, Nat.reduceLeDiff, Nat.reduceLT, Nat.reduceEqDiff, Nat.zero_add, Nat.add_zero, Nat.zero_le, Nat.le_refl, and_self, and_true, true_and, Nat.lt_add_one, Nat.zero_lt_succ, ne_eq, not_false_eq_true, Nat.succ_ne_zero, List.flatMap_cons, List.flatMap_nil, LT.lo, Leaf.lo]
      rw [plain_ok]
      simp -implicitDefEqProofs only [Option.bind_some, Option.bind_none, Option.map_some, Option.map_none, cond_true, cond_false, Bool.not_true, Bool.not_false, if_true, if_false, reduceIte, rdRes, rdTT, rdTy, rdLT, rdLeaf_int, rdLeaf_bool, rdLeaf_str, rdLeaf_row, Res.un, TT.un, Ty.un, LT.un, Leaf.un, rdRow_i1, rdRow_i2, rdRow_i3, rdRow_i4, rdRow_i5, rdRow_args, rdRow_res, rdRow_nil, Leaf.plain, LT.plain, List.isEmpty_cons, Bool.and_self, Bool.and_true, Bool.true_and, Bool.or_true, Bool.true_or, Bool.or_false, Bool.false_or, reserve0, rowSV_len, rowSV_cap, rowSV_tail, guardO_true, hL_empty, hL_new, hL_next, hL_put, hL_reserve, List.replicate, rd_hp, rds_hp, wrs_hp, hL_m, List.nil_append, List.cons_append, List.append_nil, List.getElem?_cons_zero, List.getElem?_cons_succ, Option.getD_some, List.length_cons, List.length_nil, List.length_append, splice, List.take_zero, List.take_succ_cons, List.take_nil, List.drop_zero, List.drop_succ_cons, List.drop_nil, List.set_cons_zero, List.set_cons_succ, LT.pack, Leaf.pack, Nat.reduceAdd, Nat.reduceSub, Nat.reduceLeDiff, Nat.reduceLT, Nat.reduceEqDiff, Nat.zero_add, Nat.add_zero, Nat.zero_le, Nat.le_refl, and_self, and_true, true_and, Nat.lt_add_one, Nat.zero_lt_succ, ne_eq, not_false_eq_true, Nat.succ_ne_zero, List.flatMap_cons, List.flatMap_nil, LT.lo, Leaf.lo]
      cases isPlain (s1, s2) with
      | true => simp -implicitDefEqProofs only [Option.bind_some, Option.bind_none, Option.map_some, Option.map_none, cond_true, cond_false, Bool.not_true, Bool.not_false, if_true, if_false, reduceIte, rdRes, rdTT, rdTy, rdLT, rdLeaf_int, rdLeaf_bool, rdLeaf_str, rdLeaf_row, Res.un, TT.un, Ty.un, LT.un, Leaf.un, rdRow_i1, rdRow_i2, rdRow_i3, rdRow_i4, rdRow_i5, rdRow_args, rdRow_res, rdRow_nil, Leaf.plain, LT.plain, List.isEmpty_cons, Bool.and_self, Bool.and_true, Bool.true_and, Bool.or_true, Bool.true_or, Bool.or_false, Bool.false_or, reserve0, rowSV_len, rowSV_cap, rowSV_tail, guardO_true, hL_empty, hL_new, hL_next, hL_put, hL_reserve, List.replicate, rd_hp, rds_hp, wrs_hp, hL_m, List.nil_append, List.cons_append, List.append_nil, List.getElem?_cons_zero, List.getElem?_cons_succ, Option.getD_some, List.length_cons, List.length_nil, List.length_append, splice, List.take_zero, List.take_succ_cons, List.take_nil, List.drop_zero, List.drop_succ_cons, List.drop_nil, List.set_cons_zero, List.set_cons_succ, LT.pack, Leaf.pack, Nat.reduceAdd, Nat.reduceSub, Nat.reduceLeDiff, Nat.reduceLT, Nat.reduceEqDiff, Nat.zero_add, Nat.add_zero, Nat.zero_le, Nat.le_refl, and_self, and_true, true_and, Nat.lt_add_one, Nat.zero_lt_succ, ne_eq, not_false_eq_true, Nat.succ_ne_zero, List.flatMap_cons, List.flatMap_nil, LT.lo, Leaf.lo]
      | false => simp -implicitDefEqProofs only [Option.bind_some, Option.bind_none, Option.map_some, Option.map_none, cond_true, cond_false, Bool.not_true, Bool.not_false, if_true, if_false, reduceIte, rdRes, rdTT, rdTy, rdLT, rdLeaf_int, rdLeaf_bool, rdLeaf_str, rdLeaf_row, Res.un, TT.un, Ty.un, LT.un, Leaf.un, rdRow_i1, rdRow_i2, rdRow_i3, rdRow_i4, rdRow_i5, rdRow_args, rdRow_res, rdRow_nil, Leaf.plain, LT.plain, List.isEmpty_cons, Bool.and_self, Bool.and_true, Bool.true_and, Bool.or_true, Bool.true_or, Bool.or_false, Bool.false_or, reserve0, rowSV_len, rowSV_cap, rowSV_tail, guardO_true, hL_empty, hL_new, hL_next, hL_put, hL_reserve, List.replicate, rd_hp, rds_hp, wrs_hp, hL_m, List.nil_append, List.cons_append, List.append_nil, List.getElem?_cons_zero, List.getElem?_cons_succ, Option.getD_some, List.length_cons, List.length_nil, List.length_append, splice, List.take_zero, List.take_succ_cons, List.take_nil, List.drop_zero, List.drop_succ_cons, List.drop_nil, List.set_cons_zero, List.set_cons_succ, LT.pack, Leaf.pack, Nat.reduceAdd, Nat.reduceSub, Nat.reduceLeDiff, Nat.reduceLT, Nat.reduceEqDiff, Nat.zero_add, Nat.add_zero, Nat.zero_le, Nat.le_refl, and_self, and_true, true_and, Nat.lt_add_one, Nat.zero_lt_succ, ne_eq, not_false_eq_true, Nat.succ_ne_zero, List.flatMap_cons, List.flatMap_nil, LT.lo, Leaf.lo]; rfl
end Go.Proofs.Ytaepkinihaipkaa
