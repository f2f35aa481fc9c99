/- What alcohol.Volume and mix.mixture compute. Conditions: those of each law. -/
import Derived.Test.YtaepkinihaipkaaN21e
namespace Go.Proofs.Ytaepkinihaipkaa
open Go Go.Proofs.Ytaepkinihaipkaa.Ev
set_option linter.unusedVariables false
set_option linter.unusedSimpArgs false
set_option maxRecDepth 100000
set_option maxHeartbeats 4000000
theorem acheck_zero {xs : List (Int × Int)} {x : Int × Int} (h : acheckOf xs x = 0) : (checkOf xs).2 = 0 ∧ inA x = true ∧ x.1 * dens xs 10000 ≤ x.2 * 10000 := by
  unfold acheckOf at h
  by_cases h1 : (checkOf xs).2 = 0
  · rw [if_pos h1] at h
    by_cases h2 : inA x = true
    · rw [if_pos h2] at h
      by_cases h3 : x.2 * 10000 < x.1 * dens xs 10000
      · rw [if_pos h3] at h; simp at h
      · exact ⟨h1, h2, by omega⟩
    · rw [if_neg h2] at h; simp at h
  · rw [if_neg h1] at h; simp at h
noncomputable def strengthOf (xs : List (Int × Int)) (x : Int × Int) : Int × Int := (alcohol_StrengthP xs x).getD (0, 1)
/-- A strength, and what is known of it. -/
theorem strengthOf_ok (xs : List (Int × Int)) (x : Int × Int) : alcohol_StrengthP xs x = some (strengthOf xs x) ∧
    ((acheckOf xs x ≠ 0 ∧ strengthOf xs x = (0, 1)) ∨ (acheckOf xs x = 0 ∧ (strengthOf xs x).2 = 0 ∧ 0 ≤ (strengthOf xs x).1 ∧ (strengthOf xs x).1 ≤ 10000)) := by
  obtain ⟨a, v⟩ := x
  obtain ⟨r, er, hcase⟩ := Strength_ok xs a v
  have hs : strengthOf xs (a, v) = r := by unfold strengthOf; rw [er]; rfl
  rw [hs]
  refine ⟨er, ?_⟩
  rcases hcase with ⟨h1, rfl⟩ | ⟨h1, _, _, rfl⟩ | ⟨h1, hn, m, m1, rfl, m3, m4⟩
  · exact .inl ⟨h1, rfl⟩
  · exact .inr ⟨h1, rfl, by simp, by simp⟩
  · obtain ⟨ck, hin, hmax⟩ := acheck_zero h1
    have ht := check_table ck
    have hin' := inA_iff.1 hin
    have hm0 : 0 < m := by
      rcases Nat.eq_zero_or_pos m with h | h
      · have h0 := of_decide_eq_true (m4 0 (by omega) (by omega))
        simp only [Int.natCast_zero, Int.mul_zero] at h0
        have hd := dens_bound (t := 0) ht (by omega) (by omega)
        have := Int.mul_nonneg (show 0 ≤ (a, v).1 from hin'.1) (show 0 ≤ dens xs 0 by omega)
        simp only at this
        omega
      · exact h
    exact .inr ⟨h1, rfl, by simp only; omega, by simp only; omega⟩
noncomputable def volOf (xs : List (Int × Int)) (x : Int × Int) : Int × Int := if (strengthOf xs x).2 = 0 then (x.2 / dens xs (strengthOf xs x).1, 0) else (0, (strengthOf xs x).2)
theorem Volume_ok (xs : List (Int × Int)) (a v : Int) : alcohol_VolumeP xs (a, v) = some (volOf xs (a, v)) := by
  obtain ⟨hs, hcase⟩ := strengthOf_ok xs (a, v)
  unfold alcohol_VolumeP alcohol_Volume volOf
  simp -implicitDefEqProofs only [Option.bind_some, Option.bind_none, Option.map_some, Option.map_none, cond_true, cond_false, Bool.not_true, Bool.not_false, if_true, if_false, reduceIte, rdRes, rdTT, rdTy, rdLT, rdLeaf_int, rdLeaf_bool, rdLeaf_str, rdLeaf_row, Res.un, TT.un, Ty.un, LT.un, Leaf.un, rdRow_i1, rdRow_i2, rdRow_i3, rdRow_i4, rdRow_i5, rdRow_args, rdRow_res, rdRow_nil, Leaf.plain, LT.plain, List.isEmpty_cons, Bool.and_self, Bool.and_true, Bool.true_and, Bool.or_true, Bool.true_or, Bool.or_false, Bool.false_or, reserve0, rowSV_len, rowSV_cap, rowSV_tail, guardO_true, hL_empty, hL_new, hL_next, hL_put, hL_reserve, List.replicate, rd_hp, rds_hp, wrs_hp, hL_m, List.nil_append, List.cons_append, List.append_nil, List.getElem?_cons_zero, List.getElem?_cons_succ, Option.getD_some, List.length_cons, List.length_nil, List.length_append, splice, List.take_zero, List.take_succ_cons, List.take_nil, List.drop_zero, List.drop_succ_cons, List.drop_nil, List.set_cons_zero, List.set_cons_succ, LT.pack, Leaf.pack, Nat.reduceAdd, Nat.reduceSub, Nat.reduceLeDiff, Nat.reduceLT, Nat.reduceEqDiff, Nat.zero_add, Nat.add_zero, Nat.zero_le, Nat.le_refl, and_self, and_true, true_and, Nat.lt_add_one, Nat.zero_lt_succ, ne_eq, not_false_eq_true, Nat.succ_ne_zero, List.flatMap_cons, List.flatMap_nil, LT.lo, Leaf.lo, hs]
  by_cases h : (strengthOf xs (a, v)).2 = 0
  · rw [decide_eq_true h, if_pos h]
    rcases hcase with ⟨_, h2⟩ | ⟨h1, _, h3, h4⟩
    · rw [h2] at h; simp at h
    · obtain ⟨ck, hin, hmax⟩ := acheck_zero h1
      have ht := check_table ck
      have hd := dens_bound ht h3 h4
      have hin' := inA_iff.1 hin
      simp only at hin'
      simp -implicitDefEqProofs only [Option.bind_some, Option.bind_none, Option.map_some, Option.map_none, cond_true, cond_false, Bool.not_true, Bool.not_false, if_true, if_false, reduceIte, rdRes, rdTT, rdTy, rdLT, rdLeaf_int, rdLeaf_bool, rdLeaf_str, rdLeaf_row, Res.un, TT.un, Ty.un, LT.un, Leaf.un, rdRow_i1, rdRow_i2, rdRow_i3, rdRow_i4, rdRow_i5, rdRow_args, rdRow_res, rdRow_nil, Leaf.plain, LT.plain, List.isEmpty_cons, Bool.and_self, Bool.and_true, Bool.true_and, Bool.or_true, Bool.true_or, Bool.or_false, Bool.false_or, reserve0, rowSV_len, rowSV_cap, rowSV_tail, guardO_true, hL_empty, hL_new, hL_next, hL_put, hL_reserve, List.replicate, rd_hp, rds_hp, wrs_hp, hL_m, List.nil_append, List.cons_append, List.append_nil, List.getElem?_cons_zero, List.getElem?_cons_succ, Option.getD_some, List.length_cons, List.length_nil, List.length_append, splice, List.take_zero, List.take_succ_cons, List.take_nil, List.drop_zero, List.drop_succ_cons, List.drop_nil, List.set_cons_zero, List.set_cons_succ, LT.pack, Leaf.pack, Nat.reduceAdd, Nat.reduceSub, Nat.reduceLeDiff, Nat.reduceLT, Nat.reduceEqDiff, Nat.zero_add, Nat.add_zero, Nat.zero_le, Nat.le_refl, and_self, and_true, true_and, Nat.lt_add_one, Nat.zero_lt_succ, ne_eq, not_false_eq_true, Nat.succ_ne_zero, List.flatMap_cons, List.flatMap_nil, LT.lo, Leaf.lo, reserve0]
      rw [alcof_ok ck h3 h4]
      simp -implicitDefEqProofs only [Option.bind_some, Option.bind_none, Option.map_some, Option.map_none, cond_true, cond_false, Bool.not_true, Bool.not_false, if_true, if_false, reduceIte, rdRes, rdTT, rdTy, rdLT, rdLeaf_int, rdLeaf_bool, rdLeaf_str, rdLeaf_row, Res.un, TT.un, Ty.un, LT.un, Leaf.un, rdRow_i1, rdRow_i2, rdRow_i3, rdRow_i4, rdRow_i5, rdRow_args, rdRow_res, rdRow_nil, Leaf.plain, LT.plain, List.isEmpty_cons, Bool.and_self, Bool.and_true, Bool.true_and, Bool.or_true, Bool.true_or, Bool.or_false, Bool.false_or, reserve0, rowSV_len, rowSV_cap, rowSV_tail, guardO_true, hL_empty, hL_new, hL_next, hL_put, hL_reserve, List.replicate, rd_hp, rds_hp, wrs_hp, hL_m, List.nil_append, List.cons_append, List.append_nil, List.getElem?_cons_zero, List.getElem?_cons_succ, Option.getD_some, List.length_cons, List.length_nil, List.length_append, splice, List.take_zero, List.take_succ_cons, List.take_nil, List.drop_zero, List.drop_succ_cons, List.drop_nil, List.set_cons_zero, List.set_cons_succ, LT.pack, Leaf.pack, Nat.reduceAdd, Nat.reduceSub, Nat.reduceLeDiff, Nat.reduceLT, Nat.reduceEqDiff, Nat.zero_add, Nat.add_zero, Nat.zero_le, Nat.le_refl, and_self, and_true, true_and, Nat.lt_add_one, Nat.zero_lt_succ, ne_eq, not_false_eq_true, Nat.succ_ne_zero, List.flatMap_cons, List.flatMap_nil, LT.lo, Leaf.lo]
      have k1 : 0 ≤ v / dens xs (strengthOf xs (a, v)).1 := Int.ediv_nonneg hin'.2.2.1 (by omega)
      have k2 : v / dens xs (strengthOf xs (a, v)).1 ≤ v := Int.ediv_le_self _ hin'.2.2.1
      rw [guardO_pos (by omega), Int.tdiv_eq_ediv_of_nonneg hin'.2.2.1, i64_in _ (by omega)]
      simp -implicitDefEqProofs only [Option.bind_some, Option.bind_none, Option.map_some, Option.map_none, cond_true, cond_false, Bool.not_true, Bool.not_false, if_true, if_false, reduceIte, rdRes, rdTT, rdTy, rdLT, rdLeaf_int, rdLeaf_bool, rdLeaf_str, rdLeaf_row, Res.un, TT.un, Ty.un, LT.un, Leaf.un, rdRow_i1, rdRow_i2, rdRow_i3, rdRow_i4, rdRow_i5, rdRow_args, rdRow_res, rdRow_nil, Leaf.plain, LT.plain, List.isEmpty_cons, Bool.and_self, Bool.and_true, Bool.true_and, Bool.or_true, Bool.true_or, Bool.or_false, Bool.false_or, reserve0, rowSV_len, rowSV_cap, rowSV_tail, guardO_true, hL_empty, hL_new, hL_next, hL_put, hL_reserve, List.replicate, rd_hp, rds_hp, wrs_hp, hL_m, List.nil_append, List.cons_append, List.append_nil, List.getElem?_cons_zero, List.getElem?_cons_succ, Option.getD_some, List.length_cons, List.length_nil, List.length_append, splice, List.take_zero, List.take_succ_cons, List.take_nil, List.drop_zero, List.drop_succ_cons, List.drop_nil, List.set_cons_zero, List.set_cons_succ, LT.pack, Leaf.pack, Nat.reduceAdd, Nat.reduceSub, Nat.reduceLeDiff, Nat.reduceLT, Nat.reduceEqDiff, Nat.zero_add, Nat.add_zero, Nat.zero_le, Nat.le_refl, and_self, and_true, true_and, Nat.lt_add_one, Nat.zero_lt_succ, ne_eq, not_false_eq_true, Nat.succ_ne_zero, List.flatMap_cons, List.flatMap_nil, LT.lo, Leaf.lo]
  · rw [decide_eq_false h, if_neg h]
    simp -implicitDefEqProofs only [Option.bind_some, Option.bind_none, Option.map_some, Option.map_none, cond_true, cond_false, Bool.not_true, Bool.not_false, if_true, if_false, reduceIte, rdRes, rdTT, rdTy, rdLT, rdLeaf_int, rdLeaf_bool, rdLeaf_str, rdLeaf_row, Res.un, TT.un, Ty.un, LT.un, Leaf.un, rdRow_i1, rdRow_i2, rdRow_i3, rdRow_i4, rdRow_i5, rdRow_args, rdRow_res, rdRow_nil, Leaf.plain, LT.plain, List.isEmpty_cons, Bool.and_self, Bool.and_true, Bool.true_and, Bool.or_true, Bool.true_or, Bool.or_false, Bool.false_or, reserve0, rowSV_len, rowSV_cap, rowSV_tail, guardO_true, hL_empty, hL_new, hL_next, hL_put, hL_reserve, List.replicate, rd_hp, rds_hp, wrs_hp, hL_m, List.nil_append, List.cons_append, List.append_nil, List.getElem?_cons_zero, List.getElem?_cons_succ, Option.getD_some, List.length_cons, List.length_nil, List.length_append, splice, List.take_zero, List.take_succ_cons, List.take_nil, List.drop_zero, List.drop_succ_cons, List.drop_nil, List.set_cons_zero, List.set_cons_succ, LT.pack, Leaf.pack, Nat.reduceAdd, Nat.reduceSub, Nat.reduceLeDiff, Nat.reduceLT, Nat.reduceEqDiff, Nat.zero_add, Nat.add_zero, Nat.zero_le, Nat.le_refl, and_self, and_true, true_and, Nat.lt_add_one, Nat.zero_lt_succ, ne_eq, not_false_eq_true, Nat.succ_ne_zero, List.flatMap_cons, List.flatMap_nil, LT.lo, Leaf.lo]
noncomputable def mixtureOf (xs ls : List (Int × Int)) : (Int × Int) × Int :=
  if 8 < ls.length then ((0, 0), 8) else if (checkOf xs).2 = 0 then (if ls.any (fun x => !decide (acheckOf xs x = 0)) = true then ((0, 0), 1) else sumOf ls) else ((0, 0), 1)
theorem mixture1_ok {xs : List (Int × Int)} {sl : List Slot} {x : Int × Int} : mix_mixture_1 x (.hp 0 1 0) (hL (.own [.slice (rowSV false j2 xs).a xs.length xs.length true] 1 :: sl)) = some (!decide (acheckOf xs x = 0), hL (.own [.slice (rowSV false j2 xs).a xs.length xs.length true] 1 :: (sl ++ [c2 x]))) := by
  have r0 : rdT (.leaf .slice) (hL (.own [.slice (rowSV false j2 xs).a xs.length xs.length true] 1 :: (sl ++ [c2 x]))) (.hp 0 1 0) = some (rowSV false j2 xs) := by
    rw [rd_own (g := 1) (id := 0) rfl rfl]; rfl
  have e1 : (.own [.slice (rowSV false j2 xs).a xs.length xs.length true] 1 :: (sl ++ [c2 x]))[sl.length + 1]? = some (c2 x) := by simp
  have r1 := rds_c2 e1
  obtain ⟨a, v⟩ := x
  unfold mix_mixture_1
  simp -implicitDefEqProofs only [hL_new, hL_next, List.length_cons, List.cons_append]
  simp only [c2] at r0 r1
  rw [r0]
  simp -implicitDefEqProofs only [Option.bind_some, Option.bind_none, Option.map_some, Option.map_none, cond_true, cond_false, Bool.not_true, Bool.not_false, if_true, if_false, reduceIte, rdRes, rdTT, rdTy, rdLT, rdLeaf_int, rdLeaf_bool, rdLeaf_str, rdLeaf_row, Res.un, TT.un, Ty.un, LT.un, Leaf.un, rdRow_i1, rdRow_i2, rdRow_i3, rdRow_i4, rdRow_i5, rdRow_args, rdRow_res, rdRow_nil, Leaf.plain, LT.plain, List.isEmpty_cons, Bool.and_self, Bool.and_true, Bool.true_and, Bool.or_true, Bool.true_or, Bool.or_false, Bool.false_or, reserve0, rowSV_len, rowSV_cap, rowSV_tail, guardO_true]
  rw [r1]
  simp -implicitDefEqProofs only [Option.bind_some, Option.bind_none, Option.map_some, Option.map_none, cond_true, cond_false, Bool.not_true, Bool.not_false, if_true, if_false, reduceIte, rdRes, rdTT, rdTy, rdLT, rdLeaf_int, rdLeaf_bool, rdLeaf_str, rdLeaf_row, Res.un, TT.un, Ty.un, LT.un, Leaf.un, rdRow_i1, rdRow_i2, rdRow_i3, rdRow_i4, rdRow_i5, rdRow_args, rdRow_res, rdRow_nil, Leaf.plain, LT.plain, List.isEmpty_cons, Bool.and_self, Bool.and_true, Bool.true_and, Bool.or_true, Bool.true_or, Bool.or_false, Bool.false_or, reserve0, rowSV_len, rowSV_cap, rowSV_tail, guardO_true]
  rw [ACheck_ok]
  simp -implicitDefEqProofs only [Option.bind_some, Option.bind_none, Option.map_some, Option.map_none, cond_true, cond_false, Bool.not_true, Bool.not_false, if_true, if_false, reduceIte, rdRes, rdTT, rdTy, rdLT, rdLeaf_int, rdLeaf_bool, rdLeaf_str, rdLeaf_row, Res.un, TT.un, Ty.un, LT.un, Leaf.un, rdRow_i1, rdRow_i2, rdRow_i3, rdRow_i4, rdRow_i5, rdRow_args, rdRow_res, rdRow_nil, Leaf.plain, LT.plain, List.isEmpty_cons, Bool.and_self, Bool.and_true, Bool.true_and, Bool.or_true, Bool.true_or, Bool.or_false, Bool.false_or, reserve0, rowSV_len, rowSV_cap, rowSV_tail, guardO_true]
end Go.Proofs.Ytaepkinihaipkaa
