/- The law LossParts in plain numbers. Conditions: none. -/
import Derived.Test.YtadlfinlbaogeaaS32h
import Derived.Test.YtadlfinlbaogeaaL01b
namespace Go.Proofs.Ytadlfinlbaogeaa
open Go Go.Proofs.Ytadlfinlbaogeaa.Ev
set_option linter.unusedVariables false
set_option linter.unusedSimpArgs false
set_option maxRecDepth 100000
set_option maxHeartbeats 4000000
theorem sum4_maps (xs : List L4) : sum4 xs = ((xs.map (·.1)).sum, (xs.map (·.2.1)).sum, (xs.map (·.2.2.1)).sum, (xs.map (·.2.2.2)).sum) := by
  induction xs with
  | nil => rfl
  | cons x xs ih => simp only [sum4, add4, ih, List.map_cons, List.sum_cons]
theorem tabL_map {n : Nat} {b : Nat → L4} (f : L4 → Int) (d : List Int) (hd : d.length = n) (h : ∀ j, f (b j) = g d j) : (tabL n b).map f = d := by
  unfold tabL
  rw [List.map_map]
  exact g_ext (by simp [hd]) fun k hk => by
    rw [List.length_map, List.length_range] at hk
    rw [g_ofFn (f := f ∘ b) hk]
    exact h k
theorem parts_nonneg {a : Int} {ws : List Int} (ha : 0 ≤ a) (hS : 0 < ws.sum) (hw : ∀ w ∈ ws, 0 ≤ w) : ∀ y ∈ divParts a ws.sum ws, 0 ≤ y := fun y hy => by
  obtain ⟨i, hi, rfl⟩ := mem_g hy
  rw [divParts_length] at hi
  have hwi := hw _ (g_mem hi)
  have e0 : 0 ≤ a * g ws i / ws.sum := Int.ediv_nonneg (Int.mul_nonneg ha hwi) (by omega)
  unfold divParts
  rw [g_bump (by rw [quos_length]; exact hi), g_quos hi]
  split <;> omega
theorem among_sum {x : L4} {ws : List Int} (hr : right x = true) (he : (weighOf x.1 ws).2 = 0) : lsumOf (tabL ws.length (partsA x ws)) = (x, 0) := by
  obtain ⟨ha, h0, h64, hall, hSa, hne, h1⟩ := weighOf_ok he
  have hS' := isAmt_iff.1 hSa
  have hx := (right_amt hr).2
  have hx' := hx
  unfold inR at hx'
  simp only [Bool.and_eq_true, isAlc_iff] at hx'
  have hw0 : ∀ w ∈ ws, 0 ≤ w := fun w hw => (all_amt hall w hw).1
  have hsum : sum4 (tabL ws.length (partsA x ws)) = x := by
    rw [sum4_maps, tabL_map (·.1) (divParts x.1 ws.sum ws) divParts_length (fun j => rfl), tabL_map (·.2.1) (divParts x.2.1 ws.sum ws) divParts_length (fun j => rfl),
      tabL_map (·.2.2.1) (divParts x.2.2.1 ws.sum ws) divParts_length (fun j => rfl), tabL_map (·.2.2.2) (divParts x.2.2.2 ws.sum ws) divParts_length (fun j => rfl),
      divParts_sum (by omega) h0, divParts_sum (by omega) h0, divParts_sum (by omega) h0, divParts_sum (by omega) h0]
  have hb : ∀ (a : Int), 0 ≤ a → ∀ j, j < ws.length → 0 ≤ g (divParts a ws.sum ws) j ∧ g (divParts a ws.sum ws) j ≤ a := fun a ha j hj => by
    have k0 := parts_nonneg (a := a) (ws := ws) ha (by omega) hw0
    have k1 : g (divParts a ws.sum ws) j ∈ divParts a ws.sum ws := g_mem (by rw [divParts_length]; exact hj)
    have k2 := mem_le_sum k0 k1
    rw [divParts_sum (by omega) h0] at k2
    exact ⟨k0 _ k1, k2⟩
  unfold lsumOf
  rw [tabL_length, if_neg (by omega), hsum, hx]
  have hany : ¬ ((tabL ws.length (partsA x ws)).any (fun x => !inR x) = true) := by
    rw [Bool.not_eq_true]
    refine List.any_eq_false.2 fun y hy => ?_
    obtain ⟨j, hj, rfl⟩ := List.mem_map.1 hy
    have hj' := List.mem_range.1 hj
    have q1 := hb x.1 (by omega) j hj'
    have q2 := hb x.2.1 (by omega) j hj'
    have q3 := hb x.2.2.1 (by omega) j hj'
    have q4 := hb x.2.2.2 (by omega) j hj'
    have : inR (partsA x ws j) = true := by
      unfold inR partsA
      simp only [Bool.and_eq_true, isAlc_iff]
      omega
    rw [this]
    simp
  rw [if_neg hany, if_pos rfl]
theorem LossParts_ok (x : L4) (ws : List Int) : spilelaw32_LossPartsP x ws = some true := by
  obtain ⟨x1, x2, x3, x4⟩ := x
  unfold spilelaw32_LossPartsP spilelaw32_LossParts
  simp -implicitDefEqProofs only [awake32, Option.bind_some, Option.bind_none, Option.map_some, Option.map_none, cond_true, cond_false, Bool.not_true, Bool.not_false, if_true, if_false, reduceIte, rdRes, rdTT, rdTy, rdLT, rdLeaf_int, rdLeaf_bool, rdLeaf_str, rdLeaf_row, Res.un, TT.un, Ty.un, LT.un, Leaf.un, rdRow_i1, rdRow_i2, rdRow_i3, rdRow_i4, rdRow_i5, rdRow_args, rdRow_res, rdRow_nil, Leaf.plain, LT.plain, List.isEmpty_cons, Bool.and_self, Bool.and_true, Bool.true_and, Bool.or_true, Bool.true_or, Bool.or_false, Bool.false_or, reserve0, rowSV_len, rowSV_cap, rowSV_tail, guardO_true, hL_empty, hL_new, hL_next, List.length_nil, List.nil_append, Few_ok, reserve0]
  have ex : [c4 (x1, x2, x3, x4)][0]? = some (c4 (x1, x2, x3, x4)) := rfl
  have s0 := rds_c4 ex
  simp only [c4] at s0
  by_cases h65 : (ws.length : Int) ≤ 65
  · rw [decide_eq_true h65]
    simp -implicitDefEqProofs only [Option.bind_some, Option.bind_none, Option.map_some, Option.map_none, cond_true, cond_false, Bool.not_true, Bool.not_false, if_true, if_false, reduceIte, rdRes, rdTT, rdTy, rdLT, rdLeaf_int, rdLeaf_bool, rdLeaf_str, rdLeaf_row, Res.un, TT.un, Ty.un, LT.un, Leaf.un, rdRow_i1, rdRow_i2, rdRow_i3, rdRow_i4, rdRow_i5, rdRow_args, rdRow_res, rdRow_nil, Leaf.plain, LT.plain, List.isEmpty_cons, Bool.and_self, Bool.and_true, Bool.true_and, Bool.or_true, Bool.true_or, Bool.or_false, Bool.false_or, reserve0, rowSV_len, rowSV_cap, rowSV_tail, guardO_true]
    rw [s0]
    simp -implicitDefEqProofs only [Option.bind_some, Option.bind_none, Option.map_some, Option.map_none, cond_true, cond_false, Bool.not_true, Bool.not_false, if_true, if_false, reduceIte, rdRes, rdTT, rdTy, rdLT, rdLeaf_int, rdLeaf_bool, rdLeaf_str, rdLeaf_row, Res.un, TT.un, Ty.un, LT.un, Leaf.un, rdRow_i1, rdRow_i2, rdRow_i3, rdRow_i4, rdRow_i5, rdRow_args, rdRow_res, rdRow_nil, Leaf.plain, LT.plain, List.isEmpty_cons, Bool.and_self, Bool.and_true, Bool.true_and, Bool.or_true, Bool.true_or, Bool.or_false, Bool.false_or, reserve0, rowSV_len, rowSV_cap, rowSV_tail, guardO_true]
    rw [clone_len (by omega) (by omega)]
    simp -implicitDefEqProofs only [Option.bind_some, Option.bind_none, Option.map_some, Option.map_none, cond_true, cond_false, Bool.not_true, Bool.not_false, if_true, if_false, reduceIte, rdRes, rdTT, rdTy, rdLT, rdLeaf_int, rdLeaf_bool, rdLeaf_str, rdLeaf_row, Res.un, TT.un, Ty.un, LT.un, Leaf.un, rdRow_i1, rdRow_i2, rdRow_i3, rdRow_i4, rdRow_i5, rdRow_args, rdRow_res, rdRow_nil, Leaf.plain, LT.plain, List.isEmpty_cons, Bool.and_self, Bool.and_true, Bool.true_and, Bool.or_true, Bool.true_or, Bool.or_false, Bool.false_or, reserve0, rowSV_len, rowSV_cap, rowSV_tail, guardO_true]
    rw [Among_ok _ ws (by omega), amongOf]
    by_cases hr : right (x1, x2, x3, x4) = true
    · rw [if_pos hr]
      by_cases he : (weighOf x1 ws).2 = 0
      · rw [if_pos he]
        have hs := among_sum hr he
        simp -implicitDefEqProofs only [Option.bind_some, Option.bind_none, Option.map_some, Option.map_none, cond_true, cond_false, Bool.not_true, Bool.not_false, if_true, if_false, reduceIte, rdRes, rdTT, rdTy, rdLT, rdLeaf_int, rdLeaf_bool, rdLeaf_str, rdLeaf_row, Res.un, TT.un, Ty.un, LT.un, Leaf.un, rdRow_i1, rdRow_i2, rdRow_i3, rdRow_i4, rdRow_i5, rdRow_args, rdRow_res, rdRow_nil, Leaf.plain, LT.plain, List.isEmpty_cons, Bool.and_self, Bool.and_true, Bool.true_and, Bool.or_true, Bool.true_or, Bool.or_false, Bool.false_or, reserve0, rowSV_len, rowSV_cap, rowSV_tail, guardO_true, eq_self, decide_true]
        rw [lSum_ok _ (by rw [tabL_length]; omega), hs]
        simp -implicitDefEqProofs only [Option.bind_some, Option.bind_none, Option.map_some, Option.map_none, cond_true, cond_false, Bool.not_true, Bool.not_false, if_true, if_false, reduceIte, rdRes, rdTT, rdTy, rdLT, rdLeaf_int, rdLeaf_bool, rdLeaf_str, rdLeaf_row, Res.un, TT.un, Ty.un, LT.un, Leaf.un, rdRow_i1, rdRow_i2, rdRow_i3, rdRow_i4, rdRow_i5, rdRow_args, rdRow_res, rdRow_nil, Leaf.plain, LT.plain, List.isEmpty_cons, Bool.and_self, Bool.and_true, Bool.true_and, Bool.or_true, Bool.true_or, Bool.or_false, Bool.false_or, reserve0, rowSV_len, rowSV_cap, rowSV_tail, guardO_true, eq_self, decide_true, hL_new, hL_next, List.length_cons, List.length_nil, Nat.zero_add, List.cons_append, List.nil_append]
        have w1 : H.wrs (hL [c4 (x1, x2, x3, x4), c4 (0, 0, 0, 0)]) (.hp 1 4 0) [.int .i64 x1, .int .i64 x2, .int .i64 x3, .int .i64 x4] = some (hL [c4 (x1, x2, x3, x4), c4 (x1, x2, x3, x4)]) := by
          rw [wrs_own (g := 4) (cs := [.int .i64 0, .int .i64 0, .int .i64 0, .int .i64 0]) (e := 4) rfl rfl (by simp)]
          rfl
        have e0 : [c4 (x1, x2, x3, x4), c4 (x1, x2, x3, x4)][0]? = some (c4 (x1, x2, x3, x4)) := rfl
        have e1 : [c4 (x1, x2, x3, x4), c4 (x1, x2, x3, x4)][1]? = some (c4 (x1, x2, x3, x4)) := rfl
        have r0 := rds_c4 e0
        have r1 := rds_c4 e1
        simp only [c4] at w1 r0 r1
        rw [w1]
        simp -implicitDefEqProofs only [Option.bind_some, Option.bind_none, Option.map_some, Option.map_none, cond_true, cond_false, Bool.not_true, Bool.not_false, if_true, if_false, reduceIte, rdRes, rdTT, rdTy, rdLT, rdLeaf_int, rdLeaf_bool, rdLeaf_str, rdLeaf_row, Res.un, TT.un, Ty.un, LT.un, Leaf.un, rdRow_i1, rdRow_i2, rdRow_i3, rdRow_i4, rdRow_i5, rdRow_args, rdRow_res, rdRow_nil, Leaf.plain, LT.plain, List.isEmpty_cons, Bool.and_self, Bool.and_true, Bool.true_and, Bool.or_true, Bool.true_or, Bool.or_false, Bool.false_or, reserve0, rowSV_len, rowSV_cap, rowSV_tail, guardO_true]
        rw [r0, r1]
        simp -implicitDefEqProofs only [Option.bind_some, Option.bind_none, Option.map_some, Option.map_none, cond_true, cond_false, Bool.not_true, Bool.not_false, if_true, if_false, reduceIte, rdRes, rdTT, rdTy, rdLT, rdLeaf_int, rdLeaf_bool, rdLeaf_str, rdLeaf_row, Res.un, TT.un, Ty.un, LT.un, Leaf.un, rdRow_i1, rdRow_i2, rdRow_i3, rdRow_i4, rdRow_i5, rdRow_args, rdRow_res, rdRow_nil, Leaf.plain, LT.plain, List.isEmpty_cons, Bool.and_self, Bool.and_true, Bool.true_and, Bool.or_true, Bool.true_or, Bool.or_false, Bool.false_or, reserve0, rowSV_len, rowSV_cap, rowSV_tail, guardO_true, eq_self, decide_true, tabL_length]
      · rw [if_neg he]
        simp -implicitDefEqProofs only [Option.bind_some, Option.bind_none, Option.map_some, Option.map_none, cond_true, cond_false, Bool.not_true, Bool.not_false, if_true, if_false, reduceIte, rdRes, rdTT, rdTy, rdLT, rdLeaf_int, rdLeaf_bool, rdLeaf_str, rdLeaf_row, Res.un, TT.un, Ty.un, LT.un, Leaf.un, rdRow_i1, rdRow_i2, rdRow_i3, rdRow_i4, rdRow_i5, rdRow_args, rdRow_res, rdRow_nil, Leaf.plain, LT.plain, List.isEmpty_cons, Bool.and_self, Bool.and_true, Bool.true_and, Bool.or_true, Bool.true_or, Bool.or_false, Bool.false_or, reserve0, rowSV_len, rowSV_cap, rowSV_tail, guardO_true]
        rw [decide_eq_false he]
        rfl
    · rw [if_neg hr]
      simp -implicitDefEqProofs only [Option.bind_some, Option.bind_none, Option.map_some, Option.map_none, cond_true, cond_false, Bool.not_true, Bool.not_false, if_true, if_false, reduceIte, rdRes, rdTT, rdTy, rdLT, rdLeaf_int, rdLeaf_bool, rdLeaf_str, rdLeaf_row, Res.un, TT.un, Ty.un, LT.un, Leaf.un, rdRow_i1, rdRow_i2, rdRow_i3, rdRow_i4, rdRow_i5, rdRow_args, rdRow_res, rdRow_nil, Leaf.plain, LT.plain, List.isEmpty_cons, Bool.and_self, Bool.and_true, Bool.true_and, Bool.or_true, Bool.true_or, Bool.or_false, Bool.false_or, reserve0, rowSV_len, rowSV_cap, rowSV_tail, guardO_true]
      rfl
  · rw [decide_eq_false h65]
    simp -implicitDefEqProofs only [Option.bind_some, Option.bind_none, Option.map_some, Option.map_none, cond_true, cond_false, Bool.not_true, Bool.not_false, if_true, if_false, reduceIte, rdRes, rdTT, rdTy, rdLT, rdLeaf_int, rdLeaf_bool, rdLeaf_str, rdLeaf_row, Res.un, TT.un, Ty.un, LT.un, Leaf.un, rdRow_i1, rdRow_i2, rdRow_i3, rdRow_i4, rdRow_i5, rdRow_args, rdRow_res, rdRow_nil, Leaf.plain, LT.plain, List.isEmpty_cons, Bool.and_self, Bool.and_true, Bool.true_and, Bool.or_true, Bool.true_or, Bool.or_false, Bool.false_or, reserve0, rowSV_len, rowSV_cap, rowSV_tail, guardO_true]
end Go.Proofs.Ytadlfinlbaogeaa
