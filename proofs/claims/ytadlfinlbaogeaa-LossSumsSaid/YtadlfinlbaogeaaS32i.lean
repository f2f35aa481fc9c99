/- What Among of the reference of package loss computes. Conditions: those of each law. -/
import Derived.Test.YtadlfinlbaogeaaL32b
namespace Go.Proofs.Ytadlfinlbaogeaa
open Go Go.Proofs.Ytadlfinlbaogeaa.Ev
set_option linter.unusedVariables false
set_option linter.unusedSimpArgs false
set_option maxRecDepth 100000
set_option maxHeartbeats 4000000
theorem ramong_loop {d1 d2 d3 d4 : List Int} {n : Nat} {b : Nat → L4} (h1 : d1.length = n) (h2 : d2.length = n) (h3 : d3.length = n) (h4 : d4.length = n) (hn : n ≤ 64) (hb : ∀ j, b j = (g d1 j, g d2 j, g d3 j, g d4 j)) :
    ∀ (k i fuel : Nat) (s : SV) (sl : List Slot) (o : Option Nat), i + k = n → k < fuel → Acc sl i4 ((tabL n b).take i) s o →
      ∃ s' sl' o', iter fuel (spileref32_Among.loop1 d1 d2 d3 d4) ((s, (i : Int)), hL sl) = some (.ex0 s', hL sl') ∧ Acc sl' i4 (tabL n b) s' o'
  | k, i, 0, s, sl, o, hik, hf, hacc => by omega
  | 0, i, fuel + 1, s, sl, o, hik, hf, hacc => by
    refine ⟨s, sl, o, ?_, ?_⟩
    · rw [iter]
      unfold spileref32_Among.loop1
      simp -implicitDefEqProofs only [h1]
      rw [decide_eq_false (by omega)]
      rfl
    · rw [List.take_of_length_le (by rw [tabL_length]; omega)] at hacc
      exact hacc
  | k + 1, i, fuel + 1, s, sl, o, hik, hf, hacc => by
    have hg : 0 ≤ (i : Int) ∧ (i : Int) < (n : Int) := by omega
    obtain ⟨s', sl', id, g1, g2, _, _, _⟩ := hacc.append (w := 4) (b := 32) (x := b i) (vs := [.int .i64 (g d1 i), .int .i64 (g d2 i), .int .i64 (g d3 i), .int .i64 (g d4 i)]) rfl (by omega) (by rw [List.length_take]; omega) (by omega) (by rw [hb]; rfl)
    have ht : (tabL n b).take i ++ [b i] = (tabL n b).take (i + 1) := by
      obtain ⟨p, q⟩ := List.getElem?_eq_some_iff.1 (tabL_get (n := n) (i := i) (b := b) (by omega))
      rw [← List.take_append_getElem p, q]
    rw [ht] at g2
    obtain ⟨s'', sl'', o'', q1, q2⟩ := ramong_loop h1 h2 h3 h4 hn hb k (i + 1) fuel s' sl' (some id) (by omega) (by omega) g2
    refine ⟨s'', sl'', o'', ?_, q2⟩
    rw [← q1, iter]
    have hstep : spileref32_Among.loop1 d1 d2 d3 d4 ((s, (i : Int)), hL sl) = some (.more ((s', ((i + 1 : Nat) : Int)), hL sl')) := by
      unfold spileref32_Among.loop1
      simp -implicitDefEqProofs only [Int.toNat_natCast, rd_rowI, g_some (xs := d1) (k := i) (by omega), g_some (xs := d2) (k := i) (by omega), g_some (xs := d3) (k := i) (by omega), g_some (xs := d4) (k := i) (by omega), h1, h2, h3, h4, reserve0, guardO_pos hg]
      rw [decide_eq_true hg.2, cond_true]
      simp -implicitDefEqProofs only [Option.bind_some]
      rw [g1]
      simp -implicitDefEqProofs only [Option.bind_some]
      rw [i64_succ (by omega)]
    rw [hstep]
    rfl
theorem rAmong_ok (x : L4) (ws : List Int) (hl : ws.length < 2 ^ 63) : spileref32_AmongP x ws = some (amongOf x ws) := by
  obtain ⟨x1, x2, x3, x4⟩ := x
  unfold spileref32_AmongP spileref32_Among amongOf
  have ex : [c4 (x1, x2, x3, x4)][0]? = some (c4 (x1, x2, x3, x4)) := rfl
  have r0 := rd_c4 ex
  have s0 := rds_c4 ex
  simp only [c4] at r0 s0
  simp -implicitDefEqProofs only [Option.bind_some, Option.bind_none, Option.map_some, Option.map_none, cond_true, cond_false, Bool.not_true, Bool.not_false, if_true, if_false, reduceIte, rdRes, rdTT, rdTy, rdLT, rdLeaf_int, rdLeaf_bool, rdLeaf_str, rdLeaf_row, Res.un, TT.un, Ty.un, LT.un, Leaf.un, rdRow_i1, rdRow_i2, rdRow_i3, rdRow_i4, rdRow_i5, rdRow_args, rdRow_res, rdRow_nil, Leaf.plain, LT.plain, List.isEmpty_cons, Bool.and_self, Bool.and_true, Bool.true_and, Bool.or_true, Bool.true_or, Bool.or_false, Bool.false_or, reserve0, rowSV_len, rowSV_cap, rowSV_tail, guardO_true, hL_empty, hL_new, hL_next, List.length_nil, List.nil_append, List.length_cons, Nat.zero_add, List.cons_append]
  rw [s0]
  simp -implicitDefEqProofs only [Option.bind_some, Option.bind_none, Option.map_some, Option.map_none, cond_true, cond_false, Bool.not_true, Bool.not_false, if_true, if_false, reduceIte, rdRes, rdTT, rdTy, rdLT, rdLeaf_int, rdLeaf_bool, rdLeaf_str, rdLeaf_row, Res.un, TT.un, Ty.un, LT.un, Leaf.un, rdRow_i1, rdRow_i2, rdRow_i3, rdRow_i4, rdRow_i5, rdRow_args, rdRow_res, rdRow_nil, Leaf.plain, LT.plain, List.isEmpty_cons, Bool.and_self, Bool.and_true, Bool.true_and, Bool.or_true, Bool.true_or, Bool.or_false, Bool.false_or, reserve0, rowSV_len, rowSV_cap, rowSV_tail, guardO_true]
  rw [rRight_ok]
  simp -implicitDefEqProofs only [Option.bind_some, Option.bind_none, Option.map_some, Option.map_none, cond_true, cond_false, Bool.not_true, Bool.not_false, if_true, if_false, reduceIte, rdRes, rdTT, rdTy, rdLT, rdLeaf_int, rdLeaf_bool, rdLeaf_str, rdLeaf_row, Res.un, TT.un, Ty.un, LT.un, Leaf.un, rdRow_i1, rdRow_i2, rdRow_i3, rdRow_i4, rdRow_i5, rdRow_args, rdRow_res, rdRow_nil, Leaf.plain, LT.plain, List.isEmpty_cons, Bool.and_self, Bool.and_true, Bool.true_and, Bool.or_true, Bool.true_or, Bool.or_false, Bool.false_or, reserve0, rowSV_len, rowSV_cap, rowSV_tail, guardO_true]
  cases hr : right (x1, x2, x3, x4) with
  | false =>
    simp -implicitDefEqProofs only [Option.bind_some, Option.bind_none, Option.map_some, Option.map_none, cond_true, cond_false, Bool.not_true, Bool.not_false, if_true, if_false, reduceIte, rdRes, rdTT, rdTy, rdLT, rdLeaf_int, rdLeaf_bool, rdLeaf_str, rdLeaf_row, Res.un, TT.un, Ty.un, LT.un, Leaf.un, rdRow_i1, rdRow_i2, rdRow_i3, rdRow_i4, rdRow_i5, rdRow_args, rdRow_res, rdRow_nil, Leaf.plain, LT.plain, List.isEmpty_cons, Bool.and_self, Bool.and_true, Bool.true_and, Bool.or_true, Bool.true_or, Bool.or_false, Bool.false_or, reserve0, rowSV_len, rowSV_cap, rowSV_tail, guardO_true]
    rfl
  | true =>
    have hx := right_amt hr
    simp -implicitDefEqProofs only [Option.bind_some, Option.bind_none, Option.map_some, Option.map_none, cond_true, cond_false, Bool.not_true, Bool.not_false, if_true, if_false, reduceIte, rdRes, rdTT, rdTy, rdLT, rdLeaf_int, rdLeaf_bool, rdLeaf_str, rdLeaf_row, Res.un, TT.un, Ty.un, LT.un, Leaf.un, rdRow_i1, rdRow_i2, rdRow_i3, rdRow_i4, rdRow_i5, rdRow_args, rdRow_res, rdRow_nil, Leaf.plain, LT.plain, List.isEmpty_cons, Bool.and_self, Bool.and_true, Bool.true_and, Bool.or_true, Bool.true_or, Bool.or_false, Bool.false_or, reserve0, rowSV_len, rowSV_cap, rowSV_tail, guardO_true, r0.1, r0.2.1, r0.2.2.1, r0.2.2.2]
    rw [rDivide_ok x1 ws hl]
    by_cases he : (weighOf x1 ws).2 = 0
    · obtain ⟨ha, h0, h64, hall, hSa, hne, h1⟩ := weighOf_ok he
      have d : ∀ a, isAmt a = true → divideOf a ws = (divParts a ws.sum ws, 0) := fun a ha' => by
        have hw := weighOf_same ws ha' ha
        rw [divideOf, hw, if_pos he, h1]
      rw [d x1 hx.1.1, if_pos he]
      simp -implicitDefEqProofs only [Option.bind_some, Option.bind_none, Option.map_some, Option.map_none, cond_true, cond_false, Bool.not_true, Bool.not_false, if_true, if_false, reduceIte, rdRes, rdTT, rdTy, rdLT, rdLeaf_int, rdLeaf_bool, rdLeaf_str, rdLeaf_row, Res.un, TT.un, Ty.un, LT.un, Leaf.un, rdRow_i1, rdRow_i2, rdRow_i3, rdRow_i4, rdRow_i5, rdRow_args, rdRow_res, rdRow_nil, Leaf.plain, LT.plain, List.isEmpty_cons, Bool.and_self, Bool.and_true, Bool.true_and, Bool.or_true, Bool.true_or, Bool.or_false, Bool.false_or, reserve0, rowSV_len, rowSV_cap, rowSV_tail, guardO_true, eq_self, decide_true]
      rw [rDivide_ok x2 ws hl, rDivide_ok x3 ws hl, rDivide_ok x4 ws hl, d x2 hx.1.2.1, d x3 hx.1.2.2.1, d x4 hx.1.2.2.2]
      simp -implicitDefEqProofs only [Option.bind_some, Option.bind_none, Option.map_some, Option.map_none, cond_true, cond_false, Bool.not_true, Bool.not_false, if_true, if_false, reduceIte, rdRes, rdTT, rdTy, rdLT, rdLeaf_int, rdLeaf_bool, rdLeaf_str, rdLeaf_row, Res.un, TT.un, Ty.un, LT.un, Leaf.un, rdRow_i1, rdRow_i2, rdRow_i3, rdRow_i4, rdRow_i5, rdRow_args, rdRow_res, rdRow_nil, Leaf.plain, LT.plain, List.isEmpty_cons, Bool.and_self, Bool.and_true, Bool.true_and, Bool.or_true, Bool.true_or, Bool.or_false, Bool.false_or, reserve0, rowSV_len, rowSV_cap, rowSV_tail, guardO_true]
      obtain ⟨s', sl', o', q1, q2⟩ := ramong_loop (n := ws.length) (b := partsA (x1, x2, x3, x4) ws) (divParts_length (a := x1) (S := ws.sum)) (divParts_length (a := x2) (S := ws.sum)) (divParts_length (a := x3) (S := ws.sum)) (divParts_length (a := x4) (S := ws.sum)) h64 (fun j => rfl) ws.length 0 FUEL ⟨.lp true [] 0, 0, 0, false⟩ [c4 (x1, x2, x3, x4)] none (by omega) (fuel_gt (by omega)) Acc.nil'
      have hz : (((0 : Nat) : Int)) = 0 := rfl
      simp only [c4, hz] at q1
      rw [q1]
      simp -implicitDefEqProofs only [Option.bind_some, Option.bind_none, Option.map_some, Option.map_none, cond_true, cond_false, Bool.not_true, Bool.not_false, if_true, if_false, reduceIte, rdRes, rdTT, rdTy, rdLT, rdLeaf_int, rdLeaf_bool, rdLeaf_str, rdLeaf_row, Res.un, TT.un, Ty.un, LT.un, Leaf.un, rdRow_i1, rdRow_i2, rdRow_i3, rdRow_i4, rdRow_i5, rdRow_args, rdRow_res, rdRow_nil, Leaf.plain, LT.plain, List.isEmpty_cons, Bool.and_self, Bool.and_true, Bool.true_and, Bool.or_true, Bool.true_or, Bool.or_false, Bool.false_or, reserve0, rowSV_len, rowSV_cap, rowSV_tail, guardO_true, q2.read (lp := false) rfl]
    · rw [divideOf, if_neg he, if_neg he]
      simp -implicitDefEqProofs only [Option.bind_some, Option.bind_none, Option.map_some, Option.map_none, cond_true, cond_false, Bool.not_true, Bool.not_false, if_true, if_false, reduceIte, rdRes, rdTT, rdTy, rdLT, rdLeaf_int, rdLeaf_bool, rdLeaf_str, rdLeaf_row, Res.un, TT.un, Ty.un, LT.un, Leaf.un, rdRow_i1, rdRow_i2, rdRow_i3, rdRow_i4, rdRow_i5, rdRow_args, rdRow_res, rdRow_nil, Leaf.plain, LT.plain, List.isEmpty_cons, Bool.and_self, Bool.and_true, Bool.true_and, Bool.or_true, Bool.true_or, Bool.or_false, Bool.false_or, reserve0, rowSV_len, rowSV_cap, rowSV_tail, guardO_true]
      rw [decide_eq_false he]
      simp -implicitDefEqProofs only [Option.bind_some, Option.bind_none, Option.map_some, Option.map_none, cond_true, cond_false, Bool.not_true, Bool.not_false, if_true, if_false, reduceIte, rdRes, rdTT, rdTy, rdLT, rdLeaf_int, rdLeaf_bool, rdLeaf_str, rdLeaf_row, Res.un, TT.un, Ty.un, LT.un, Leaf.un, rdRow_i1, rdRow_i2, rdRow_i3, rdRow_i4, rdRow_i5, rdRow_args, rdRow_res, rdRow_nil, Leaf.plain, LT.plain, List.isEmpty_cons, Bool.and_self, Bool.and_true, Bool.true_and, Bool.or_true, Bool.true_or, Bool.or_false, Bool.false_or, reserve0, rowSV_len, rowSV_cap, rowSV_tail, guardO_true]
end Go.Proofs.Ytadlfinlbaogeaa
