/- The law ProportionStays in plain numbers. Conditions: none. -/
import Derived.Test.YtadlfinlbaogeaaP01a
import Derived.Test.YtadlfinlbaogeaaL01a
namespace Go.Proofs.Ytadlfinlbaogeaa
open Go Go.Proofs.Ytadlfinlbaogeaa.Ev
set_option linter.unusedVariables false
set_option linter.unusedSimpArgs false
set_option maxRecDepth 100000
set_option maxHeartbeats 4000000
theorem Few_ok (ws : List Int) : spileref01_FewP ws = some (decide ((ws.length : Int) ≤ 65)) := by
  unfold spileref01_FewP spileref01_Few
  simp -implicitDefEqProofs only [Option.bind_some, Option.bind_none, Option.map_some, Option.map_none, cond_true, cond_false, Bool.not_true, Bool.not_false, if_true, if_false, reduceIte, rdRes, rdTT, rdTy, rdLT, rdLeaf_int, rdLeaf_bool, rdLeaf_str, rdLeaf_row, Res.un, TT.un, Ty.un, LT.un, Leaf.un, rdRow_i1, rdRow_i2, rdRow_i3, rdRow_i4, rdRow_i5, rdRow_args, rdRow_res, rdRow_nil, Leaf.plain, LT.plain, List.isEmpty_cons, Bool.and_self, Bool.and_true, Bool.true_and, Bool.or_true, Bool.true_or, Bool.or_false, Bool.false_or, reserve0, rowSV_len, rowSV_cap, rowSV_tail, guardO_true]
theorem EqualI_ok (a b : List Int) (hl : a.length < 2 ^ 63) : slices_Equal_int_intP a b = some (decide (a = b)) := by
  unfold slices_Equal_int_intP slices_Equal_int_int
  simp -implicitDefEqProofs only [rowSV_len]
  by_cases hab : a.length = b.length
  · rw [decide_eq_true (show (a.length : Int) = (b.length : Int) by omega)]
    simp -implicitDefEqProofs only [Option.bind_some, Option.bind_none, Option.map_some, Option.map_none, cond_true, cond_false, Bool.not_true, Bool.not_false, if_true, if_false, reduceIte, rdRes, rdTT, rdTy, rdLT, rdLeaf_int, rdLeaf_bool, rdLeaf_str, rdLeaf_row, Res.un, TT.un, Ty.un, LT.un, Leaf.un, rdRow_i1, rdRow_i2, rdRow_i3, rdRow_i4, rdRow_i5, rdRow_args, rdRow_res, rdRow_nil, Leaf.plain, LT.plain, List.isEmpty_cons, Bool.and_self, Bool.and_true, Bool.true_and, Bool.or_true, Bool.true_or, Bool.or_false, Bool.false_or, reserve0, rowSV_len, rowSV_cap, rowSV_tail, guardO_true]
    rw [iter_same a b hab hl (fun i x y hx hy hi => by
      unfold slices_Equal_int_int.loop1
      simp -implicitDefEqProofs only [rowSV_len, Int.toNat_natCast, reserve0]
      rw [decide_eq_true (by omega), cond_true, guardO_pos (by omega), rd_rowI, hx, rd_rowI, hy]
      simp -implicitDefEqProofs only [Option.bind_some]
      rw [guardO_pos (by omega), i64_succ (by omega)]
      cases decide (x = y) <;> rfl) (by
      unfold slices_Equal_int_int.loop1
      simp -implicitDefEqProofs only [rowSV_len]
      rw [decide_eq_false (by omega), cond_false])]
    by_cases he : a = b
    · rw [if_pos he, decide_eq_true he]; rfl
    · rw [if_neg he, decide_eq_false he]; rfl
  · rw [decide_eq_false (show ¬ (a.length : Int) = (b.length : Int) by omega), decide_eq_false (show ¬ a = b from fun e => hab (by rw [e]))]
    simp -implicitDefEqProofs only [Option.bind_some, Option.bind_none, Option.map_some, Option.map_none, cond_true, cond_false, Bool.not_true, Bool.not_false, if_true, if_false, reduceIte, rdRes, rdTT, rdTy, rdLT, rdLeaf_int, rdLeaf_bool, rdLeaf_str, rdLeaf_row, Res.un, TT.un, Ty.un, LT.un, Leaf.un, rdRow_i1, rdRow_i2, rdRow_i3, rdRow_i4, rdRow_i5, rdRow_args, rdRow_res, rdRow_nil, Leaf.plain, LT.plain, List.isEmpty_cons, Bool.and_self, Bool.and_true, Bool.true_and, Bool.or_true, Bool.true_or, Bool.or_false, Bool.false_or, reserve0, rowSV_len, rowSV_cap, rowSV_tail, guardO_true]
/-- The loop of the law: the parts and the rests are right at every place. -/
theorem stays_loop {ws ps rs : List Int} {n : Nat} {f : Bool} (hw : ws.length = n) (hp : ps.length = n) (hr : rs.length = n) (hn : n ≤ 64)
    (h : ∀ i, i < n → 0 ≤ g ps i ∧ g ps i ≤ g ws i ∧ g ws i ≤ 128849018880000 ∧ g rs i = g ws i - g ps i) (hps : 0 ≤ ps.sum ∧ ps.sum ≤ 128849018880000) (hws : 0 ≤ ws.sum ∧ ws.sum ≤ 128849018880000) :
    iter FUEL (spilelaw01_ProportionStays.loop1 (rowSV f [.int .i64] ws) ps rs) ((0, 0, 0), H.empty) = some (.ex0 (ps.sum, ws.sum), H.empty) := by
  have hps0 : ∀ x ∈ ps, 0 ≤ x := fun x hx => by
    obtain ⟨k, hk, rfl⟩ := mem_g hx
    exact (h k (by omega)).1
  have hws0 : ∀ x ∈ ws, 0 ≤ x := fun x hx => by
    obtain ⟨k, hk, rfl⟩ := mem_g hx
    have := h k (by omega)
    omega
  refine (iter_from (f := spilelaw01_ProportionStays.loop1 (rowSV f [.int .i64] ws) ps rs) (fun i => (((ps.take i).sum, (ws.take i).sum, (i : Int)), H.empty)) rfl n FUEL (fun i hi => ?_) ?_ (fuel_gt (by omega)))
  · have hb := h i hi
    have k1 := sum_take_le hps0 i
    have k2 := sum_take_le hws0 i
    have k3 := sum_take_le hps0 (i + 1)
    have k4 := sum_take_le hws0 (i + 1)
    have k5 := sum_take_succ (ws := ps) (i := i) (by omega)
    have k6 := sum_take_succ (ws := ws) (i := i) (by omega)
    rw [← g_eq] at k5 k6
    unfold spilelaw01_ProportionStays.loop1
    simp -implicitDefEqProofs only [rowSV_len, Int.toNat_natCast, reserve0, rd_rowI]
    rw [g_some (xs := ws) (by omega), g_some (xs := ps) (by omega), g_some (xs := rs) (by omega)]
    rw [decide_eq_true (show (i : Int) < (ws.length : Int) by omega), cond_true, guardO_pos (show 0 ≤ (i : Int) ∧ (i : Int) < (ws.length : Int) by omega)]
    simp -implicitDefEqProofs only [Option.bind_some, Option.bind_none, Option.map_some, Option.map_none, cond_true, cond_false, Bool.not_true, Bool.not_false, if_true, if_false, reduceIte, rdRes, rdTT, rdTy, rdLT, rdLeaf_int, rdLeaf_bool, rdLeaf_str, rdLeaf_row, Res.un, TT.un, Ty.un, LT.un, Leaf.un, rdRow_i1, rdRow_i2, rdRow_i3, rdRow_i4, rdRow_i5, rdRow_args, rdRow_res, rdRow_nil, Leaf.plain, LT.plain, List.isEmpty_cons, Bool.and_self, Bool.and_true, Bool.true_and, Bool.or_true, Bool.true_or, Bool.or_false, Bool.false_or, reserve0, rowSV_len, rowSV_cap, rowSV_tail, guardO_true]
    have hg1 : 0 ≤ (i : Int) ∧ (i : Int) < (ps.length : Int) := by omega
    have hg2 : 0 ≤ (i : Int) ∧ (i : Int) < (rs.length : Int) := by omega
    simp -implicitDefEqProofs only [guardO_pos hg1, guardO_pos hg2]
    rw [decide_eq_false (show ¬ g ps i < 0 by omega), decide_eq_false (show ¬ g rs i < 0 by omega)]
    simp -implicitDefEqProofs only [Option.bind_some, Option.bind_none, Option.map_some, Option.map_none, cond_true, cond_false, Bool.not_true, Bool.not_false, if_true, if_false, reduceIte, rdRes, rdTT, rdTy, rdLT, rdLeaf_int, rdLeaf_bool, rdLeaf_str, rdLeaf_row, Res.un, TT.un, Ty.un, LT.un, Leaf.un, rdRow_i1, rdRow_i2, rdRow_i3, rdRow_i4, rdRow_i5, rdRow_args, rdRow_res, rdRow_nil, Leaf.plain, LT.plain, List.isEmpty_cons, Bool.and_self, Bool.and_true, Bool.true_and, Bool.or_true, Bool.true_or, Bool.or_false, Bool.false_or, reserve0, rowSV_len, rowSV_cap, rowSV_tail, guardO_true]
    rw [i64_in (g ps i + g rs i) (by omega), decide_eq_true (show g ps i + g rs i = g ws i by omega)]
    simp -implicitDefEqProofs only [Option.bind_some, Option.bind_none, Option.map_some, Option.map_none, cond_true, cond_false, Bool.not_true, Bool.not_false, if_true, if_false, reduceIte, rdRes, rdTT, rdTy, rdLT, rdLeaf_int, rdLeaf_bool, rdLeaf_str, rdLeaf_row, Res.un, TT.un, Ty.un, LT.un, Leaf.un, rdRow_i1, rdRow_i2, rdRow_i3, rdRow_i4, rdRow_i5, rdRow_args, rdRow_res, rdRow_nil, Leaf.plain, LT.plain, List.isEmpty_cons, Bool.and_self, Bool.and_true, Bool.true_and, Bool.or_true, Bool.true_or, Bool.or_false, Bool.false_or, reserve0, rowSV_len, rowSV_cap, rowSV_tail, guardO_true]
    rw [i64_in ((ps.take i).sum + g ps i) (by omega), i64_in ((ws.take i).sum + g ws i) (by omega), i64_succ (by omega), ← k5, ← k6]
  · unfold spilelaw01_ProportionStays.loop1
    simp -implicitDefEqProofs only [rowSV_len]
    rw [decide_eq_false (by omega), cond_false, ← hp, List.take_length, hp, ← hw, List.take_length]
theorem stays1_ok (x : Int) : spilelaw01_ProportionStays_1P x = some (!decide (x = 0)) := by
  unfold spilelaw01_ProportionStays_1P spilelaw01_ProportionStays_1
  simp -implicitDefEqProofs only [Option.bind_some, Option.bind_none, Option.map_some, Option.map_none, cond_true, cond_false, Bool.not_true, Bool.not_false, if_true, if_false, reduceIte, rdRes, rdTT, rdTy, rdLT, rdLeaf_int, rdLeaf_bool, rdLeaf_str, rdLeaf_row, Res.un, TT.un, Ty.un, LT.un, Leaf.un, rdRow_i1, rdRow_i2, rdRow_i3, rdRow_i4, rdRow_i5, rdRow_args, rdRow_res, rdRow_nil, Leaf.plain, LT.plain, List.isEmpty_cons, Bool.and_self, Bool.and_true, Bool.true_and, Bool.or_true, Bool.true_or, Bool.or_false, Bool.false_or, reserve0, rowSV_len, rowSV_cap, rowSV_tail, guardO_true]
theorem weighOf_full {a : Int} {ws : List Int} (h : (weighOf a ws).2 = 0) : weighOf ws.sum ws = (ws.sum, 0) := by
  have h' := weighOf_ok h
  obtain ⟨ha, h0, h64, hall, hSa, hne, h1⟩ := h'
  unfold weighOf
  rw [if_pos hSa, if_neg (by omega), if_neg (by omega), if_pos (by rw [hall, hSa]; rfl), if_neg hne]
theorem ProportionStays_ok (ws : List Int) (a : Int) : spilelaw01_ProportionStaysP ws a = some true := by
  unfold spilelaw01_ProportionStaysP spilelaw01_ProportionStays
  simp -implicitDefEqProofs only [awake01, Option.bind_some, Option.bind_none, Option.map_some, Option.map_none, cond_true, cond_false, Bool.not_true, Bool.not_false, if_true, if_false, reduceIte, rdRes, rdTT, rdTy, rdLT, rdLeaf_int, rdLeaf_bool, rdLeaf_str, rdLeaf_row, Res.un, TT.un, Ty.un, LT.un, Leaf.un, rdRow_i1, rdRow_i2, rdRow_i3, rdRow_i4, rdRow_i5, rdRow_args, rdRow_res, rdRow_nil, Leaf.plain, LT.plain, List.isEmpty_cons, Bool.and_self, Bool.and_true, Bool.true_and, Bool.or_true, Bool.true_or, Bool.or_false, Bool.false_or, reserve0, rowSV_len, rowSV_cap, rowSV_tail, guardO_true, Few_ok]
  by_cases h65 : (ws.length : Int) ≤ 65
  · rw [decide_eq_true h65]
    simp -implicitDefEqProofs only [Option.bind_some, Option.bind_none, Option.map_some, Option.map_none, cond_true, cond_false, Bool.not_true, Bool.not_false, if_true, if_false, reduceIte, rdRes, rdTT, rdTy, rdLT, rdLeaf_int, rdLeaf_bool, rdLeaf_str, rdLeaf_row, Res.un, TT.un, Ty.un, LT.un, Leaf.un, rdRow_i1, rdRow_i2, rdRow_i3, rdRow_i4, rdRow_i5, rdRow_args, rdRow_res, rdRow_nil, Leaf.plain, LT.plain, List.isEmpty_cons, Bool.and_self, Bool.and_true, Bool.true_and, Bool.or_true, Bool.true_or, Bool.or_false, Bool.false_or, reserve0, rowSV_len, rowSV_cap, rowSV_tail, guardO_true]
    rw [clone_len (by omega) (by omega)]
    simp -implicitDefEqProofs only [Option.bind_some, Option.bind_none, Option.map_some, Option.map_none, cond_true, cond_false, Bool.not_true, Bool.not_false, if_true, if_false, reduceIte, rdRes, rdTT, rdTy, rdLT, rdLeaf_int, rdLeaf_bool, rdLeaf_str, rdLeaf_row, Res.un, TT.un, Ty.un, LT.un, Leaf.un, rdRow_i1, rdRow_i2, rdRow_i3, rdRow_i4, rdRow_i5, rdRow_args, rdRow_res, rdRow_nil, Leaf.plain, LT.plain, List.isEmpty_cons, Bool.and_self, Bool.and_true, Bool.true_and, Bool.or_true, Bool.true_or, Bool.or_false, Bool.false_or, reserve0, rowSV_len, rowSV_cap, rowSV_tail, guardO_true]
    rw [PDraw_ok a ws (by omega)]
    by_cases he : (weighOf a ws).2 = 0
    · obtain ⟨ha, h0, h64, hall, hSa, hne, h1⟩ := weighOf_ok he
      have hS' := isAmt_iff.1 hSa
      have ha' := isAmt_iff.1 ha
      by_cases hlt : ws.sum < a
      · rw [drawP, if_pos he, h1, if_pos hlt]
        simp -implicitDefEqProofs only [Option.bind_some, Option.bind_none, Option.map_some, Option.map_none, cond_true, cond_false, Bool.not_true, Bool.not_false, if_true, if_false, reduceIte, rdRes, rdTT, rdTy, rdLT, rdLeaf_int, rdLeaf_bool, rdLeaf_str, rdLeaf_row, Res.un, TT.un, Ty.un, LT.un, Leaf.un, rdRow_i1, rdRow_i2, rdRow_i3, rdRow_i4, rdRow_i5, rdRow_args, rdRow_res, rdRow_nil, Leaf.plain, LT.plain, List.isEmpty_cons, Bool.and_self, Bool.and_true, Bool.true_and, Bool.or_true, Bool.true_or, Bool.or_false, Bool.false_or, reserve0, rowSV_len, rowSV_cap, rowSV_tail, guardO_true]
        rfl
      · have hf := weighOf_full he
        have hb : ∀ i, i < ws.length → 0 ≤ g (divParts a ws.sum ws) i ∧ g (divParts a ws.sum ws) i ≤ g ws i ∧ g ws i ≤ 128849018880000 ∧ g (less ws (divParts a ws.sum ws) ws.length) i = g ws i - g (divParts a ws.sum ws) i := fun i hi => by
          have k1 := part_bound (a := a) ha'.1 (by omega) (by omega) (fun w hw => (all_amt hall w hw).1) hi
          have k2 := all_amt hall _ (g_mem hi)
          rw [g_less hi, if_pos hi]
          omega
        have hd : drawP ws a = (divParts a ws.sum ws, less ws (divParts a ws.sum ws) ws.length, 0) := by rw [drawP, if_pos he, h1, if_neg hlt]
        have hd2 : drawP ws ws.sum = (ws, less ws ws ws.length, 0) := by
          rw [drawP, hf]
          simp only [if_true]
          rw [if_neg (by omega), parts_full (by omega) h0 (fun w hw => (all_amt hall w hw).1)]
        rw [hd]
        simp -implicitDefEqProofs only [Option.bind_some, Option.bind_none, Option.map_some, Option.map_none, cond_true, cond_false, Bool.not_true, Bool.not_false, if_true, if_false, reduceIte, rdRes, rdTT, rdTy, rdLT, rdLeaf_int, rdLeaf_bool, rdLeaf_str, rdLeaf_row, Res.un, TT.un, Ty.un, LT.un, Leaf.un, rdRow_i1, rdRow_i2, rdRow_i3, rdRow_i4, rdRow_i5, rdRow_args, rdRow_res, rdRow_nil, Leaf.plain, LT.plain, List.isEmpty_cons, Bool.and_self, Bool.and_true, Bool.true_and, Bool.or_true, Bool.true_or, Bool.or_false, Bool.false_or, reserve0, rowSV_len, rowSV_cap, rowSV_tail, guardO_true, divParts_length, less_length, eq_self, decide_true]
        have hsum := divParts_sum (a := a) (ws := ws) (by omega) h0
        rw [stays_loop (n := ws.length) rfl divParts_length less_length h64 hb (by omega) hS']
        simp -implicitDefEqProofs only [Option.bind_some, Option.bind_none, Option.map_some, Option.map_none, cond_true, cond_false, Bool.not_true, Bool.not_false, if_true, if_false, reduceIte, rdRes, rdTT, rdTy, rdLT, rdLeaf_int, rdLeaf_bool, rdLeaf_str, rdLeaf_row, Res.un, TT.un, Ty.un, LT.un, Leaf.un, rdRow_i1, rdRow_i2, rdRow_i3, rdRow_i4, rdRow_i5, rdRow_args, rdRow_res, rdRow_nil, Leaf.plain, LT.plain, List.isEmpty_cons, Bool.and_self, Bool.and_true, Bool.true_and, Bool.or_true, Bool.true_or, Bool.or_false, Bool.false_or, reserve0, rowSV_len, rowSV_cap, rowSV_tail, guardO_true]
        rw [PDraw_ok _ ws (by omega), hd2, hsum]
        simp -implicitDefEqProofs only [Option.bind_some, Option.bind_none, Option.map_some, Option.map_none, cond_true, cond_false, Bool.not_true, Bool.not_false, if_true, if_false, reduceIte, rdRes, rdTT, rdTy, rdLT, rdLeaf_int, rdLeaf_bool, rdLeaf_str, rdLeaf_row, Res.un, TT.un, Ty.un, LT.un, Leaf.un, rdRow_i1, rdRow_i2, rdRow_i3, rdRow_i4, rdRow_i5, rdRow_args, rdRow_res, rdRow_nil, Leaf.plain, LT.plain, List.isEmpty_cons, Bool.and_self, Bool.and_true, Bool.true_and, Bool.or_true, Bool.true_or, Bool.or_false, Bool.false_or, reserve0, rowSV_len, rowSV_cap, rowSV_tail, guardO_true, eq_self, decide_true]
        rw [EqualI_ok _ _ (by omega)]
        simp -implicitDefEqProofs only [Option.bind_some, Option.bind_none, Option.map_some, Option.map_none, cond_true, cond_false, Bool.not_true, Bool.not_false, if_true, if_false, reduceIte, rdRes, rdTT, rdTy, rdLT, rdLeaf_int, rdLeaf_bool, rdLeaf_str, rdLeaf_row, Res.un, TT.un, Ty.un, LT.un, Leaf.un, rdRow_i1, rdRow_i2, rdRow_i3, rdRow_i4, rdRow_i5, rdRow_args, rdRow_res, rdRow_nil, Leaf.plain, LT.plain, List.isEmpty_cons, Bool.and_self, Bool.and_true, Bool.true_and, Bool.or_true, Bool.true_or, Bool.or_false, Bool.false_or, reserve0, rowSV_len, rowSV_cap, rowSV_tail, guardO_true, eq_self, decide_true]
        rw [ContainsFunc_int (fun x => !decide (x = 0)) (by rw [less_length]; omega) (fun x hx R k => by
            show (spilelaw01_ProportionStays_1P x).bind (fun r => k ((Res.one (.leaf .bool)).lo true r) H.empty) = _
            rw [stays1_ok]; rfl)]
        simp -implicitDefEqProofs only [Option.bind_some, Option.bind_none, Option.map_some, Option.map_none, cond_true, cond_false, Bool.not_true, Bool.not_false, if_true, if_false, reduceIte, rdRes, rdTT, rdTy, rdLT, rdLeaf_int, rdLeaf_bool, rdLeaf_str, rdLeaf_row, Res.un, TT.un, Ty.un, LT.un, Leaf.un, rdRow_i1, rdRow_i2, rdRow_i3, rdRow_i4, rdRow_i5, rdRow_args, rdRow_res, rdRow_nil, Leaf.plain, LT.plain, List.isEmpty_cons, Bool.and_self, Bool.and_true, Bool.true_and, Bool.or_true, Bool.true_or, Bool.or_false, Bool.false_or, reserve0, rowSV_len, rowSV_cap, rowSV_tail, guardO_true]
        rw [show (less ws ws ws.length).any (fun x => !decide (x = 0)) = false from List.any_eq_false.2 fun x hx => by
          obtain ⟨k, hk, rfl⟩ := mem_g hx
          rw [less_length] at hk
          rw [g_less hk, if_pos hk]
          simp]
        rfl
    · rw [drawP, if_neg he]
      simp -implicitDefEqProofs only [Option.bind_some, Option.bind_none, Option.map_some, Option.map_none, cond_true, cond_false, Bool.not_true, Bool.not_false, if_true, if_false, reduceIte, rdRes, rdTT, rdTy, rdLT, rdLeaf_int, rdLeaf_bool, rdLeaf_str, rdLeaf_row, Res.un, TT.un, Ty.un, LT.un, Leaf.un, rdRow_i1, rdRow_i2, rdRow_i3, rdRow_i4, rdRow_i5, rdRow_args, rdRow_res, rdRow_nil, Leaf.plain, LT.plain, List.isEmpty_cons, Bool.and_self, Bool.and_true, Bool.true_and, Bool.or_true, Bool.true_or, Bool.or_false, Bool.false_or, reserve0, rowSV_len, rowSV_cap, rowSV_tail, guardO_true]
      rw [decide_eq_false he]
      rfl
  · rw [decide_eq_false h65]
    simp -implicitDefEqProofs only [Option.bind_some, Option.bind_none, Option.map_some, Option.map_none, cond_true, cond_false, Bool.not_true, Bool.not_false, if_true, if_false, reduceIte, rdRes, rdTT, rdTy, rdLT, rdLeaf_int, rdLeaf_bool, rdLeaf_str, rdLeaf_row, Res.un, TT.un, Ty.un, LT.un, Leaf.un, rdRow_i1, rdRow_i2, rdRow_i3, rdRow_i4, rdRow_i5, rdRow_args, rdRow_res, rdRow_nil, Leaf.plain, LT.plain, List.isEmpty_cons, Bool.and_self, Bool.and_true, Bool.true_and, Bool.or_true, Bool.true_or, Bool.or_false, Bool.false_or, reserve0, rowSV_len, rowSV_cap, rowSV_tail, guardO_true]
end Go.Proofs.Ytadlfinlbaogeaa
