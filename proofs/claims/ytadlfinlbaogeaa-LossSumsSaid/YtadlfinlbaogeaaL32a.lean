/- The laws LossChains and LossTurns in plain numbers. Conditions: none. -/
import Derived.Test.YtadlfinlbaogeaaS32b
namespace Go.Proofs.Ytadlfinlbaogeaa
open Go Go.Proofs.Ytadlfinlbaogeaa.Ev
set_option linter.unusedVariables false
set_option linter.unusedSimpArgs false
set_option maxRecDepth 100000
set_option maxHeartbeats 2000000
theorem dec4 (x y : L4) : (decide (x.1 = y.1) && (decide (x.2.1 = y.2.1) && (decide (x.2.2.1 = y.2.2.1) && decide (x.2.2.2 = y.2.2.2)))) = decide (x = y) := by
  obtain ⟨x0, x1, x2, x3⟩ := x
  obtain ⟨y0, y1, y2, y3⟩ := y
  simp [Prod.mk.injEq, Bool.decide_and]
/-- Are two rows the same? -/
theorem lSame_ok (a b : List L4) (hl : a.length < 2 ^ 63) : spileref32_SameP a b = some (decide (a = b)) := by
  unfold spileref32_SameP spileref32_Same
  simp -implicitDefEqProofs only [rowSV_len]
  by_cases hab : a.length = b.length
  · rw [decide_eq_true (show (a.length : Int) = (b.length : Int) by omega)]
    simp -implicitDefEqProofs only [Option.bind_some, Option.bind_none, Option.map_some, Option.map_none, cond_true, cond_false, Bool.not_true, Bool.not_false, if_true, if_false, reduceIte, rdRes, rdTT, rdTy, rdLT, rdLeaf_int, rdLeaf_bool, rdLeaf_str, rdLeaf_row, Res.un, TT.un, Ty.un, LT.un, Leaf.un, rdRow_i1, rdRow_i2, rdRow_i3, rdRow_i4, rdRow_i5, rdRow_args, rdRow_res, rdRow_nil, Leaf.plain, LT.plain, List.isEmpty_cons, Bool.and_self, Bool.and_true, Bool.true_and, Bool.or_true, Bool.true_or, Bool.or_false, Bool.false_or, reserve0, rowSV_len, rowSV_cap, rowSV_tail, guardO_true]
    rw [iter_same a b hab hl (fun i x y hx hy hi => by
      unfold spileref32_Same.loop1
      simp -implicitDefEqProofs only [rowSV_len, Int.toNat_natCast, reserve0]
      rw [decide_eq_true (by omega), cond_true, guardO_pos (by omega), rds_rowF (ls := i4) (w := 4) rfl (by omega) rfl, hx, rds_rowF (ls := i4) (w := 4) rfl (by omega) rfl, hy]
      simp -implicitDefEqProofs only [Option.bind_some, dec4]
      rw [guardO_pos (by omega), i64_succ (by omega)]
      cases decide (x = y) <;> rfl) (by
      unfold spileref32_Same.loop1
      simp -implicitDefEqProofs only [rowSV_len]
      rw [decide_eq_false (by omega), cond_false])]
    by_cases he : a = b
    · rw [if_pos he, decide_eq_true he]; rfl
    · rw [if_neg he, decide_eq_false he]; rfl
  · rw [decide_eq_false (show ¬ (a.length : Int) = (b.length : Int) by omega), decide_eq_false (show ¬ a = b from fun e => hab (by rw [e]))]
    simp -implicitDefEqProofs only [Option.bind_some, Option.bind_none, Option.map_some, Option.map_none, cond_true, cond_false, Bool.not_true, Bool.not_false, if_true, if_false, reduceIte, rdRes, rdTT, rdTy, rdLT, rdLeaf_int, rdLeaf_bool, rdLeaf_str, rdLeaf_row, Res.un, TT.un, Ty.un, LT.un, Leaf.un, rdRow_i1, rdRow_i2, rdRow_i3, rdRow_i4, rdRow_i5, rdRow_args, rdRow_res, rdRow_nil, Leaf.plain, LT.plain, List.isEmpty_cons, Bool.and_self, Bool.and_true, Bool.true_and, Bool.or_true, Bool.true_or, Bool.or_false, Bool.false_or, reserve0, rowSV_len, rowSV_cap, rowSV_tail, guardO_true]
theorem turns_len : ∀ (l : List T5) (now : Int) (i : Nat), (turns now i l).1.length ≤ l.length
  | [], _, _ => by simp [turns]
  | t :: l, now, i => by
    simp only [turns]
    have := turns_len l t.2.2.1 (i + 1)
    split
    · simp only
      split <;> simp <;> omega
    · simp
theorem LossChains_ok (start : Int) (l : List T5) : spilelaw32_LossChainsP start l = some true := by
  unfold spilelaw32_LossChainsP spilelaw32_LossChains
  simp -implicitDefEqProofs only [awake32, Option.bind_some, Option.bind_none, Option.map_some, Option.map_none, cond_true, cond_false, Bool.not_true, Bool.not_false, if_true, if_false, reduceIte, rdRes, rdTT, rdTy, rdLT, rdLeaf_int, rdLeaf_bool, rdLeaf_str, rdLeaf_row, Res.un, TT.un, Ty.un, LT.un, Leaf.un, rdRow_i1, rdRow_i2, rdRow_i3, rdRow_i4, rdRow_i5, rdRow_args, rdRow_res, rdRow_nil, Leaf.plain, LT.plain, List.isEmpty_cons, Bool.and_self, Bool.and_true, Bool.true_and, Bool.or_true, Bool.true_or, Bool.or_false, Bool.false_or, reserve0, rowSV_len, rowSV_cap, rowSV_tail, guardO_true]
  by_cases h1 : 20 < l.length ∧ l.length ≠ 129
  · rw [decide_eq_true (show (20 : Int) < (l.length : Int) by omega), decide_eq_false (show ¬ ((l.length : Int) = 129) by omega)]
    simp -implicitDefEqProofs only [Option.bind_some, Option.bind_none, Option.map_some, Option.map_none, cond_true, cond_false, Bool.not_true, Bool.not_false, if_true, if_false, reduceIte, rdRes, rdTT, rdTy, rdLT, rdLeaf_int, rdLeaf_bool, rdLeaf_str, rdLeaf_row, Res.un, TT.un, Ty.un, LT.un, Leaf.un, rdRow_i1, rdRow_i2, rdRow_i3, rdRow_i4, rdRow_i5, rdRow_args, rdRow_res, rdRow_nil, Leaf.plain, LT.plain, List.isEmpty_cons, Bool.and_self, Bool.and_true, Bool.true_and, Bool.or_true, Bool.true_or, Bool.or_false, Bool.false_or, reserve0, rowSV_len, rowSV_cap, rowSV_tail, guardO_true]
  · have hlen : l.length ≤ 129 := by omega
    have hg : (bif decide ((20 : Int) < (l.length : Int)) then some (!decide ((l.length : Int) = 129), H.empty) else some (false, H.empty) : Option (Bool × H)) = some (false, H.empty) := by
      by_cases h2 : 20 < l.length
      · rw [decide_eq_true (show (20 : Int) < (l.length : Int) by omega), decide_eq_true (show (l.length : Int) = 129 by omega)]; rfl
      · rw [decide_eq_false (show ¬ (20 : Int) < (l.length : Int) by omega)]; rfl
    rw [hg]
    simp -implicitDefEqProofs only [Option.bind_some, Option.bind_none, Option.map_some, Option.map_none, cond_true, cond_false, Bool.not_true, Bool.not_false, if_true, if_false, reduceIte, rdRes, rdTT, rdTy, rdLT, rdLeaf_int, rdLeaf_bool, rdLeaf_str, rdLeaf_row, Res.un, TT.un, Ty.un, LT.un, Leaf.un, rdRow_i1, rdRow_i2, rdRow_i3, rdRow_i4, rdRow_i5, rdRow_args, rdRow_res, rdRow_nil, Leaf.plain, LT.plain, List.isEmpty_cons, Bool.and_self, Bool.and_true, Bool.true_and, Bool.or_true, Bool.true_or, Bool.or_false, Bool.false_or, reserve0, rowSV_len, rowSV_cap, rowSV_tail, guardO_true]
    rw [clone_len (by omega) (by omega)]
    simp -implicitDefEqProofs only [Option.bind_some, Option.bind_none, Option.map_some, Option.map_none, cond_true, cond_false, Bool.not_true, Bool.not_false, if_true, if_false, reduceIte, rdRes, rdTT, rdTy, rdLT, rdLeaf_int, rdLeaf_bool, rdLeaf_str, rdLeaf_row, Res.un, TT.un, Ty.un, LT.un, Leaf.un, rdRow_i1, rdRow_i2, rdRow_i3, rdRow_i4, rdRow_i5, rdRow_args, rdRow_res, rdRow_nil, Leaf.plain, LT.plain, List.isEmpty_cons, Bool.and_self, Bool.and_true, Bool.true_and, Bool.or_true, Bool.true_or, Bool.or_false, Bool.false_or, reserve0, rowSV_len, rowSV_cap, rowSV_tail, guardO_true, Chain_ok, rChain_ok]
    rw [lSame_ok _ _ (by
      unfold chainOf
      split
      · simp
      · split
        · have := turns_len l start 0; omega
        · simp)]
    simp -implicitDefEqProofs only [Option.bind_some, Option.bind_none, Option.map_some, Option.map_none, cond_true, cond_false, Bool.not_true, Bool.not_false, if_true, if_false, reduceIte, rdRes, rdTT, rdTy, rdLT, rdLeaf_int, rdLeaf_bool, rdLeaf_str, rdLeaf_row, Res.un, TT.un, Ty.un, LT.un, Leaf.un, rdRow_i1, rdRow_i2, rdRow_i3, rdRow_i4, rdRow_i5, rdRow_args, rdRow_res, rdRow_nil, Leaf.plain, LT.plain, List.isEmpty_cons, Bool.and_self, Bool.and_true, Bool.true_and, Bool.or_true, Bool.true_or, Bool.or_false, Bool.false_or, reserve0, rowSV_len, rowSV_cap, rowSV_tail, guardO_true, decide_true]
theorem lossOf_sum {e f a o : Int} (he : isAlc e = true) (hf : isAlc f = true) (ha : isAlc a = true) (ho : isAlc o = true) : e + (lossOf e f a o).2.2.2 = f + ((lossOf e f a o).1 + (lossOf e f a o).2.1 + (lossOf e f a o).2.2.1) ∧
    0 ≤ (lossOf e f a o).1 ∧ 0 ≤ (lossOf e f a o).2.1 ∧ 0 ≤ (lossOf e f a o).2.2.1 ∧ 0 ≤ (lossOf e f a o).2.2.2 ∧ (lossOf e f a o).1 + (lossOf e f a o).2.1 + (lossOf e f a o).2.2.1 ≤ 10737418240000 ∧ (lossOf e f a o).2.2.2 ≤ 10737418240000 := by
  rw [isAlc_iff] at he hf ha ho
  unfold lossOf
  split <;> simp only <;> omega
theorem turns_full : ∀ (l : List T5) (now : Int) (i : Nat), (turns now i l).2.2 = 0 → (turns now i l).1.length = l.length
  | [], _, _, _ => rfl
  | t :: l, now, i, h => by
    simp only [turns] at h ⊢
    split at h
    · rename_i he
      rw [if_pos he]
      simp only at h ⊢
      rw [if_pos h]
      simp [turns_full l _ _ h]
    · rename_i he
      exact absurd h he
theorem LossTurns_loop {start : Int} {l : List T5} (hl : l.length ≤ 20) (hs : isAlc start = true) (h : (turns start 0 l).2.2 = 0) (f : Bool) :
    ∃ x h', iter FUEL (spilelaw32_LossTurns.loop1 (rowSV f i5 l) (turns start 0 l).1) ((start, start, 0), H.empty) = some (.ex0 (x, x), h') := by
  obtain ⟨r, hr, hp⟩ := iter_inv (f := spilelaw32_LossTurns.loop1 (rowSV f i5 l) (turns start 0 l).1)
    (Inv := fun st => ∃ (i : Nat) (now : Int) (sl : List Slot), st = ((now, now, (i : Int)), hL sl) ∧ i ≤ l.length ∧ isAlc now = true ∧ (turns now i (l.drop i)).2.2 = 0 ∧ (turns start 0 l).1.drop i = (turns now i (l.drop i)).1)
    (Post := fun r => ∃ x h', r = (.ex0 (x, x), h')) (fun st => l.length - st.1.2.2.toNat) (fun st hi => by
      obtain ⟨i, now, sl, rfl, hi, hnow, ht, hd⟩ := hi
      have hfull := turns_full l start 0 h
      rcases Nat.lt_or_ge i l.length with hlt | hge
      · left
        have hx : l[i]? = some l[i] := List.getElem?_eq_getElem hlt
        rw [List.drop_eq_getElem_cons hlt] at ht hd
        simp only [turns] at ht hd
        split at ht
        · rename_i he
          rw [if_pos he] at hd
          simp only at ht hd
          rw [if_pos ht] at hd
          have hr : (turns start 0 l).1[i]? = some (turnOf now l[i]) := by
            have := congrArg (fun l => l[0]?) hd
            simpa using this
          have hd' : (turns start 0 l).1.drop (i + 1) = (turns l[i].2.2.1 (i + 1) (l.drop (i + 1))).1 := by
            have := congrArg (fun l => l.drop 1) hd
            simpa using this
          have ez := turnErr_zero he hnow
          obtain ⟨e1, e2, e3, e4, e5, e6⟩ := ez
          have hsum := lossOf_sum e4 e1 e2 e3
          refine ⟨((l[i].2.2.1, l[i].2.2.1, ((i + 1 : Nat) : Int)), hL (sl ++ [Slot.own [V.int .i64 l[i].1, V.int .i64 l[i].2.1, V.int .i64 l[i].2.2.1, V.int .i64 l[i].2.2.2.1, V.int .i64 l[i].2.2.2.2] 5])), ?_, ⟨i + 1, _, _, rfl, by omega, e1, ht, hd'⟩, by simp only [Int.toNat_natCast]; omega⟩
          clear hd hd' ht he
          have hrow : (sl ++ [Slot.own [V.int .i64 l[i].1, V.int .i64 l[i].2.1, V.int .i64 l[i].2.2.1, V.int .i64 l[i].2.2.2.1, V.int .i64 l[i].2.2.2.2] 5])[sl.length]? = some (Slot.own [V.int .i64 l[i].1, V.int .i64 l[i].2.1, V.int .i64 l[i].2.2.1, V.int .i64 l[i].2.2.2.1, V.int .i64 l[i].2.2.2.2] 5) := by simp
          unfold spilelaw32_LossTurns.loop1
          simp -implicitDefEqProofs only [rowSV_len, Int.toNat_natCast]
          rw [decide_eq_true (by omega), cond_true, guardO_pos (by omega), rds_rowF (ls := i5) (w := 5) rfl (by omega) rfl, hx]
          simp -implicitDefEqProofs only [Option.bind_some, hL_new, hL_next, reserve0, add_add]
          rw [newrow (g := 5) rfl rfl]
          simp -implicitDefEqProofs only [Option.bind_some, rd_own_cells (g := 5) hrow (o := 0) (l := .int .i64) (x := l[i].1) rfl rfl]
          rw [guardO_pos (by omega), guardO_pos (nn_row (by omega) (by simp)), rd_row (ls := i4) (w := 4) (o := 3) rfl (by omega), hr]
          simp -implicitDefEqProofs only [Option.bind_some, LT.lo, Leaf.lo, List.getElem?_cons_succ, List.getElem?_cons_zero, Leaf.pack, if_true, rd_own_cells (g := 5) hrow (o := 1) (l := .int .i64) (x := l[i].2.1) rfl rfl]
          rw [guardO_pos (by omega), rds_rowF (ls := i4) (w := 4) rfl (by omega) rfl, hr]
          simp -implicitDefEqProofs only [Option.bind_some, lost_ok, rd_own_cells (g := 5) hrow (o := 2) (l := .int .i64) (x := l[i].2.2.1) rfl rfl]
          unfold turnOf
          simp only [isAlc_iff] at *
          generalize lossOf (now + l[i].1 - l[i].2.1) l[i].2.2.1 l[i].2.2.2.1 l[i].2.2.2.2 = y at *
          rw [i64_in (y.1 + y.2.1) (by omega), i64_in (y.1 + y.2.1 + y.2.2.1) (by omega), i64_in (l[i].1 + y.2.2.2) (by omega), i64_in (l[i].1 + y.2.2.2 - l[i].2.1) (by omega), i64_in (l[i].1 + y.2.2.2 - l[i].2.1 - (y.1 + y.2.1 + y.2.2.1)) (by omega), i64_in (now + _) (by omega), i64_succ (by omega)]
          rw [show now + (l[i].1 + y.2.2.2 - l[i].2.1 - (y.1 + y.2.1 + y.2.2.1)) = l[i].2.2.1 by omega]
        · rename_i he
          exact absurd ht he
      · right
        have : i = l.length := by omega
        subst this
        refine ⟨_, ?_, now, hL sl, rfl⟩
        unfold spilelaw32_LossTurns.loop1
        simp -implicitDefEqProofs only [rowSV_len]
        rw [decide_eq_false (by omega), cond_false]) FUEL ((start, start, 0), H.empty) ⟨0, start, [], by rw [hL_empty]; rfl, Nat.zero_le _, hs, by simpa using h, by simp⟩ (fuel_gt (by
          show l.length - (0 : Int).toNat < 2 ^ 69
          omega))
  obtain ⟨x, h', rfl⟩ := hp
  exact ⟨x, h', hr⟩
theorem turns_at : ∀ (l : List T5) (now : Int) (i : Nat), (turns now i l).2.2 ≠ 0 → (i : Int) ≤ (turns now i l).2.1 ∧ (turns now i l).2.1 < (i : Int) + l.length ∧ (turns now i l).1 = []
  | [], _, _, h => by simp [turns] at h
  | t :: l, now, i, h => by
    simp only [turns] at h ⊢
    split
    · rename_i he
      rw [if_pos he] at h
      simp only at h ⊢
      obtain ⟨k1, k2, k3⟩ := turns_at l t.2.2.1 (i + 1) h
      refine ⟨by omega, by simp only [List.length_cons]; omega, by rw [if_neg h]⟩
    · simp only [List.length_cons]
      refine ⟨by omega, by omega, trivial⟩
theorem LossTurns_ok (start : Int) (l : List T5) : spilelaw32_LossTurnsP start l = some true := by
  unfold spilelaw32_LossTurnsP spilelaw32_LossTurns
  simp -implicitDefEqProofs only [awake32, Option.bind_some, Option.bind_none, Option.map_some, Option.map_none, cond_true, cond_false, Bool.not_true, Bool.not_false, if_true, if_false, reduceIte, rdRes, rdTT, rdTy, rdLT, rdLeaf_int, rdLeaf_bool, rdLeaf_str, rdLeaf_row, Res.un, TT.un, Ty.un, LT.un, Leaf.un, rdRow_i1, rdRow_i2, rdRow_i3, rdRow_i4, rdRow_i5, rdRow_args, rdRow_res, rdRow_nil, Leaf.plain, LT.plain, List.isEmpty_cons, Bool.and_self, Bool.and_true, Bool.true_and, Bool.or_true, Bool.true_or, Bool.or_false, Bool.false_or, reserve0, rowSV_len, rowSV_cap, rowSV_tail, guardO_true]
  by_cases h1 : 20 < l.length
  · rw [decide_eq_true (show (20 : Int) < (l.length : Int) by omega)]
    simp -implicitDefEqProofs only [Option.bind_some, Option.bind_none, Option.map_some, Option.map_none, cond_true, cond_false, Bool.not_true, Bool.not_false, if_true, if_false, reduceIte, rdRes, rdTT, rdTy, rdLT, rdLeaf_int, rdLeaf_bool, rdLeaf_str, rdLeaf_row, Res.un, TT.un, Ty.un, LT.un, Leaf.un, rdRow_i1, rdRow_i2, rdRow_i3, rdRow_i4, rdRow_i5, rdRow_args, rdRow_res, rdRow_nil, Leaf.plain, LT.plain, List.isEmpty_cons, Bool.and_self, Bool.and_true, Bool.true_and, Bool.or_true, Bool.true_or, Bool.or_false, Bool.false_or, reserve0, rowSV_len, rowSV_cap, rowSV_tail, guardO_true]
  · rw [decide_eq_false (show ¬ (20 : Int) < (l.length : Int) by omega)]
    simp -implicitDefEqProofs only [Option.bind_some, Option.bind_none, Option.map_some, Option.map_none, cond_true, cond_false, Bool.not_true, Bool.not_false, if_true, if_false, reduceIte, rdRes, rdTT, rdTy, rdLT, rdLeaf_int, rdLeaf_bool, rdLeaf_str, rdLeaf_row, Res.un, TT.un, Ty.un, LT.un, Leaf.un, rdRow_i1, rdRow_i2, rdRow_i3, rdRow_i4, rdRow_i5, rdRow_args, rdRow_res, rdRow_nil, Leaf.plain, LT.plain, List.isEmpty_cons, Bool.and_self, Bool.and_true, Bool.true_and, Bool.or_true, Bool.true_or, Bool.or_false, Bool.false_or, reserve0, rowSV_len, rowSV_cap, rowSV_tail, guardO_true]
    rw [clone_len (by omega) (by omega)]
    simp -implicitDefEqProofs only [Option.bind_some, Option.bind_none, Option.map_some, Option.map_none, cond_true, cond_false, Bool.not_true, Bool.not_false, if_true, if_false, reduceIte, rdRes, rdTT, rdTy, rdLT, rdLeaf_int, rdLeaf_bool, rdLeaf_str, rdLeaf_row, Res.un, TT.un, Ty.un, LT.un, Leaf.un, rdRow_i1, rdRow_i2, rdRow_i3, rdRow_i4, rdRow_i5, rdRow_args, rdRow_res, rdRow_nil, Leaf.plain, LT.plain, List.isEmpty_cons, Bool.and_self, Bool.and_true, Bool.true_and, Bool.or_true, Bool.true_or, Bool.or_false, Bool.false_or, reserve0, rowSV_len, rowSV_cap, rowSV_tail, guardO_true, Chain_ok]
    unfold chainOf
    rw [if_neg (by omega)]
    by_cases hs : isAlc start = true
    · rw [if_pos hs]
      by_cases he : (turns start 0 l).2.2 = 0
      · rw [decide_eq_true he]
        simp -implicitDefEqProofs only [Option.bind_some, Option.bind_none, Option.map_some, Option.map_none, cond_true, cond_false, Bool.not_true, Bool.not_false, if_true, if_false, reduceIte, rdRes, rdTT, rdTy, rdLT, rdLeaf_int, rdLeaf_bool, rdLeaf_str, rdLeaf_row, Res.un, TT.un, Ty.un, LT.un, Leaf.un, rdRow_i1, rdRow_i2, rdRow_i3, rdRow_i4, rdRow_i5, rdRow_args, rdRow_res, rdRow_nil, Leaf.plain, LT.plain, List.isEmpty_cons, Bool.and_self, Bool.and_true, Bool.true_and, Bool.or_true, Bool.true_or, Bool.or_false, Bool.false_or, reserve0, rowSV_len, rowSV_cap, rowSV_tail, guardO_true]
        rw [turns_full l start 0 he, turns_end l start 0 he]
        simp -implicitDefEqProofs only [Option.bind_some, Option.bind_none, Option.map_some, Option.map_none, cond_true, cond_false, Bool.not_true, Bool.not_false, if_true, if_false, reduceIte, rdRes, rdTT, rdTy, rdLT, rdLeaf_int, rdLeaf_bool, rdLeaf_str, rdLeaf_row, Res.un, TT.un, Ty.un, LT.un, Leaf.un, rdRow_i1, rdRow_i2, rdRow_i3, rdRow_i4, rdRow_i5, rdRow_args, rdRow_res, rdRow_nil, Leaf.plain, LT.plain, List.isEmpty_cons, Bool.and_self, Bool.and_true, Bool.true_and, Bool.or_true, Bool.true_or, Bool.or_false, Bool.false_or, reserve0, rowSV_len, rowSV_cap, rowSV_tail, guardO_true, decide_true]
        obtain ⟨x, h', hx⟩ := LossTurns_loop (by omega) hs he false
        rw [hx]
        simp -implicitDefEqProofs only [Option.bind_some, Option.bind_none, Option.map_some, Option.map_none, cond_true, cond_false, Bool.not_true, Bool.not_false, if_true, if_false, reduceIte, rdRes, rdTT, rdTy, rdLT, rdLeaf_int, rdLeaf_bool, rdLeaf_str, rdLeaf_row, Res.un, TT.un, Ty.un, LT.un, Leaf.un, rdRow_i1, rdRow_i2, rdRow_i3, rdRow_i4, rdRow_i5, rdRow_args, rdRow_res, rdRow_nil, Leaf.plain, LT.plain, List.isEmpty_cons, Bool.and_self, Bool.and_true, Bool.true_and, Bool.or_true, Bool.true_or, Bool.or_false, Bool.false_or, reserve0, rowSV_len, rowSV_cap, rowSV_tail, guardO_true, decide_true]
      · obtain ⟨k1, k2, k3⟩ := turns_at l start 0 he
        rw [decide_eq_false he, k3, decide_eq_true (show (-1 : Int) ≤ (turns start 0 l).2.1 by omega), decide_eq_true (show (turns start 0 l).2.1 < (l.length : Int) by omega)]
        simp -implicitDefEqProofs only [Option.bind_some, Option.bind_none, Option.map_some, Option.map_none, cond_true, cond_false, Bool.not_true, Bool.not_false, if_true, if_false, reduceIte, rdRes, rdTT, rdTy, rdLT, rdLeaf_int, rdLeaf_bool, rdLeaf_str, rdLeaf_row, Res.un, TT.un, Ty.un, LT.un, Leaf.un, rdRow_i1, rdRow_i2, rdRow_i3, rdRow_i4, rdRow_i5, rdRow_args, rdRow_res, rdRow_nil, Leaf.plain, LT.plain, List.isEmpty_cons, Bool.and_self, Bool.and_true, Bool.true_and, Bool.or_true, Bool.true_or, Bool.or_false, Bool.false_or, reserve0, rowSV_len, rowSV_cap, rowSV_tail, guardO_true, List.length_nil]
        rfl
    · rw [if_neg hs]
      simp -implicitDefEqProofs only [Option.bind_some, Option.bind_none, Option.map_some, Option.map_none, cond_true, cond_false, Bool.not_true, Bool.not_false, if_true, if_false, reduceIte, rdRes, rdTT, rdTy, rdLT, rdLeaf_int, rdLeaf_bool, rdLeaf_str, rdLeaf_row, Res.un, TT.un, Ty.un, LT.un, Leaf.un, rdRow_i1, rdRow_i2, rdRow_i3, rdRow_i4, rdRow_i5, rdRow_args, rdRow_res, rdRow_nil, Leaf.plain, LT.plain, List.isEmpty_cons, Bool.and_self, Bool.and_true, Bool.true_and, Bool.or_true, Bool.true_or, Bool.or_false, Bool.false_or, reserve0, rowSV_len, rowSV_cap, rowSV_tail, guardO_true, List.length_nil]
      rw [decide_eq_true (show (-1 : Int) < (l.length : Int) by omega)]
      rfl
end Go.Proofs.Ytadlfinlbaogeaa
