/- What Divide of package mix computes. Conditions: those of each law. -/
import Derived.Test.YtaepkinihaipkaaM21a
import Derived.Test.YtaepkinihaipkaaP01a
namespace Go.Proofs.Ytaepkinihaipkaa
open Go Go.Proofs.Ytaepkinihaipkaa.Ev
set_option linter.unusedVariables false
set_option linter.unusedSimpArgs false
set_option maxRecDepth 100000
set_option maxHeartbeats 4000000
theorem splice_mid (A L B vs : List V) (o : Nat) (h : o + vs.length ≤ L.length) : splice (A ++ L ++ B) (A.length + o) vs = A ++ splice L o vs ++ B := by
  unfold splice
  rw [List.append_assoc A L B, List.take_append, List.take_of_length_le (l := A) (by omega), List.drop_append, List.drop_eq_nil_of_le (show A.length ≤ A.length + o + vs.length by omega), Nat.add_sub_cancel_left,
    show A.length + o + vs.length - A.length = o + vs.length by omega, List.take_append_of_le_length (by omega), List.drop_append_of_le_length (by omega)]
  simp
/-- A part of an element is written. -/
theorem wrs_part {ls : List Leaf} {xs : List (LT ls)} {sl : List Slot} {id e n i w o : Nat} {x y : LT ls} {vs : List V} (hs : sl[id]? = some (.own (cellsL ls xs) e)) (hn : xs.length * ls.length = n) (hw : ls.length = w) (hx : xs[i]? = some x) (ho : o + vs.length ≤ w) (hv : splice (LT.lo true ls x) o vs = LT.lo true ls y) :
    H.wrs (hL sl) (.hp id n (i * w + o)) vs = some (hL (sl.set id (.own (cellsL ls (xs.set i y)) e))) := by
  subst hw
  obtain ⟨hi, hx'⟩ := List.getElem?_eq_some_iff.1 hx
  rw [wrs_own (cs := cellsL ls xs) hs (by rw [flat_length, hn]) (by
    have := Nat.mul_le_mul_right ls.length (show i + 1 ≤ xs.length from hi)
    rw [Nat.succ_mul] at this
    omega)]
  have h1 : cellsL ls xs = cellsL ls (xs.take i) ++ LT.lo true ls x ++ cellsL ls (xs.drop (i + 1)) := by
    have := congrArg (cellsL ls) (List.take_append_drop i xs)
    rw [List.drop_eq_getElem_cons hi, hx'] at this
    unfold cellsL at *
    rw [List.flatMap_append, List.flatMap_cons] at this
    rw [← this, List.append_assoc]
  have h2 : (cellsL ls (xs.take i)).length = i * ls.length := by rw [flat_length, List.length_take, Nat.min_eq_left (by omega)]
  have h3 : cellsL ls (xs.set i y) = cellsL ls (xs.take i) ++ LT.lo true ls y ++ cellsL ls (xs.drop (i + 1)) := by
    rw [List.set_eq_take_append_cons_drop, if_pos hi]
    unfold cellsL
    rw [List.flatMap_append, List.flatMap_cons, List.append_assoc]
  rw [h1, ← h2, splice_mid _ _ _ _ _ (by rw [LT.lo_length]; omega), hv, h3]
abbrev j2 : List Leaf := [.int .i64, .int .i64]
def fillM (al ps : List Int) (n k : Nat) : List (Int × Int) := (List.range n).map fun j : Nat => if j < k then (g al j, g ps j) else (0, 0)
theorem fillM_length {al ps : List Int} {n k : Nat} : (fillM al ps n k).length = n := by simp [fillM]
theorem fillM_get {al ps : List Int} {n k j : Nat} (h : j < n) : (fillM al ps n k)[j]? = some (if j < k then (g al j, g ps j) else (0, 0)) := by simp [fillM, h]
theorem fillM_succ {al ps : List Int} {n k : Nat} (h : k < n) : (fillM al ps n k).set k (g al k, g ps k) = fillM al ps n (k + 1) := by
  refine List.ext_getElem? fun j => ?_
  rw [List.getElem?_set]
  by_cases hj : j < n
  · rw [fillM_get hj, fillM_get hj, fillM_length]
    by_cases e : k = j
    · subst e; rw [if_pos rfl, if_pos h, if_pos (by omega)]
    · rw [if_neg e]
      by_cases hk : j < k
      · rw [if_pos hk, if_pos (by omega)]
      · rw [if_neg hk, if_neg (by omega)]
  · rw [if_neg (by omega), List.getElem?_eq_none (by rw [fillM_length]; omega), List.getElem?_eq_none (by rw [fillM_length]; omega)]
theorem fillM_zero {al ps : List Int} {n : Nat} : fillM al ps n 0 = List.replicate n (0, 0) := by
  refine List.ext_getElem? fun j => ?_
  by_cases hj : j < n
  · rw [fillM_get hj, List.getElem?_replicate, if_pos hj, if_neg (by omega)]
  · rw [List.getElem?_eq_none (by rw [fillM_length]; omega), List.getElem?_eq_none (by simp; omega)]
theorem repeat_zero2 (n : Nat) : repeatCells [.int .i64 0, .int .i64 0] n = cellsL j2 (List.replicate n ((0, 0) : Int × Int)) := by
  induction n with
  | zero => rfl
  | succ n ih =>
    simp only [repeatCells, ih, List.replicate_succ, cellsL, List.flatMap_cons]
    rfl
theorem mixdiv_loop {al ps : List Int} {n : Nat} {e : Int} {x : Int × Int} (hp : ps.length = n) (hn : n ≤ 64) (he : (e = 0 ∧ al.length = n) ∨ (e ≠ 0 ∧ al = [])) :
    iter FUEL (mix_Divide.loop1 (hL [Slot.own [V.int .i64 x.1, V.int .i64 x.2] 2]) ps al e) (0, hL [Slot.own [V.int .i64 x.1, V.int .i64 x.2] 2, .own (cellsL j2 (fillM al ps n 0)) 2]) = some (.ex0 (), hL [Slot.own [V.int .i64 x.1, V.int .i64 x.2] 2, .own (cellsL j2 (fillM al ps n n)) 2]) := by
  refine (iter_from (f := mix_Divide.loop1 (hL [Slot.own [V.int .i64 x.1, V.int .i64 x.2] 2]) ps al e) (fun i => ((i : Int), hL [Slot.own [V.int .i64 x.1, V.int .i64 x.2] 2, .own (cellsL j2 (fillM al ps n i)) 2])) rfl n FUEL (fun i hi => ?_) ?_ (fuel_gt (by omega)))
  · have hlp := g_some (xs := ps) (k := i) (by omega)
    have w1 := wrs_part (ls := j2) (xs := fillM al ps n i) (sl := [Slot.own [V.int .i64 x.1, V.int .i64 x.2] 2, .own (cellsL j2 (fillM al ps n i)) 2]) (id := 1) (i := i) (o := 1) (w := 2) (n := n * 2) (x := (0, 0)) (y := (0, g ps i)) (e := 2) (vs := [.int .i64 (g ps i)]) rfl (by rw [fillM_length]; rfl) rfl (by rw [fillM_get hi, if_neg (by omega)]) (by simp) rfl
    have hx2 : ((fillM al ps n i).set i (0, g ps i))[i]? = some (0, g ps i) := by rw [List.getElem?_set, if_pos rfl, fillM_length, if_pos hi]
    have w2 := wrs_part (ls := j2) (xs := (fillM al ps n i).set i (0, g ps i)) (sl := [Slot.own [V.int .i64 x.1, V.int .i64 x.2] 2, .own (cellsL j2 ((fillM al ps n i).set i (0, g ps i))) 2]) (id := 1) (i := i) (o := 0) (w := 2) (n := n * 2) (x := (0, g ps i)) (y := (g al i, g ps i)) (e := 2) (vs := [.int .i64 (g al i)]) rfl (by rw [List.length_set, fillM_length]; rfl) rfl hx2 (by simp) rfl
    rw [List.set_set, fillM_succ hi] at w2
    unfold mix_Divide.loop1
    simp -implicitDefEqProofs only [Int.toNat_natCast, rd_rowI, hlp, hL_next, List.length_cons, List.length_nil, Nat.zero_add, Nat.add_zero, hp]
    simp only [Nat.zero_add, Nat.add_zero, List.set_cons_succ, List.set_cons_zero] at w1 w2
    have hg1 : 0 ≤ (i : Int) ∧ (i : Int) < (n : Int) := by omega
    rw [decide_eq_true hg1.2, cond_true]
    simp -implicitDefEqProofs only [guardO_pos hg1, Option.bind_some]
    rw [w1]
    simp -implicitDefEqProofs only [Option.bind_some]
    rcases he with ⟨rfl, hl⟩ | ⟨he, rfl⟩
    · have hla := g_some (xs := al) (k := i) (by omega)
      simp -implicitDefEqProofs only [eq_self, decide_true, cond_true, hla, hl, guardO_pos hg1, Option.bind_some]
      rw [w2]
      simp -implicitDefEqProofs only [Option.bind_some]
      rw [i64_succ (by omega)]
    · rw [decide_eq_false he]
      simp -implicitDefEqProofs only [cond_false, Option.bind_some]
      rw [i64_succ (by omega)]
      rw [← fillM_succ hi]
      rfl
  · unfold mix_Divide.loop1
    simp -implicitDefEqProofs only [hp]
    rw [decide_eq_false (by omega), cond_false]
def mixDivOf (x : Int × Int) (ws : List Int) : List (Int × Int) × Int :=
  if isPlain x = true then (if (weighOf x.2 ws).2 = 0 then (fillM (divideOf x.1 (divParts x.2 (weighOf x.2 ws).1 ws)).1 (divParts x.2 (weighOf x.2 ws).1 ws) ws.length ws.length, 0) else ([], (weighOf x.2 ws).2)) else ([], 1)
theorem divideOf_cases (a : Int) (ws : List Int) : ((divideOf a ws).2 = 0 ∧ (divideOf a ws).1.length = ws.length) ∨ ((divideOf a ws).2 ≠ 0 ∧ (divideOf a ws).1 = []) := by
  unfold divideOf
  by_cases h : (weighOf a ws).2 = 0
  · rw [if_pos h]; exact .inl ⟨rfl, divParts_length⟩
  · rw [if_neg h]; exact .inr ⟨h, rfl⟩
theorem MDivide_ok (x : Int × Int) (ws : List Int) (hl : ws.length < 2 ^ 63) : mix_DivideP x ws = some (mixDivOf x ws) := by
  obtain ⟨a, v⟩ := x
  unfold mix_DivideP mix_Divide mixDivOf
  simp -implicitDefEqProofs only [Option.bind_some, Option.bind_none, Option.map_some, Option.map_none, cond_true, cond_false, Bool.not_true, Bool.not_false, if_true, if_false, reduceIte, rdRes, rdTT, rdTy, rdLT, rdLeaf_int, rdLeaf_bool, rdLeaf_str, rdLeaf_row, Res.un, TT.un, Ty.un, LT.un, Leaf.un, rdRow_i1, rdRow_i2, rdRow_i3, rdRow_i4, rdRow_i5, rdRow_args, rdRow_res, rdRow_nil, Leaf.plain, LT.plain, List.isEmpty_cons, Bool.and_self, Bool.and_true, Bool.true_and, Bool.or_true, Bool.true_or, Bool.or_false, Bool.false_or, reserve0, rowSV_len, rowSV_cap, rowSV_tail, guardO_true, hL_empty, hL_new, hL_next, hL_put, hL_reserve, List.replicate, rd_hp, rds_hp, wrs_hp, hL_m, List.nil_append, List.cons_append, List.append_nil, List.getElem?_cons_zero, List.getElem?_cons_succ, Option.getD_some, List.length_cons, List.length_nil, List.length_append, splice, List.take_zero, List.take_succ_cons, List.take_nil, List.drop_zero, List.drop_succ_cons, List.drop_nil, List.set_cons_zero, List.set_cons_succ, LT.pack, Leaf.pack, Nat.reduceAdd, Nat.reduceSub, Nat.reduceLeDiff, Nat.reduceLT, Nat.reduceEqDiff, Nat.zero_add, Nat.add_zero, Nat.zero_le, Nat.le_refl, and_self, and_true, true_and, Nat.lt_add_one, Nat.zero_lt_succ, ne_eq, not_false_eq_true, Nat.succ_ne_zero, List.flatMap_cons, List.flatMap_nil, LT.lo, Leaf.lo]
  rw [plain_ok]
  simp -implicitDefEqProofs only [Option.bind_some, Option.bind_none, Option.map_some, Option.map_none, cond_true, cond_false, Bool.not_true, Bool.not_false, if_true, if_false, reduceIte, rdRes, rdTT, rdTy, rdLT, rdLeaf_int, rdLeaf_bool, rdLeaf_str, rdLeaf_row, Res.un, TT.un, Ty.un, LT.un, Leaf.un, rdRow_i1, rdRow_i2, rdRow_i3, rdRow_i4, rdRow_i5, rdRow_args, rdRow_res, rdRow_nil, Leaf.plain, LT.plain, List.isEmpty_cons, Bool.and_self, Bool.and_true, Bool.true_and, Bool.or_true, Bool.true_or, Bool.or_false, Bool.false_or, reserve0, rowSV_len, rowSV_cap, rowSV_tail, guardO_true, hL_empty, hL_new, hL_next, hL_put, hL_reserve, List.replicate, rd_hp, rds_hp, wrs_hp, hL_m, List.nil_append, List.cons_append, List.append_nil, List.getElem?_cons_zero, List.getElem?_cons_succ, Option.getD_some, List.length_cons, List.length_nil, List.length_append, splice, List.take_zero, List.take_succ_cons, List.take_nil, List.drop_zero, List.drop_succ_cons, List.drop_nil, List.set_cons_zero, List.set_cons_succ, LT.pack, Leaf.pack, Nat.reduceAdd, Nat.reduceSub, Nat.reduceLeDiff, Nat.reduceLT, Nat.reduceEqDiff, Nat.zero_add, Nat.add_zero, Nat.zero_le, Nat.le_refl, and_self, and_true, true_and, Nat.lt_add_one, Nat.zero_lt_succ, ne_eq, not_false_eq_true, Nat.succ_ne_zero, List.flatMap_cons, List.flatMap_nil, LT.lo, Leaf.lo]
  cases h : isPlain (a, v) with
  | false => simp -implicitDefEqProofs only [Option.bind_some, Option.bind_none, Option.map_some, Option.map_none, cond_true, cond_false, Bool.not_true, Bool.not_false, if_true, if_false, reduceIte, rdRes, rdTT, rdTy, rdLT, rdLeaf_int, rdLeaf_bool, rdLeaf_str, rdLeaf_row, Res.un, TT.un, Ty.un, LT.un, Leaf.un, rdRow_i1, rdRow_i2, rdRow_i3, rdRow_i4, rdRow_i5, rdRow_args, rdRow_res, rdRow_nil, Leaf.plain, LT.plain, List.isEmpty_cons, Bool.and_self, Bool.and_true, Bool.true_and, Bool.or_true, Bool.true_or, Bool.or_false, Bool.false_or, reserve0, rowSV_len, rowSV_cap, rowSV_tail, guardO_true, hL_empty, hL_new, hL_next, hL_put, hL_reserve, List.replicate, rd_hp, rds_hp, wrs_hp, hL_m, List.nil_append, List.cons_append, List.append_nil, List.getElem?_cons_zero, List.getElem?_cons_succ, Option.getD_some, List.length_cons, List.length_nil, List.length_append, splice, List.take_zero, List.take_succ_cons, List.take_nil, List.drop_zero, List.drop_succ_cons, List.drop_nil, List.set_cons_zero, List.set_cons_succ, LT.pack, Leaf.pack, Nat.reduceAdd, Nat.reduceSub, Nat.reduceLeDiff, Nat.reduceLT, Nat.reduceEqDiff, Nat.zero_add, Nat.add_zero, Nat.zero_le, Nat.le_refl, and_self, and_true, true_and, Nat.lt_add_one, Nat.zero_lt_succ, ne_eq, not_false_eq_true, Nat.succ_ne_zero, List.flatMap_cons, List.flatMap_nil, LT.lo, Leaf.lo]; rfl
  | true =>
    simp -implicitDefEqProofs only [Option.bind_some, Option.bind_none, Option.map_some, Option.map_none, cond_true, cond_false, Bool.not_true, Bool.not_false, if_true, if_false, reduceIte, rdRes, rdTT, rdTy, rdLT, rdLeaf_int, rdLeaf_bool, rdLeaf_str, rdLeaf_row, Res.un, TT.un, Ty.un, LT.un, Leaf.un, rdRow_i1, rdRow_i2, rdRow_i3, rdRow_i4, rdRow_i5, rdRow_args, rdRow_res, rdRow_nil, Leaf.plain, LT.plain, List.isEmpty_cons, Bool.and_self, Bool.and_true, Bool.true_and, Bool.or_true, Bool.true_or, Bool.or_false, Bool.false_or, reserve0, rowSV_len, rowSV_cap, rowSV_tail, guardO_true, hL_empty, hL_new, hL_next, hL_put, hL_reserve, List.replicate, rd_hp, rds_hp, wrs_hp, hL_m, List.nil_append, List.cons_append, List.append_nil, List.getElem?_cons_zero, List.getElem?_cons_succ, Option.getD_some, List.length_cons, List.length_nil, List.length_append, splice, List.take_zero, List.take_succ_cons, List.take_nil, List.drop_zero, List.drop_succ_cons, List.drop_nil, List.set_cons_zero, List.set_cons_succ, LT.pack, Leaf.pack, Nat.reduceAdd, Nat.reduceSub, Nat.reduceLeDiff, Nat.reduceLT, Nat.reduceEqDiff, Nat.zero_add, Nat.add_zero, Nat.zero_le, Nat.le_refl, and_self, and_true, true_and, Nat.lt_add_one, Nat.zero_lt_succ, ne_eq, not_false_eq_true, Nat.succ_ne_zero, List.flatMap_cons, List.flatMap_nil, LT.lo, Leaf.lo]
    rw [Divide_ok v ws hl, divideOf]
    by_cases he : (weighOf v ws).2 = 0
    · obtain ⟨ha, h0, h64, hall, hSa, hne, h1⟩ := weighOf_ok he
      rw [if_pos he, if_pos he]
      simp -implicitDefEqProofs only [Option.bind_some, Option.bind_none, Option.map_some, Option.map_none, cond_true, cond_false, Bool.not_true, Bool.not_false, if_true, if_false, reduceIte, rdRes, rdTT, rdTy, rdLT, rdLeaf_int, rdLeaf_bool, rdLeaf_str, rdLeaf_row, Res.un, TT.un, Ty.un, LT.un, Leaf.un, rdRow_i1, rdRow_i2, rdRow_i3, rdRow_i4, rdRow_i5, rdRow_args, rdRow_res, rdRow_nil, Leaf.plain, LT.plain, List.isEmpty_cons, Bool.and_self, Bool.and_true, Bool.true_and, Bool.or_true, Bool.true_or, Bool.or_false, Bool.false_or, reserve0, rowSV_len, rowSV_cap, rowSV_tail, guardO_true, hL_empty, hL_new, hL_next, hL_put, hL_reserve, List.replicate, rd_hp, rds_hp, wrs_hp, hL_m, List.nil_append, List.cons_append, List.append_nil, List.getElem?_cons_zero, List.getElem?_cons_succ, Option.getD_some, List.length_cons, List.length_nil, List.length_append, splice, List.take_zero, List.take_succ_cons, List.take_nil, List.drop_zero, List.drop_succ_cons, List.drop_nil, List.set_cons_zero, List.set_cons_succ, LT.pack, Leaf.pack, Nat.reduceAdd, Nat.reduceSub, Nat.reduceLeDiff, Nat.reduceLT, Nat.reduceEqDiff, Nat.zero_add, Nat.add_zero, Nat.zero_le, Nat.le_refl, and_self, and_true, true_and, Nat.lt_add_one, Nat.zero_lt_succ, ne_eq, not_false_eq_true, Nat.succ_ne_zero, List.flatMap_cons, List.flatMap_nil, LT.lo, Leaf.lo, eq_self, decide_true, divParts_length]
      rw [guardO_pos (by unfold roomCells; omega)]
      have hpl := divParts_length (a := v) (S := (weighOf v ws).1) (ws := ws)
      generalize divParts v (weighOf v ws).1 ws = ps at *
      simp -implicitDefEqProofs only [Option.bind_some, Option.bind_none, Option.map_some, Option.map_none, cond_true, cond_false, Bool.not_true, Bool.not_false, if_true, if_false, reduceIte, rdRes, rdTT, rdTy, rdLT, rdLeaf_int, rdLeaf_bool, rdLeaf_str, rdLeaf_row, Res.un, TT.un, Ty.un, LT.un, Leaf.un, rdRow_i1, rdRow_i2, rdRow_i3, rdRow_i4, rdRow_i5, rdRow_args, rdRow_res, rdRow_nil, Leaf.plain, LT.plain, List.isEmpty_cons, Bool.and_self, Bool.and_true, Bool.true_and, Bool.or_true, Bool.true_or, Bool.or_false, Bool.false_or, reserve0, rowSV_len, rowSV_cap, rowSV_tail, guardO_true, hL_empty, hL_new, hL_next, hL_put, hL_reserve, List.replicate, rd_hp, rds_hp, wrs_hp, hL_m, List.nil_append, List.cons_append, List.append_nil, List.getElem?_cons_zero, List.getElem?_cons_succ, Option.getD_some, List.length_cons, List.length_nil, List.length_append, splice, List.take_zero, List.take_succ_cons, List.take_nil, List.drop_zero, List.drop_succ_cons, List.drop_nil, List.set_cons_zero, List.set_cons_succ, LT.pack, Leaf.pack, Nat.reduceAdd, Nat.reduceSub, Nat.reduceLeDiff, Nat.reduceLT, Nat.reduceEqDiff, Nat.zero_add, Nat.add_zero, Nat.zero_le, Nat.le_refl, and_self, and_true, true_and, Nat.lt_add_one, Nat.zero_lt_succ, ne_eq, not_false_eq_true, Nat.succ_ne_zero, List.flatMap_cons, List.flatMap_nil, LT.lo, Leaf.lo, Int.toNat_natCast]
      rw [Divide_ok a ps (by omega)]
      simp -implicitDefEqProofs only [Option.bind_some, Option.bind_none, Option.map_some, Option.map_none, cond_true, cond_false, Bool.not_true, Bool.not_false, if_true, if_false, reduceIte, rdRes, rdTT, rdTy, rdLT, rdLeaf_int, rdLeaf_bool, rdLeaf_str, rdLeaf_row, Res.un, TT.un, Ty.un, LT.un, Leaf.un, rdRow_i1, rdRow_i2, rdRow_i3, rdRow_i4, rdRow_i5, rdRow_args, rdRow_res, rdRow_nil, Leaf.plain, LT.plain, List.isEmpty_cons, Bool.and_self, Bool.and_true, Bool.true_and, Bool.or_true, Bool.true_or, Bool.or_false, Bool.false_or, reserve0, rowSV_len, rowSV_cap, rowSV_tail, guardO_true, hL_empty, hL_new, hL_next, hL_put, hL_reserve, List.replicate, rd_hp, rds_hp, wrs_hp, hL_m, List.nil_append, List.cons_append, List.append_nil, List.getElem?_cons_zero, List.getElem?_cons_succ, Option.getD_some, List.length_cons, List.length_nil, List.length_append, splice, List.take_zero, List.take_succ_cons, List.take_nil, List.drop_zero, List.drop_succ_cons, List.drop_nil, List.set_cons_zero, List.set_cons_succ, LT.pack, Leaf.pack, Nat.reduceAdd, Nat.reduceSub, Nat.reduceLeDiff, Nat.reduceLT, Nat.reduceEqDiff, Nat.zero_add, Nat.add_zero, Nat.zero_le, Nat.le_refl, and_self, and_true, true_and, Nat.lt_add_one, Nat.zero_lt_succ, ne_eq, not_false_eq_true, Nat.succ_ne_zero, List.flatMap_cons, List.flatMap_nil, LT.lo, Leaf.lo]
      have hc := divideOf_cases a ps
      rw [hpl] at hc
      have hloop := mixdiv_loop (x := (a, v)) (ps := ps) (n := ws.length) hpl h64 hc
      rw [fillM_zero, ← repeat_zero2] at hloop
      simp only at hloop
      rw [hloop]
      simp -implicitDefEqProofs only [Option.bind_some, Option.bind_none, Option.map_some, Option.map_none, cond_true, cond_false, Bool.not_true, Bool.not_false, if_true, if_false, reduceIte, rdRes, rdTT, rdTy, rdLT, rdLeaf_int, rdLeaf_bool, rdLeaf_str, rdLeaf_row, Res.un, TT.un, Ty.un, LT.un, Leaf.un, rdRow_i1, rdRow_i2, rdRow_i3, rdRow_i4, rdRow_i5, rdRow_args, rdRow_res, rdRow_nil, Leaf.plain, LT.plain, List.isEmpty_cons, Bool.and_self, Bool.and_true, Bool.true_and, Bool.or_true, Bool.true_or, Bool.or_false, Bool.false_or, reserve0, rowSV_len, rowSV_cap, rowSV_tail, guardO_true, hL_empty, hL_new, hL_next, hL_put, hL_reserve, List.replicate, rd_hp, rds_hp, wrs_hp, hL_m, List.nil_append, List.cons_append, List.append_nil, List.getElem?_cons_zero, List.getElem?_cons_succ, Option.getD_some, List.length_cons, List.length_nil, List.length_append, splice, List.take_zero, List.take_succ_cons, List.take_nil, List.drop_zero, List.drop_succ_cons, List.drop_nil, List.set_cons_zero, List.set_cons_succ, LT.pack, Leaf.pack, Nat.reduceAdd, Nat.reduceSub, Nat.reduceLeDiff, Nat.reduceLT, Nat.reduceEqDiff, Nat.zero_add, Nat.add_zero, Nat.zero_le, Nat.le_refl, and_self, and_true, true_and, Nat.lt_add_one, Nat.zero_lt_succ, ne_eq, not_false_eq_true, Nat.succ_ne_zero, List.flatMap_cons, List.flatMap_nil, LT.lo, Leaf.lo]
      have hread := rdRow_own (lp := false) (ls := j2) (xs := fillM (divideOf a ps).1 ps ws.length ws.length) (sl := [Slot.own [V.int .i64 a, V.int .i64 v] 2, .own (cellsL j2 (fillM (divideOf a ps).1 ps ws.length ws.length)) 2]) (id := 1) (e := 2) (n := ws.length * 2) (c := ws.length) (t := true) rfl (by rw [fillM_length]; rfl) rfl
      rw [fillM_length] at hread
      rw [hread]
      rfl
    · rw [if_neg he, if_neg he]
      simp -implicitDefEqProofs only [Option.bind_some, Option.bind_none, Option.map_some, Option.map_none, cond_true, cond_false, Bool.not_true, Bool.not_false, if_true, if_false, reduceIte, rdRes, rdTT, rdTy, rdLT, rdLeaf_int, rdLeaf_bool, rdLeaf_str, rdLeaf_row, Res.un, TT.un, Ty.un, LT.un, Leaf.un, rdRow_i1, rdRow_i2, rdRow_i3, rdRow_i4, rdRow_i5, rdRow_args, rdRow_res, rdRow_nil, Leaf.plain, LT.plain, List.isEmpty_cons, Bool.and_self, Bool.and_true, Bool.true_and, Bool.or_true, Bool.true_or, Bool.or_false, Bool.false_or, reserve0, rowSV_len, rowSV_cap, rowSV_tail, guardO_true, hL_empty, hL_new, hL_next, hL_put, hL_reserve, List.replicate, rd_hp, rds_hp, wrs_hp, hL_m, List.nil_append, List.cons_append, List.append_nil, List.getElem?_cons_zero, List.getElem?_cons_succ, Option.getD_some, List.length_cons, List.length_nil, List.length_append, splice, List.take_zero, List.take_succ_cons, List.take_nil, List.drop_zero, List.drop_succ_cons, List.drop_nil, List.set_cons_zero, List.set_cons_succ, LT.pack, Leaf.pack, Nat.reduceAdd, Nat.reduceSub, Nat.reduceLeDiff, Nat.reduceLT, Nat.reduceEqDiff, Nat.zero_add, Nat.add_zero, Nat.zero_le, Nat.le_refl, and_self, and_true, true_and, Nat.lt_add_one, Nat.zero_lt_succ, ne_eq, not_false_eq_true, Nat.succ_ne_zero, List.flatMap_cons, List.flatMap_nil, LT.lo, Leaf.lo]
      rw [decide_eq_false he]
      simp -implicitDefEqProofs only [Option.bind_some, Option.bind_none, Option.map_some, Option.map_none, cond_true, cond_false, Bool.not_true, Bool.not_false, if_true, if_false, reduceIte, rdRes, rdTT, rdTy, rdLT, rdLeaf_int, rdLeaf_bool, rdLeaf_str, rdLeaf_row, Res.un, TT.un, Ty.un, LT.un, Leaf.un, rdRow_i1, rdRow_i2, rdRow_i3, rdRow_i4, rdRow_i5, rdRow_args, rdRow_res, rdRow_nil, Leaf.plain, LT.plain, List.isEmpty_cons, Bool.and_self, Bool.and_true, Bool.true_and, Bool.or_true, Bool.true_or, Bool.or_false, Bool.false_or, reserve0, rowSV_len, rowSV_cap, rowSV_tail, guardO_true, hL_empty, hL_new, hL_next, hL_put, hL_reserve, List.replicate, rd_hp, rds_hp, wrs_hp, hL_m, List.nil_append, List.cons_append, List.append_nil, List.getElem?_cons_zero, List.getElem?_cons_succ, Option.getD_some, List.length_cons, List.length_nil, List.length_append, splice, List.take_zero, List.take_succ_cons, List.take_nil, List.drop_zero, List.drop_succ_cons, List.drop_nil, List.set_cons_zero, List.set_cons_succ, LT.pack, Leaf.pack, Nat.reduceAdd, Nat.reduceSub, Nat.reduceLeDiff, Nat.reduceLT, Nat.reduceEqDiff, Nat.zero_add, Nat.add_zero, Nat.zero_le, Nat.le_refl, and_self, and_true, true_and, Nat.lt_add_one, Nat.zero_lt_succ, ne_eq, not_false_eq_true, Nat.succ_ne_zero, List.flatMap_cons, List.flatMap_nil, LT.lo, Leaf.lo]
end Go.Proofs.Ytaepkinihaipkaa
