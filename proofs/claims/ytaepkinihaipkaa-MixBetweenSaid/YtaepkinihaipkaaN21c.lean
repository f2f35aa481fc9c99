/- What density.Check computes. Conditions: those of each law. -/
import Derived.Test.YtaepkinihaipkaaN21b
namespace Go.Proofs.Ytaepkinihaipkaa
open Go Go.Proofs.Ytaepkinihaipkaa.Ev
set_option linter.unusedVariables false
set_option linter.unusedSimpArgs false
set_option maxRecDepth 100000
set_option maxHeartbeats 4000000
def firstBad (xs : List (Int × Int)) : Option Nat := (List.range xs.length).find? fun i => !decide (faultOf xs i = 0)
def checkOf (xs : List (Int × Int)) : Int × Int :=
  if 128 < xs.length then (-1, 8) else if xs.length < 2 then (-1, 9) else
    match firstBad xs with
    | some i => ((i : Int), faultOf xs i)
    | none => if (q2 xs 0).1 ≠ 0 then (0, 10) else if (q2 xs (xs.length - 1)).1 ≠ 10000 then (((xs.length - 1 : Nat) : Int), 10) else (-1, 0)
theorem check_loop {xs : List (Int × Int)} (hl : xs.length ≤ 128) : iter FUEL (density_Check.loop1 (rowSV false j2 xs)) (0, H.empty) = some (match firstBad xs with | some i => (.ret ((i : Int), faultOf xs i), H.empty) | none => (.ex0 (), H.empty)) := by
  have hs := iter_scan (f := density_Check.loop1 (rowSV false j2 xs)) (y := (.ex0 (), H.empty))
    (fun i => if faultOf xs i = 0 then none else some (.ret ((i : Int), faultOf xs i), H.empty)) xs.length (fun i => ((i : Int), H.empty)) FUEL (fun i hi => ?_) ?_ (fuel_gt (by omega))
  · have hz : ((0 : Nat) : Int) = 0 := rfl
    simp only [hz] at hs
    rw [hs]
    unfold firstBad
    have key : ∀ (l : List Nat), (l.findSome? fun i => if faultOf xs i = 0 then none else some ((.ret ((i : Int), faultOf xs i), H.empty) : Flow Unit (Int × Int) × H)) = (l.find? fun i => !decide (faultOf xs i = 0)).map fun i => (.ret ((i : Int), faultOf xs i), H.empty) := fun l => by
      induction l with
      | nil => rfl
      | cons a l ih =>
        rw [List.findSome?_cons, List.find?_cons]
        by_cases h : faultOf xs a = 0
        · rw [if_pos h, decide_eq_true h]
          exact ih
        · rw [if_neg h, decide_eq_false h]
          rfl
    rw [key]
    cases (List.range xs.length).find? fun i => !decide (faultOf xs i = 0) <;> rfl
  · unfold density_Check.loop1
    simp -implicitDefEqProofs only [rowSV_len, rdRow_args]
    rw [decide_eq_true (show (i : Int) < (xs.length : Int) by omega), cond_true]
    simp -implicitDefEqProofs only [Option.bind_some, Option.bind_none, Option.map_some, Option.map_none, cond_true, cond_false, Bool.not_true, Bool.not_false, if_true, if_false, reduceIte, rdRes, rdTT, rdTy, rdLT, rdLeaf_int, rdLeaf_bool, rdLeaf_str, rdLeaf_row, Res.un, TT.un, Ty.un, LT.un, Leaf.un, rdRow_i1, rdRow_i2, rdRow_i3, rdRow_i4, rdRow_i5, rdRow_args, rdRow_res, rdRow_nil, Leaf.plain, LT.plain, List.isEmpty_cons, Bool.and_self, Bool.and_true, Bool.true_and, Bool.or_true, Bool.true_or, Bool.or_false, Bool.false_or, reserve0, rowSV_len, rowSV_cap, rowSV_tail, guardO_true]
    rw [fault_ok hi (by omega)]
    simp -implicitDefEqProofs only [Option.bind_some, Option.bind_none, Option.map_some, Option.map_none, cond_true, cond_false, Bool.not_true, Bool.not_false, if_true, if_false, reduceIte, rdRes, rdTT, rdTy, rdLT, rdLeaf_int, rdLeaf_bool, rdLeaf_str, rdLeaf_row, Res.un, TT.un, Ty.un, LT.un, Leaf.un, rdRow_i1, rdRow_i2, rdRow_i3, rdRow_i4, rdRow_i5, rdRow_args, rdRow_res, rdRow_nil, Leaf.plain, LT.plain, List.isEmpty_cons, Bool.and_self, Bool.and_true, Bool.true_and, Bool.or_true, Bool.true_or, Bool.or_false, Bool.false_or, reserve0, rowSV_len, rowSV_cap, rowSV_tail, guardO_true]
    by_cases h : faultOf xs i = 0
    · rw [decide_eq_true h, if_pos h]
      simp -implicitDefEqProofs only [Option.bind_some, Option.bind_none, Option.map_some, Option.map_none, cond_true, cond_false, Bool.not_true, Bool.not_false, if_true, if_false, reduceIte, rdRes, rdTT, rdTy, rdLT, rdLeaf_int, rdLeaf_bool, rdLeaf_str, rdLeaf_row, Res.un, TT.un, Ty.un, LT.un, Leaf.un, rdRow_i1, rdRow_i2, rdRow_i3, rdRow_i4, rdRow_i5, rdRow_args, rdRow_res, rdRow_nil, Leaf.plain, LT.plain, List.isEmpty_cons, Bool.and_self, Bool.and_true, Bool.true_and, Bool.or_true, Bool.true_or, Bool.or_false, Bool.false_or, reserve0, rowSV_len, rowSV_cap, rowSV_tail, guardO_true]
      rw [i64_succ (by omega)]
    · rw [decide_eq_false h, if_neg h]
      simp -implicitDefEqProofs only [Option.bind_some, Option.bind_none, Option.map_some, Option.map_none, cond_true, cond_false, Bool.not_true, Bool.not_false, if_true, if_false, reduceIte, rdRes, rdTT, rdTy, rdLT, rdLeaf_int, rdLeaf_bool, rdLeaf_str, rdLeaf_row, Res.un, TT.un, Ty.un, LT.un, Leaf.un, rdRow_i1, rdRow_i2, rdRow_i3, rdRow_i4, rdRow_i5, rdRow_args, rdRow_res, rdRow_nil, Leaf.plain, LT.plain, List.isEmpty_cons, Bool.and_self, Bool.and_true, Bool.true_and, Bool.or_true, Bool.true_or, Bool.or_false, Bool.false_or, reserve0, rowSV_len, rowSV_cap, rowSV_tail, guardO_true]
  · unfold density_Check.loop1
    simp -implicitDefEqProofs only [rowSV_len]
    rw [decide_eq_false (by omega), cond_false]
theorem DCheck_ok (xs : List (Int × Int)) : density_CheckP xs = some (checkOf xs) := by
  unfold density_CheckP density_Check checkOf
  simp -implicitDefEqProofs only [Option.bind_some, Option.bind_none, Option.map_some, Option.map_none, cond_true, cond_false, Bool.not_true, Bool.not_false, if_true, if_false, reduceIte, rdRes, rdTT, rdTy, rdLT, rdLeaf_int, rdLeaf_bool, rdLeaf_str, rdLeaf_row, Res.un, TT.un, Ty.un, LT.un, Leaf.un, rdRow_i1, rdRow_i2, rdRow_i3, rdRow_i4, rdRow_i5, rdRow_args, rdRow_res, rdRow_nil, Leaf.plain, LT.plain, List.isEmpty_cons, Bool.and_self, Bool.and_true, Bool.true_and, Bool.or_true, Bool.true_or, Bool.or_false, Bool.false_or, reserve0, rowSV_len, rowSV_cap, rowSV_tail, guardO_true]
  by_cases h1 : 128 < xs.length
  · rw [if_pos h1, decide_eq_true (show (128 : Int) < (xs.length : Int) by omega)]
    simp -implicitDefEqProofs only [Option.bind_some, Option.bind_none, Option.map_some, Option.map_none, cond_true, cond_false, Bool.not_true, Bool.not_false, if_true, if_false, reduceIte, rdRes, rdTT, rdTy, rdLT, rdLeaf_int, rdLeaf_bool, rdLeaf_str, rdLeaf_row, Res.un, TT.un, Ty.un, LT.un, Leaf.un, rdRow_i1, rdRow_i2, rdRow_i3, rdRow_i4, rdRow_i5, rdRow_args, rdRow_res, rdRow_nil, Leaf.plain, LT.plain, List.isEmpty_cons, Bool.and_self, Bool.and_true, Bool.true_and, Bool.or_true, Bool.true_or, Bool.or_false, Bool.false_or, reserve0, rowSV_len, rowSV_cap, rowSV_tail, guardO_true]
  · rw [if_neg h1, decide_eq_false (show ¬ (128 : Int) < (xs.length : Int) by omega)]
    simp -implicitDefEqProofs only [Option.bind_some, Option.bind_none, Option.map_some, Option.map_none, cond_true, cond_false, Bool.not_true, Bool.not_false, if_true, if_false, reduceIte, rdRes, rdTT, rdTy, rdLT, rdLeaf_int, rdLeaf_bool, rdLeaf_str, rdLeaf_row, Res.un, TT.un, Ty.un, LT.un, Leaf.un, rdRow_i1, rdRow_i2, rdRow_i3, rdRow_i4, rdRow_i5, rdRow_args, rdRow_res, rdRow_nil, Leaf.plain, LT.plain, List.isEmpty_cons, Bool.and_self, Bool.and_true, Bool.true_and, Bool.or_true, Bool.true_or, Bool.or_false, Bool.false_or, reserve0, rowSV_len, rowSV_cap, rowSV_tail, guardO_true]
    by_cases h2 : xs.length < 2
    · rw [if_pos h2, decide_eq_true (show (xs.length : Int) < 2 by omega)]
      simp -implicitDefEqProofs only [Option.bind_some, Option.bind_none, Option.map_some, Option.map_none, cond_true, cond_false, Bool.not_true, Bool.not_false, if_true, if_false, reduceIte, rdRes, rdTT, rdTy, rdLT, rdLeaf_int, rdLeaf_bool, rdLeaf_str, rdLeaf_row, Res.un, TT.un, Ty.un, LT.un, Leaf.un, rdRow_i1, rdRow_i2, rdRow_i3, rdRow_i4, rdRow_i5, rdRow_args, rdRow_res, rdRow_nil, Leaf.plain, LT.plain, List.isEmpty_cons, Bool.and_self, Bool.and_true, Bool.true_and, Bool.or_true, Bool.true_or, Bool.or_false, Bool.false_or, reserve0, rowSV_len, rowSV_cap, rowSV_tail, guardO_true]
    · rw [if_neg h2, decide_eq_false (show ¬ (xs.length : Int) < 2 by omega)]
      simp -implicitDefEqProofs only [Option.bind_some, Option.bind_none, Option.map_some, Option.map_none, cond_true, cond_false, Bool.not_true, Bool.not_false, if_true, if_false, reduceIte, rdRes, rdTT, rdTy, rdLT, rdLeaf_int, rdLeaf_bool, rdLeaf_str, rdLeaf_row, Res.un, TT.un, Ty.un, LT.un, Leaf.un, rdRow_i1, rdRow_i2, rdRow_i3, rdRow_i4, rdRow_i5, rdRow_args, rdRow_res, rdRow_nil, Leaf.plain, LT.plain, List.isEmpty_cons, Bool.and_self, Bool.and_true, Bool.true_and, Bool.or_true, Bool.true_or, Bool.or_false, Bool.false_or, reserve0, rowSV_len, rowSV_cap, rowSV_tail, guardO_true]
      rw [check_loop (by omega)]
      cases firstBad xs with
      | some i => simp -implicitDefEqProofs only [Option.bind_some, Option.bind_none, Option.map_some, Option.map_none, cond_true, cond_false, Bool.not_true, Bool.not_false, if_true, if_false, reduceIte, rdRes, rdTT, rdTy, rdLT, rdLeaf_int, rdLeaf_bool, rdLeaf_str, rdLeaf_row, Res.un, TT.un, Ty.un, LT.un, Leaf.un, rdRow_i1, rdRow_i2, rdRow_i3, rdRow_i4, rdRow_i5, rdRow_args, rdRow_res, rdRow_nil, Leaf.plain, LT.plain, List.isEmpty_cons, Bool.and_self, Bool.and_true, Bool.true_and, Bool.or_true, Bool.true_or, Bool.or_false, Bool.false_or, reserve0, rowSV_len, rowSV_cap, rowSV_tail, guardO_true]
      | none =>
        have hz : 0 ≤ (0 : Int) ∧ (0 : Int) < (xs.length : Int) := by omega
        have hi1 : (xs.length : Int) - 1 = ((xs.length - 1 : Nat) : Int) := by omega
        have hg1 : 0 ≤ ((xs.length - 1 : Nat) : Int) ∧ ((xs.length - 1 : Nat) : Int) < (xs.length : Int) := by omega
        have hn0 := nn_q2 (f := false) (xs := xs) (i := 0) (by omega)
        have hr0 := (rd_q2 (f := false) (xs := xs) (i := 0) (h := H.empty) (by omega)).1
        have hn1 := nn_q2 (f := false) (xs := xs) (i := xs.length - 1) (by omega)
        have hr1 := (rd_q2 (f := false) (xs := xs) (i := xs.length - 1) (h := H.empty) (by omega)).1
        rw [Nat.zero_mul] at hn0 hr0
        simp -implicitDefEqProofs only [Option.bind_some, Option.bind_none, Option.map_some, Option.map_none, cond_true, cond_false, Bool.not_true, Bool.not_false, if_true, if_false, reduceIte, rdRes, rdTT, rdTy, rdLT, rdLeaf_int, rdLeaf_bool, rdLeaf_str, rdLeaf_row, Res.un, TT.un, Ty.un, LT.un, Leaf.un, rdRow_i1, rdRow_i2, rdRow_i3, rdRow_i4, rdRow_i5, rdRow_args, rdRow_res, rdRow_nil, Leaf.plain, LT.plain, List.isEmpty_cons, Bool.and_self, Bool.and_true, Bool.true_and, Bool.or_true, Bool.true_or, Bool.or_false, Bool.false_or, reserve0, rowSV_len, rowSV_cap, rowSV_tail, guardO_true]
        rw [guardO_pos hz, guardO_pos hn0, hr0]
        simp -implicitDefEqProofs only [Option.bind_some, Option.bind_none, Option.map_some, Option.map_none, cond_true, cond_false, Bool.not_true, Bool.not_false, if_true, if_false, reduceIte, rdRes, rdTT, rdTy, rdLT, rdLeaf_int, rdLeaf_bool, rdLeaf_str, rdLeaf_row, Res.un, TT.un, Ty.un, LT.un, Leaf.un, rdRow_i1, rdRow_i2, rdRow_i3, rdRow_i4, rdRow_i5, rdRow_args, rdRow_res, rdRow_nil, Leaf.plain, LT.plain, List.isEmpty_cons, Bool.and_self, Bool.and_true, Bool.true_and, Bool.or_true, Bool.true_or, Bool.or_false, Bool.false_or, reserve0, rowSV_len, rowSV_cap, rowSV_tail, guardO_true]
        by_cases h3 : (q2 xs 0).1 = 0
        · rw [decide_eq_true h3, if_neg (by omega)]
          simp -implicitDefEqProofs only [Option.bind_some, Option.bind_none, Option.map_some, Option.map_none, cond_true, cond_false, Bool.not_true, Bool.not_false, if_true, if_false, reduceIte, rdRes, rdTT, rdTy, rdLT, rdLeaf_int, rdLeaf_bool, rdLeaf_str, rdLeaf_row, Res.un, TT.un, Ty.un, LT.un, Leaf.un, rdRow_i1, rdRow_i2, rdRow_i3, rdRow_i4, rdRow_i5, rdRow_args, rdRow_res, rdRow_nil, Leaf.plain, LT.plain, List.isEmpty_cons, Bool.and_self, Bool.and_true, Bool.true_and, Bool.or_true, Bool.true_or, Bool.or_false, Bool.false_or, reserve0, rowSV_len, rowSV_cap, rowSV_tail, guardO_true]
          rw [hi1, i64_nat (by omega)]
          simp -implicitDefEqProofs only [Int.toNat_natCast]
          rw [guardO_pos hg1, guardO_pos hn1, hr1]
          simp -implicitDefEqProofs only [Option.bind_some, Option.bind_none, Option.map_some, Option.map_none, cond_true, cond_false, Bool.not_true, Bool.not_false, if_true, if_false, reduceIte, rdRes, rdTT, rdTy, rdLT, rdLeaf_int, rdLeaf_bool, rdLeaf_str, rdLeaf_row, Res.un, TT.un, Ty.un, LT.un, Leaf.un, rdRow_i1, rdRow_i2, rdRow_i3, rdRow_i4, rdRow_i5, rdRow_args, rdRow_res, rdRow_nil, Leaf.plain, LT.plain, List.isEmpty_cons, Bool.and_self, Bool.and_true, Bool.true_and, Bool.or_true, Bool.true_or, Bool.or_false, Bool.false_or, reserve0, rowSV_len, rowSV_cap, rowSV_tail, guardO_true]
          by_cases h4 : (q2 xs (xs.length - 1)).1 = 10000
          · rw [decide_eq_true h4, if_neg (by omega)]
            simp -implicitDefEqProofs only [Option.bind_some, Option.bind_none, Option.map_some, Option.map_none, cond_true, cond_false, Bool.not_true, Bool.not_false, if_true, if_false, reduceIte, rdRes, rdTT, rdTy, rdLT, rdLeaf_int, rdLeaf_bool, rdLeaf_str, rdLeaf_row, Res.un, TT.un, Ty.un, LT.un, Leaf.un, rdRow_i1, rdRow_i2, rdRow_i3, rdRow_i4, rdRow_i5, rdRow_args, rdRow_res, rdRow_nil, Leaf.plain, LT.plain, List.isEmpty_cons, Bool.and_self, Bool.and_true, Bool.true_and, Bool.or_true, Bool.true_or, Bool.or_false, Bool.false_or, reserve0, rowSV_len, rowSV_cap, rowSV_tail, guardO_true]
          · rw [decide_eq_false h4, if_pos h4]
            simp -implicitDefEqProofs only [Option.bind_some, Option.bind_none, Option.map_some, Option.map_none, cond_true, cond_false, Bool.not_true, Bool.not_false, if_true, if_false, reduceIte, rdRes, rdTT, rdTy, rdLT, rdLeaf_int, rdLeaf_bool, rdLeaf_str, rdLeaf_row, Res.un, TT.un, Ty.un, LT.un, Leaf.un, rdRow_i1, rdRow_i2, rdRow_i3, rdRow_i4, rdRow_i5, rdRow_args, rdRow_res, rdRow_nil, Leaf.plain, LT.plain, List.isEmpty_cons, Bool.and_self, Bool.and_true, Bool.true_and, Bool.or_true, Bool.true_or, Bool.or_false, Bool.false_or, reserve0, rowSV_len, rowSV_cap, rowSV_tail, guardO_true]
        · rw [decide_eq_false h3, if_pos h3]
          simp -implicitDefEqProofs only [Option.bind_some, Option.bind_none, Option.map_some, Option.map_none, cond_true, cond_false, Bool.not_true, Bool.not_false, if_true, if_false, reduceIte, rdRes, rdTT, rdTy, rdLT, rdLeaf_int, rdLeaf_bool, rdLeaf_str, rdLeaf_row, Res.un, TT.un, Ty.un, LT.un, Leaf.un, rdRow_i1, rdRow_i2, rdRow_i3, rdRow_i4, rdRow_i5, rdRow_args, rdRow_res, rdRow_nil, Leaf.plain, LT.plain, List.isEmpty_cons, Bool.and_self, Bool.and_true, Bool.true_and, Bool.or_true, Bool.true_or, Bool.or_false, Bool.false_or, reserve0, rowSV_len, rowSV_cap, rowSV_tail, guardO_true]
/-- A right table. -/
structure Table2 (xs : List (Int × Int)) : Prop where
  two : 2 ≤ xs.length
  most : xs.length ≤ 128
  ok : ∀ i, i < xs.length → okPt (q2 xs i) = true
  up : ∀ i, i + 1 < xs.length → (q2 xs i).1 < (q2 xs (i + 1)).1
  down : ∀ i, i + 1 < xs.length → (q2 xs (i + 1)).2 ≤ (q2 xs i).2
  first : (q2 xs 0).1 = 0
  last : (q2 xs (xs.length - 1)).1 = 10000
theorem check_table {xs : List (Int × Int)} (h : (checkOf xs).2 = 0) : Table2 xs := by
  unfold checkOf at h
  by_cases h1 : 128 < xs.length
  · rw [if_pos h1] at h; simp at h
  · rw [if_neg h1] at h
    by_cases h2 : xs.length < 2
    · rw [if_pos h2] at h; simp at h
    · rw [if_neg h2] at h
      cases hf : firstBad xs with
      | some i =>
        rw [hf] at h
        have := List.find?_some hf
        simp only at h
        rw [h] at this
        simp at this
      | none =>
        rw [hf] at h
        have hno : ∀ i, i < xs.length → faultOf xs i = 0 := fun i hi => by
          have := List.find?_eq_none.1 hf i (List.mem_range.2 hi)
          simpa using this
        have hok : ∀ i, i < xs.length → okPt (q2 xs i) = true := fun i hi => by
          have := hno i hi
          unfold faultOf at this
          cases hp : okPt (q2 xs i) with
          | true => rfl
          | false => rw [hp] at this; simp at this
        have hstep : ∀ i, i + 1 < xs.length → (q2 xs i).1 < (q2 xs (i + 1)).1 ∧ (q2 xs (i + 1)).2 ≤ (q2 xs i).2 := fun i hi => by
          have := hno (i + 1) hi
          unfold faultOf at this
          rw [if_pos (hok _ hi), Nat.add_sub_cancel] at this
          by_cases c1 : 0 < i + 1 ∧ (q2 xs (i + 1)).1 ≤ (q2 xs i).1
          · rw [if_pos c1] at this; simp at this
          · rw [if_neg c1] at this
            by_cases c2 : 0 < i + 1 ∧ (q2 xs i).2 < (q2 xs (i + 1)).2
            · rw [if_pos c2] at this; simp at this
            · omega
        simp only at h
        by_cases h3 : (q2 xs 0).1 ≠ 0
        · rw [if_pos h3] at h; simp at h
        · rw [if_neg h3] at h
          by_cases h4 : (q2 xs (xs.length - 1)).1 ≠ 10000
          · rw [if_pos h4] at h; simp at h
          · exact ⟨by omega, by omega, hok, fun i hi => (hstep i hi).1, fun i hi => (hstep i hi).2, by omega, by omega⟩
end Go.Proofs.Ytaepkinihaipkaa
