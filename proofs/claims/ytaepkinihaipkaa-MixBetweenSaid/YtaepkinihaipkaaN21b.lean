/- What package density computes: the fault at a place, the check of a table. Conditions: those of each law. -/
import Derived.Test.YtaepkinihaipkaaN21a
import Derived.Test.YtaepkinihaipkaaM21c
namespace Go.Proofs.Ytaepkinihaipkaa
open Go Go.Proofs.Ytaepkinihaipkaa.Ev
set_option linter.unusedVariables false
set_option linter.unusedSimpArgs false
set_option maxRecDepth 100000
set_option maxHeartbeats 4000000
/-- An entry of a table. -/
def q2 (xs : List (Int × Int)) (i : Nat) : Int × Int := xs[i]?.getD (0, 0)
theorem q2_some {xs : List (Int × Int)} {i : Nat} (h : i < xs.length) : xs[i]? = some (q2 xs i) := by
  unfold q2
  rw [List.getElem?_eq_getElem h]
  rfl
def okPt (x : Int × Int) : Bool := decide (0 ≤ x.1 ∧ x.1 ≤ 10000 ∧ 50000 ≤ x.2 ∧ x.2 ≤ 120000)
def faultOf (xs : List (Int × Int)) (i : Nat) : Int :=
  if okPt (q2 xs i) = true then (if 0 < i ∧ (q2 xs i).1 ≤ (q2 xs (i - 1)).1 then 5 else if 0 < i ∧ (q2 xs (i - 1)).2 < (q2 xs i).2 then 18 else 0) else 2
theorem rd_q2 {f : Bool} {xs : List (Int × Int)} {i : Nat} {h : H} (hi : i < xs.length) : rdT (.leaf (.int .i64)) h (((rowSV f j2 xs).a.add (i * 2)).add 0) = some (q2 xs i).1 ∧ rdT (.leaf (.int .i64)) h (((rowSV f j2 xs).a.add (i * 2)).add 1) = some (q2 xs i).2 := by
  refine ⟨?_, ?_⟩ <;> (rw [add_add, rd_row (ls := j2) (w := 2) rfl (by omega), q2_some hi]; rfl)
theorem nn_q2 {f : Bool} {xs : List (Int × Int)} {i : Nat} (hi : i < xs.length) : V.nn ((rowSV f j2 xs).a.add (i * 2)) = true := nn_row (by omega) (by simp)
theorem bad_code {x1 x2 : Int} {h : H} : (bif !(decide (x1 < 0)) then (bif !(decide ((10000 : Int) < x1)) then (bif !(decide (x2 < 50000)) then some (decide ((120000 : Int) < x2), h) else some (true, h)) else some (true, h)) else some (true, h) : Option (Bool × H)) = some (!okPt (x1, x2), h) := by
  unfold okPt
  by_cases h1 : x1 < 0
  · rw [decide_eq_true h1, decide_eq_false (p := _ ∧ _) (by simp only; omega)]; rfl
  · rw [decide_eq_false h1]
    by_cases h2 : (10000 : Int) < x1
    · rw [decide_eq_true h2, decide_eq_false (p := _ ∧ _) (by simp only; omega)]; rfl
    · rw [decide_eq_false h2]
      by_cases h3 : x2 < 50000
      · rw [decide_eq_true h3, decide_eq_false (p := _ ∧ _) (by simp only; omega)]; rfl
      · rw [decide_eq_false h3]
        by_cases h4 : (120000 : Int) < x2
        · rw [decide_eq_true h4, decide_eq_false (p := _ ∧ _) (by simp only; omega)]; rfl
        · rw [decide_eq_false h4, decide_eq_true (p := _ ∧ _) (by simp only; omega)]; rfl
theorem fault_ok {xs : List (Int × Int)} {i : Nat} (hi : i < xs.length) (hl : xs.length < 2 ^ 62) : density_faultP xs (i : Int) = some (faultOf xs i) := by
  unfold density_faultP density_fault faultOf
  have hg : 0 ≤ (i : Int) ∧ (i : Int) < (xs.length : Int) := by omega
  have e0 : [c2 (q2 xs i)][0]? = some (c2 (q2 xs i)) := rfl
  have r0 := rd_c2 e0
  have n0 := new_c2 (sl := []) (x := q2 xs i)
  simp only [c2, List.nil_append, List.length_nil] at r0 n0
  simp -implicitDefEqProofs only [rowSV_len, Int.toNat_natCast, guardO_pos hg, hL_empty, hL_next, hL_new, List.nil_append, List.length_nil]
  rw [rds_rowF (ls := j2) (w := 2) rfl (by omega) rfl, q2_some hi]
  simp -implicitDefEqProofs only [Option.bind_some, Option.bind_none, Option.map_some, Option.map_none, cond_true, cond_false, Bool.not_true, Bool.not_false, if_true, if_false, reduceIte, rdRes, rdTT, rdTy, rdLT, rdLeaf_int, rdLeaf_bool, rdLeaf_str, rdLeaf_row, Res.un, TT.un, Ty.un, LT.un, Leaf.un, rdRow_i1, rdRow_i2, rdRow_i3, rdRow_i4, rdRow_i5, rdRow_args, rdRow_res, rdRow_nil, Leaf.plain, LT.plain, List.isEmpty_cons, Bool.and_self, Bool.and_true, Bool.true_and, Bool.or_true, Bool.true_or, Bool.or_false, Bool.false_or, reserve0, rowSV_len, rowSV_cap, rowSV_tail, guardO_true]
  rw [n0]
  simp -implicitDefEqProofs only [Option.bind_some, Option.bind_none, Option.map_some, Option.map_none, cond_true, cond_false, Bool.not_true, Bool.not_false, if_true, if_false, reduceIte, rdRes, rdTT, rdTy, rdLT, rdLeaf_int, rdLeaf_bool, rdLeaf_str, rdLeaf_row, Res.un, TT.un, Ty.un, LT.un, Leaf.un, rdRow_i1, rdRow_i2, rdRow_i3, rdRow_i4, rdRow_i5, rdRow_args, rdRow_res, rdRow_nil, Leaf.plain, LT.plain, List.isEmpty_cons, Bool.and_self, Bool.and_true, Bool.true_and, Bool.or_true, Bool.true_or, Bool.or_false, Bool.false_or, reserve0, rowSV_len, rowSV_cap, rowSV_tail, guardO_true, r0.1, r0.2, reserve0]
  rw [bad_code]
  simp -implicitDefEqProofs only [Option.bind_some, Option.bind_none, Option.map_some, Option.map_none, cond_true, cond_false, Bool.not_true, Bool.not_false, if_true, if_false, reduceIte, rdRes, rdTT, rdTy, rdLT, rdLeaf_int, rdLeaf_bool, rdLeaf_str, rdLeaf_row, Res.un, TT.un, Ty.un, LT.un, Leaf.un, rdRow_i1, rdRow_i2, rdRow_i3, rdRow_i4, rdRow_i5, rdRow_args, rdRow_res, rdRow_nil, Leaf.plain, LT.plain, List.isEmpty_cons, Bool.and_self, Bool.and_true, Bool.true_and, Bool.or_true, Bool.true_or, Bool.or_false, Bool.false_or, reserve0, rowSV_len, rowSV_cap, rowSV_tail, guardO_true]
  cases hok : okPt (q2 xs i) with
  | false => simp -implicitDefEqProofs only [Option.bind_some, Option.bind_none, Option.map_some, Option.map_none, cond_true, cond_false, Bool.not_true, Bool.not_false, if_true, if_false, reduceIte, rdRes, rdTT, rdTy, rdLT, rdLeaf_int, rdLeaf_bool, rdLeaf_str, rdLeaf_row, Res.un, TT.un, Ty.un, LT.un, Leaf.un, rdRow_i1, rdRow_i2, rdRow_i3, rdRow_i4, rdRow_i5, rdRow_args, rdRow_res, rdRow_nil, Leaf.plain, LT.plain, List.isEmpty_cons, Bool.and_self, Bool.and_true, Bool.true_and, Bool.or_true, Bool.true_or, Bool.or_false, Bool.false_or, reserve0, rowSV_len, rowSV_cap, rowSV_tail, guardO_true, Bool.false_eq_true]
  | true =>
    simp -implicitDefEqProofs only [Option.bind_some, Option.bind_none, Option.map_some, Option.map_none, cond_true, cond_false, Bool.not_true, Bool.not_false, if_true, if_false, reduceIte, rdRes, rdTT, rdTy, rdLT, rdLeaf_int, rdLeaf_bool, rdLeaf_str, rdLeaf_row, Res.un, TT.un, Ty.un, LT.un, Leaf.un, rdRow_i1, rdRow_i2, rdRow_i3, rdRow_i4, rdRow_i5, rdRow_args, rdRow_res, rdRow_nil, Leaf.plain, LT.plain, List.isEmpty_cons, Bool.and_self, Bool.and_true, Bool.true_and, Bool.or_true, Bool.true_or, Bool.or_false, Bool.false_or, reserve0, rowSV_len, rowSV_cap, rowSV_tail, guardO_true]
    by_cases h0 : 0 < i
    · have hi1 : (i : Int) - 1 = ((i - 1 : Nat) : Int) := by omega
      have hg1 : 0 ≤ ((i - 1 : Nat) : Int) ∧ ((i - 1 : Nat) : Int) < (xs.length : Int) := by omega
      have hn := nn_q2 (f := false) (xs := xs) (i := i - 1) (by omega)
      rw [decide_eq_true (show (0 : Int) < (i : Int) by omega), hi1, i64_nat (by omega)]
      simp -implicitDefEqProofs only [Option.bind_some, Option.bind_none, Option.map_some, Option.map_none, cond_true, cond_false, Bool.not_true, Bool.not_false, if_true, if_false, reduceIte, rdRes, rdTT, rdTy, rdLT, rdLeaf_int, rdLeaf_bool, rdLeaf_str, rdLeaf_row, Res.un, TT.un, Ty.un, LT.un, Leaf.un, rdRow_i1, rdRow_i2, rdRow_i3, rdRow_i4, rdRow_i5, rdRow_args, rdRow_res, rdRow_nil, Leaf.plain, LT.plain, List.isEmpty_cons, Bool.and_self, Bool.and_true, Bool.true_and, Bool.or_true, Bool.true_or, Bool.or_false, Bool.false_or, reserve0, rowSV_len, rowSV_cap, rowSV_tail, guardO_true, r0.1, r0.2, guardO_pos hg1, Int.toNat_natCast, guardO_pos hn, (rd_q2 (f := false) (xs := xs) (i := i - 1) (h := hL [.own [.int .i64 (q2 xs i).1, .int .i64 (q2 xs i).2] 2]) (by omega)).1]
      by_cases h1 : (q2 xs i).1 ≤ (q2 xs (i - 1)).1
      · rw [decide_eq_true h1, if_pos ⟨h0, h1⟩]
        simp -implicitDefEqProofs only [Option.bind_some, Option.bind_none, Option.map_some, Option.map_none, cond_true, cond_false, Bool.not_true, Bool.not_false, if_true, if_false, reduceIte, rdRes, rdTT, rdTy, rdLT, rdLeaf_int, rdLeaf_bool, rdLeaf_str, rdLeaf_row, Res.un, TT.un, Ty.un, LT.un, Leaf.un, rdRow_i1, rdRow_i2, rdRow_i3, rdRow_i4, rdRow_i5, rdRow_args, rdRow_res, rdRow_nil, Leaf.plain, LT.plain, List.isEmpty_cons, Bool.and_self, Bool.and_true, Bool.true_and, Bool.or_true, Bool.true_or, Bool.or_false, Bool.false_or, reserve0, rowSV_len, rowSV_cap, rowSV_tail, guardO_true]
      · rw [decide_eq_false h1, if_neg (by omega)]
        simp -implicitDefEqProofs only [Option.bind_some, Option.bind_none, Option.map_some, Option.map_none, cond_true, cond_false, Bool.not_true, Bool.not_false, if_true, if_false, reduceIte, rdRes, rdTT, rdTy, rdLT, rdLeaf_int, rdLeaf_bool, rdLeaf_str, rdLeaf_row, Res.un, TT.un, Ty.un, LT.un, Leaf.un, rdRow_i1, rdRow_i2, rdRow_i3, rdRow_i4, rdRow_i5, rdRow_args, rdRow_res, rdRow_nil, Leaf.plain, LT.plain, List.isEmpty_cons, Bool.and_self, Bool.and_true, Bool.true_and, Bool.or_true, Bool.true_or, Bool.or_false, Bool.false_or, reserve0, rowSV_len, rowSV_cap, rowSV_tail, guardO_true, r0.1, r0.2, guardO_pos hg1, Int.toNat_natCast, guardO_pos hn, (rd_q2 (f := false) (xs := xs) (i := i - 1) (h := hL [.own [.int .i64 (q2 xs i).1, .int .i64 (q2 xs i).2] 2]) (by omega)).2]
        by_cases h2 : (q2 xs (i - 1)).2 < (q2 xs i).2
        · rw [decide_eq_true h2, if_pos ⟨h0, h2⟩]
          simp -implicitDefEqProofs only [Option.bind_some, Option.bind_none, Option.map_some, Option.map_none, cond_true, cond_false, Bool.not_true, Bool.not_false, if_true, if_false, reduceIte, rdRes, rdTT, rdTy, rdLT, rdLeaf_int, rdLeaf_bool, rdLeaf_str, rdLeaf_row, Res.un, TT.un, Ty.un, LT.un, Leaf.un, rdRow_i1, rdRow_i2, rdRow_i3, rdRow_i4, rdRow_i5, rdRow_args, rdRow_res, rdRow_nil, Leaf.plain, LT.plain, List.isEmpty_cons, Bool.and_self, Bool.and_true, Bool.true_and, Bool.or_true, Bool.true_or, Bool.or_false, Bool.false_or, reserve0, rowSV_len, rowSV_cap, rowSV_tail, guardO_true]
        · rw [decide_eq_false h2, if_neg (by omega)]
          simp -implicitDefEqProofs only [Option.bind_some, Option.bind_none, Option.map_some, Option.map_none, cond_true, cond_false, Bool.not_true, Bool.not_false, if_true, if_false, reduceIte, rdRes, rdTT, rdTy, rdLT, rdLeaf_int, rdLeaf_bool, rdLeaf_str, rdLeaf_row, Res.un, TT.un, Ty.un, LT.un, Leaf.un, rdRow_i1, rdRow_i2, rdRow_i3, rdRow_i4, rdRow_i5, rdRow_args, rdRow_res, rdRow_nil, Leaf.plain, LT.plain, List.isEmpty_cons, Bool.and_self, Bool.and_true, Bool.true_and, Bool.or_true, Bool.true_or, Bool.or_false, Bool.false_or, reserve0, rowSV_len, rowSV_cap, rowSV_tail, guardO_true]
    · rw [decide_eq_false (show ¬ (0 : Int) < (i : Int) by omega), if_neg (by omega), if_neg (by omega)]
      simp -implicitDefEqProofs only [Option.bind_some, Option.bind_none, Option.map_some, Option.map_none, cond_true, cond_false, Bool.not_true, Bool.not_false, if_true, if_false, reduceIte, rdRes, rdTT, rdTy, rdLT, rdLeaf_int, rdLeaf_bool, rdLeaf_str, rdLeaf_row, Res.un, TT.un, Ty.un, LT.un, Leaf.un, rdRow_i1, rdRow_i2, rdRow_i3, rdRow_i4, rdRow_i5, rdRow_args, rdRow_res, rdRow_nil, Leaf.plain, LT.plain, List.isEmpty_cons, Bool.and_self, Bool.and_true, Bool.true_and, Bool.or_true, Bool.true_or, Bool.or_false, Bool.false_or, reserve0, rowSV_len, rowSV_cap, rowSV_tail, guardO_true]
end Go.Proofs.Ytaepkinihaipkaa
