/- What the reference of package proportion computes of two or three numbers. Conditions: those of each law. -/
import Derived.Test.YtaepkinihaipkaaS01e
namespace Go.Proofs.Ytaepkinihaipkaa
open Go Go.Proofs.Ytaepkinihaipkaa.Ev
set_option linter.unusedVariables false
set_option linter.unusedSimpArgs false
set_option maxRecDepth 100000
set_option maxHeartbeats 1000000
theorem rIs_ok (n : Int) : spileref01_IsP n = some (isAmt n) := by
  unfold spileref01_IsP spileref01_Is isAmt
  cases decide (0 ≤ n) <;> rfl
theorem and31 {x : Nat} (hx : x < 18446744073709551616) : bitsI .and .u64 (x : Int) 2147483647 = ((x % 2147483648 : Nat) : Int) := by
  have h : (BitVec.ofInt 64 (x : Int) &&& BitVec.ofInt 64 2147483647).toNat = x % 2147483648 := by
    rw [BitVec.toNat_and, BitVec.ofInt_natCast, BitVec.toNat_ofNat, show (BitVec.ofInt 64 2147483647).toNat = 2 ^ 31 - 1 by rfl, Nat.and_two_pow_sub_one_eq_mod, Nat.mod_eq_of_lt (b := 2 ^ 64) (by omega)]
  exact (congrArg (fun n : Nat => IntKind.u64.wrap (n : Int)) h).trans (IntWalk.u64_in _ (by omega))
theorem shr31 (x : Nat) : Int.fdiv (x : Int) (2 ^ (min (Int.toNat 31) (IntKind.bits .u64))) = ((x / 2147483648 : Nat) : Int) := fdiv_pow x 31
theorem shl31 (x : Nat) : (x : Int) * 2 ^ (min (Int.toNat 31) (IntKind.bits .u64)) = ((x * 2147483648 : Nat) : Int) := by
  rw [show min (Int.toNat 31) (IntKind.bits .u64) = 31 from rfl]; omega
theorem mul_lt31 {a b : Nat} (ha : a < 2147483648) (hb : b < 2147483648) : a * b ≤ 4611686014132420609 := by
  have : a * b ≤ 2147483647 * 2147483647 := Nat.mul_le_mul (by omega) (by omega)
  omega
theorem rProduct_nat {a b : Nat} (ha : a < 4611686018427387904) (hb : b < 4611686018427387904) : spileref01_ProductP (a : Int) (b : Int) = some (((a * b / 4611686018427387904 : Nat) : Int), ((a * b % 4611686018427387904 : Nat) : Int)) := by
  unfold spileref01_ProductP spileref01_Product
  have e : a * b = (a / 2147483648 * (b / 2147483648)) * 4611686018427387904 + (a / 2147483648 * (b % 2147483648) + a % 2147483648 * (b / 2147483648)) * 2147483648 + a % 2147483648 * (b % 2147483648) := by
    have h1 : a = a / 2147483648 * 2147483648 + a % 2147483648 := by omega
    have h2 : b = b / 2147483648 * 2147483648 + b % 2147483648 := by omega
    generalize a / 2147483648 = x1 at *
    generalize a % 2147483648 = x0 at *
    generalize b / 2147483648 = y1 at *
    generalize b % 2147483648 = y0 at *
    subst h1; subst h2
    have m1 : (x1 * 2147483648 + x0) * (y1 * 2147483648 + y0) = x1 * 2147483648 * (y1 * 2147483648) + x1 * 2147483648 * y0 + (x0 * (y1 * 2147483648) + x0 * y0) := by
      rw [Nat.add_mul, Nat.mul_add, Nat.mul_add]
    have m2 : x1 * 2147483648 * (y1 * 2147483648) = x1 * y1 * 4611686018427387904 := by rw [Nat.mul_mul_mul_comm]
    have m3 : x1 * 2147483648 * y0 = x1 * y0 * 2147483648 := Nat.mul_right_comm _ _ _
    have m4 : x0 * (y1 * 2147483648) = x0 * y1 * 2147483648 := (Nat.mul_assoc _ _ _).symm
    rw [m1, m2, m3, m4, Nat.add_mul]
    omega
  have b1 := mul_lt31 (a := a / 2147483648) (b := b / 2147483648) (by omega) (by omega)
  have b2 := mul_lt31 (a := a / 2147483648) (b := b % 2147483648) (by omega) (by omega)
  have b3 := mul_lt31 (a := a % 2147483648) (b := b / 2147483648) (by omega) (by omega)
  have b4 := mul_lt31 (a := a % 2147483648) (b := b % 2147483648) (by omega) (by omega)
  rw [u64_nat (n := a) (by omega), u64_nat (n := b) (by omega), shr31, shr31, and31 (by omega), and31 (by omega)]
  simp only [← Int.natCast_mul]
  generalize a / 2147483648 * (b / 2147483648) = p11 at *
  generalize a / 2147483648 * (b % 2147483648) = p10 at *
  generalize a % 2147483648 * (b / 2147483648) = p01 at *
  generalize a % 2147483648 * (b % 2147483648) = p00 at *
  rw [u64_nat (n := p11) (by omega), u64_nat (n := p10) (by omega), u64_nat (n := p01) (by omega), u64_nat (n := p00) (by omega), shr31 p00, and31 (x := p00) (by omega)]
  simp only [← Int.natCast_add]
  rw [u64_nat (n := p01 + p00 / 2147483648) (by omega), and31 (x := p01 + p00 / 2147483648) (by omega), shr31 (p01 + p00 / 2147483648)]
  simp only [← Int.natCast_add]
  rw [u64_nat (n := p11 + (p01 + p00 / 2147483648) / 2147483648) (by omega), u64_nat (n := p10 + (p01 + p00 / 2147483648) % 2147483648) (by omega), shr31 (p10 + (p01 + p00 / 2147483648) % 2147483648), and31 (x := p10 + (p01 + p00 / 2147483648) % 2147483648) (by omega), shl31]
  simp only [← Int.natCast_add]
  rw [u64_nat (n := p11 + (p01 + p00 / 2147483648) / 2147483648 + (p10 + (p01 + p00 / 2147483648) % 2147483648) / 2147483648) (by omega),
    u64_nat (n := (p10 + (p01 + p00 / 2147483648) % 2147483648) % 2147483648 * 2147483648) (by omega)]
  have hor := or_add (a := (p10 + (p01 + p00 / 2147483648) % 2147483648) % 2147483648) (b := p00 % 2147483648) (s := 31) (by omega) (by omega)
  rw [show (2 ^ 31 : Nat) = 2147483648 from rfl] at hor
  rw [hor]
  rw [show p11 + (p01 + p00 / 2147483648) / 2147483648 + (p10 + (p01 + p00 / 2147483648) % 2147483648) / 2147483648 = a * b / 4611686018427387904 by omega,
    show (p10 + (p01 + p00 / 2147483648) % 2147483648) % 2147483648 * 2147483648 + p00 % 2147483648 = a * b % 4611686018427387904 by omega]
  rfl
theorem rLess_ok (a b c d : Int) : spileref01_LessP (a, b) (c, d) = some (decide (a < c) || (decide (a = c) && decide (b < d))) := by
  unfold spileref01_LessP spileref01_Less
  cases h1 : decide (a < c) with
  | true => simp only [Option.bind_some, Option.bind_none, Option.map_some, Option.map_none, cond_true, cond_false, Bool.not_true, Bool.not_false, if_true, if_false, reduceIte, rdRes, rdTT, rdTy, rdLT, rdLeaf_int, rdLeaf_bool, rdLeaf_str, rdLeaf_row, Res.un, TT.un, Ty.un, LT.un, Leaf.un, rdRow_i1, rdRow_i2, rdRow_i3, rdRow_i4, rdRow_i5, rdRow_args, rdRow_res, rdRow_nil, Leaf.plain, LT.plain, List.isEmpty_cons, Bool.and_self, Bool.and_true, Bool.true_and, Bool.or_true, Bool.true_or, Bool.or_false, Bool.false_or, reserve0, rowSV_len, rowSV_cap, rowSV_tail, guardO_true, hL_empty, hL_new, hL_next, hL_put, hL_reserve, List.replicate, rd_hp, rds_hp, wrs_hp, hL_m, List.nil_append, List.cons_append, List.append_nil, List.getElem?_cons_zero, List.getElem?_cons_succ, Option.getD_some, List.length_cons, List.length_nil, List.length_append, splice, List.take_zero, List.take_succ_cons, List.take_nil, List.drop_zero, List.drop_succ_cons, List.drop_nil, List.set_cons_zero, List.set_cons_succ, LT.pack, Leaf.pack, Nat.reduceAdd, Nat.reduceSub, Nat.reduceLeDiff, Nat.reduceLT, Nat.reduceEqDiff, Nat.zero_add, Nat.add_zero, Nat.zero_le, Nat.le_refl, and_self, and_true, true_and, Nat.lt_add_one, Nat.zero_lt_succ, ne_eq, not_false_eq_true, Nat.succ_ne_zero, List.flatMap_cons, List.flatMap_nil, LT.lo, Leaf.lo, h1]
  | false =>
    cases h2 : decide (a = c) with
    | false => simp only [Option.bind_some, Option.bind_none, Option.map_some, Option.map_none, cond_true, cond_false, Bool.not_true, Bool.not_false, if_true, if_false, reduceIte, rdRes, rdTT, rdTy, rdLT, rdLeaf_int, rdLeaf_bool, rdLeaf_str, rdLeaf_row, Res.un, TT.un, Ty.un, LT.un, Leaf.un, rdRow_i1, rdRow_i2, rdRow_i3, rdRow_i4, rdRow_i5, rdRow_args, rdRow_res, rdRow_nil, Leaf.plain, LT.plain, List.isEmpty_cons, Bool.and_self, Bool.and_true, Bool.true_and, Bool.or_true, Bool.true_or, Bool.or_false, Bool.false_or, reserve0, rowSV_len, rowSV_cap, rowSV_tail, guardO_true, hL_empty, hL_new, hL_next, hL_put, hL_reserve, List.replicate, rd_hp, rds_hp, wrs_hp, hL_m, List.nil_append, List.cons_append, List.append_nil, List.getElem?_cons_zero, List.getElem?_cons_succ, Option.getD_some, List.length_cons, List.length_nil, List.length_append, splice, List.take_zero, List.take_succ_cons, List.take_nil, List.drop_zero, List.drop_succ_cons, List.drop_nil, List.set_cons_zero, List.set_cons_succ, LT.pack, Leaf.pack, Nat.reduceAdd, Nat.reduceSub, Nat.reduceLeDiff, Nat.reduceLT, Nat.reduceEqDiff, Nat.zero_add, Nat.add_zero, Nat.zero_le, Nat.le_refl, and_self, and_true, true_and, Nat.lt_add_one, Nat.zero_lt_succ, ne_eq, not_false_eq_true, Nat.succ_ne_zero, List.flatMap_cons, List.flatMap_nil, LT.lo, Leaf.lo, h1, h2]; rfl
    | true => simp only [Option.bind_some, Option.bind_none, Option.map_some, Option.map_none, cond_true, cond_false, Bool.not_true, Bool.not_false, if_true, if_false, reduceIte, rdRes, rdTT, rdTy, rdLT, rdLeaf_int, rdLeaf_bool, rdLeaf_str, rdLeaf_row, Res.un, TT.un, Ty.un, LT.un, Leaf.un, rdRow_i1, rdRow_i2, rdRow_i3, rdRow_i4, rdRow_i5, rdRow_args, rdRow_res, rdRow_nil, Leaf.plain, LT.plain, List.isEmpty_cons, Bool.and_self, Bool.and_true, Bool.true_and, Bool.or_true, Bool.true_or, Bool.or_false, Bool.false_or, reserve0, rowSV_len, rowSV_cap, rowSV_tail, guardO_true, hL_empty, hL_new, hL_next, hL_put, hL_reserve, List.replicate, rd_hp, rds_hp, wrs_hp, hL_m, List.nil_append, List.cons_append, List.append_nil, List.getElem?_cons_zero, List.getElem?_cons_succ, Option.getD_some, List.length_cons, List.length_nil, List.length_append, splice, List.take_zero, List.take_succ_cons, List.take_nil, List.drop_zero, List.drop_succ_cons, List.drop_nil, List.set_cons_zero, List.set_cons_succ, LT.pack, Leaf.pack, Nat.reduceAdd, Nat.reduceSub, Nat.reduceLeDiff, Nat.reduceLT, Nat.reduceEqDiff, Nat.zero_add, Nat.add_zero, Nat.zero_le, Nat.le_refl, and_self, and_true, true_and, Nat.lt_add_one, Nat.zero_lt_succ, ne_eq, not_false_eq_true, Nat.succ_ne_zero, List.flatMap_cons, List.flatMap_nil, LT.lo, Leaf.lo, h1, h2]
theorem rLess_nat (x y : Nat) : spileref01_LessP (((x / 4611686018427387904 : Nat) : Int), ((x % 4611686018427387904 : Nat) : Int)) (((y / 4611686018427387904 : Nat) : Int), ((y % 4611686018427387904 : Nat) : Int)) = some (decide (x < y)) := by
  rw [rLess_ok]
  congr 1
  by_cases h : x < y
  · rw [decide_eq_true h]
    by_cases h1 : x / 4611686018427387904 < y / 4611686018427387904
    · rw [decide_eq_true (show ((x / 4611686018427387904 : Nat) : Int) < ((y / 4611686018427387904 : Nat) : Int) by omega)]; rfl
    · rw [decide_eq_true (show ((x / 4611686018427387904 : Nat) : Int) = ((y / 4611686018427387904 : Nat) : Int) by omega), decide_eq_true (show ((x % 4611686018427387904 : Nat) : Int) < ((y % 4611686018427387904 : Nat) : Int) by omega)]; simp
  · rw [decide_eq_false h, decide_eq_false (show ¬ ((x / 4611686018427387904 : Nat) : Int) < ((y / 4611686018427387904 : Nat) : Int) by omega)]
    by_cases h1 : ((x / 4611686018427387904 : Nat) : Int) = ((y / 4611686018427387904 : Nat) : Int)
    · rw [decide_eq_true h1, decide_eq_false (show ¬ ((x % 4611686018427387904 : Nat) : Int) < ((y % 4611686018427387904 : Nat) : Int) by omega)]; rfl
    · rw [decide_eq_false h1]; rfl
theorem rminus_ok (a b c d : Int) : spileref01_minusP (a, b) (c, d) = some (if b < d then (IntKind.u64.wrap (IntKind.u64.wrap (a - c) - 1), IntKind.u64.wrap (IntKind.u64.wrap (b + 4611686018427387904) - d)) else (IntKind.u64.wrap (a - c), IntKind.u64.wrap (b - d))) := by
  unfold spileref01_minusP spileref01_minus
  by_cases h : b < d
  · rw [if_pos h]; simp only [Option.bind_some, Option.bind_none, Option.map_some, Option.map_none, cond_true, cond_false, Bool.not_true, Bool.not_false, if_true, if_false, reduceIte, rdRes, rdTT, rdTy, rdLT, rdLeaf_int, rdLeaf_bool, rdLeaf_str, rdLeaf_row, Res.un, TT.un, Ty.un, LT.un, Leaf.un, rdRow_i1, rdRow_i2, rdRow_i3, rdRow_i4, rdRow_i5, rdRow_args, rdRow_res, rdRow_nil, Leaf.plain, LT.plain, List.isEmpty_cons, Bool.and_self, Bool.and_true, Bool.true_and, Bool.or_true, Bool.true_or, Bool.or_false, Bool.false_or, reserve0, rowSV_len, rowSV_cap, rowSV_tail, guardO_true, hL_empty, hL_new, hL_next, hL_put, hL_reserve, List.replicate, rd_hp, rds_hp, wrs_hp, hL_m, List.nil_append, List.cons_append, List.append_nil, List.getElem?_cons_zero, List.getElem?_cons_succ, Option.getD_some, List.length_cons, List.length_nil, List.length_append, splice, List.take_zero, List.take_succ_cons, List.take_nil, List.drop_zero, List.drop_succ_cons, List.drop_nil, List.set_cons_zero, List.set_cons_succ, LT.pack, Leaf.pack, Nat.reduceAdd, Nat.reduceSub, Nat.reduceLeDiff, Nat.reduceLT, Nat.reduceEqDiff, Nat.zero_add, Nat.add_zero, Nat.zero_le, Nat.le_refl, and_self, and_true, true_and, Nat.lt_add_one, Nat.zero_lt_succ, ne_eq, not_false_eq_true, Nat.succ_ne_zero, List.flatMap_cons, List.flatMap_nil, LT.lo, Leaf.lo, decide_eq_true h]
  · rw [if_neg h]; simp only [Option.bind_some, Option.bind_none, Option.map_some, Option.map_none, cond_true, cond_false, Bool.not_true, Bool.not_false, if_true, if_false, reduceIte, rdRes, rdTT, rdTy, rdLT, rdLeaf_int, rdLeaf_bool, rdLeaf_str, rdLeaf_row, Res.un, TT.un, Ty.un, LT.un, Leaf.un, rdRow_i1, rdRow_i2, rdRow_i3, rdRow_i4, rdRow_i5, rdRow_args, rdRow_res, rdRow_nil, Leaf.plain, LT.plain, List.isEmpty_cons, Bool.and_self, Bool.and_true, Bool.true_and, Bool.or_true, Bool.true_or, Bool.or_false, Bool.false_or, reserve0, rowSV_len, rowSV_cap, rowSV_tail, guardO_true, hL_empty, hL_new, hL_next, hL_put, hL_reserve, List.replicate, rd_hp, rds_hp, wrs_hp, hL_m, List.nil_append, List.cons_append, List.append_nil, List.getElem?_cons_zero, List.getElem?_cons_succ, Option.getD_some, List.length_cons, List.length_nil, List.length_append, splice, List.take_zero, List.take_succ_cons, List.take_nil, List.drop_zero, List.drop_succ_cons, List.drop_nil, List.set_cons_zero, List.set_cons_succ, LT.pack, Leaf.pack, Nat.reduceAdd, Nat.reduceSub, Nat.reduceLeDiff, Nat.reduceLT, Nat.reduceEqDiff, Nat.zero_add, Nat.add_zero, Nat.zero_le, Nat.le_refl, and_self, and_true, true_and, Nat.lt_add_one, Nat.zero_lt_succ, ne_eq, not_false_eq_true, Nat.succ_ne_zero, List.flatMap_cons, List.flatMap_nil, LT.lo, Leaf.lo, decide_eq_false h]
theorem rminus_nat {x y : Nat} (h : y ≤ x) (hx : x < 85070591730234615865843651857942052864) : spileref01_minusP (((x / 4611686018427387904 : Nat) : Int), ((x % 4611686018427387904 : Nat) : Int)) (((y / 4611686018427387904 : Nat) : Int), ((y % 4611686018427387904 : Nat) : Int)) =
    some ((((x - y) / 4611686018427387904 : Nat) : Int), (((x - y) % 4611686018427387904 : Nat) : Int)) := by
  rw [rminus_ok]
  congr 1
  simp only [IntKind.wrap_u64]
  split <;> rw [Prod.mk.injEq] <;> constructor <;> omega
theorem rOf_loop {p c : Nat} {h0 hh : H} (hread : rdT (.agg [.int .u64, .int .u64]) hh (.hp h0.next 2 0) = some (((p / 4611686018427387904 : Nat) : Int), ((p % 4611686018427387904 : Nat) : Int))) (hQ : p / c ≤ 128849018880000) (hc : c ≤ 128849018880000) (hc0 : 0 < c) :
    iter FUEL (spileref01_Of.loop1 h0 (c : Int) 128849018880000) ((0, 2305843009213693952), hh) = some (.ex0 ((p / c : Nat) : Int), hh) := by
  obtain ⟨x, hx, hp⟩ := iter_inv (f := spileref01_Of.loop1 h0 (c : Int) 128849018880000) (Inv := fun st => st.2 = hh ∧ ∃ q b : Nat, st.1 = ((q : Int), (b : Int)) ∧ q ≤ p / c ∧ ((∃ k, b = 2 ^ k ∧ k ≤ 61 ∧ p / c < q + 2 * 2 ^ k) ∨ b = 0 ∧ q = p / c))
    (Post := fun r => r = (.ex0 ((p / c : Nat) : Int), hh)) (fun st => st.1.2.toNat) (fun st hi => by
      obtain ⟨st, h1⟩ := st
      obtain ⟨rfl, q, b, rfl, hq, hb⟩ := hi
      simp only at *
      rcases hb with ⟨k, rfl, hk, hlt⟩ | ⟨rfl, rfl⟩
      · left
        have hpk : 2 ^ k ≤ 2305843009213693952 := by
          have : 2 ^ k ≤ 2 ^ 61 := Nat.pow_le_pow_right (by omega) hk
          omega
        have hpos : 0 < 2 ^ k := Nat.two_pow_pos k
        have hhalf : Int.tdiv (((2 ^ k : Nat) : Int)) 2 = ((2 ^ k / 2 : Nat) : Int) := tdiv_nat _ 2
        have hnext : 2 ^ k / 2 = (if k = 0 then 0 else 2 ^ (k - 1)) := by
          cases k with
          | zero => rfl
          | succ k => rw [if_neg (by omega), Nat.pow_succ, Nat.mul_div_cancel _ (by omega)]; rfl
        have hstep : spileref01_Of.loop1 h0 (c : Int) 128849018880000 (((q : Int), ((2 ^ k : Nat) : Int)), h1) = some (.more ((((if q + 2 ^ k ≤ p / c then q + 2 ^ k else q : Nat) : Int), ((2 ^ k / 2 : Nat) : Int)), h1)) := by
          unfold spileref01_Of.loop1
          simp only
          rw [decide_eq_true (by omega), hhalf, i64_nat (n := 2 ^ k / 2) (by omega), ← Int.natCast_add, i64_nat (by omega), reserve0, hread]
          simp only [Option.bind_some, Option.bind_none, Option.map_some, Option.map_none, cond_true, cond_false, Bool.not_true, Bool.not_false, if_true, if_false, reduceIte, rdRes, rdTT, rdTy, rdLT, rdLeaf_int, rdLeaf_bool, rdLeaf_str, rdLeaf_row, Res.un, TT.un, Ty.un, LT.un, Leaf.un, rdRow_i1, rdRow_i2, rdRow_i3, rdRow_i4, rdRow_i5, rdRow_args, rdRow_res, rdRow_nil, Leaf.plain, LT.plain, List.isEmpty_cons, Bool.and_self, Bool.and_true, Bool.true_and, Bool.or_true, Bool.true_or, Bool.or_false, Bool.false_or, reserve0, rowSV_len, rowSV_cap, rowSV_tail, guardO_true]
          by_cases h2 : q + 2 ^ k ≤ 128849018880000
          · rw [decide_eq_true (by omega), rProduct_nat (by omega) (by omega)]
            simp only [Option.bind_some, Option.bind_none, Option.map_some, Option.map_none, cond_true, cond_false, Bool.not_true, Bool.not_false, if_true, if_false, reduceIte, rdRes, rdTT, rdTy, rdLT, rdLeaf_int, rdLeaf_bool, rdLeaf_str, rdLeaf_row, Res.un, TT.un, Ty.un, LT.un, Leaf.un, rdRow_i1, rdRow_i2, rdRow_i3, rdRow_i4, rdRow_i5, rdRow_args, rdRow_res, rdRow_nil, Leaf.plain, LT.plain, List.isEmpty_cons, Bool.and_self, Bool.and_true, Bool.true_and, Bool.or_true, Bool.true_or, Bool.or_false, Bool.false_or, reserve0, rowSV_len, rowSV_cap, rowSV_tail, guardO_true, rLess_nat]
            have hiff : q + 2 ^ k ≤ p / c ↔ ¬ (p < (q + 2 ^ k) * c) := by rw [Nat.le_div_iff_mul_le hc0]; omega
            by_cases h3 : p < (q + 2 ^ k) * c
            · rw [decide_eq_true h3, if_neg (by rw [hiff]; omega)]
              simp only [Option.bind_some, Option.bind_none, Option.map_some, Option.map_none, cond_true, cond_false, Bool.not_true, Bool.not_false, if_true, if_false, reduceIte, rdRes, rdTT, rdTy, rdLT, rdLeaf_int, rdLeaf_bool, rdLeaf_str, rdLeaf_row, Res.un, TT.un, Ty.un, LT.un, Leaf.un, rdRow_i1, rdRow_i2, rdRow_i3, rdRow_i4, rdRow_i5, rdRow_args, rdRow_res, rdRow_nil, Leaf.plain, LT.plain, List.isEmpty_cons, Bool.and_self, Bool.and_true, Bool.true_and, Bool.or_true, Bool.true_or, Bool.or_false, Bool.false_or, reserve0, rowSV_len, rowSV_cap, rowSV_tail, guardO_true]
            · rw [decide_eq_false h3, if_pos (by rw [hiff]; omega)]
              simp only [Option.bind_some, Option.bind_none, Option.map_some, Option.map_none, cond_true, cond_false, Bool.not_true, Bool.not_false, if_true, if_false, reduceIte, rdRes, rdTT, rdTy, rdLT, rdLeaf_int, rdLeaf_bool, rdLeaf_str, rdLeaf_row, Res.un, TT.un, Ty.un, LT.un, Leaf.un, rdRow_i1, rdRow_i2, rdRow_i3, rdRow_i4, rdRow_i5, rdRow_args, rdRow_res, rdRow_nil, Leaf.plain, LT.plain, List.isEmpty_cons, Bool.and_self, Bool.and_true, Bool.true_and, Bool.or_true, Bool.true_or, Bool.or_false, Bool.false_or, reserve0, rowSV_len, rowSV_cap, rowSV_tail, guardO_true]
          · rw [decide_eq_false (by omega), if_neg (by omega)]
            simp only [Option.bind_some, Option.bind_none, Option.map_some, Option.map_none, cond_true, cond_false, Bool.not_true, Bool.not_false, if_true, if_false, reduceIte, rdRes, rdTT, rdTy, rdLT, rdLeaf_int, rdLeaf_bool, rdLeaf_str, rdLeaf_row, Res.un, TT.un, Ty.un, LT.un, Leaf.un, rdRow_i1, rdRow_i2, rdRow_i3, rdRow_i4, rdRow_i5, rdRow_args, rdRow_res, rdRow_nil, Leaf.plain, LT.plain, List.isEmpty_cons, Bool.and_self, Bool.and_true, Bool.true_and, Bool.or_true, Bool.true_or, Bool.or_false, Bool.false_or, reserve0, rowSV_len, rowSV_cap, rowSV_tail, guardO_true]
        refine ⟨_, hstep, ⟨rfl, _, _, rfl, by split <;> omega, ?_⟩, ?_⟩
        · rw [hnext]
          cases k with
          | zero => right; refine ⟨by simp, ?_⟩; split <;> omega
          | succ k =>
            left
            refine ⟨k, by simp, by omega, ?_⟩
            rw [Nat.pow_succ] at hlt ⊢
            split <;> omega
        · simp only [Int.toNat_natCast]
          omega
      · right
        refine ⟨_, ?_, rfl⟩
        unfold spileref01_Of.loop1
        rfl) FUEL ((0, 2305843009213693952), hh) ⟨rfl, 0, 2305843009213693952, rfl, Nat.zero_le _, .inl ⟨61, by decide, Nat.le_refl _, by omega⟩⟩ (by
      show Int.toNat 2305843009213693952 < FUEL
      have : Int.toNat 2305843009213693952 < 2 ^ 69 := by decide
      exact fuel_gt this)
  rw [hx, hp]
theorem rOf_nat {a b c : Nat} (ha : a ≤ 128849018880000) (hb : b ≤ 128849018880000) (hc : c ≤ 128849018880000) (h0 : 0 < c) :
    spileref01_OfP (a : Int) (b : Int) (c : Int) 128849018880000 = some (if 128849018880000 < a * b / c then (0, 0, false) else (((a * b / c : Nat) : Int), ((a * b % c : Nat) : Int), true)) := by
  unfold spileref01_OfP spileref01_Of
  have hp : a * b ≤ 128849018880000 * 128849018880000 := Nat.mul_le_mul ha hb
  have hm : 128849018880000 * c ≤ 128849018880000 * 128849018880000 := Nat.mul_le_mul (Nat.le_refl _) hc
  rw [rProduct_nat (by omega) (by omega), show (128849018880000 : Int) = ((128849018880000 : Nat) : Int) from rfl, rProduct_nat (a := 128849018880000) (b := c) (by omega) (by omega)]
  generalize hpe : a * b = p at *
  have hu : IntKind.u64.wrap (c : Int) = ((c % 4611686018427387904 : Nat) : Int) := by rw [u64_nat (by omega)]; omega
  have hz : (0 : Int) = ((c / 4611686018427387904 : Nat) : Int) := by omega
  have hM : (128849018880000 < p / c) ↔ 128849018880000 * c + c ≤ p := by
    rw [Nat.lt_iff_add_one_le, Nat.le_div_iff_mul_le h0]
    omega
  simp -implicitDefEqProofs only [Option.bind_some, Option.bind_none, Option.map_some, Option.map_none, cond_true, cond_false, Bool.not_true, Bool.not_false, if_true, if_false, reduceIte, rdRes, rdTT, rdTy, rdLT, rdLeaf_int, rdLeaf_bool, rdLeaf_str, rdLeaf_row, Res.un, TT.un, Ty.un, LT.un, Leaf.un, rdRow_i1, rdRow_i2, rdRow_i3, rdRow_i4, rdRow_i5, rdRow_args, rdRow_res, rdRow_nil, Leaf.plain, LT.plain, List.isEmpty_cons, Bool.and_self, Bool.and_true, Bool.true_and, Bool.or_true, Bool.true_or, Bool.or_false, Bool.false_or, reserve0, rowSV_len, rowSV_cap, rowSV_tail, guardO_true, hL_empty, hL_new, hL_next, hL_put, hL_reserve, List.replicate, rd_hp, rds_hp, wrs_hp, hL_m, List.nil_append, List.cons_append, List.append_nil, List.getElem?_cons_zero, List.getElem?_cons_succ, Option.getD_some, List.length_cons, List.length_nil, List.length_append, splice, List.take_zero, List.take_succ_cons, List.take_nil, List.drop_zero, List.drop_succ_cons, List.drop_nil, List.set_cons_zero, List.set_cons_succ, LT.pack, Leaf.pack, Nat.reduceAdd, Nat.reduceSub, Nat.reduceLeDiff, Nat.reduceLT, Nat.reduceEqDiff, Nat.zero_add, Nat.add_zero, Nat.zero_le, Nat.le_refl, and_self, and_true, true_and, Nat.lt_add_one, Nat.zero_lt_succ, ne_eq, not_false_eq_true, Nat.succ_ne_zero, List.flatMap_cons, List.flatMap_nil, LT.lo, Leaf.lo, rLess_nat]
  have guard : ((bif decide (128849018880000 * c < p) then
        (spileref01_minusP (((p / 4611686018427387904 : Nat) : Int), ((p % 4611686018427387904 : Nat) : Int)) (((128849018880000 * c / 4611686018427387904 : Nat) : Int), ((128849018880000 * c % 4611686018427387904 : Nat) : Int))).bind fun (r10_0, r10_1) =>
          (spileref01_LessP (r10_0, r10_1) (0, IntKind.u64.wrap (c : Int))).bind fun r11 => some (!r11, hL [Slot.own [V.int .u64 ((p / 4611686018427387904 : Nat) : Int), V.int .u64 ((p % 4611686018427387904 : Nat) : Int)] 2])
      else some (false, hL [Slot.own [V.int .u64 ((p / 4611686018427387904 : Nat) : Int), V.int .u64 ((p % 4611686018427387904 : Nat) : Int)] 2])) : Option (Bool × H)) =
      some (decide (128849018880000 < p / c), hL [Slot.own [V.int .u64 ((p / 4611686018427387904 : Nat) : Int), V.int .u64 ((p % 4611686018427387904 : Nat) : Int)] 2]) := by
    by_cases h1 : 128849018880000 * c < p
    · rw [decide_eq_true h1, rminus_nat (by omega) (by omega)]
      simp -implicitDefEqProofs only [Option.bind_some, Option.bind_none, Option.map_some, Option.map_none, cond_true, cond_false, Bool.not_true, Bool.not_false, if_true, if_false, reduceIte, rdRes, rdTT, rdTy, rdLT, rdLeaf_int, rdLeaf_bool, rdLeaf_str, rdLeaf_row, Res.un, TT.un, Ty.un, LT.un, Leaf.un, rdRow_i1, rdRow_i2, rdRow_i3, rdRow_i4, rdRow_i5, rdRow_args, rdRow_res, rdRow_nil, Leaf.plain, LT.plain, List.isEmpty_cons, Bool.and_self, Bool.and_true, Bool.true_and, Bool.or_true, Bool.true_or, Bool.or_false, Bool.false_or, reserve0, rowSV_len, rowSV_cap, rowSV_tail, guardO_true]
      conv in spileref01_LessP _ (0, _) => rw [hu]; arg 2; arg 1; rw [hz]
      rw [rLess_nat]
      simp -implicitDefEqProofs only [Option.bind_some, Option.bind_none, Option.map_some, Option.map_none, cond_true, cond_false, Bool.not_true, Bool.not_false, if_true, if_false, reduceIte, rdRes, rdTT, rdTy, rdLT, rdLeaf_int, rdLeaf_bool, rdLeaf_str, rdLeaf_row, Res.un, TT.un, Ty.un, LT.un, Leaf.un, rdRow_i1, rdRow_i2, rdRow_i3, rdRow_i4, rdRow_i5, rdRow_args, rdRow_res, rdRow_nil, Leaf.plain, LT.plain, List.isEmpty_cons, Bool.and_self, Bool.and_true, Bool.true_and, Bool.or_true, Bool.true_or, Bool.or_false, Bool.false_or, reserve0, rowSV_len, rowSV_cap, rowSV_tail, guardO_true]
      by_cases h2 : p - 128849018880000 * c < c
      · rw [decide_eq_true h2, decide_eq_false (by rw [hM]; omega)]; rfl
      · rw [decide_eq_false h2, decide_eq_true (by rw [hM]; omega)]; rfl
    · rw [decide_eq_false h1, decide_eq_false (by rw [hM]; omega)]; rfl
  rw [guard]
  simp -implicitDefEqProofs only [Option.bind_some, Option.bind_none, Option.map_some, Option.map_none, cond_true, cond_false, Bool.not_true, Bool.not_false, if_true, if_false, reduceIte, rdRes, rdTT, rdTy, rdLT, rdLeaf_int, rdLeaf_bool, rdLeaf_str, rdLeaf_row, Res.un, TT.un, Ty.un, LT.un, Leaf.un, rdRow_i1, rdRow_i2, rdRow_i3, rdRow_i4, rdRow_i5, rdRow_args, rdRow_res, rdRow_nil, Leaf.plain, LT.plain, List.isEmpty_cons, Bool.and_self, Bool.and_true, Bool.true_and, Bool.or_true, Bool.true_or, Bool.or_false, Bool.false_or, reserve0, rowSV_len, rowSV_cap, rowSV_tail, guardO_true]
  by_cases hq : 128849018880000 < p / c
  · rw [decide_eq_true hq, if_pos hq]
    simp -implicitDefEqProofs only [Option.bind_some, Option.bind_none, Option.map_some, Option.map_none, cond_true, cond_false, Bool.not_true, Bool.not_false, if_true, if_false, reduceIte, rdRes, rdTT, rdTy, rdLT, rdLeaf_int, rdLeaf_bool, rdLeaf_str, rdLeaf_row, Res.un, TT.un, Ty.un, LT.un, Leaf.un, rdRow_i1, rdRow_i2, rdRow_i3, rdRow_i4, rdRow_i5, rdRow_args, rdRow_res, rdRow_nil, Leaf.plain, LT.plain, List.isEmpty_cons, Bool.and_self, Bool.and_true, Bool.true_and, Bool.or_true, Bool.true_or, Bool.or_false, Bool.false_or, reserve0, rowSV_len, rowSV_cap, rowSV_tail, guardO_true]
  · rw [decide_eq_false hq, if_neg hq]
    have hQ : p / c ≤ 128849018880000 := by omega
    simp -implicitDefEqProofs only [Option.bind_some, Option.bind_none, Option.map_some, Option.map_none, cond_true, cond_false, Bool.not_true, Bool.not_false, if_true, if_false, reduceIte, rdRes, rdTT, rdTy, rdLT, rdLeaf_int, rdLeaf_bool, rdLeaf_str, rdLeaf_row, Res.un, TT.un, Ty.un, LT.un, Leaf.un, rdRow_i1, rdRow_i2, rdRow_i3, rdRow_i4, rdRow_i5, rdRow_args, rdRow_res, rdRow_nil, Leaf.plain, LT.plain, List.isEmpty_cons, Bool.and_self, Bool.and_true, Bool.true_and, Bool.or_true, Bool.true_or, Bool.or_false, Bool.false_or, reserve0, rowSV_len, rowSV_cap, rowSV_tail, guardO_true]
    rw [show ((128849018880000 : Nat) : Int) = 128849018880000 from rfl]
    have hl := rOf_loop (p := p) (c := c) (h0 := hL []) (hh := hL [Slot.own [V.int .u64 ((p / 4611686018427387904 : Nat) : Int), V.int .u64 ((p % 4611686018427387904 : Nat) : Int)] 2]) rfl hQ hc h0
    rw [hl]
    have hmul : p / c * c ≤ p := Nat.div_mul_le_self p c
    simp -implicitDefEqProofs only [Option.bind_some, Option.bind_none, Option.map_some, Option.map_none, cond_true, cond_false, Bool.not_true, Bool.not_false, if_true, if_false, reduceIte, rdRes, rdTT, rdTy, rdLT, rdLeaf_int, rdLeaf_bool, rdLeaf_str, rdLeaf_row, Res.un, TT.un, Ty.un, LT.un, Leaf.un, rdRow_i1, rdRow_i2, rdRow_i3, rdRow_i4, rdRow_i5, rdRow_args, rdRow_res, rdRow_nil, Leaf.plain, LT.plain, List.isEmpty_cons, Bool.and_self, Bool.and_true, Bool.true_and, Bool.or_true, Bool.true_or, Bool.or_false, Bool.false_or, reserve0, rowSV_len, rowSV_cap, rowSV_tail, guardO_true, hL_empty, hL_new, hL_next, hL_put, hL_reserve, List.replicate, rd_hp, rds_hp, wrs_hp, hL_m, List.nil_append, List.cons_append, List.append_nil, List.getElem?_cons_zero, List.getElem?_cons_succ, Option.getD_some, List.length_cons, List.length_nil, List.length_append, splice, List.take_zero, List.take_succ_cons, List.take_nil, List.drop_zero, List.drop_succ_cons, List.drop_nil, List.set_cons_zero, List.set_cons_succ, LT.pack, Leaf.pack, Nat.reduceAdd, Nat.reduceSub, Nat.reduceLeDiff, Nat.reduceLT, Nat.reduceEqDiff, Nat.zero_add, Nat.add_zero, Nat.zero_le, Nat.le_refl, and_self, and_true, true_and, Nat.lt_add_one, Nat.zero_lt_succ, ne_eq, not_false_eq_true, Nat.succ_ne_zero, List.flatMap_cons, List.flatMap_nil, LT.lo, Leaf.lo]
    rw [rProduct_nat (by omega) (by omega)]
    simp -implicitDefEqProofs only [Option.bind_some, Option.bind_none, Option.map_some, Option.map_none, cond_true, cond_false, Bool.not_true, Bool.not_false, if_true, if_false, reduceIte, rdRes, rdTT, rdTy, rdLT, rdLeaf_int, rdLeaf_bool, rdLeaf_str, rdLeaf_row, Res.un, TT.un, Ty.un, LT.un, Leaf.un, rdRow_i1, rdRow_i2, rdRow_i3, rdRow_i4, rdRow_i5, rdRow_args, rdRow_res, rdRow_nil, Leaf.plain, LT.plain, List.isEmpty_cons, Bool.and_self, Bool.and_true, Bool.true_and, Bool.or_true, Bool.true_or, Bool.or_false, Bool.false_or, reserve0, rowSV_len, rowSV_cap, rowSV_tail, guardO_true, hL_empty, hL_new, hL_next, hL_put, hL_reserve, List.replicate, rd_hp, rds_hp, wrs_hp, hL_m, List.nil_append, List.cons_append, List.append_nil, List.getElem?_cons_zero, List.getElem?_cons_succ, Option.getD_some, List.length_cons, List.length_nil, List.length_append, splice, List.take_zero, List.take_succ_cons, List.take_nil, List.drop_zero, List.drop_succ_cons, List.drop_nil, List.set_cons_zero, List.set_cons_succ, LT.pack, Leaf.pack, Nat.reduceAdd, Nat.reduceSub, Nat.reduceLeDiff, Nat.reduceLT, Nat.reduceEqDiff, Nat.zero_add, Nat.add_zero, Nat.zero_le, Nat.le_refl, and_self, and_true, true_and, Nat.lt_add_one, Nat.zero_lt_succ, ne_eq, not_false_eq_true, Nat.succ_ne_zero, List.flatMap_cons, List.flatMap_nil, LT.lo, Leaf.lo]
    rw [rminus_nat hmul (by omega)]
    simp -implicitDefEqProofs only [Option.bind_some, Option.bind_none, Option.map_some, Option.map_none, cond_true, cond_false, Bool.not_true, Bool.not_false, if_true, if_false, reduceIte, rdRes, rdTT, rdTy, rdLT, rdLeaf_int, rdLeaf_bool, rdLeaf_str, rdLeaf_row, Res.un, TT.un, Ty.un, LT.un, Leaf.un, rdRow_i1, rdRow_i2, rdRow_i3, rdRow_i4, rdRow_i5, rdRow_args, rdRow_res, rdRow_nil, Leaf.plain, LT.plain, List.isEmpty_cons, Bool.and_self, Bool.and_true, Bool.true_and, Bool.or_true, Bool.true_or, Bool.or_false, Bool.false_or, reserve0, rowSV_len, rowSV_cap, rowSV_tail, guardO_true, hL_empty, hL_new, hL_next, hL_put, hL_reserve, List.replicate, rd_hp, rds_hp, wrs_hp, hL_m, List.nil_append, List.cons_append, List.append_nil, List.getElem?_cons_zero, List.getElem?_cons_succ, Option.getD_some, List.length_cons, List.length_nil, List.length_append, splice, List.take_zero, List.take_succ_cons, List.take_nil, List.drop_zero, List.drop_succ_cons, List.drop_nil, List.set_cons_zero, List.set_cons_succ, LT.pack, Leaf.pack, Nat.reduceAdd, Nat.reduceSub, Nat.reduceLeDiff, Nat.reduceLT, Nat.reduceEqDiff, Nat.zero_add, Nat.add_zero, Nat.zero_le, Nat.le_refl, and_self, and_true, true_and, Nat.lt_add_one, Nat.zero_lt_succ, ne_eq, not_false_eq_true, Nat.succ_ne_zero, List.flatMap_cons, List.flatMap_nil, LT.lo, Leaf.lo]
    have hmod : p - p / c * c = p % c := by have := Nat.div_add_mod p c; rw [Nat.mul_comm] at this; omega
    have hlt : p % c < c := Nat.mod_lt _ h0
    rw [hmod, i64_nat (by omega)]
    rw [show p % c % 4611686018427387904 = p % c by omega]
theorem rOf_ok {a b c : Int} (ha : isAmt a = true) (hb : isAmt b = true) (hc : isAmt c = true) (h0 : c ≠ 0) : spileref01_OfP a b c 128849018880000 = some (divOf a b c) := by
  obtain ⟨a, rfl, ha'⟩ := isAmt_nat ha
  obtain ⟨b, rfl, hb'⟩ := isAmt_nat hb
  obtain ⟨c, rfl, hc'⟩ := isAmt_nat hc
  rw [rOf_nat ha' hb' hc' (by omega), divOf_nat]
theorem rProportion_ok {a b c : Int} (ha : isAmt a = true) (hb : isAmt b = true) (hc : isAmt c = true) (h0 : c ≠ 0) : spileref01_ProportionP a b c = some ((divOf a b c).1, (divOf a b c).2.1) := by
  unfold spileref01_ProportionP spileref01_Proportion
  rw [rOf_ok ha hb hc h0]
  rfl
end Go.Proofs.Ytaepkinihaipkaa
