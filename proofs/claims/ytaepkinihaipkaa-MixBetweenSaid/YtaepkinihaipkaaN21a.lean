/- What sort.Search computes. Conditions: those of each law. -/
import Derived.Test.YtaepkinihaipkaaS01d
import Derived.Test.YtaepkinihaipkaaFn8
namespace Go.Proofs.Ytaepkinihaipkaa
open Go Go.Proofs.Ytaepkinihaipkaa.Ev
set_option linter.unusedVariables false
set_option linter.unusedSimpArgs false
set_option maxRecDepth 100000
set_option maxHeartbeats 4000000
theorem mid_eq {lo hi : Nat} (h : lo + hi < 4611686018427387904) : IntKind.wrap .i64 (Int.fdiv (IntKind.wrap .u64 (IntKind.wrap .i64 ((lo : Int) + (hi : Int)))) (2 ^ (min (Int.toNat 1) (IntKind.bits .u64)))) = (((lo + hi) / 2 : Nat) : Int) := by
  rw [← Int.natCast_add, i64_nat (by omega), u64_nat (by omega), show ((2 : Int) ^ (min (Int.toNat 1) (IntKind.bits .u64))) = 2 from rfl, Int.fdiv_eq_ediv_of_nonneg _ (by omega)]
  rw [show (((lo + hi : Nat) : Int) / 2) = (((lo + hi) / 2 : Nat) : Int) by omega, i64_nat (by omega)]
theorem search_step {T : Table} {v : V} {h : H} {lo hi : Nat} (p : Nat → Bool) (hlt : lo < hi) (hh : hi < 2305843009213693952)
    (hc : ∀ {R : Type} (k : V → H → Option R), callV T.dy v [.int .i64 (((lo + hi) / 2 : Nat) : Int)] h k = k (.bool (p ((lo + hi) / 2))) h) :
    sort_Search.loop1 T v (((lo : Int), (hi : Int)), h) = some (.more (if p ((lo + hi) / 2) = true then ((lo : Int), (((lo + hi) / 2 : Nat) : Int)) else ((((lo + hi) / 2 + 1 : Nat) : Int), (hi : Int)), h)) := by
  unfold sort_Search.loop1
  simp only [mid_eq (lo := lo) (hi := hi) (by omega)]
  rw [decide_eq_true (show (lo : Int) < (hi : Int) by omega), cond_true, hc]
  simp -implicitDefEqProofs only [Res.pack, Ty.pack, Leaf.pack, Option.bind_some]
  cases p ((lo + hi) / 2) with
  | true => simp -implicitDefEqProofs only [Option.bind_some, Option.bind_none, Option.map_some, Option.map_none, cond_true, cond_false, Bool.not_true, Bool.not_false, if_true, if_false, reduceIte, rdRes, rdTT, rdTy, rdLT, rdLeaf_int, rdLeaf_bool, rdLeaf_str, rdLeaf_row, Res.un, TT.un, Ty.un, LT.un, Leaf.un, rdRow_i1, rdRow_i2, rdRow_i3, rdRow_i4, rdRow_i5, rdRow_args, rdRow_res, rdRow_nil, Leaf.plain, LT.plain, List.isEmpty_cons, Bool.and_self, Bool.and_true, Bool.true_and, Bool.or_true, Bool.true_or, Bool.or_false, Bool.false_or, reserve0, rowSV_len, rowSV_cap, rowSV_tail, guardO_true]
  | false =>
    simp -implicitDefEqProofs only [Option.bind_some, Option.bind_none, Option.map_some, Option.map_none, cond_true, cond_false, Bool.not_true, Bool.not_false, if_true, if_false, reduceIte, rdRes, rdTT, rdTy, rdLT, rdLeaf_int, rdLeaf_bool, rdLeaf_str, rdLeaf_row, Res.un, TT.un, Ty.un, LT.un, Leaf.un, rdRow_i1, rdRow_i2, rdRow_i3, rdRow_i4, rdRow_i5, rdRow_args, rdRow_res, rdRow_nil, Leaf.plain, LT.plain, List.isEmpty_cons, Bool.and_self, Bool.and_true, Bool.true_and, Bool.or_true, Bool.true_or, Bool.or_false, Bool.false_or, reserve0, rowSV_len, rowSV_cap, rowSV_tail, guardO_true, Bool.false_eq_true]
    rw [i64_succ (by omega)]
theorem search_loop {T : Table} {v : V} {h : H} {n : Nat} (p : Nat → Bool) (hn : n < 2305843009213693952)
    (hc : ∀ m, m < n → ∀ {R : Type} (k : V → H → Option R), callV T.dy v [.int .i64 (m : Int)] h k = k (.bool (p m)) h) :
    ∀ (fuel lo hi : Nat), hi - lo < fuel → lo ≤ hi → hi ≤ n → (lo = 0 ∨ p (lo - 1) = false) → (hi = n ∨ p hi = true) →
      ∃ m : Nat, iter fuel (sort_Search.loop1 T v) (((lo : Int), (hi : Int)), h) = some (.ex0 (m : Int), h) ∧ m ≤ n ∧ (m = 0 ∨ p (m - 1) = false) ∧ (m = n ∨ p m = true)
  | 0, lo, hi, hf, _, _, _, _ => by omega
  | fuel + 1, lo, hi, hf, hle, hhn, h1, h2 => by
    rw [iter]
    by_cases e : lo = hi
    · subst e
      refine ⟨lo, ?_, hhn, h1, h2⟩
      have hend : sort_Search.loop1 T v (((lo : Int), (lo : Int)), h) = some (.done (.ex0 (lo : Int), h)) := by
        unfold sort_Search.loop1
        simp only
        rw [decide_eq_false (show ¬ (lo : Int) < (lo : Int) by omega), cond_false]
      rw [hend]
      rfl
    · rw [search_step p (by omega) (by omega) (hc _ (by omega))]
      by_cases hp : p ((lo + hi) / 2) = true
      · rw [if_pos hp]
        exact search_loop p hn hc fuel lo ((lo + hi) / 2) (by omega) (by omega) (by omega) h1 (.inr hp)
      · rw [if_neg hp]
        exact search_loop p hn hc fuel ((lo + hi) / 2 + 1) hi (by omega) (by omega) hhn (.inr (by rw [Nat.add_sub_cancel]; simpa using hp)) h2
/-- The place that a search finds: all before say no, all from there on say yes. -/
theorem Search_ok {T : Table} {v : V} {h : H} {n : Nat} (p : Nat → Bool) (hn : n < 2305843009213693952) (hm : ∀ a b, a ≤ b → b < n → p a = true → p b = true)
    (hc : ∀ m, m < n → ∀ {R : Type} (k : V → H → Option R), callV T.dy v [.int .i64 (m : Int)] h k = k (.bool (p m)) h) :
    ∃ m : Nat, sort_Search T (n : Int) v h = some ((m : Int), h) ∧ m ≤ n ∧ (∀ q, q < m → p q = false) ∧ (∀ q, m ≤ q → q < n → p q = true) := by
  obtain ⟨m, h1, h2, h3, h4⟩ := search_loop p hn hc FUEL 0 n (by have := fuel_gt (n := n) (by omega); omega) (by omega) (by omega) (.inl rfl) (.inl rfl)
  refine ⟨m, ?_, h2, fun q hq => ?_, fun q hq hqn => ?_⟩
  · unfold sort_Search
    have hz : ((0 : Nat) : Int) = 0 := rfl
    rw [hz] at h1
    rw [h1]
    rfl
  · rcases h3 with h3 | h3
    · omega
    · cases hpq : p q with
      | false => rfl
      | true =>
        have := hm q (m - 1) (by omega) (by omega) hpq
        rw [h3] at this
        exact absurd this (by simp)
  · rcases h4 with h4 | h4
    · omega
    · exact hm m q hq hqn h4
end Go.Proofs.Ytaepkinihaipkaa
