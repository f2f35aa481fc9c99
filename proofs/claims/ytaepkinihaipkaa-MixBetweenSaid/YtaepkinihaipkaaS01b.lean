/- What math/bits computes: leading zeros, products, and quotients of 128 bits. Conditions: those of each law. -/
import Derived.Test.YtaepkinihaipkaaS01a
import Derived.Test.YtaepkinihaipkaaFn8
import Derived.Lib.Mul64
namespace Go.Proofs.Ytaepkinihaipkaa
open Go Go.Proofs.Ytaepkinihaipkaa.Ev
set_option linter.unusedVariables false
set_option linter.unusedSimpArgs false
set_option maxRecDepth 100000
set_option maxHeartbeats 1000000
def lenTab : ByteArray := ⟨#[0, 1, 2, 2, 3, 3, 3, 3, 4, 4, 4, 4, 4, 4, 4, 4, 5, 5, 5, 5, 5, 5, 5, 5, 5, 5, 5, 5, 5, 5, 5, 5, 6, 6, 6, 6, 6, 6, 6, 6, 6, 6, 6, 6, 6, 6, 6, 6, 6, 6, 6, 6, 6, 6, 6, 6, 6, 6, 6, 6, 6, 6, 6, 6, 7, 7, 7, 7, 7, 7, 7, 7, 7, 7, 7, 7, 7, 7, 7, 7, 7, 7, 7, 7, 7, 7, 7, 7, 7, 7, 7, 7, 7, 7, 7, 7, 7, 7, 7, 7, 7, 7, 7, 7, 7, 7, 7, 7, 7, 7, 7, 7, 7, 7, 7, 7, 7, 7, 7, 7, 7, 7, 7, 7, 7, 7, 7, 7, 8, 8, 8, 8, 8, 8, 8, 8, 8, 8, 8, 8, 8, 8, 8, 8, 8, 8, 8, 8, 8, 8, 8, 8, 8, 8, 8, 8, 8, 8, 8, 8, 8, 8, 8, 8, 8, 8, 8, 8, 8, 8, 8, 8, 8, 8, 8, 8, 8, 8, 8, 8, 8, 8, 8, 8, 8, 8, 8, 8, 8, 8, 8, 8, 8, 8, 8, 8, 8, 8, 8, 8, 8, 8, 8, 8, 8, 8, 8, 8, 8, 8, 8, 8, 8, 8, 8, 8, 8, 8, 8, 8, 8, 8, 8, 8, 8, 8, 8, 8, 8, 8, 8, 8, 8, 8, 8, 8, 8, 8, 8, 8, 8, 8, 8, 8, 8, 8, 8, 8, 8, 8, 8, 8, 8, 8, 8, 8]⟩
def len8 (n : Nat) : Nat := (((lenTab.data[n]?).map UInt8.toNat).getD 0 : Nat)
theorem len8_ok : ∀ n, 0 < n → n < 256 → 2 ^ len8 n / 2 ≤ n ∧ n < 2 ^ len8 n ∧ 1 ≤ len8 n ∧ len8 n ≤ 8 := by
  intro n h0 h1
  have : (List.range 256).all (fun n => n == 0 || (decide (2 ^ len8 n / 2 ≤ n) && (decide (n < 2 ^ len8 n) && (decide (1 ≤ len8 n) && decide (len8 n ≤ 8))))) = true := by kernel_rfl
  have := List.all_eq_true.1 this n (by simp; omega)
  simp only [Bool.or_eq_true, Bool.and_eq_true, decide_eq_true_eq, beq_iff_eq] at this
  rcases this with h | h
  · omega
  · exact h
def lenTail (y k : Int) : Option Int :=
  guardO (0 ≤ (IntKind.wrap .u8 y) ∧ (IntKind.wrap .u8 y) < ((ByteArray.size lenTab : Nat) : Int)) (some (IntKind.wrap .i64 (k + (IntKind.wrap .i64 ((((lenTab.data[Int.toNat (IntKind.wrap .u8 y)]?).map UInt8.toNat).getD 0 : Nat) : Int)))))
theorem lenTail_ok {y k : Nat} (h0 : 0 < y) (h1 : y < 256) (hk : k ≤ 56) : lenTail (y : Int) (k : Int) = some ((k + len8 y : Nat) : Int) := by
  unfold lenTail
  rw [IntWalk.u8_in _ (by omega), Int.toNat_natCast, guardO_pos (by rw [show ByteArray.size lenTab = 256 by kernel_rfl]; omega)]
  have := len8_ok y h0 h1
  show some (IntKind.wrap .i64 ((k : Int) + IntKind.wrap .i64 ((len8 y : Nat) : Int))) = _
  rw [IntWalk.i64_in ((len8 y : Nat) : Int) (by omega), IntWalk.i64_in _ (by omega)]
  rfl
theorem Len64_key (x : Int) : math_bits_Len64P x =
    bif decide ((4294967296 : Int) ≤ x) then
      (bif decide ((65536 : Int) ≤ Int.fdiv x (2 ^ 32)) then
        (bif decide ((256 : Int) ≤ Int.fdiv (Int.fdiv x (2 ^ 32)) (2 ^ 16)) then lenTail (Int.fdiv (Int.fdiv (Int.fdiv x (2 ^ 32)) (2 ^ 16)) (2 ^ 8)) 56 else lenTail (Int.fdiv (Int.fdiv x (2 ^ 32)) (2 ^ 16)) 48)
      else (bif decide ((256 : Int) ≤ Int.fdiv x (2 ^ 32)) then lenTail (Int.fdiv (Int.fdiv x (2 ^ 32)) (2 ^ 8)) 40 else lenTail (Int.fdiv x (2 ^ 32)) 32))
    else
      (bif decide ((65536 : Int) ≤ x) then
        (bif decide ((256 : Int) ≤ Int.fdiv x (2 ^ 16)) then lenTail (Int.fdiv (Int.fdiv x (2 ^ 16)) (2 ^ 8)) 24 else lenTail (Int.fdiv x (2 ^ 16)) 16)
      else (bif decide ((256 : Int) ≤ x) then lenTail (Int.fdiv x (2 ^ 8)) 8 else lenTail x 0)) := by
  have gb : ∀ {p : Prop} [Decidable p] {α β : Type} (x : Option α) (f : α → Option β), (guardO p x).bind f = guardO p (x.bind f) := guardO_bind
  unfold math_bits_Len64P math_bits_Len64
  cases h1 : decide ((4294967296 : Int) ≤ x) with
  | true =>
    simp only [cond_true, Option.bind_some]
    cases h2 : decide ((65536 : Int) ≤ Int.fdiv x (2 ^ min (Int.toNat 32) (IntKind.bits .u64))) with
    | true =>
      simp only [cond_true, Option.bind_some]
      cases h3 : decide ((256 : Int) ≤ Int.fdiv (Int.fdiv x (2 ^ min (Int.toNat 32) (IntKind.bits .u64))) (2 ^ min (Int.toNat 16) (IntKind.bits .u64))) with
      | true =>
        rw [show decide ((65536 : Int) ≤ Int.fdiv x (2 ^ 32)) = true from h2, show decide ((256 : Int) ≤ Int.fdiv (Int.fdiv x (2 ^ 32)) (2 ^ 16)) = true from h3]
        simp only [cond_true, Option.bind_some, gb]
        rfl
      | false =>
        rw [show decide ((65536 : Int) ≤ Int.fdiv x (2 ^ 32)) = true from h2, show decide ((256 : Int) ≤ Int.fdiv (Int.fdiv x (2 ^ 32)) (2 ^ 16)) = false from h3]
        simp only [cond_true, cond_false, Option.bind_some, gb]
        rfl
    | false =>
      simp only [cond_false, Option.bind_some]
      cases h3 : decide ((256 : Int) ≤ Int.fdiv x (2 ^ min (Int.toNat 32) (IntKind.bits .u64))) with
      | true =>
        rw [show decide ((65536 : Int) ≤ Int.fdiv x (2 ^ 32)) = false from h2, show decide ((256 : Int) ≤ Int.fdiv x (2 ^ 32)) = true from h3]
        simp only [cond_true, cond_false, Option.bind_some, gb]
        rfl
      | false =>
        rw [show decide ((65536 : Int) ≤ Int.fdiv x (2 ^ 32)) = false from h2, show decide ((256 : Int) ≤ Int.fdiv x (2 ^ 32)) = false from h3]
        simp only [cond_true, cond_false, Option.bind_some, gb]
        rfl
  | false =>
    simp only [cond_false, Option.bind_some]
    cases h2 : decide ((65536 : Int) ≤ x) with
    | true =>
      simp only [cond_true, Option.bind_some]
      cases h3 : decide ((256 : Int) ≤ Int.fdiv x (2 ^ min (Int.toNat 16) (IntKind.bits .u64))) with
      | true =>
        rw [show decide ((256 : Int) ≤ Int.fdiv x (2 ^ 16)) = true from h3]
        simp only [cond_true, cond_false, Option.bind_some, gb]
        rfl
      | false =>
        rw [show decide ((256 : Int) ≤ Int.fdiv x (2 ^ 16)) = false from h3]
        simp only [cond_true, cond_false, Option.bind_some, gb]
        rfl
    | false =>
      simp only [cond_false, Option.bind_some]
      cases h3 : decide ((256 : Int) ≤ x) with
      | true =>
        simp only [cond_true, cond_false, Option.bind_some, gb]
        rfl
      | false =>
        simp only [cond_true, cond_false, Option.bind_some, gb]
        rfl
theorem fdiv_nat (x n : Nat) : Int.fdiv (x : Int) (n : Int) = ((x / n : Nat) : Int) := by
  rw [Int.fdiv_eq_ediv_of_nonneg _ (by omega)]
  rfl
theorem fdiv_pow (x n : Nat) : Int.fdiv (x : Int) (2 ^ n) = ((x / 2 ^ n : Nat) : Int) := by
  rw [← fdiv_nat]
  congr 1
/-- How many bits a number has. -/
theorem Len64_ok {x : Nat} (h0 : 0 < x) (h1 : x < 18446744073709551616) : ∃ n, math_bits_Len64P (x : Int) = some ((n : Nat) : Int) ∧ 1 ≤ n ∧ n ≤ 64 ∧ 2 ^ (n - 1) ≤ x ∧ x < 2 ^ n := by
  have fin : ∀ k : Nat, k ≤ 56 → 0 < x / 2 ^ k → x / 2 ^ k < 256 → ∃ n, lenTail ((x / 2 ^ k : Nat) : Int) ((k : Nat) : Int) = some ((n : Nat) : Int) ∧ 1 ≤ n ∧ n ≤ 64 ∧ 2 ^ (n - 1) ≤ x ∧ x < 2 ^ n := fun k hk g0 g1 => by
    obtain ⟨l1, l2, l3, l4⟩ := len8_ok _ g0 g1
    refine ⟨k + len8 (x / 2 ^ k), lenTail_ok g0 g1 hk, by omega, by omega, ?_, ?_⟩
    · have e : 2 ^ (k + len8 (x / 2 ^ k) - 1) = 2 ^ (len8 (x / 2 ^ k)) / 2 * 2 ^ k := by
        rw [show k + len8 (x / 2 ^ k) - 1 = (len8 (x / 2 ^ k) - 1) + k by omega, Nat.pow_add]
        congr 1
        conv => rhs; rw [show len8 (x / 2 ^ k) = (len8 (x / 2 ^ k) - 1) + 1 by omega, Nat.pow_succ, Nat.mul_div_cancel _ (by omega)]
      rw [e]
      exact Nat.le_trans (Nat.mul_le_mul_right _ l1) (Nat.div_mul_le_self x (2 ^ k))
    · rw [Nat.pow_add, Nat.mul_comm]
      exact (Nat.div_lt_iff_lt_mul (Nat.two_pow_pos k)).1 l2
  rw [Len64_key]
  have f16 : Int.fdiv (x : Int) (2 ^ 16) = ((x / 2 ^ 16 : Nat) : Int) := fdiv_pow x 16
  have f8 : Int.fdiv (x : Int) (2 ^ 8) = ((x / 2 ^ 8 : Nat) : Int) := fdiv_pow x 8
  have f32 : Int.fdiv (x : Int) (2 ^ 32) = ((x / 2 ^ 32 : Nat) : Int) := fdiv_pow x 32
  have f3216 : Int.fdiv ((x / 2 ^ 32 : Nat) : Int) (2 ^ 16) = ((x / 2 ^ 48 : Nat) : Int) := by rw [fdiv_pow, Nat.div_div_eq_div_mul]
  have f328 : Int.fdiv ((x / 2 ^ 32 : Nat) : Int) (2 ^ 8) = ((x / 2 ^ 40 : Nat) : Int) := by rw [fdiv_pow, Nat.div_div_eq_div_mul]
  have f32168 : Int.fdiv ((x / 2 ^ 48 : Nat) : Int) (2 ^ 8) = ((x / 2 ^ 56 : Nat) : Int) := by rw [fdiv_pow, Nat.div_div_eq_div_mul]
  have f168 : Int.fdiv ((x / 2 ^ 16 : Nat) : Int) (2 ^ 8) = ((x / 2 ^ 24 : Nat) : Int) := by rw [fdiv_pow, Nat.div_div_eq_div_mul]
  rw [f32, f16, f8, f3216, f328, f32168, f168]
  by_cases c1 : (4294967296 : Int) ≤ x
  · rw [decide_eq_true c1, cond_true]
    by_cases c2 : (65536 : Int) ≤ ((x / 2 ^ 32 : Nat) : Int)
    · rw [decide_eq_true c2, cond_true]
      by_cases c3 : (256 : Int) ≤ ((x / 2 ^ 48 : Nat) : Int)
      · rw [decide_eq_true c3, cond_true]; exact fin 56 (by omega) (by omega) (by omega)
      · rw [decide_eq_false c3, cond_false]; exact fin 48 (by omega) (by omega) (by omega)
    · rw [decide_eq_false c2, cond_false]
      by_cases c3 : (256 : Int) ≤ ((x / 2 ^ 32 : Nat) : Int)
      · rw [decide_eq_true c3, cond_true]; exact fin 40 (by omega) (by omega) (by omega)
      · rw [decide_eq_false c3, cond_false]; exact fin 32 (by omega) (by omega) (by omega)
  · rw [decide_eq_false c1, cond_false]
    by_cases c2 : (65536 : Int) ≤ x
    · rw [decide_eq_true c2, cond_true]
      by_cases c3 : (256 : Int) ≤ ((x / 2 ^ 16 : Nat) : Int)
      · rw [decide_eq_true c3, cond_true]; exact fin 24 (by omega) (by omega) (by omega)
      · rw [decide_eq_false c3, cond_false]; exact fin 16 (by omega) (by omega) (by omega)
    · rw [decide_eq_false c2, cond_false]
      by_cases c3 : (256 : Int) ≤ x
      · rw [decide_eq_true c3, cond_true]; exact fin 8 (by omega) (by omega) (by omega)
      · rw [decide_eq_false c3, cond_false]
        have := fin 0 (by omega) (by simpa using h0) (by simp; omega)
        simpa using this
theorem LeadingZeros64_ok {x : Nat} (h0 : 0 < x) (h1 : x < 18446744073709551616) : ∃ s, math_bits_LeadingZeros64P (x : Int) = some ((s : Nat) : Int) ∧ s ≤ 63 ∧ 9223372036854775808 ≤ x * 2 ^ s ∧ x * 2 ^ s < 18446744073709551616 := by
  obtain ⟨n, g1, g2, g3, g4, g5⟩ := Len64_ok h0 h1
  refine ⟨64 - n, ?_, by omega, ?_, ?_⟩
  · unfold math_bits_LeadingZeros64P math_bits_LeadingZeros64
    rw [g1]
    simp only [Option.bind_some]
    rw [IntWalk.i64_in _ (by omega), show (64 : Int) - (n : Int) = ((64 - n : Nat) : Int) by omega]
    rfl
  · have e : (9223372036854775808 : Nat) = 2 ^ (n - 1) * 2 ^ (64 - n) := by rw [← Nat.pow_add, show n - 1 + (64 - n) = 63 by omega]
    rw [e]
    exact Nat.mul_le_mul_right _ g4
  · have e : (18446744073709551616 : Nat) = 2 ^ n * 2 ^ (64 - n) := by rw [← Nat.pow_add, show n + (64 - n) = 64 by omega]
    rw [e]
    exact Nat.mul_lt_mul_of_pos_right g5 (Nat.two_pow_pos _)
end Go.Proofs.Ytaepkinihaipkaa
