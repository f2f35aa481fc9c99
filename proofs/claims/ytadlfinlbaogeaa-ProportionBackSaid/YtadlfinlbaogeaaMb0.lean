/- What the functions of this seat compute: some texts in one. Conditions: those of each law. -/
import Derived.Test.YtadlfinlbaogeaaEvSpec
import Derived.Test.YtadlfinlbaogeaaFn9
import Derived.Lib.Mul64
/- The arithmetic of dividing 128 bits by 64 bits, digit by digit. Conditions: those of each law. -/
namespace Go.Proofs.Ytadlfinlbaogeaa
open Go Go.Proofs.Ytadlfinlbaogeaa.Ev
set_option linter.unusedVariables false
set_option linter.unusedSimpArgs false
/-- The estimate is too great exactly if the test says so. -/
theorem over_iff {y1 y0 n d q r : Nat} (hr : r + q * y1 = n) : 4294967296 * r + d < q * y0 ↔ n * 4294967296 + d < q * (y1 * 4294967296 + y0) := by
  have e1 : q * (y1 * 4294967296 + y0) = (q * y1) * 4294967296 + q * y0 := by rw [Nat.mul_add, Nat.mul_assoc]
  rw [e1, ← hr]
  generalize q * y1 = p
  generalize q * y0 = z
  omega
theorem quot_lt_iff {y n d q : Nat} (hy : 0 < y) : (n * 4294967296 + d) / y < q ↔ n * 4294967296 + d < q * y := Nat.div_lt_iff_lt_mul hy
theorem quot_small {y n d : Nat} (hy : n < y) (hd : d < 4294967296) : (n * 4294967296 + d) / y < 4294967296 := by
  rw [quot_lt_iff (by omega)]
  have : (n + 1) * 4294967296 ≤ y * 4294967296 := Nat.mul_le_mul_right _ hy
  omega
theorem first_ge {y1 y0 n d : Nat} (h1 : 0 < y1) (hd : d < 4294967296) : (n * 4294967296 + d) / (y1 * 4294967296 + y0) ≤ n / y1 := by
  rw [Nat.le_div_iff_mul_le h1]
  have h := Nat.div_mul_le_self (n * 4294967296 + d) (y1 * 4294967296 + y0)
  generalize (n * 4294967296 + d) / (y1 * 4294967296 + y0) = q at h ⊢
  rw [Nat.mul_add, ← Nat.mul_assoc] at h
  generalize q * y1 = p at h ⊢
  generalize q * y0 = z at h
  omega
theorem first_le {y1 y0 n : Nat} (h1 : 2147483648 ≤ y1) (h0 : y0 < 4294967296) (hn : n < y1 * 4294967296 + y0) : n / y1 ≤ 4294967297 := by
  rw [Nat.div_le_iff_le_mul_add_pred (by omega)]
  omega
/-- One digit of the quotient. -/
theorem digit_loop {F : Type} {f : (Int × Int) × H → Option (Stp ((Int × Int) × H) (Flow Int F × H))} {h : H} {y1 y0 n d : Nat} (h1 : 2147483648 ≤ y1) (h1' : y1 < 4294967296) (h0 : y0 < 4294967296) (hn : n < y1 * 4294967296 + y0) (hd : d < 4294967296)
    (hf : ∀ q r : Nat, q ≤ 4294967297 → r < 4294967296 → f (((q : Int), (r : Int)), h) = if 4294967296 ≤ q ∨ 4294967296 * r + d < q * y0 then (if 4294967296 ≤ r + y1 then some (.done (.ex0 (((q - 1 : Nat) : Int)), h)) else some (.more ((((q - 1 : Nat) : Int), ((r + y1 : Nat) : Int)), h))) else some (.done (.ex0 (q : Int), h))) :
    iter FUEL f ((((n / y1 : Nat) : Int), ((n % y1 : Nat) : Int)), h) = some (.ex0 (((n * 4294967296 + d) / (y1 * 4294967296 + y0) : Nat) : Int), h) := by
  have hy : 0 < y1 * 4294967296 + y0 := by omega
  have hq0 : ∃ Q, (n * 4294967296 + d) / (y1 * 4294967296 + y0) = Q := ⟨_, rfl⟩
  obtain ⟨Q, hQ⟩ := hq0
  have hfirst : Q ≤ n / y1 := by rw [← hQ]; exact first_ge (by omega) hd
  rw [hQ]
  obtain ⟨x, hx, hp⟩ := iter_inv (f := f) (Inv := fun st => st.2 = h ∧ ∃ q r : Nat, st.1 = ((q : Int), (r : Int)) ∧ r + q * y1 = n ∧ Q ≤ q ∧ q ≤ 4294967297 ∧ r < 4294967296)
    (Post := fun x => x = (.ex0 ((Q : Nat) : Int), h)) (fun st => st.1.1.toNat) (fun st hi => by
      obtain ⟨st, h0'⟩ := st
      obtain ⟨rfl, q, r, rfl, e1, e2, e3, e4⟩ := hi
      simp only
      rw [hf q r e3 e4]
      by_cases hc : 4294967296 ≤ q ∨ 4294967296 * r + d < q * y0
      · rw [if_pos hc]
        have hlt : Q < q := by
          rw [← hQ]
          rcases hc with hc | hc
          · exact Nat.lt_of_lt_of_le (quot_small hn hd) hc
          · exact (quot_lt_iff hy).2 ((over_iff e1).1 hc)
        have e1' : (r + y1) + (q - 1) * y1 = n := by
          have : q * y1 = (q - 1) * y1 + y1 := by
            conv => lhs; rw [show q = (q - 1) + 1 by omega, Nat.succ_mul]
          omega
        by_cases hb : 4294967296 ≤ r + y1
        · rw [if_pos hb]
          right
          refine ⟨_, rfl, ?_⟩
          have hle : q - 1 ≤ Q := by
            rw [← hQ, Nat.le_div_iff_mul_le hy]
            have hno : ¬ (4294967296 * (r + y1) + d < (q - 1) * y0) := by
              have : (q - 1) * y0 ≤ 4294967296 * 4294967295 := Nat.mul_le_mul (by omega) (by omega)
              omega
            rw [over_iff e1'] at hno
            omega
          have : q - 1 = Q := by omega
          rw [this]
        · rw [if_neg hb]
          left
          refine ⟨_, rfl, ⟨rfl, q - 1, r + y1, rfl, e1', by omega, by omega, by omega⟩, ?_⟩
          simp only [Int.toNat_natCast]
          omega
      · rw [if_neg hc]
        right
        refine ⟨_, rfl, ?_⟩
        have hle : q ≤ Q := by
          rw [← hQ, Nat.le_div_iff_mul_le hy]
          have hno : ¬ (4294967296 * r + d < q * y0) := fun h => hc (.inr h)
          rw [over_iff e1] at hno
          omega
        have : q = Q := by omega
        rw [← this]) FUEL ((((n / y1 : Nat) : Int), ((n % y1 : Nat) : Int)), h)
      ⟨rfl, n / y1, n % y1, rfl, by rw [Nat.mul_comm]; exact Nat.mod_add_div n y1, hfirst, first_le h1 h0 hn, by have := Nat.mod_lt n (show 0 < y1 by omega); omega⟩
      (by
        simp only [Int.toNat_natCast]
        have := first_le h1 h0 hn
        have : (4294967297 : Nat) < FUEL := by unfold FUEL; omega
        omega)
  rw [hx, hp]
end Go.Proofs.Ytadlfinlbaogeaa
/- What math/bits computes: leading zeros, products, and quotients of 128 bits. Conditions: those of each law. -/
namespace Go.Proofs.Ytadlfinlbaogeaa
open Go Go.Proofs.Ytadlfinlbaogeaa.Ev
set_option linter.unusedVariables false
set_option linter.unusedSimpArgs false
set_option maxRecDepth 100000
set_option maxHeartbeats 1000000
def lenTab : ByteArray := ⟨#[0, 1, 2, 2, 3, 3, 3, 3, 4, 4, 4, 4, 4, 4, 4, 4, 5, 5, 5, 5, 5, 5, 5, 5, 5, 5, 5, 5, 5, 5, 5, 5, 6, 6, 6, 6, 6, 6, 6, 6, 6, 6, 6, 6, 6, 6, 6, 6, 6, 6, 6, 6, 6, 6, 6, 6, 6, 6, 6, 6, 6, 6, 6, 6, 7, 7, 7, 7, 7, 7, 7, 7, 7, 7, 7, 7, 7, 7, 7, 7, 7, 7, 7, 7, 7, 7, 7, 7, 7, 7, 7, 7, 7, 7, 7, 7, 7, 7, 7, 7, 7, 7, 7, 7, 7, 7, 7, 7, 7, 7, 7, 7, 7, 7, 7, 7, 7, 7, 7, 7, 7, 7, 7, 7, 7, 7, 7, 7, 8, 8, 8, 8, 8, 8, 8, 8, 8, 8, 8, 8, 8, 8, 8, 8, 8, 8, 8, 8, 8, 8, 8, 8, 8, 8, 8, 8, 8, 8, 8, 8, 8, 8, 8, 8, 8, 8, 8, 8, 8, 8, 8, 8, 8, 8, 8, 8, 8, 8, 8, 8, 8, 8, 8, 8, 8, 8, 8, 8, 8, 8, 8, 8, 8, 8, 8, 8, 8, 8, 8, 8, 8, 8, 8, 8, 8, 8, 8, 8, 8, 8, 8, 8, 8, 8, 8, 8, 8, 8, 8, 8, 8, 8, 8, 8, 8, 8, 8, 8, 8, 8, 8, 8, 8, 8, 8, 8, 8, 8, 8, 8, 8, 8, 8, 8, 8, 8, 8, 8, 8, 8, 8, 8, 8, 8, 8, 8]⟩
def len8 (n : Nat) : Nat := (((lenTab.data[n]?).map UInt8.toNat).getD 0 : Nat)
theorem len8_ok : ∀ n, 0 < n → n < 256 → 2 ^ len8 n / 2 ≤ n ∧ n < 2 ^ len8 n ∧ 1 ≤ len8 n ∧ len8 n ≤ 8 := by
  intro n h0 h1
  have : (List.range 256).all (fun n => n == 0 || (decide (2 ^ len8 n / 2 ≤ n) && (decide (n < 2 ^ len8 n) && (decide (1 ≤ len8 n) && decide (len8 n ≤ 8))))) = true := by kernel_rfl
  have := List.all_eq_true.1 this n (by simp; omega)
  simp only [Bool.or_eq_true, Bool.and_eq_true, decide_eq_true_eq, beq_iff_eq] at this
  rcases this with h | h
  · omega
  · exact h
def lenTail (y k : Int) : Option Int :=
  guardO (0 ≤ (IntKind.wrap .u8 y) ∧ (IntKind.wrap .u8 y) < ((ByteArray.size lenTab : Nat) : Int)) (some (IntKind.wrap .i64 (k + (IntKind.wrap .i64 ((((lenTab.data[Int.toNat (IntKind.wrap .u8 y)]?).map UInt8.toNat).getD 0 : Nat) : Int)))))
theorem lenTail_ok {y k : Nat} (h0 : 0 < y) (h1 : y < 256) (hk : k ≤ 56) : lenTail (y : Int) (k : Int) = some ((k + len8 y : Nat) : Int) := by
  unfold lenTail
  rw [IntWalk.u8_in _ (by omega), Int.toNat_natCast, guardO_pos (by rw [show ByteArray.size lenTab = 256 by kernel_rfl]; omega)]
  have := len8_ok y h0 h1
  show some (IntKind.wrap .i64 ((k : Int) + IntKind.wrap .i64 ((len8 y : Nat) : Int))) = _
  rw [IntWalk.i64_in ((len8 y : Nat) : Int) (by omega), IntWalk.i64_in _ (by omega)]
  rfl
theorem Len64_key (x : Int) : math_bits_Len64P x =
    bif decide ((4294967296 : Int) ≤ x) then
      (bif decide ((65536 : Int) ≤ Int.fdiv x (2 ^ 32)) then
        (bif decide ((256 : Int) ≤ Int.fdiv (Int.fdiv x (2 ^ 32)) (2 ^ 16)) then lenTail (Int.fdiv (Int.fdiv (Int.fdiv x (2 ^ 32)) (2 ^ 16)) (2 ^ 8)) 56 else lenTail (Int.fdiv (Int.fdiv x (2 ^ 32)) (2 ^ 16)) 48)
      else (bif decide ((256 : Int) ≤ Int.fdiv x (2 ^ 32)) then lenTail (Int.fdiv (Int.fdiv x (2 ^ 32)) (2 ^ 8)) 40 else lenTail (Int.fdiv x (2 ^ 32)) 32))
    else
      (bif decide ((65536 : Int) ≤ x) then
        (bif decide ((256 : Int) ≤ Int.fdiv x (2 ^ 16)) then lenTail (Int.fdiv (Int.fdiv x (2 ^ 16)) (2 ^ 8)) 24 else lenTail (Int.fdiv x (2 ^ 16)) 16)
      else (bif decide ((256 : Int) ≤ x) then lenTail (Int.fdiv x (2 ^ 8)) 8 else lenTail x 0)) := by
  have gb : ∀ {p : Prop} [Decidable p] {α β : Type} (x : Option α) (f : α → Option β), (guardO p x).bind f = guardO p (x.bind f) := guardO_bind
  unfold math_bits_Len64P math_bits_Len64
  cases h1 : decide ((4294967296 : Int) ≤ x) with
  | true =>
    simp only [cond_true, Option.bind_some]
    cases h2 : decide ((65536 : Int) ≤ Int.fdiv x (2 ^ min (Int.toNat 32) (IntKind.bits .u64))) with
    | true =>
      simp only [cond_true, Option.bind_some]
      cases h3 : decide ((256 : Int) ≤ Int.fdiv (Int.fdiv x (2 ^ min (Int.toNat 32) (IntKind.bits .u64))) (2 ^ min (Int.toNat 16) (IntKind.bits .u64))) with
      | true =>
        rw [show decide ((65536 : Int) ≤ Int.fdiv x (2 ^ 32)) = true from h2, show decide ((256 : Int) ≤ Int.fdiv (Int.fdiv x (2 ^ 32)) (2 ^ 16)) = true from h3]
        simp only [cond_true, Option.bind_some, gb]
        rfl
      | false =>
        rw [show decide ((65536 : Int) ≤ Int.fdiv x (2 ^ 32)) = true from h2, show decide ((256 : Int) ≤ Int.fdiv (Int.fdiv x (2 ^ 32)) (2 ^ 16)) = false from h3]
        simp only [cond_true, cond_false, Option.bind_some, gb]
        rfl
    | false =>
      simp only [cond_false, Option.bind_some]
      cases h3 : decide ((256 : Int) ≤ Int.fdiv x (2 ^ min (Int.toNat 32) (IntKind.bits .u64))) with
      | true =>
        rw [show decide ((65536 : Int) ≤ Int.fdiv x (2 ^ 32)) = false from h2, show decide ((256 : Int) ≤ Int.fdiv x (2 ^ 32)) = true from h3]
        simp only [cond_true, cond_false, Option.bind_some, gb]
        rfl
      | false =>
        rw [show decide ((65536 : Int) ≤ Int.fdiv x (2 ^ 32)) = false from h2, show decide ((256 : Int) ≤ Int.fdiv x (2 ^ 32)) = false from h3]
        simp only [cond_true, cond_false, Option.bind_some, gb]
        rfl
  | false =>
    simp only [cond_false, Option.bind_some]
    cases h2 : decide ((65536 : Int) ≤ x) with
    | true =>
      simp only [cond_true, Option.bind_some]
      cases h3 : decide ((256 : Int) ≤ Int.fdiv x (2 ^ min (Int.toNat 16) (IntKind.bits .u64))) with
      | true =>
        rw [show decide ((256 : Int) ≤ Int.fdiv x (2 ^ 16)) = true from h3]
        simp only [cond_true, cond_false, Option.bind_some, gb]
        rfl
      | false =>
        rw [show decide ((256 : Int) ≤ Int.fdiv x (2 ^ 16)) = false from h3]
        simp only [cond_true, cond_false, Option.bind_some, gb]
        rfl
    | false =>
      simp only [cond_false, Option.bind_some]
      cases h3 : decide ((256 : Int) ≤ x) with
      | true =>
        simp only [cond_true, cond_false, Option.bind_some, gb]
        rfl
      | false =>
        simp only [cond_true, cond_false, Option.bind_some, gb]
        rfl
theorem fdiv_nat (x n : Nat) : Int.fdiv (x : Int) (n : Int) = ((x / n : Nat) : Int) := by
  rw [Int.fdiv_eq_ediv_of_nonneg _ (by omega)]
  rfl
theorem fdiv_pow (x n : Nat) : Int.fdiv (x : Int) (2 ^ n) = ((x / 2 ^ n : Nat) : Int) := by
  rw [← fdiv_nat]
  congr 1
/-- How many bits a number has. -/
theorem Len64_ok {x : Nat} (h0 : 0 < x) (h1 : x < 18446744073709551616) : ∃ n, math_bits_Len64P (x : Int) = some ((n : Nat) : Int) ∧ 1 ≤ n ∧ n ≤ 64 ∧ 2 ^ (n - 1) ≤ x ∧ x < 2 ^ n := by
  have fin : ∀ k : Nat, k ≤ 56 → 0 < x / 2 ^ k → x / 2 ^ k < 256 → ∃ n, lenTail ((x / 2 ^ k : Nat) : Int) ((k : Nat) : Int) = some ((n : Nat) : Int) ∧ 1 ≤ n ∧ n ≤ 64 ∧ 2 ^ (n - 1) ≤ x ∧ x < 2 ^ n := fun k hk g0 g1 => by
    obtain ⟨l1, l2, l3, l4⟩ := len8_ok _ g0 g1
    refine ⟨k + len8 (x / 2 ^ k), lenTail_ok g0 g1 hk, by omega, by omega, ?_, ?_⟩
    · have e : 2 ^ (k + len8 (x / 2 ^ k) - 1) = 2 ^ (len8 (x / 2 ^ k)) / 2 * 2 ^ k := by
        rw [show k + len8 (x / 2 ^ k) - 1 = (len8 (x / 2 ^ k) - 1) + k by omega, Nat.pow_add]
        congr 1
        conv => rhs; rw [show len8 (x / 2 ^ k) = (len8 (x / 2 ^ k) - 1) + 1 by omega, Nat.pow_succ, Nat.mul_div_cancel _ (by omega)]
      rw [e]
      exact Nat.le_trans (Nat.mul_le_mul_right _ l1) (Nat.div_mul_le_self x (2 ^ k))
    · rw [Nat.pow_add, Nat.mul_comm]
      exact (Nat.div_lt_iff_lt_mul (Nat.two_pow_pos k)).1 l2
  rw [Len64_key]
  have f16 : Int.fdiv (x : Int) (2 ^ 16) = ((x / 2 ^ 16 : Nat) : Int) := fdiv_pow x 16
  have f8 : Int.fdiv (x : Int) (2 ^ 8) = ((x / 2 ^ 8 : Nat) : Int) := fdiv_pow x 8
  have f32 : Int.fdiv (x : Int) (2 ^ 32) = ((x / 2 ^ 32 : Nat) : Int) := fdiv_pow x 32
  have f3216 : Int.fdiv ((x / 2 ^ 32 : Nat) : Int) (2 ^ 16) = ((x / 2 ^ 48 : Nat) : Int) := by rw [fdiv_pow, Nat.div_div_eq_div_mul]
  have f328 : Int.fdiv ((x / 2 ^ 32 : Nat) : Int) (2 ^ 8) = ((x / 2 ^ 40 : Nat) : Int) := by rw [fdiv_pow, Nat.div_div_eq_div_mul]
  have f32168 : Int.fdiv ((x / 2 ^ 48 : Nat) : Int) (2 ^ 8) = ((x / 2 ^ 56 : Nat) : Int) := by rw [fdiv_pow, Nat.div_div_eq_div_mul]
  have f168 : Int.fdiv ((x / 2 ^ 16 : Nat) : Int) (2 ^ 8) = ((x / 2 ^ 24 : Nat) : Int) := by rw [fdiv_pow, Nat.div_div_eq_div_mul]
  rw [f32, f16, f8, f3216, f328, f32168, f168]
  by_cases c1 : (4294967296 : Int) ≤ x
  · rw [decide_eq_true c1, cond_true]
    by_cases c2 : (65536 : Int) ≤ ((x / 2 ^ 32 : Nat) : Int)
    · rw [decide_eq_true c2, cond_true]
      by_cases c3 : (256 : Int) ≤ ((x / 2 ^ 48 : Nat) : Int)
      · rw [decide_eq_true c3, cond_true]; exact fin 56 (by omega) (by omega) (by omega)
      · rw [decide_eq_false c3, cond_false]; exact fin 48 (by omega) (by omega) (by omega)
    · rw [decide_eq_false c2, cond_false]
      by_cases c3 : (256 : Int) ≤ ((x / 2 ^ 32 : Nat) : Int)
      · rw [decide_eq_true c3, cond_true]; exact fin 40 (by omega) (by omega) (by omega)
      · rw [decide_eq_false c3, cond_false]; exact fin 32 (by omega) (by omega) (by omega)
  · rw [decide_eq_false c1, cond_false]
    by_cases c2 : (65536 : Int) ≤ x
    · rw [decide_eq_true c2, cond_true]
      by_cases c3 : (256 : Int) ≤ ((x / 2 ^ 16 : Nat) : Int)
      · rw [decide_eq_true c3, cond_true]; exact fin 24 (by omega) (by omega) (by omega)
      · rw [decide_eq_false c3, cond_false]; exact fin 16 (by omega) (by omega) (by omega)
    · rw [decide_eq_false c2, cond_false]
      by_cases c3 : (256 : Int) ≤ x
      · rw [decide_eq_true c3, cond_true]; exact fin 8 (by omega) (by omega) (by omega)
      · rw [decide_eq_false c3, cond_false]
        have := fin 0 (by omega) (by simpa using h0) (by simp; omega)
        simpa using this
theorem LeadingZeros64_ok {x : Nat} (h0 : 0 < x) (h1 : x < 18446744073709551616) : ∃ s, math_bits_LeadingZeros64P (x : Int) = some ((s : Nat) : Int) ∧ s ≤ 63 ∧ 9223372036854775808 ≤ x * 2 ^ s ∧ x * 2 ^ s < 18446744073709551616 := by
  obtain ⟨n, g1, g2, g3, g4, g5⟩ := Len64_ok h0 h1
  refine ⟨64 - n, ?_, by omega, ?_, ?_⟩
  · unfold math_bits_LeadingZeros64P math_bits_LeadingZeros64
    rw [g1]
    simp only [Option.bind_some]
    rw [IntWalk.i64_in _ (by omega), show (64 : Int) - (n : Int) = ((64 - n : Nat) : Int) by omega]
    rfl
  · have e : (9223372036854775808 : Nat) = 2 ^ (n - 1) * 2 ^ (64 - n) := by rw [← Nat.pow_add, show n - 1 + (64 - n) = 63 by omega]
    rw [e]
    exact Nat.mul_le_mul_right _ g4
  · have e : (18446744073709551616 : Nat) = 2 ^ n * 2 ^ (64 - n) := by rw [← Nat.pow_add, show n + (64 - n) = 64 by omega]
    rw [e]
    exact Nat.mul_lt_mul_of_pos_right g5 (Nat.two_pow_pos _)
end Go.Proofs.Ytadlfinlbaogeaa
/- What math/bits.Mul64 and Div64 compute. Conditions: those of each law. -/
namespace Go.Proofs.Ytadlfinlbaogeaa
open Go Go.Proofs.Ytadlfinlbaogeaa.Ev
set_option linter.unusedVariables false
set_option linter.unusedSimpArgs false
set_option maxRecDepth 100000
set_option maxHeartbeats 1000000
theorem u64_nat {n : Nat} (h : n < 18446744073709551616) : IntKind.u64.wrap (n : Int) = (n : Int) := IntWalk.u64_in _ (by omega)
theorem i64_nat {n : Nat} (h : n < 9223372036854775808) : IntKind.i64.wrap (n : Int) = (n : Int) := IntWalk.i64_in _ (by omega)
theorem and32 {x : Nat} (hx : x < 18446744073709551616) : bitsI .and .u64 (x : Int) 4294967295 = ((x % 4294967296 : Nat) : Int) := by
  have h : (BitVec.ofInt 64 (x : Int) &&& BitVec.ofInt 64 4294967295).toNat = x % 4294967296 := by
    rw [BitVec.toNat_and, BitVec.ofInt_natCast, BitVec.toNat_ofNat, show (BitVec.ofInt 64 4294967295).toNat = 2 ^ 32 - 1 by rfl, Nat.and_two_pow_sub_one_eq_mod, Nat.mod_eq_of_lt (b := 2 ^ 64) (by omega)]
  exact (congrArg (fun n : Nat => IntKind.u64.wrap (n : Int)) h).trans (IntWalk.u64_in _ (by omega))
theorem or_add {a b s : Nat} (hb : b < 2 ^ s) (h : a * 2 ^ s + b < 18446744073709551616) : bitsI .or .u64 ((a * 2 ^ s : Nat) : Int) (b : Int) = ((a * 2 ^ s + b : Nat) : Int) := by
  have h : (BitVec.ofInt 64 ((a * 2 ^ s : Nat) : Int) ||| BitVec.ofInt 64 (b : Int)).toNat = a * 2 ^ s + b := by
    rw [BitVec.toNat_or, BitVec.ofInt_natCast, BitVec.ofInt_natCast, BitVec.toNat_ofNat, BitVec.toNat_ofNat, Nat.mod_eq_of_lt (b := 2 ^ 64) (by omega), Nat.mod_eq_of_lt (b := 2 ^ 64) (by omega)]
    rw [← Nat.shiftLeft_eq, Nat.shiftLeft_add_eq_or_of_lt hb]
  exact (congrArg (fun n : Nat => IntKind.u64.wrap (n : Int)) h).trans (IntWalk.u64_in _ (by omega))
theorem shr32 (x : Nat) : Int.fdiv (x : Int) (2 ^ (min (Int.toNat 32) (IntKind.bits .u64))) = ((x / 4294967296 : Nat) : Int) := fdiv_pow x 32
theorem Mul64_ok {x y : Nat} (hx : x < 18446744073709551616) (hy : y < 18446744073709551616) :
    math_bits_Mul64P (x : Int) (y : Int) = some (((x * y / 18446744073709551616 : Nat) : Int), ((x * y % 18446744073709551616 : Nat) : Int)) := by
  obtain ⟨k1, k2, k3, k4⟩ := Go.Lib.mul64_hi x y hx hy
  unfold math_bits_Mul64P math_bits_Mul64
  rw [shr32, shr32, and32 hx, and32 hy]
  simp only [← Int.natCast_mul]
  have hb1 : x / 4294967296 * (y / 4294967296) < 18446744073709551616 := by
    have := Go.Lib.half_mul_le (a := x / 4294967296) (b := y / 4294967296) (by omega) (by omega); omega
  have hb2 : x / 4294967296 * (y % 4294967296) < 18446744073709551616 := by omega
  have hb3 : x % 4294967296 * (y / 4294967296) < 18446744073709551616 := by omega
  rw [IntWalk.u64_in ((x % 4294967296 * (y % 4294967296) : Nat) : Int) (by omega), IntWalk.u64_in ((x / 4294967296 * (y % 4294967296) : Nat) : Int) (by omega), IntWalk.u64_in ((x % 4294967296 * (y / 4294967296) : Nat) : Int) (by omega), IntWalk.u64_in ((x / 4294967296 * (y / 4294967296) : Nat) : Int) (by omega)]
  rw [shr32]
  simp only [← Int.natCast_add]
  rw [IntWalk.u64_in ((x / 4294967296 * (y % 4294967296) + x % 4294967296 * (y % 4294967296) / 4294967296 : Nat) : Int) (by omega)]
  rw [shr32, and32 (by omega)]
  simp only [← Int.natCast_add]
  generalize x / 4294967296 * (y % 4294967296) + x % 4294967296 * (y % 4294967296) / 4294967296 = t at *
  generalize x % 4294967296 * (y / 4294967296) = c at *
  generalize x / 4294967296 * (y / 4294967296) = a at *
  have hz : x * y < 340282366920938463463374607431768211456 := Nat.lt_of_lt_of_le (Nat.mul_lt_mul'' hx hy) (by decide)
  generalize x * y = z at *
  rw [IntWalk.u64_in ((a + t / 4294967296 : Nat) : Int) (by omega), IntWalk.u64_in ((t % 4294967296 + c : Nat) : Int) (by omega), shr32]
  simp only [← Int.natCast_add]
  rw [k4, IntWalk.u64_in _ (by omega), IntKind.wrap_u64, show ((z : Nat) : Int) % 18446744073709551616 = ((z % 18446744073709551616 : Nat) : Int) by omega]
  rfl
theorem wrap_mod (n : Nat) : IntKind.u64.wrap (n : Int) = ((n % 18446744073709551616 : Nat) : Int) := by rw [IntKind.wrap_u64]; omega
theorem mul_pow_cast (x s : Nat) : (x : Int) * 2 ^ s = ((x * 2 ^ s : Nat) : Int) := by simp
theorem tdiv_nat (x y : Nat) : Int.tdiv (x : Int) (y : Int) = ((x / y : Nat) : Int) := rfl
theorem tmod_nat (x y : Nat) : Int.tmod (x : Int) (y : Int) = ((x % y : Nat) : Int) := rfl
/-- What the division hands back where the upper word is 0. -/
theorem Div64_small {lo y : Nat} (h0 : 0 < y) (h1 : lo < 18446744073709551616) : math_bits_Div64P 0 (lo : Int) (y : Int) = some (((lo / y : Nat) : Int), ((lo % y : Nat) : Int)) := by
  unfold math_bits_Div64P math_bits_Div64
  have e1 : decide ((y : Int) = 0) = false := by simp; omega
  have e2 : decide ((y : Int) ≤ 0) = false := by simp; omega
  have hne : (y : Int) ≠ 0 := by omega
  have hle : lo / y ≤ lo := Nat.div_le_self _ _
  simp only [e1, e2, cond_false, cond_true, Option.bind_some, decide_true, guardO_pos hne, tdiv_nat, tmod_nat]
  rw [u64_nat (by omega)]
  rfl
theorem toNat_min {s : Nat} (hs : s ≤ 64) : min (Int.toNat (IntKind.wrap .u64 (s : Int))) (IntKind.bits .u64) = s := by
  rw [u64_nat (by omega), Int.toNat_natCast]
  exact Nat.min_eq_left hs
/-- One step: what is left behind a digit. -/
theorem left_ok {N u Q Y R : Nat} (hT : N * 4294967296 + u = Q * Y + R) (hR : R < 18446744073709551616) :
    IntKind.u64.wrap (IntKind.u64.wrap (IntKind.u64.wrap ((N : Int) * 4294967296) + (u : Int)) - IntKind.u64.wrap ((Q : Int) * (Y : Int))) = (R : Int) := by
  rw [← Int.natCast_mul Q Y]
  generalize Q * Y = P at *
  simp only [IntKind.wrap_u64]
  omega
theorem loop_test {q r y1 y0 d : Nat} (hq : q ≤ 4294967297) (hr : r < 4294967296) (h1 : 2147483648 ≤ y1) (h1' : y1 < 4294967296) (h0 : y0 < 4294967296) (hd : d < 4294967296) (h : H) {F : Type} :
    ((((bif !(decide ((4294967296 : Int) ≤ (q : Int))) then (some ((decide ((IntKind.wrap .u64 ((IntKind.wrap .u64 (4294967296 * (r : Int))) + (d : Int))) < (IntKind.wrap .u64 ((q : Int) * (y0 : Int))))), h)) else (some (true, h)))).bind fun (y10, h11) =>
      (bif y10 then (bif (decide ((4294967296 : Int) ≤ (IntKind.wrap .u64 ((r : Int) + (y1 : Int))))) then (some (.done (.ex0 (IntKind.wrap .u64 ((q : Int) - 1)), h11))) else (some (.more (((IntKind.wrap .u64 ((q : Int) - 1)), (IntKind.wrap .u64 ((r : Int) + (y1 : Int)))), h11)))) else (some (.done (.ex0 (q : Int), h11))))) : Option (Stp ((Int × Int) × H) (Flow Int F × H))) =
    if 4294967296 ≤ q ∨ 4294967296 * r + d < q * y0 then (if 4294967296 ≤ r + y1 then some (.done (.ex0 (((q - 1 : Nat) : Int)), h)) else some (.more ((((q - 1 : Nat) : Int), ((r + y1 : Nat) : Int)), h))) else some (.done (.ex0 (q : Int), h)) := by
  have hm : q * y0 < 18446744073709551616 := Nat.lt_of_le_of_lt (Nat.mul_le_mul hq (show y0 ≤ 4294967295 by omega)) (by decide)
  rw [← Int.natCast_mul, u64_nat hm]
  generalize hP : q * y0 = P at *
  have e1 : IntKind.wrap .u64 ((IntKind.wrap .u64 (4294967296 * (r : Int))) + (d : Int)) = ((4294967296 * r + d : Nat) : Int) := by
    simp only [IntKind.wrap_u64]
    omega
  have e2 : IntKind.wrap .u64 ((r : Int) + (y1 : Int)) = ((r + y1 : Nat) : Int) := by
    simp only [IntKind.wrap_u64]
    omega
  rw [e1, e2]
  have fin : 1 ≤ q → (bif (decide ((4294967296 : Int) ≤ ((r + y1 : Nat) : Int))) then (some (.done (.ex0 (IntKind.wrap .u64 ((q : Int) - 1)), h)) : Option (Stp ((Int × Int) × H) (Flow Int F × H))) else (some (.more (((IntKind.wrap .u64 ((q : Int) - 1)), ((r + y1 : Nat) : Int)), h)))) =
      if 4294967296 ≤ r + y1 then some (.done (.ex0 (((q - 1 : Nat) : Int)), h)) else some (.more ((((q - 1 : Nat) : Int), ((r + y1 : Nat) : Int)), h)) := fun h1 => by
    have e3 : IntKind.wrap .u64 ((q : Int) - 1) = ((q - 1 : Nat) : Int) := by
      rw [show (q : Int) - 1 = ((q - 1 : Nat) : Int) by omega, u64_nat (by omega)]
    rw [e3]
    by_cases hc : 4294967296 ≤ r + y1
    · rw [if_pos hc, decide_eq_true (by omega)]; rfl
    · rw [if_neg hc, decide_eq_false (by omega)]; rfl
  by_cases hq2 : 4294967296 ≤ q
  · rw [if_pos (.inl hq2), decide_eq_true (show (4294967296 : Int) ≤ (q : Int) by omega)]
    exact fin (by omega)
  · rw [decide_eq_false (show ¬ (4294967296 : Int) ≤ (q : Int) by omega)]
    by_cases hc : 4294967296 * r + d < P
    · rw [if_pos (.inr hc), decide_eq_true (show ((4294967296 * r + d : Nat) : Int) < (P : Int) by omega)]
      refine fin ?_
      rcases Nat.eq_zero_or_pos q with h | h
      · subst h
        simp at hP
        omega
      · exact h
    · rw [if_neg (by omega), decide_eq_false (show ¬ ((4294967296 * r + d : Nat) : Int) < (P : Int) by omega)]
      rfl
/-- The quotient and what is left of it, out of the digits. -/
theorem div_final {U y p Y N L Q1 N2 Q2 R B u1 u0 : Nat} (hp : 0 < p) (hY : Y = y * p) (hU : U * p = N * (B * B) + L) (hL : u1 * B + u0 = L)
    (h1 : Q1 * Y + N2 = N * B + u1) (h2 : Q2 * Y + R = N2 * B + u0) (hR : R < Y) : U / y = Q1 * B + Q2 ∧ R / p = U % y := by
  have e1 : (N * B + u1) * B = N * B * B + u1 * B := Nat.add_mul _ _ _
  have e2 : (Q1 * Y + N2) * B = Q1 * Y * B + N2 * B := Nat.add_mul _ _ _
  rw [h1] at e2
  have e3 : Y * (Q1 * B + Q2) = Q1 * Y * B + Q2 * Y := by rw [Nat.mul_add, Nat.mul_comm Y Q2, ← Nat.mul_assoc, Nat.mul_comm Y Q1]
  have e4 : N * (B * B) = N * B * B := (Nat.mul_assoc N B B).symm
  have hUQ : U * p = Y * (Q1 * B + Q2) + R := by omega
  have hd : U * p / (y * p) = U / y := Nat.mul_div_mul_right U y hp
  have hm : U * p % (y * p) = U % y * p := Nat.mul_mod_mul_right p U y
  rw [← hY, hUQ] at hd hm
  rw [Nat.mul_add_div (by omega), Nat.div_eq_of_lt hR, Nat.add_zero] at hd
  rw [Nat.mul_add_mod, Nat.mod_eq_of_lt hR] at hm
  exact ⟨hd.symm, by rw [hm, Nat.mul_div_cancel _ hp]⟩
abbrev DivF := (Int × Int) × H → Option (Stp ((Int × Int) × H) (Flow Int (Int × Int) × H))
/-- The two digits and what is left, out of the normalized numbers. -/
def divCore (f1 f2 : DivF) (N Y L Y1 L1 L0 : Int) (S : Nat) (h : H) : Option ((Int × Int) × H) :=
  (iter FUEL f1 ((IntKind.wrap .u64 (Int.tdiv N Y1), IntKind.wrap .u64 (N - IntKind.wrap .u64 (IntKind.wrap .u64 (Int.tdiv N Y1) * Y1))), h)).bind fun (fl, h) => match fl with
  | .next _ => none
  | .ret r => some (r, h)
  | .ex0 q1 =>
    guardO (Y1 ≠ 0) ((iter FUEL f2 ((IntKind.wrap .u64 (Int.tdiv (IntKind.wrap .u64 (IntKind.wrap .u64 (IntKind.wrap .u64 (N * 4294967296) + L1) - IntKind.wrap .u64 (q1 * Y))) Y1),
        IntKind.wrap .u64 (IntKind.wrap .u64 (IntKind.wrap .u64 (IntKind.wrap .u64 (N * 4294967296) + L1) - IntKind.wrap .u64 (q1 * Y)) - IntKind.wrap .u64 (IntKind.wrap .u64 (Int.tdiv (IntKind.wrap .u64 (IntKind.wrap .u64 (IntKind.wrap .u64 (N * 4294967296) + L1) - IntKind.wrap .u64 (q1 * Y))) Y1) * Y1))), h)).bind fun (fl, h) => match fl with
    | .next _ => none
    | .ret r => some (r, h)
    | .ex0 q2 => some ((IntKind.wrap .u64 (IntKind.wrap .u64 (q1 * 4294967296) + q2),
        Int.fdiv (IntKind.wrap .u64 (IntKind.wrap .u64 (IntKind.wrap .u64 (IntKind.wrap .u64 (IntKind.wrap .u64 (IntKind.wrap .u64 (N * 4294967296) + L1) - IntKind.wrap .u64 (q1 * Y)) * 4294967296) + L0) - IntKind.wrap .u64 (q2 * Y))) (2 ^ S)), h)
    | .ex1 _ => none)
  | .ex1 _ => none
theorem Div64_core {a0 a1 a2 r : Int} {h : H} (e1 : decide (a2 = 0) = false) (e2 : decide (a2 ≤ a0) = false) (e3 : decide (a0 = 0) = false) (hs : math_bits_LeadingZeros64P a2 = some r)
    (g1 : (0 : Int) ≤ IntKind.wrap .u64 r) (g2 : (0 : Int) ≤ IntKind.wrap .u64 (64 - IntKind.wrap .u64 r)) {s t : Nat} (hm : min (Int.toNat (IntKind.wrap .u64 r)) (IntKind.bits .u64) = s)
    (hm2 : min (Int.toNat (IntKind.wrap .u64 (64 - IntKind.wrap .u64 r))) (IntKind.bits .u64) = t) {Y Y1 L N L1 L0 : Int} (hY : IntKind.wrap .u64 (a2 * 2 ^ s) = Y) (hY1 : Int.fdiv Y (2 ^ (min (Int.toNat 32) (IntKind.bits .u64))) = Y1)
    (hL : IntKind.wrap .u64 (a1 * 2 ^ s) = L) (hN : bitsI .or .u64 (IntKind.wrap .u64 (a0 * 2 ^ s)) (Int.fdiv a1 (2 ^ t)) = N) (hL1 : Int.fdiv L (2 ^ (min (Int.toNat 32) (IntKind.bits .u64))) = L1) (hL0 : bitsI .and .u64 L 4294967295 = L0) (hne : Y1 ≠ 0) :
    math_bits_Div64 a0 a1 a2 h = divCore (math_bits_Div64.loop1 a1 a2 r) (math_bits_Div64.loop2 a1 a2 r) N Y L Y1 L1 L0 s h := by
  unfold math_bits_Div64
  simp only [e1, e2, e3, hs, cond_false, Option.bind_some, guardO_pos g1, guardO_pos g2, hm, hm2, hY, hY1, hL, hN, hL1, hL0, guardO_pos hne]
  unfold divCore
  simp only [guardO_pos hne]
  rfl
theorem divCore_ok {f1 f2 : DivF} {N Y L s : Nat} {h : H} (hY : 9223372036854775808 ≤ Y) (hY' : Y < 18446744073709551616) (hN : N < Y) (hL : L < 18446744073709551616)
    (hf1 : ∀ q r : Nat, q ≤ 4294967297 → r < 4294967296 → f1 (((q : Int), (r : Int)), h) = if 4294967296 ≤ q ∨ 4294967296 * r + L / 4294967296 < q * (Y % 4294967296) then (if 4294967296 ≤ r + Y / 4294967296 then some (.done (.ex0 (((q - 1 : Nat) : Int)), h)) else some (.more ((((q - 1 : Nat) : Int), ((r + Y / 4294967296 : Nat) : Int)), h))) else some (.done (.ex0 (q : Int), h)))
    (hf2 : ∀ q r : Nat, q ≤ 4294967297 → r < 4294967296 → f2 (((q : Int), (r : Int)), h) = if 4294967296 ≤ q ∨ 4294967296 * r + L % 4294967296 < q * (Y % 4294967296) then (if 4294967296 ≤ r + Y / 4294967296 then some (.done (.ex0 (((q - 1 : Nat) : Int)), h)) else some (.more ((((q - 1 : Nat) : Int), ((r + Y / 4294967296 : Nat) : Int)), h))) else some (.done (.ex0 (q : Int), h))) :
    ∃ Q1 Q2 N2 R : Nat, divCore f1 f2 (N : Int) (Y : Int) (L : Int) ((Y / 4294967296 : Nat) : Int) ((L / 4294967296 : Nat) : Int) ((L % 4294967296 : Nat) : Int) s h = some ((((Q1 * 4294967296 + Q2 : Nat) : Int), ((R / 2 ^ s : Nat) : Int)), h) ∧
      Q1 * Y + N2 = N * 4294967296 + L / 4294967296 ∧ Q2 * Y + R = N2 * 4294967296 + L % 4294967296 ∧ R < Y := by
  have h1 : 2147483648 ≤ Y / 4294967296 := by omega
  have h1' : Y / 4294967296 < 4294967296 := by omega
  have h0 : Y % 4294967296 < 4294967296 := by omega
  have hYe : Y / 4294967296 * 4294967296 + Y % 4294967296 = Y := by omega
  have hne : ((Y / 4294967296 : Nat) : Int) ≠ 0 := by omega
  have start : ∀ n : Nat, n < Y → IntKind.wrap .u64 (Int.tdiv (n : Int) ((Y / 4294967296 : Nat) : Int)) = ((n / (Y / 4294967296) : Nat) : Int) ∧
      IntKind.wrap .u64 ((n : Int) - IntKind.wrap .u64 (((n / (Y / 4294967296) : Nat) : Int) * ((Y / 4294967296 : Nat) : Int))) = ((n % (Y / 4294967296) : Nat) : Int) := fun n hn => by
    have e1 := first_le h1 h0 (show n < Y / 4294967296 * 4294967296 + Y % 4294967296 by omega)
    have e2 := Nat.div_add_mod n (Y / 4294967296)
    have e3 : n % (Y / 4294967296) < 18446744073709551616 := by have := Nat.mod_lt n (show 0 < Y / 4294967296 by omega); omega
    rw [tdiv_nat, u64_nat (by omega)]
    refine ⟨rfl, ?_⟩
    rw [← Int.natCast_mul, Nat.mul_comm]
    generalize n % (Y / 4294967296) = m at *
    generalize Y / 4294967296 * (n / (Y / 4294967296)) = z at *
    simp only [IntKind.wrap_u64]
    omega
  have run1 := digit_loop (F := Int × Int) (f := f1) (h := h) (n := N) (d := L / 4294967296) h1 h1' h0 (by omega) (by omega) hf1
  obtain ⟨s1, s2⟩ := start N hN
  rw [hYe] at run1
  have hq1 := Nat.div_add_mod (N * 4294967296 + L / 4294967296) Y
  have hr1 := Nat.mod_lt (N * 4294967296 + L / 4294967296) (show 0 < Y by omega)
  have hq1s := quot_small (d := L / 4294967296) hN (by omega)
  generalize (N * 4294967296 + L / 4294967296) / Y = Q1 at *
  generalize (N * 4294967296 + L / 4294967296) % Y = N2 at *
  rw [Nat.mul_comm] at hq1
  have w2 := left_ok hq1.symm (by omega)
  have run2 := digit_loop (F := Int × Int) (f := f2) (h := h) (n := N2) (d := L % 4294967296) h1 h1' h0 (by omega) (by omega) hf2
  obtain ⟨s3, s4⟩ := start N2 hr1
  rw [hYe] at run2
  have hq2 := Nat.div_add_mod (N2 * 4294967296 + L % 4294967296) Y
  have hr2 := Nat.mod_lt (N2 * 4294967296 + L % 4294967296) (show 0 < Y by omega)
  have hq2s := quot_small (d := L % 4294967296) hr1 (by omega)
  generalize (N2 * 4294967296 + L % 4294967296) / Y = Q2 at *
  generalize (N2 * 4294967296 + L % 4294967296) % Y = R at *
  rw [Nat.mul_comm] at hq2
  have w3 := left_ok hq2.symm (by omega)
  refine ⟨Q1, Q2, N2, R, ?_, hq1, hq2, hr2⟩
  have e9 : IntKind.wrap .u64 (IntKind.wrap .u64 ((Q1 : Int) * 4294967296) + (Q2 : Int)) = ((Q1 * 4294967296 + Q2 : Nat) : Int) := by
    simp only [IntKind.wrap_u64]
    omega
  unfold divCore
  rw [s1, s2, run1]
  simp only [Option.bind_some]
  rw [w2, s3, s4, run2, guardO_pos hne]
  simp only [Option.bind_some]
  rw [w3, e9, fdiv_pow]
/-- What the division hands back. -/
theorem Div64_great {hi lo y : Nat} (hh : 0 < hi) (hy : hi < y) (hy1 : y < 18446744073709551616) (hl : lo < 18446744073709551616) :
    math_bits_Div64P (hi : Int) (lo : Int) (y : Int) = some ((((hi * 18446744073709551616 + lo) / y : Nat) : Int), (((hi * 18446744073709551616 + lo) % y : Nat) : Int)) := by
  obtain ⟨s, hs, hs1, hs2, hs3⟩ := LeadingZeros64_ok (x := y) (by omega) hy1
  have e1 : decide ((y : Int) = 0) = false := by simp; omega
  have e2 : decide ((y : Int) ≤ (hi : Int)) = false := by simp; omega
  have e3 : decide ((hi : Int) = 0) = false := by simp; omega
  have hm := toNat_min (s := s) (by omega)
  have g1 : (0 : Int) ≤ IntKind.wrap .u64 (s : Int) := by rw [u64_nat (by omega)]; omega
  have hsub : IntKind.wrap .u64 (64 - IntKind.wrap .u64 (s : Int)) = ((64 - s : Nat) : Int) := by
    rw [u64_nat (by omega), show (64 : Int) - (s : Int) = ((64 - s : Nat) : Int) by omega, u64_nat (by omega)]
  have hm2 : min (Int.toNat (IntKind.wrap .u64 (64 - IntKind.wrap .u64 (s : Int)))) (IntKind.bits .u64) = 64 - s := by
    rw [hsub, Int.toNat_natCast]
    show min (64 - s) 64 = 64 - s
    omega
  have g2 : (0 : Int) ≤ IntKind.wrap .u64 (64 - IntKind.wrap .u64 (s : Int)) := by rw [hsub]; omega
  -- the normalized numbers
  have hp : 0 < 2 ^ s := Nat.two_pow_pos s
  have hY : ∃ Y, Y = y * 2 ^ s := ⟨_, rfl⟩
  obtain ⟨Y, hY⟩ := hY
  have hpow : 2 ^ (64 - s) * 2 ^ s = 18446744073709551616 := by rw [← Nat.pow_add, show 64 - s + s = 64 by omega]
  have hlow : lo / 2 ^ (64 - s) < 2 ^ s := by
    rw [Nat.div_lt_iff_lt_mul (Nat.two_pow_pos _), Nat.mul_comm, hpow]
    exact hl
  have hN1 : hi * 2 ^ s + 2 ^ s ≤ Y := by
    rw [hY, ← Nat.succ_mul]
    exact Nat.mul_le_mul_right _ hy
  have hhi : hi * 2 ^ s < 18446744073709551616 := by omega
  have hN : ∃ N, N = hi * 2 ^ s + lo / 2 ^ (64 - s) := ⟨_, rfl⟩
  obtain ⟨N, hN⟩ := hN
  have hL : ∃ L, L = lo * 2 ^ s % 18446744073709551616 := ⟨_, rfl⟩
  obtain ⟨L, hL⟩ := hL
  have hLo : lo * 2 ^ s / 18446744073709551616 = lo / 2 ^ (64 - s) := by rw [← hpow, Nat.mul_div_mul_right _ _ hp]
  have hU : (hi * 18446744073709551616 + lo) * 2 ^ s = N * (4294967296 * 4294967296) + L := by
    have e : (hi * 18446744073709551616 + lo) * 2 ^ s = (hi * 2 ^ s) * 18446744073709551616 + lo * 2 ^ s := by
      rw [Nat.add_mul (hi * 18446744073709551616) lo (2 ^ s), Nat.mul_right_comm hi 18446744073709551616 (2 ^ s)]
    rw [e, hN, hL]
    omega
  rw [← hY] at hs2 hs3
  have wY : IntKind.wrap .u64 ((y : Int) * 2 ^ s) = (Y : Int) := by rw [mul_pow_cast, ← hY, u64_nat hs3]
  have wL : IntKind.wrap .u64 ((lo : Int) * 2 ^ s) = (L : Int) := by rw [mul_pow_cast, wrap_mod, ← hL]
  have wN : bitsI .or .u64 (IntKind.wrap .u64 ((hi : Int) * 2 ^ s)) (Int.fdiv (lo : Int) (2 ^ (64 - s))) = (N : Int) := by
    rw [mul_pow_cast, fdiv_pow, u64_nat hhi, or_add hlow (by omega), hN]
  have hL2 : L < 18446744073709551616 := by rw [hL]; exact Nat.mod_lt _ (by decide)
  have hNY : N < Y := by omega
  have hne : ((Y / 4294967296 : Nat) : Int) ≠ 0 := by omega
  obtain ⟨Q1, Q2, N2, R, hrun, k1, k2, k3⟩ := divCore_ok (f1 := math_bits_Div64.loop1 (lo : Int) (y : Int) (s : Int)) (f2 := math_bits_Div64.loop2 (lo : Int) (y : Int) (s : Int)) (s := s) (h := H.empty) hs2 hs3 hNY hL2
    (fun q r hq hr => by
      unfold math_bits_Div64.loop1
      simp only [hm, wY, wL, shr32, and32 hs3]
      exact loop_test hq hr (by omega) (by omega) (by omega) (by omega) _)
    (fun q r hq hr => by
      unfold math_bits_Div64.loop2
      simp only [hm, wY, wL, shr32, and32 hs3, and32 hL2]
      exact loop_test hq hr (by omega) (by omega) (by omega) (by omega) _)
  have hcore := Div64_core (a0 := (hi : Int)) (a1 := (lo : Int)) (a2 := (y : Int)) (h := H.empty) e1 e2 e3 hs g1 g2 hm hm2 wY (shr32 Y) wL wN (shr32 L) (and32 hL2) hne
  rw [hrun] at hcore
  obtain ⟨hdiv, hmod⟩ := div_final (B := 4294967296) hp hY hU (show L / 4294967296 * 4294967296 + L % 4294967296 = L by omega) k1 k2 k3
  unfold math_bits_Div64P
  rw [hcore, hdiv, ← hmod]
  rfl
end Go.Proofs.Ytadlfinlbaogeaa
/- What package proportion computes of two or three numbers. Conditions: those of each law. -/
namespace Go.Proofs.Ytadlfinlbaogeaa
open Go Go.Proofs.Ytadlfinlbaogeaa.Ev
set_option linter.unusedVariables false
set_option linter.unusedSimpArgs false
set_option maxRecDepth 100000
set_option maxHeartbeats 1000000
theorem IndexFunc_int {T : Table} {v : V} {h : H} {xs : List Int} {f : Bool} (p : Int → Bool) (hn : xs.length < 2 ^ 63) (hc : ∀ x ∈ xs, ∀ {R : Type} (k : V → H → Option R), callV T.dy v [.int .i64 x] h k = k (.bool (p x)) h) :
    slices_IndexFunc_int_int T (rowSV f [.int .i64] xs) v h = some (idxOf p xs, h) := by
  unfold slices_IndexFunc_int_int
  rw [iter_find xs p (fun i => (i : Int)) hn (fun i x hx => by
    obtain ⟨hlt, rfl⟩ := List.getElem?_eq_some_iff.1 hx
    unfold slices_IndexFunc_int_int.loop1
    simp only [rowSV_len, Int.toNat_natCast]
    rw [decide_eq_true (by omega), cond_true, guardO_pos (by omega), rd_rowI, hx]
    simp only [Option.bind_some]
    rw [hc _ (List.getElem_mem hlt)]
    simp only [Res.pack, Ty.pack, Leaf.pack, Option.bind_some]
    rw [i64_succ (by omega)]
    cases p xs[i] <;> rfl) (by
    unfold slices_IndexFunc_int_int.loop1
    simp only [rowSV_len]
    rw [decide_eq_false (by omega), cond_false])]
  unfold idxOf
  cases xs.findIdx? p <;> rfl
theorem ContainsFunc_int {T : Table} {v : V} {h : H} {xs : List Int} {f : Bool} (p : Int → Bool) (hn : xs.length < 2 ^ 63) (hc : ∀ x ∈ xs, ∀ {R : Type} (k : V → H → Option R), callV T.dy v [.int .i64 x] h k = k (.bool (p x)) h) :
    slices_ContainsFunc_int_int T (rowSV f [.int .i64] xs) v h = some (xs.any p, h) := by
  unfold slices_ContainsFunc_int_int
  rw [IndexFunc_int (T := slices_ContainsFunc_int_int.tb T) p hn hc]
  simp only [Option.bind_some, idxOf_nonneg]
def isAmt (n : Int) : Bool := decide (0 ≤ n) && decide (n ≤ 128849018880000)
theorem isAmt_iff {n : Int} : isAmt n = true ↔ 0 ≤ n ∧ n ≤ 128849018880000 := by simp [isAmt]
theorem amount_ok (n : Int) : proportion_amountP n = some (isAmt n) := by
  unfold proportion_amountP proportion_amount isAmt
  cases decide (0 ≤ n) <;> rfl
theorem amounts1_ok (n : Int) : proportion_amounts_1P n = some (!isAmt n) := by
  unfold proportion_amounts_1P proportion_amounts_1
  simp only [evs, reduceIte, rdRes, rdTT, rdTy, rdLT, Res.un, TT.un, Ty.un, LT.un, Leaf.un, Leaf.plain, LT.plain, amount_ok]
theorem amounts_ok (xs : List Int) (hn : xs.length < 2 ^ 63) : proportion_amountsP xs = some (xs.all isAmt) := by
  unfold proportion_amountsP proportion_amounts
  rw [ContainsFunc_int (fun x => !isAmt x) hn (fun x hx R k => by
    show (proportion_amounts_1P x).bind (fun r => k ((Res.one (.leaf .bool)).lo true r) H.empty) = _
    rw [amounts1_ok]; rfl)]
  simp only [evs, reduceIte, rdRes, rdTT, rdTy, rdLT, Res.un, TT.un, Ty.un, LT.un, Leaf.un, Leaf.plain, LT.plain]
  rw [List.any_eq_not_all_not]
  simp
end Go.Proofs.Ytadlfinlbaogeaa
/- What package proportion and its reference compute of two or three numbers. Conditions: those of each law. -/
namespace Go.Proofs.Ytadlfinlbaogeaa
open Go Go.Proofs.Ytadlfinlbaogeaa.Ev
set_option linter.unusedVariables false
set_option linter.unusedSimpArgs false
set_option maxRecDepth 100000
set_option maxHeartbeats 1000000
theorem Div64_ok {hi lo y : Nat} (hy : hi < y) (hy1 : y < 18446744073709551616) (hl : lo < 18446744073709551616) :
    math_bits_Div64P (hi : Int) (lo : Int) (y : Int) = some ((((hi * 18446744073709551616 + lo) / y : Nat) : Int), (((hi * 18446744073709551616 + lo) % y : Nat) : Int)) := by
  rcases Nat.eq_zero_or_pos hi with rfl | h
  · rw [Nat.zero_mul, Nat.zero_add]
    exact Div64_small hy hl
  · exact Div64_great h hy hy1 hl
theorem product_ok {a b : Nat} (ha : a < 9223372036854775808) (hb : b < 9223372036854775808) : proportion_productP (a : Int) (b : Int) = some (((a * b / 18446744073709551616 : Nat) : Int), ((a * b % 18446744073709551616 : Nat) : Int)) := by
  unfold proportion_productP proportion_product
  rw [u64_nat (by omega), u64_nat (by omega), Mul64_ok (by omega) (by omega)]
  rfl
/-- A proportion and its remainder. -/
def divOf (a b c : Int) : Int × Int × Bool := if 128849018880000 < a * b / c then (0, 0, false) else (a * b / c, a * b % c, true)
theorem divided_nat {a b c : Nat} (ha : a ≤ 128849018880000) (hb : b ≤ 128849018880000) (hc : c ≤ 128849018880000) (h0 : 0 < c) :
    proportion_dividedP (a : Int) (b : Int) (c : Int) = some (if 128849018880000 < a * b / c then (0, 0, false) else (((a * b / c : Nat) : Int), ((a * b % c : Nat) : Int), true)) := by
  unfold proportion_dividedP proportion_divided
  rw [product_ok (by omega) (by omega)]
  simp only [evs, reduceIte, rdRes, rdTT, rdTy, rdLT, Res.un, TT.un, Ty.un, LT.un, Leaf.un, Leaf.plain, LT.plain, evh, List.replicate, splice, LT.pack, Leaf.pack, Nat.reduceAdd, Nat.reduceSub, Nat.reduceLeDiff, Nat.reduceLT, Nat.reduceEqDiff, LT.lo, Leaf.lo]
  rw [u64_nat (n := c) (by omega)]
  generalize hp : a * b = p at *
  by_cases h : c ≤ p / 18446744073709551616
  · rw [decide_eq_true (by omega)]
    have : 128849018880000 < p / c := by
      rw [Nat.lt_div_iff_mul_lt h0]
      have h1 : c * 18446744073709551616 ≤ p := by
        have := Nat.mul_le_mul_right 18446744073709551616 h
        omega
      omega
    rw [if_pos this]
    simp only [evs, reduceIte, rdRes, rdTT, rdTy, rdLT, Res.un, TT.un, Ty.un, LT.un, Leaf.un, Leaf.plain, LT.plain, evh, List.replicate, splice, LT.pack, Leaf.pack, Nat.reduceAdd, Nat.reduceSub, Nat.reduceLeDiff, Nat.reduceLT, Nat.reduceEqDiff, LT.lo, Leaf.lo]
  · rw [decide_eq_false (by omega), Div64_ok (by omega) (by omega) (by omega)]
    rw [show p / 18446744073709551616 * 18446744073709551616 + p % 18446744073709551616 = p by omega]
    simp only [evs, reduceIte, rdRes, rdTT, rdTy, rdLT, Res.un, TT.un, Ty.un, LT.un, Leaf.un, Leaf.plain, LT.plain, evh, List.replicate, splice, LT.pack, Leaf.pack, Nat.reduceAdd, Nat.reduceSub, Nat.reduceLeDiff, Nat.reduceLT, Nat.reduceEqDiff, LT.lo, Leaf.lo]
    by_cases hq : 128849018880000 < p / c
    · rw [decide_eq_true (by omega), if_pos hq]
      simp only [evs, reduceIte, rdRes, rdTT, rdTy, rdLT, Res.un, TT.un, Ty.un, LT.un, Leaf.un, Leaf.plain, LT.plain, evh, List.replicate, splice, LT.pack, Leaf.pack, Nat.reduceAdd, Nat.reduceSub, Nat.reduceLeDiff, Nat.reduceLT, Nat.reduceEqDiff, LT.lo, Leaf.lo]
    · have hr : p % c < c := Nat.mod_lt _ h0
      rw [decide_eq_false (by omega), if_neg hq, i64_nat (by omega), i64_nat (by omega)]
      simp only [evs, reduceIte, rdRes, rdTT, rdTy, rdLT, Res.un, TT.un, Ty.un, LT.un, Leaf.un, Leaf.plain, LT.plain, evh, List.replicate, splice, LT.pack, Leaf.pack, Nat.reduceAdd, Nat.reduceSub, Nat.reduceLeDiff, Nat.reduceLT, Nat.reduceEqDiff, LT.lo, Leaf.lo]
theorem isAmt_nat {a : Int} (h : isAmt a = true) : ∃ n : Nat, a = (n : Int) ∧ n ≤ 128849018880000 := by
  rw [isAmt_iff] at h
  exact ⟨a.toNat, by omega, by omega⟩
theorem divOf_nat (a b c : Nat) : divOf (a : Int) (b : Int) (c : Int) = if 128849018880000 < a * b / c then (0, 0, false) else (((a * b / c : Nat) : Int), ((a * b % c : Nat) : Int), true) := by
  unfold divOf
  rw [← Int.natCast_mul, ← Int.natCast_ediv, ← Int.natCast_emod]
  by_cases h : 128849018880000 < a * b / c
  · rw [if_pos h, if_pos (by omega)]
  · rw [if_neg h, if_neg (by omega)]
theorem divided_ok {a b c : Int} (ha : isAmt a = true) (hb : isAmt b = true) (hc : isAmt c = true) (h0 : c ≠ 0) : proportion_dividedP a b c = some (divOf a b c) := by
  obtain ⟨a, rfl, ha'⟩ := isAmt_nat ha
  obtain ⟨b, rfl, hb'⟩ := isAmt_nat hb
  obtain ⟨c, rfl, hc'⟩ := isAmt_nat hc
  rw [divided_nat ha' hb' hc' (by omega), divOf_nat]
/-- The proportion, or the error. -/
def ofOf (a b c : Int) : Int × Int × Int :=
  if (isAmt a && (isAmt b && isAmt c)) = true then (if c = 0 then (0, 0, 16) else if 128849018880000 < a * b / c then (0, 0, 15) else (a * b / c, a * b % c, 0)) else (0, 0, 2)
theorem Of_ok (a b c : Int) : proportion_OfP a b c = some (ofOf a b c) := by
  unfold proportion_OfP proportion_Of ofOf
  simp only [evs, reduceIte, rdRes, rdTT, rdTy, rdLT, Res.un, TT.un, Ty.un, LT.un, Leaf.un, Leaf.plain, LT.plain]
  rw [amounts_ok [a, b, c] (by simp)]
  simp only [evs, reduceIte, rdRes, rdTT, rdTy, rdLT, Res.un, TT.un, Ty.un, LT.un, Leaf.un, Leaf.plain, LT.plain, List.all_cons, List.all_nil]
  cases h : (isAmt a && (isAmt b && isAmt c)) with
  | false => simp only [evs, reduceIte, rdRes, rdTT, rdTy, rdLT, Res.un, TT.un, Ty.un, LT.un, Leaf.un, Leaf.plain, LT.plain]; rfl
  | true =>
    simp only [Bool.and_eq_true] at h
    by_cases h0 : c = 0
    · rw [decide_eq_true h0, if_pos h0]; simp only [evs, reduceIte, rdRes, rdTT, rdTy, rdLT, Res.un, TT.un, Ty.un, LT.un, Leaf.un, Leaf.plain, LT.plain]
    · rw [decide_eq_false h0, if_neg h0, divided_ok h.1 h.2.1 h.2.2 h0]
      unfold divOf
      by_cases hq : 128849018880000 < a * b / c
      · simp only [if_pos hq, evs, reduceIte, rdRes, rdTT, rdTy, rdLT, Res.un, TT.un, Ty.un, LT.un, Leaf.un, Leaf.plain, LT.plain]
      · simp only [if_neg hq, evs, reduceIte, rdRes, rdTT, rdTy, rdLT, Res.un, TT.un, Ty.un, LT.un, Leaf.un, Leaf.plain, LT.plain]
def upOf (a b c : Int) : Int × Int :=
  let x := ofOf a b c
  if x.2.2 = 0 then (if 128849018880000 < x.1 + (if 0 < x.2.1 then 1 else 0) then (0, 15) else (x.1 + (if 0 < x.2.1 then 1 else 0), 0)) else (0, x.2.2)
theorem ofOf_le (a b c : Int) : (ofOf a b c).1 ≤ 128849018880000 ∧ 0 ≤ (ofOf a b c).1 ∧ 0 ≤ (ofOf a b c).2.1 := by
  unfold ofOf
  split
  · rename_i h
    simp only [Bool.and_eq_true, isAmt_iff] at h
    split
    · simp
    · split
      · simp
      · refine ⟨by omega, ?_, ?_⟩
        · exact Int.ediv_nonneg (Int.mul_nonneg h.1.1 h.2.1.1) h.2.2.1
        · exact Int.emod_nonneg _ (by omega)
  · simp
theorem Up_ok (a b c : Int) : proportion_UpP a b c = some (upOf a b c) := by
  unfold proportion_UpP proportion_Up upOf
  rw [Of_ok]
  have hle := ofOf_le a b c
  generalize ofOf a b c = x at *
  obtain ⟨q, r, e⟩ := x
  simp only at hle
  simp only [evs, reduceIte, rdRes, rdTT, rdTy, rdLT, Res.un, TT.un, Ty.un, LT.un, Leaf.un, Leaf.plain, LT.plain]
  by_cases he : e = 0
  · rw [decide_eq_true he, if_pos he]
    simp only [evs, reduceIte, rdRes, rdTT, rdTy, rdLT, Res.un, TT.un, Ty.un, LT.un, Leaf.un, Leaf.plain, LT.plain]
    by_cases hr : 0 < r
    · rw [decide_eq_true hr, i64_in _ (by omega)]
      simp only [if_pos hr, evs, reduceIte, rdRes, rdTT, rdTy, rdLT, Res.un, TT.un, Ty.un, LT.un, Leaf.un, Leaf.plain, LT.plain]
      by_cases hq : 128849018880000 < q + 1
      · rw [decide_eq_true hq, if_pos hq]; simp only [evs, reduceIte, rdRes, rdTT, rdTy, rdLT, Res.un, TT.un, Ty.un, LT.un, Leaf.un, Leaf.plain, LT.plain]
      · rw [decide_eq_false hq, if_neg hq]; simp only [evs, reduceIte, rdRes, rdTT, rdTy, rdLT, Res.un, TT.un, Ty.un, LT.un, Leaf.un, Leaf.plain, LT.plain]
    · rw [decide_eq_false hr]
      simp only [if_neg hr, evs, reduceIte, rdRes, rdTT, rdTy, rdLT, Res.un, TT.un, Ty.un, LT.un, Leaf.un, Leaf.plain, LT.plain, Int.add_zero]
      by_cases hq : 128849018880000 < q
      · rw [decide_eq_true hq, if_pos hq]; simp only [evs, reduceIte, rdRes, rdTT, rdTy, rdLT, Res.un, TT.un, Ty.un, LT.un, Leaf.un, Leaf.plain, LT.plain]
      · rw [decide_eq_false hq, if_neg hq]; simp only [evs, reduceIte, rdRes, rdTT, rdTy, rdLT, Res.un, TT.un, Ty.un, LT.un, Leaf.un, Leaf.plain, LT.plain]
  · rw [decide_eq_false he, if_neg he]; simp only [evs, reduceIte, rdRes, rdTT, rdTy, rdLT, Res.un, TT.un, Ty.un, LT.un, Leaf.un, Leaf.plain, LT.plain]
theorem cmpU_ok (a b : Int) : cmp_Compare_uint64P a b = some (if a < b then -1 else if b < a then 1 else 0) := by
  unfold cmp_Compare_uint64P cmp_Compare_uint64
  have hn : ∀ x, cmp_isNaN_uint64P x = some false := fun x => by unfold cmp_isNaN_uint64P cmp_isNaN_uint64; simp only [evs, reduceIte, rdRes, rdTT, rdTy, rdLT, Res.un, TT.un, Ty.un, LT.un, Leaf.un, Leaf.plain, LT.plain, decide_true]
  simp only [hn, evs, reduceIte, rdRes, rdTT, rdTy, rdLT, Res.un, TT.un, Ty.un, LT.un, Leaf.un, Leaf.plain, LT.plain]
  by_cases h : a < b
  · rw [decide_eq_true h, if_pos h]; rfl
  · rw [decide_eq_false h, if_neg h]
    by_cases h2 : b < a
    · rw [decide_eq_true h2, if_pos h2]; rfl
    · rw [decide_eq_false h2, if_neg h2]; rfl
theorem SCompare_ok (a b c d : Int) : slices_Compare_uint64_uint64P [a, b] [c, d] = some (if a < c then -1 else if c < a then 1 else if b < d then -1 else if d < b then 1 else 0) := by
  unfold slices_Compare_uint64_uint64P slices_Compare_uint64_uint64
  have h0 : slices_Compare_uint64_uint64.loop1 (rowSV false [.int .u64] [a, b]) (rowSV false [.int .u64] [c, d]) (0, H.empty) =
      some (bif !decide ((if a < c then -1 else if c < a then 1 else 0 : Int) = 0) then .done (.ret (if a < c then -1 else if c < a then 1 else 0), H.empty) else .more (1, H.empty)) := by
    unfold slices_Compare_uint64_uint64.loop1
    simp only [rowSV_len, show Int.toNat 0 * 1 = 0 * 1 from rfl, rd_rowI, List.getElem?_cons_zero, Option.bind_some, cmpU_ok]
    generalize decide ((if a < c then -1 else if c < a then 1 else 0 : Int) = 0) = x
    cases x <;> rfl
  have h1 : slices_Compare_uint64_uint64.loop1 (rowSV false [.int .u64] [a, b]) (rowSV false [.int .u64] [c, d]) (1, H.empty) =
      some (bif !decide ((if b < d then -1 else if d < b then 1 else 0 : Int) = 0) then .done (.ret (if b < d then -1 else if d < b then 1 else 0), H.empty) else .more (2, H.empty)) := by
    unfold slices_Compare_uint64_uint64.loop1
    simp only [rowSV_len, show Int.toNat 1 * 1 = 1 * 1 from rfl, rd_rowI, List.getElem?_cons_zero, List.getElem?_cons_succ, Option.bind_some, cmpU_ok]
    generalize decide ((if b < d then -1 else if d < b then 1 else 0 : Int) = 0) = x
    cases x <;> rfl
  have h2 : slices_Compare_uint64_uint64.loop1 (rowSV false [.int .u64] [a, b]) (rowSV false [.int .u64] [c, d]) (2, H.empty) = some (.done (.ex0 (), H.empty)) := rfl
  have hit : iter FUEL (slices_Compare_uint64_uint64.loop1 (rowSV false [.int .u64] [a, b]) (rowSV false [.int .u64] [c, d])) (0, H.empty) =
      iter (FUEL - 1 + 1) (slices_Compare_uint64_uint64.loop1 (rowSV false [.int .u64] [a, b]) (rowSV false [.int .u64] [c, d])) (0, H.empty) := by
    rw [Nat.sub_add_cancel (by unfold FUEL; omega)]
  have hit2 : iter (FUEL - 1) (slices_Compare_uint64_uint64.loop1 (rowSV false [.int .u64] [a, b]) (rowSV false [.int .u64] [c, d])) (1, H.empty) =
      iter (FUEL - 3 + 1 + 1) (slices_Compare_uint64_uint64.loop1 (rowSV false [.int .u64] [a, b]) (rowSV false [.int .u64] [c, d])) (1, H.empty) := by
    congr 1
  rw [hit]
  simp only [iter, h0, Option.bind_some]
  by_cases c1 : a < c
  · simp only [if_pos c1]; rfl
  · simp only [if_neg c1]
    by_cases c2 : c < a
    · simp only [if_pos c2]; rfl
    · simp only [if_neg c2, decide_true, Bool.not_true, cond_false]
      rw [hit2]
      simp only [iter, h1, Option.bind_some]
      by_cases c3 : b < d
      · simp only [if_pos c3]; rfl
      · simp only [if_neg c3]
        by_cases c4 : d < b
        · simp only [if_pos c4]; rfl
        · simp only [if_neg c4, decide_true, Bool.not_true, cond_false, h2, Option.bind_some]
          rfl
def cmpOf (a b c d : Int) : Int × Int :=
  if (isAmt a && (isAmt b && (isAmt c && isAmt d))) = true then (if b = 0 ∨ d = 0 then (0, 16) else (if a * d < c * b then -1 else if c * b < a * d then 1 else 0, 0)) else (0, 2)
theorem Compare_ok (a b c d : Int) : proportion_CompareP a b c d = some (cmpOf a b c d) := by
  unfold proportion_CompareP proportion_Compare cmpOf
  simp only [evs, reduceIte, rdRes, rdTT, rdTy, rdLT, Res.un, TT.un, Ty.un, LT.un, Leaf.un, Leaf.plain, LT.plain]
  rw [amounts_ok [a, b, c, d] (by simp)]
  simp only [evs, reduceIte, rdRes, rdTT, rdTy, rdLT, Res.un, TT.un, Ty.un, LT.un, Leaf.un, Leaf.plain, LT.plain, List.all_cons, List.all_nil]
  cases h : (isAmt a && (isAmt b && (isAmt c && isAmt d))) with
  | false => simp only [evs, reduceIte, rdRes, rdTT, rdTy, rdLT, Res.un, TT.un, Ty.un, LT.un, Leaf.un, Leaf.plain, LT.plain]; rfl
  | true =>
    simp only [Bool.and_eq_true] at h
    obtain ⟨h1, h2, h3, h4⟩ := h
    by_cases hb : b = 0
    · rw [decide_eq_true hb]
      simp only [evs, reduceIte, rdRes, rdTT, rdTy, rdLT, Res.un, TT.un, Ty.un, LT.un, Leaf.un, Leaf.plain, LT.plain, hb, true_or]
    · rw [decide_eq_false hb]
      by_cases hd : d = 0
      · rw [decide_eq_true hd]
        simp only [evs, reduceIte, rdRes, rdTT, rdTy, rdLT, Res.un, TT.un, Ty.un, LT.un, Leaf.un, Leaf.plain, LT.plain, hd, or_true]
      · rw [decide_eq_false hd]
        simp only [evs, reduceIte, rdRes, rdTT, rdTy, rdLT, Res.un, TT.un, Ty.un, LT.un, Leaf.un, Leaf.plain, LT.plain, hb, hd, or_self]
        obtain ⟨a, rfl, k1⟩ := isAmt_nat h1
        obtain ⟨b, rfl, k2⟩ := isAmt_nat h2
        obtain ⟨c, rfl, k3⟩ := isAmt_nat h3
        obtain ⟨d, rfl, k4⟩ := isAmt_nat h4
        rw [product_ok (by omega) (by omega), product_ok (by omega) (by omega)]
        simp only [Option.bind_some]
        have key : ∀ x y : Nat, (if ((x / 18446744073709551616 : Nat) : Int) < ((y / 18446744073709551616 : Nat) : Int) then (-1 : Int) else if ((y / 18446744073709551616 : Nat) : Int) < ((x / 18446744073709551616 : Nat) : Int) then 1 else
            if ((x % 18446744073709551616 : Nat) : Int) < ((y % 18446744073709551616 : Nat) : Int) then -1 else if ((y % 18446744073709551616 : Nat) : Int) < ((x % 18446744073709551616 : Nat) : Int) then 1 else 0) = if (x : Int) < (y : Int) then -1 else if (y : Int) < (x : Int) then 1 else 0 := fun x y => by
          split <;> split <;> (try split) <;> (try split) <;> (try split) <;> omega
        have hk := key (a * d) (c * b)
        rw [Int.natCast_mul, Int.natCast_mul] at hk
        rw [← hk]
        generalize ((a * d / 18446744073709551616 : Nat) : Int) = p0
        generalize ((a * d % 18446744073709551616 : Nat) : Int) = p1
        generalize ((c * b / 18446744073709551616 : Nat) : Int) = q0
        generalize ((c * b % 18446744073709551616 : Nat) : Int) = q1
        have hs : ∀ h p q : Nat, True := fun _ _ _ => trivial
        simp only [evs, reduceIte, rdRes, rdTT, rdTy, rdLT, Res.un, TT.un, Ty.un, LT.un, Leaf.un, Leaf.plain, LT.plain, evh, List.replicate, splice, LT.pack, Leaf.pack, Nat.reduceAdd, Nat.reduceSub, Nat.reduceLeDiff, Nat.reduceLT, Nat.reduceEqDiff, LT.lo, Leaf.lo, guardO_pos (show (0 : Int) ≤ 0 ∧ (0 : Int) ≤ ((2 : Nat) : Int) ∧ ((2 : Nat) : Int) ≤ ((2 : Nat) : Int) by decide)]
        rw [show (rdRow true (hL [Slot.own [V.int .u64 p0, V.int .u64 p1] 2, Slot.own [V.int .u64 q0, V.int .u64 q1] 2]) [.int .u64] ⟨.hp 0 2 0, Int.toNat ((2 : Nat) : Int) - Int.toNat 0, 2 - Int.toNat 0, false⟩) = some [p0, p1] from rfl,
          show (rdRow true (hL [Slot.own [V.int .u64 p0, V.int .u64 p1] 2, Slot.own [V.int .u64 q0, V.int .u64 q1] 2]) [.int .u64] ⟨.hp 1 2 0, Int.toNat ((2 : Nat) : Int) - Int.toNat 0, 2 - Int.toNat 0, false⟩) = some [q0, q1] from rfl]
        simp only [Option.bind_some]
        rw [SCompare_ok]
        rfl
end Go.Proofs.Ytadlfinlbaogeaa
/- What the reference of package proportion computes of two or three numbers. Conditions: those of each law. -/
namespace Go.Proofs.Ytadlfinlbaogeaa
open Go Go.Proofs.Ytadlfinlbaogeaa.Ev
set_option linter.unusedVariables false
set_option linter.unusedSimpArgs false
set_option maxRecDepth 100000
set_option maxHeartbeats 1000000
theorem rIs_ok (n : Int) : spileref01_IsP n = some (isAmt n) := by
  unfold spileref01_IsP spileref01_Is isAmt
  cases decide (0 ≤ n) <;> rfl
theorem rthree_ok (a b c : Int) : spileref01_threeP a b c = some (if (isAmt a && (isAmt b && isAmt c)) = true then (if c = 0 then 16 else 0) else 2) := by
  unfold spileref01_threeP spileref01_three
  simp only [rIs_ok]
  by_cases h0 : c = 0
  · simp only [if_pos h0, decide_eq_true h0]; cases isAmt a <;> cases isAmt b <;> cases isAmt c <;> rfl
  · simp only [if_neg h0, decide_eq_false h0]; cases isAmt a <;> cases isAmt b <;> cases isAmt c <;> rfl
theorem and31 {x : Nat} (hx : x < 18446744073709551616) : bitsI .and .u64 (x : Int) 2147483647 = ((x % 2147483648 : Nat) : Int) := by
  have h : (BitVec.ofInt 64 (x : Int) &&& BitVec.ofInt 64 2147483647).toNat = x % 2147483648 := by
    rw [BitVec.toNat_and, BitVec.ofInt_natCast, BitVec.toNat_ofNat, show (BitVec.ofInt 64 2147483647).toNat = 2 ^ 31 - 1 by rfl, Nat.and_two_pow_sub_one_eq_mod, Nat.mod_eq_of_lt (b := 2 ^ 64) (by omega)]
  exact (congrArg (fun n : Nat => IntKind.u64.wrap (n : Int)) h).trans (IntWalk.u64_in _ (by omega))
theorem shr31 (x : Nat) : Int.fdiv (x : Int) (2 ^ (min (Int.toNat 31) (IntKind.bits .u64))) = ((x / 2147483648 : Nat) : Int) := fdiv_pow x 31
theorem shl31 (x : Nat) : (x : Int) * 2 ^ (min (Int.toNat 31) (IntKind.bits .u64)) = ((x * 2147483648 : Nat) : Int) := by
  rw [show min (Int.toNat 31) (IntKind.bits .u64) = 31 from rfl]; omega
theorem mul_lt31 {a b : Nat} (ha : a < 2147483648) (hb : b < 2147483648) : a * b ≤ 4611686014132420609 := by
  have : a * b ≤ 2147483647 * 2147483647 := Nat.mul_le_mul (by omega) (by omega)
  omega
theorem rProduct_nat {a b : Nat} (ha : a < 4611686018427387904) (hb : b < 4611686018427387904) : spileref01_ProductP (a : Int) (b : Int) = some (((a * b / 4611686018427387904 : Nat) : Int), ((a * b % 4611686018427387904 : Nat) : Int)) := by
  unfold spileref01_ProductP spileref01_Product
  have e : a * b = (a / 2147483648 * (b / 2147483648)) * 4611686018427387904 + (a / 2147483648 * (b % 2147483648) + a % 2147483648 * (b / 2147483648)) * 2147483648 + a % 2147483648 * (b % 2147483648) := by
    have h1 : a = a / 2147483648 * 2147483648 + a % 2147483648 := by omega
    have h2 : b = b / 2147483648 * 2147483648 + b % 2147483648 := by omega
    generalize a / 2147483648 = x1 at *
    generalize a % 2147483648 = x0 at *
    generalize b / 2147483648 = y1 at *
    generalize b % 2147483648 = y0 at *
    subst h1; subst h2
    have m1 : (x1 * 2147483648 + x0) * (y1 * 2147483648 + y0) = x1 * 2147483648 * (y1 * 2147483648) + x1 * 2147483648 * y0 + (x0 * (y1 * 2147483648) + x0 * y0) := by
      rw [Nat.add_mul, Nat.mul_add, Nat.mul_add]
    have m2 : x1 * 2147483648 * (y1 * 2147483648) = x1 * y1 * 4611686018427387904 := by rw [Nat.mul_mul_mul_comm]
    have m3 : x1 * 2147483648 * y0 = x1 * y0 * 2147483648 := Nat.mul_right_comm _ _ _
    have m4 : x0 * (y1 * 2147483648) = x0 * y1 * 2147483648 := (Nat.mul_assoc _ _ _).symm
    rw [m1, m2, m3, m4, Nat.add_mul]
    omega
  have b1 := mul_lt31 (a := a / 2147483648) (b := b / 2147483648) (by omega) (by omega)
  have b2 := mul_lt31 (a := a / 2147483648) (b := b % 2147483648) (by omega) (by omega)
  have b3 := mul_lt31 (a := a % 2147483648) (b := b / 2147483648) (by omega) (by omega)
  have b4 := mul_lt31 (a := a % 2147483648) (b := b % 2147483648) (by omega) (by omega)
  rw [u64_nat (n := a) (by omega), u64_nat (n := b) (by omega), shr31, shr31, and31 (by omega), and31 (by omega)]
  simp only [← Int.natCast_mul]
  generalize a / 2147483648 * (b / 2147483648) = p11 at *
  generalize a / 2147483648 * (b % 2147483648) = p10 at *
  generalize a % 2147483648 * (b / 2147483648) = p01 at *
  generalize a % 2147483648 * (b % 2147483648) = p00 at *
  rw [u64_nat (n := p11) (by omega), u64_nat (n := p10) (by omega), u64_nat (n := p01) (by omega), u64_nat (n := p00) (by omega), shr31 p00, and31 (x := p00) (by omega)]
  simp only [← Int.natCast_add]
  rw [u64_nat (n := p01 + p00 / 2147483648) (by omega), and31 (x := p01 + p00 / 2147483648) (by omega), shr31 (p01 + p00 / 2147483648)]
  simp only [← Int.natCast_add]
  rw [u64_nat (n := p11 + (p01 + p00 / 2147483648) / 2147483648) (by omega), u64_nat (n := p10 + (p01 + p00 / 2147483648) % 2147483648) (by omega), shr31 (p10 + (p01 + p00 / 2147483648) % 2147483648), and31 (x := p10 + (p01 + p00 / 2147483648) % 2147483648) (by omega), shl31]
  simp only [← Int.natCast_add]
  rw [u64_nat (n := p11 + (p01 + p00 / 2147483648) / 2147483648 + (p10 + (p01 + p00 / 2147483648) % 2147483648) / 2147483648) (by omega),
    u64_nat (n := (p10 + (p01 + p00 / 2147483648) % 2147483648) % 2147483648 * 2147483648) (by omega)]
  have hor := or_add (a := (p10 + (p01 + p00 / 2147483648) % 2147483648) % 2147483648) (b := p00 % 2147483648) (s := 31) (by omega) (by omega)
  rw [show (2 ^ 31 : Nat) = 2147483648 from rfl] at hor
  rw [hor]
  rw [show p11 + (p01 + p00 / 2147483648) / 2147483648 + (p10 + (p01 + p00 / 2147483648) % 2147483648) / 2147483648 = a * b / 4611686018427387904 by omega,
    show (p10 + (p01 + p00 / 2147483648) % 2147483648) % 2147483648 * 2147483648 + p00 % 2147483648 = a * b % 4611686018427387904 by omega]
  rfl
theorem rLess_ok (a b c d : Int) : spileref01_LessP (a, b) (c, d) = some (decide (a < c) || (decide (a = c) && decide (b < d))) := by
  unfold spileref01_LessP spileref01_Less
  cases h1 : decide (a < c) with
  | true => simp only [evs, reduceIte, rdRes, rdTT, rdTy, rdLT, Res.un, TT.un, Ty.un, LT.un, Leaf.un, Leaf.plain, LT.plain, evh, List.replicate, splice, LT.pack, Leaf.pack, Nat.reduceAdd, Nat.reduceSub, Nat.reduceLeDiff, Nat.reduceLT, Nat.reduceEqDiff, LT.lo, Leaf.lo, h1]
  | false =>
    cases h2 : decide (a = c) with
    | false => simp only [evs, reduceIte, rdRes, rdTT, rdTy, rdLT, Res.un, TT.un, Ty.un, LT.un, Leaf.un, Leaf.plain, LT.plain, evh, List.replicate, splice, LT.pack, Leaf.pack, Nat.reduceAdd, Nat.reduceSub, Nat.reduceLeDiff, Nat.reduceLT, Nat.reduceEqDiff, LT.lo, Leaf.lo, h1, h2]; rfl
    | true => simp only [evs, reduceIte, rdRes, rdTT, rdTy, rdLT, Res.un, TT.un, Ty.un, LT.un, Leaf.un, Leaf.plain, LT.plain, evh, List.replicate, splice, LT.pack, Leaf.pack, Nat.reduceAdd, Nat.reduceSub, Nat.reduceLeDiff, Nat.reduceLT, Nat.reduceEqDiff, LT.lo, Leaf.lo, h1, h2]
theorem rLess_nat (x y : Nat) : spileref01_LessP (((x / 4611686018427387904 : Nat) : Int), ((x % 4611686018427387904 : Nat) : Int)) (((y / 4611686018427387904 : Nat) : Int), ((y % 4611686018427387904 : Nat) : Int)) = some (decide (x < y)) := by
  rw [rLess_ok]
  congr 1
  by_cases h : x < y
  · rw [decide_eq_true h]
    by_cases h1 : x / 4611686018427387904 < y / 4611686018427387904
    · rw [decide_eq_true (show ((x / 4611686018427387904 : Nat) : Int) < ((y / 4611686018427387904 : Nat) : Int) by omega)]; rfl
    · rw [decide_eq_true (show ((x / 4611686018427387904 : Nat) : Int) = ((y / 4611686018427387904 : Nat) : Int) by omega), decide_eq_true (show ((x % 4611686018427387904 : Nat) : Int) < ((y % 4611686018427387904 : Nat) : Int) by omega)]; simp
  · rw [decide_eq_false h, decide_eq_false (show ¬ ((x / 4611686018427387904 : Nat) : Int) < ((y / 4611686018427387904 : Nat) : Int) by omega)]
    by_cases h1 : ((x / 4611686018427387904 : Nat) : Int) = ((y / 4611686018427387904 : Nat) : Int)
    · rw [decide_eq_true h1, decide_eq_false (show ¬ ((x % 4611686018427387904 : Nat) : Int) < ((y % 4611686018427387904 : Nat) : Int) by omega)]; rfl
    · rw [decide_eq_false h1]; rfl
theorem rminus_ok (a b c d : Int) : spileref01_minusP (a, b) (c, d) = some (if b < d then (IntKind.u64.wrap (IntKind.u64.wrap (a - c) - 1), IntKind.u64.wrap (IntKind.u64.wrap (b + 4611686018427387904) - d)) else (IntKind.u64.wrap (a - c), IntKind.u64.wrap (b - d))) := by
  unfold spileref01_minusP spileref01_minus
  by_cases h : b < d
  · rw [if_pos h]; simp only [evs, reduceIte, rdRes, rdTT, rdTy, rdLT, Res.un, TT.un, Ty.un, LT.un, Leaf.un, Leaf.plain, LT.plain, evh, List.replicate, splice, LT.pack, Leaf.pack, Nat.reduceAdd, Nat.reduceSub, Nat.reduceLeDiff, Nat.reduceLT, Nat.reduceEqDiff, LT.lo, Leaf.lo, decide_eq_true h]
  · rw [if_neg h]; simp only [evs, reduceIte, rdRes, rdTT, rdTy, rdLT, Res.un, TT.un, Ty.un, LT.un, Leaf.un, Leaf.plain, LT.plain, evh, List.replicate, splice, LT.pack, Leaf.pack, Nat.reduceAdd, Nat.reduceSub, Nat.reduceLeDiff, Nat.reduceLT, Nat.reduceEqDiff, LT.lo, Leaf.lo, decide_eq_false h]
theorem rminus_nat {x y : Nat} (h : y ≤ x) (hx : x < 85070591730234615865843651857942052864) : spileref01_minusP (((x / 4611686018427387904 : Nat) : Int), ((x % 4611686018427387904 : Nat) : Int)) (((y / 4611686018427387904 : Nat) : Int), ((y % 4611686018427387904 : Nat) : Int)) =
    some ((((x - y) / 4611686018427387904 : Nat) : Int), (((x - y) % 4611686018427387904 : Nat) : Int)) := by
  rw [rminus_ok]
  congr 1
  simp only [IntKind.wrap_u64]
  split <;> rw [Prod.mk.injEq] <;> constructor <;> omega
theorem rOf_loop {p c : Nat} {h0 hh : H} (hread : rdT (.agg [.int .u64, .int .u64]) hh (.hp h0.next 2 0) = some (((p / 4611686018427387904 : Nat) : Int), ((p % 4611686018427387904 : Nat) : Int))) (hQ : p / c ≤ 128849018880000) (hc : c ≤ 128849018880000) (hc0 : 0 < c) :
    iter FUEL (spileref01_Of.loop1 h0 (c : Int) 128849018880000) ((0, 2305843009213693952), hh) = some (.ex0 ((p / c : Nat) : Int), hh) := by
  obtain ⟨x, hx, hp⟩ := iter_inv (f := spileref01_Of.loop1 h0 (c : Int) 128849018880000) (Inv := fun st => st.2 = hh ∧ ∃ q b : Nat, st.1 = ((q : Int), (b : Int)) ∧ q ≤ p / c ∧ ((∃ k, b = 2 ^ k ∧ k ≤ 61 ∧ p / c < q + 2 * 2 ^ k) ∨ b = 0 ∧ q = p / c))
    (Post := fun r => r = (.ex0 ((p / c : Nat) : Int), hh)) (fun st => st.1.2.toNat) (fun st hi => by
      obtain ⟨st, h1⟩ := st
      obtain ⟨rfl, q, b, rfl, hq, hb⟩ := hi
      simp only at *
      rcases hb with ⟨k, rfl, hk, hlt⟩ | ⟨rfl, rfl⟩
      · left
        have hpk : 2 ^ k ≤ 2305843009213693952 := by
          have : 2 ^ k ≤ 2 ^ 61 := Nat.pow_le_pow_right (by omega) hk
          omega
        have hpos : 0 < 2 ^ k := Nat.two_pow_pos k
        have hhalf : Int.tdiv (((2 ^ k : Nat) : Int)) 2 = ((2 ^ k / 2 : Nat) : Int) := tdiv_nat _ 2
        have hnext : 2 ^ k / 2 = (if k = 0 then 0 else 2 ^ (k - 1)) := by
          cases k with
          | zero => rfl
          | succ k => rw [if_neg (by omega), Nat.pow_succ, Nat.mul_div_cancel _ (by omega)]; rfl
        have hstep : spileref01_Of.loop1 h0 (c : Int) 128849018880000 (((q : Int), ((2 ^ k : Nat) : Int)), h1) = some (.more ((((if q + 2 ^ k ≤ p / c then q + 2 ^ k else q : Nat) : Int), ((2 ^ k / 2 : Nat) : Int)), h1)) := by
          unfold spileref01_Of.loop1
          simp only
          rw [decide_eq_true (by omega), hhalf, i64_nat (n := 2 ^ k / 2) (by omega), ← Int.natCast_add, i64_nat (by omega), reserve0, hread]
          simp only [evs, reduceIte, rdRes, rdTT, rdTy, rdLT, Res.un, TT.un, Ty.un, LT.un, Leaf.un, Leaf.plain, LT.plain]
          by_cases h2 : q + 2 ^ k ≤ 128849018880000
          · rw [decide_eq_true (by omega), rProduct_nat (by omega) (by omega)]
            simp only [evs, reduceIte, rdRes, rdTT, rdTy, rdLT, Res.un, TT.un, Ty.un, LT.un, Leaf.un, Leaf.plain, LT.plain, rLess_nat]
            have hiff : q + 2 ^ k ≤ p / c ↔ ¬ (p < (q + 2 ^ k) * c) := by rw [Nat.le_div_iff_mul_le hc0]; omega
            by_cases h3 : p < (q + 2 ^ k) * c
            · rw [decide_eq_true h3, if_neg (by rw [hiff]; omega)]
              simp only [evs, reduceIte, rdRes, rdTT, rdTy, rdLT, Res.un, TT.un, Ty.un, LT.un, Leaf.un, Leaf.plain, LT.plain]
            · rw [decide_eq_false h3, if_pos (by rw [hiff]; omega)]
              simp only [evs, reduceIte, rdRes, rdTT, rdTy, rdLT, Res.un, TT.un, Ty.un, LT.un, Leaf.un, Leaf.plain, LT.plain]
          · rw [decide_eq_false (by omega), if_neg (by omega)]
            simp only [evs, reduceIte, rdRes, rdTT, rdTy, rdLT, Res.un, TT.un, Ty.un, LT.un, Leaf.un, Leaf.plain, LT.plain]
        refine ⟨_, hstep, ⟨rfl, _, _, rfl, by split <;> omega, ?_⟩, ?_⟩
        · rw [hnext]
          cases k with
          | zero => right; refine ⟨by simp, ?_⟩; split <;> omega
          | succ k =>
            left
            refine ⟨k, by simp, by omega, ?_⟩
            rw [Nat.pow_succ] at hlt ⊢
            split <;> omega
        · simp only [Int.toNat_natCast]
          omega
      · right
        refine ⟨_, ?_, rfl⟩
        unfold spileref01_Of.loop1
        rfl) FUEL ((0, 2305843009213693952), hh) ⟨rfl, 0, 2305843009213693952, rfl, Nat.zero_le _, .inl ⟨61, by decide, Nat.le_refl _, by omega⟩⟩ (by
      show Int.toNat 2305843009213693952 < FUEL
      have : Int.toNat 2305843009213693952 < 2 ^ 69 := by decide
      exact fuel_gt this)
  rw [hx, hp]
theorem rOf_nat {a b c : Nat} (ha : a ≤ 128849018880000) (hb : b ≤ 128849018880000) (hc : c ≤ 128849018880000) (h0 : 0 < c) :
    spileref01_OfP (a : Int) (b : Int) (c : Int) 128849018880000 = some (if 128849018880000 < a * b / c then (0, 0, false) else (((a * b / c : Nat) : Int), ((a * b % c : Nat) : Int), true)) := by
  unfold spileref01_OfP spileref01_Of
  have hp : a * b ≤ 128849018880000 * 128849018880000 := Nat.mul_le_mul ha hb
  have hm : 128849018880000 * c ≤ 128849018880000 * 128849018880000 := Nat.mul_le_mul (Nat.le_refl _) hc
  rw [rProduct_nat (by omega) (by omega), show (128849018880000 : Int) = ((128849018880000 : Nat) : Int) from rfl, rProduct_nat (a := 128849018880000) (b := c) (by omega) (by omega)]
  generalize hpe : a * b = p at *
  have hu : IntKind.u64.wrap (c : Int) = ((c % 4611686018427387904 : Nat) : Int) := by rw [u64_nat (by omega)]; omega
  have hz : (0 : Int) = ((c / 4611686018427387904 : Nat) : Int) := by omega
  have hM : (128849018880000 < p / c) ↔ 128849018880000 * c + c ≤ p := by
    rw [Nat.lt_iff_add_one_le, Nat.le_div_iff_mul_le h0]
    omega
  simp -implicitDefEqProofs only [evs, reduceIte, rdRes, rdTT, rdTy, rdLT, Res.un, TT.un, Ty.un, LT.un, Leaf.un, Leaf.plain, LT.plain, evh, List.replicate, splice, LT.pack, Leaf.pack, Nat.reduceAdd, Nat.reduceSub, Nat.reduceLeDiff, Nat.reduceLT, Nat.reduceEqDiff, LT.lo, Leaf.lo, rLess_nat]
  have guard : ((bif decide (128849018880000 * c < p) then
        (spileref01_minusP (((p / 4611686018427387904 : Nat) : Int), ((p % 4611686018427387904 : Nat) : Int)) (((128849018880000 * c / 4611686018427387904 : Nat) : Int), ((128849018880000 * c % 4611686018427387904 : Nat) : Int))).bind fun (r10_0, r10_1) =>
          (spileref01_LessP (r10_0, r10_1) (0, IntKind.u64.wrap (c : Int))).bind fun r11 => some (!r11, hL [Slot.own [V.int .u64 ((p / 4611686018427387904 : Nat) : Int), V.int .u64 ((p % 4611686018427387904 : Nat) : Int)] 2])
      else some (false, hL [Slot.own [V.int .u64 ((p / 4611686018427387904 : Nat) : Int), V.int .u64 ((p % 4611686018427387904 : Nat) : Int)] 2])) : Option (Bool × H)) =
      some (decide (128849018880000 < p / c), hL [Slot.own [V.int .u64 ((p / 4611686018427387904 : Nat) : Int), V.int .u64 ((p % 4611686018427387904 : Nat) : Int)] 2]) := by
    by_cases h1 : 128849018880000 * c < p
    · rw [decide_eq_true h1, rminus_nat (by omega) (by omega)]
      simp -implicitDefEqProofs only [evs, reduceIte, rdRes, rdTT, rdTy, rdLT, Res.un, TT.un, Ty.un, LT.un, Leaf.un, Leaf.plain, LT.plain]
      conv in spileref01_LessP _ (0, _) => rw [hu]; arg 2; arg 1; rw [hz]
      rw [rLess_nat]
      simp -implicitDefEqProofs only [evs, reduceIte, rdRes, rdTT, rdTy, rdLT, Res.un, TT.un, Ty.un, LT.un, Leaf.un, Leaf.plain, LT.plain]
      by_cases h2 : p - 128849018880000 * c < c
      · rw [decide_eq_true h2, decide_eq_false (by rw [hM]; omega)]; rfl
      · rw [decide_eq_false h2, decide_eq_true (by rw [hM]; omega)]; rfl
    · rw [decide_eq_false h1, decide_eq_false (by rw [hM]; omega)]; rfl
  rw [guard]
  simp -implicitDefEqProofs only [evs, reduceIte, rdRes, rdTT, rdTy, rdLT, Res.un, TT.un, Ty.un, LT.un, Leaf.un, Leaf.plain, LT.plain]
  by_cases hq : 128849018880000 < p / c
  · rw [decide_eq_true hq, if_pos hq]
    simp -implicitDefEqProofs only [evs, reduceIte, rdRes, rdTT, rdTy, rdLT, Res.un, TT.un, Ty.un, LT.un, Leaf.un, Leaf.plain, LT.plain]
  · rw [decide_eq_false hq, if_neg hq]
    have hQ : p / c ≤ 128849018880000 := by omega
    simp -implicitDefEqProofs only [evs, reduceIte, rdRes, rdTT, rdTy, rdLT, Res.un, TT.un, Ty.un, LT.un, Leaf.un, Leaf.plain, LT.plain]
    rw [show ((128849018880000 : Nat) : Int) = 128849018880000 from rfl]
    have hl := rOf_loop (p := p) (c := c) (h0 := hL []) (hh := hL [Slot.own [V.int .u64 ((p / 4611686018427387904 : Nat) : Int), V.int .u64 ((p % 4611686018427387904 : Nat) : Int)] 2]) rfl hQ hc h0
    rw [hl]
    have hmul : p / c * c ≤ p := Nat.div_mul_le_self p c
    simp -implicitDefEqProofs only [evs, reduceIte, rdRes, rdTT, rdTy, rdLT, Res.un, TT.un, Ty.un, LT.un, Leaf.un, Leaf.plain, LT.plain, evh, List.replicate, splice, LT.pack, Leaf.pack, Nat.reduceAdd, Nat.reduceSub, Nat.reduceLeDiff, Nat.reduceLT, Nat.reduceEqDiff, LT.lo, Leaf.lo]
    rw [rProduct_nat (by omega) (by omega)]
    simp -implicitDefEqProofs only [evs, reduceIte, rdRes, rdTT, rdTy, rdLT, Res.un, TT.un, Ty.un, LT.un, Leaf.un, Leaf.plain, LT.plain, evh, List.replicate, splice, LT.pack, Leaf.pack, Nat.reduceAdd, Nat.reduceSub, Nat.reduceLeDiff, Nat.reduceLT, Nat.reduceEqDiff, LT.lo, Leaf.lo]
    rw [rminus_nat hmul (by omega)]
    simp -implicitDefEqProofs only [evs, reduceIte, rdRes, rdTT, rdTy, rdLT, Res.un, TT.un, Ty.un, LT.un, Leaf.un, Leaf.plain, LT.plain, evh, List.replicate, splice, LT.pack, Leaf.pack, Nat.reduceAdd, Nat.reduceSub, Nat.reduceLeDiff, Nat.reduceLT, Nat.reduceEqDiff, LT.lo, Leaf.lo]
    have hmod : p - p / c * c = p % c := by have := Nat.div_add_mod p c; rw [Nat.mul_comm] at this; omega
    have hlt : p % c < c := Nat.mod_lt _ h0
    rw [hmod, i64_nat (by omega)]
    rw [show p % c % 4611686018427387904 = p % c by omega]
theorem rOf_ok {a b c : Int} (ha : isAmt a = true) (hb : isAmt b = true) (hc : isAmt c = true) (h0 : c ≠ 0) : spileref01_OfP a b c 128849018880000 = some (divOf a b c) := by
  obtain ⟨a, rfl, ha'⟩ := isAmt_nat ha
  obtain ⟨b, rfl, hb'⟩ := isAmt_nat hb
  obtain ⟨c, rfl, hc'⟩ := isAmt_nat hc
  rw [rOf_nat ha' hb' hc' (by omega), divOf_nat]
theorem rProportion_ok {a b c : Int} (ha : isAmt a = true) (hb : isAmt b = true) (hc : isAmt c = true) (h0 : c ≠ 0) : spileref01_ProportionP a b c = some ((divOf a b c).1, (divOf a b c).2.1) := by
  unfold spileref01_ProportionP spileref01_Proportion
  rw [rOf_ok ha hb hc h0]
  rfl
theorem rOfChecked_ok (a b c : Int) : spileref01_OfCheckedP a b c = some (ofOf a b c) := by
  unfold spileref01_OfCheckedP spileref01_OfChecked ofOf
  rw [rthree_ok]
  cases h : (isAmt a && (isAmt b && isAmt c)) with
  | false => simp only [evs, reduceIte, rdRes, rdTT, rdTy, rdLT, Res.un, TT.un, Ty.un, LT.un, Leaf.un, Leaf.plain, LT.plain]; rfl
  | true =>
    simp only [Bool.and_eq_true] at h
    by_cases h0 : c = 0
    · simp only [if_pos h0, evs, reduceIte, rdRes, rdTT, rdTy, rdLT, Res.un, TT.un, Ty.un, LT.un, Leaf.un, Leaf.plain, LT.plain]; rfl
    · rw [rOf_ok h.1 h.2.1 h.2.2 h0]
      unfold divOf
      simp only [if_neg h0, evs, reduceIte, rdRes, rdTT, rdTy, rdLT, Res.un, TT.un, Ty.un, LT.un, Leaf.un, Leaf.plain, LT.plain]
      by_cases hq : 128849018880000 < a * b / c
      · simp only [if_pos hq, evs, reduceIte, rdRes, rdTT, rdTy, rdLT, Res.un, TT.un, Ty.un, LT.un, Leaf.un, Leaf.plain, LT.plain]; rfl
      · simp only [if_neg hq, evs, reduceIte, rdRes, rdTT, rdTy, rdLT, Res.un, TT.un, Ty.un, LT.un, Leaf.un, Leaf.plain, LT.plain]; rfl
theorem rUp_ok (a b c : Int) : spileref01_UpP a b c = some (upOf a b c) := by
  unfold spileref01_UpP spileref01_Up upOf
  rw [rOfChecked_ok]
  have hle := ofOf_le a b c
  generalize ofOf a b c = x at *
  obtain ⟨q, r, e⟩ := x
  simp only at hle
  simp only [evs, reduceIte, rdRes, rdTT, rdTy, rdLT, Res.un, TT.un, Ty.un, LT.un, Leaf.un, Leaf.plain, LT.plain]
  by_cases he : e = 0
  · rw [decide_eq_true he, if_pos he]
    simp only [evs, reduceIte, rdRes, rdTT, rdTy, rdLT, Res.un, TT.un, Ty.un, LT.un, Leaf.un, Leaf.plain, LT.plain]
    by_cases hr : 0 < r
    · rw [decide_eq_true hr, i64_in _ (by omega)]
      simp only [if_pos hr, evs, reduceIte, rdRes, rdTT, rdTy, rdLT, Res.un, TT.un, Ty.un, LT.un, Leaf.un, Leaf.plain, LT.plain]
      by_cases hq : 128849018880000 < q + 1
      · rw [decide_eq_true hq, if_pos hq]; simp only [evs, reduceIte, rdRes, rdTT, rdTy, rdLT, Res.un, TT.un, Ty.un, LT.un, Leaf.un, Leaf.plain, LT.plain]
      · rw [decide_eq_false hq, if_neg hq]; simp only [evs, reduceIte, rdRes, rdTT, rdTy, rdLT, Res.un, TT.un, Ty.un, LT.un, Leaf.un, Leaf.plain, LT.plain]
    · rw [decide_eq_false hr]
      simp only [if_neg hr, evs, reduceIte, rdRes, rdTT, rdTy, rdLT, Res.un, TT.un, Ty.un, LT.un, Leaf.un, Leaf.plain, LT.plain, Int.add_zero]
      by_cases hq : 128849018880000 < q
      · rw [decide_eq_true hq, if_pos hq]; simp only [evs, reduceIte, rdRes, rdTT, rdTy, rdLT, Res.un, TT.un, Ty.un, LT.un, Leaf.un, Leaf.plain, LT.plain]
      · rw [decide_eq_false hq, if_neg hq]; simp only [evs, reduceIte, rdRes, rdTT, rdTy, rdLT, Res.un, TT.un, Ty.un, LT.un, Leaf.un, Leaf.plain, LT.plain]
  · rw [decide_eq_false he, if_neg he]; simp only [evs, reduceIte, rdRes, rdTT, rdTy, rdLT, Res.un, TT.un, Ty.un, LT.un, Leaf.un, Leaf.plain, LT.plain]
theorem rCompare_ok (a b c d : Int) : spileref01_CompareP a b c d = some (cmpOf a b c d) := by
  unfold spileref01_CompareP spileref01_Compare cmpOf
  simp only [rIs_ok, evs, reduceIte, rdRes, rdTT, rdTy, rdLT, Res.un, TT.un, Ty.un, LT.un, Leaf.un, Leaf.plain, LT.plain]
  cases h : (isAmt a && (isAmt b && (isAmt c && isAmt d))) with
  | false => cases h1 : isAmt a <;> cases h2 : isAmt b <;> cases h3 : isAmt c <;> cases h4 : isAmt d <;> simp_all <;> rfl
  | true =>
    simp only [Bool.and_eq_true] at h
    obtain ⟨h1, h2, h3, h4⟩ := h
    simp only [h1, h2, h3, h4, evs, reduceIte, rdRes, rdTT, rdTy, rdLT, Res.un, TT.un, Ty.un, LT.un, Leaf.un, Leaf.plain, LT.plain]
    by_cases hb : b = 0
    · rw [decide_eq_true hb]
      simp only [evs, reduceIte, rdRes, rdTT, rdTy, rdLT, Res.un, TT.un, Ty.un, LT.un, Leaf.un, Leaf.plain, LT.plain, hb, true_or]
    · rw [decide_eq_false hb]
      by_cases hd : d = 0
      · rw [decide_eq_true hd]
        simp only [evs, reduceIte, rdRes, rdTT, rdTy, rdLT, Res.un, TT.un, Ty.un, LT.un, Leaf.un, Leaf.plain, LT.plain, hd, or_true]
      · rw [decide_eq_false hd]
        simp only [evs, reduceIte, rdRes, rdTT, rdTy, rdLT, Res.un, TT.un, Ty.un, LT.un, Leaf.un, Leaf.plain, LT.plain, hb, hd, or_self]
        obtain ⟨a, rfl, k1⟩ := isAmt_nat h1
        obtain ⟨b, rfl, k2⟩ := isAmt_nat h2
        obtain ⟨c, rfl, k3⟩ := isAmt_nat h3
        obtain ⟨d, rfl, k4⟩ := isAmt_nat h4
        rw [rProduct_nat (by omega) (by omega), rProduct_nat (by omega) (by omega)]
        simp only [evs, reduceIte, rdRes, rdTT, rdTy, rdLT, Res.un, TT.un, Ty.un, LT.un, Leaf.un, Leaf.plain, LT.plain, evh, List.replicate, splice, LT.pack, Leaf.pack, Nat.reduceAdd, Nat.reduceSub, Nat.reduceLeDiff, Nat.reduceLT, Nat.reduceEqDiff, LT.lo, Leaf.lo, rLess_nat]
        rw [← Int.natCast_mul, ← Int.natCast_mul]
        generalize a * d = x
        generalize c * b = y
        by_cases hxy : x < y
        · rw [decide_eq_true hxy, if_pos (show (x : Int) < y by omega)]; rfl
        · rw [decide_eq_false hxy, if_neg (show ¬ (x : Int) < y by omega)]
          by_cases hyx : y < x
          · rw [decide_eq_true hyx, if_pos (show (y : Int) < x by omega)]; rfl
          · rw [decide_eq_false hyx, if_neg (show ¬ (y : Int) < x by omega)]; rfl
end Go.Proofs.Ytadlfinlbaogeaa
/- The laws ProportionExact and ProportionOrder in plain numbers. Conditions: none. -/
namespace Go.Proofs.Ytadlfinlbaogeaa
open Go Go.Proofs.Ytadlfinlbaogeaa.Ev
set_option linter.unusedVariables false
set_option linter.unusedSimpArgs false
set_option maxRecDepth 100000
set_option maxHeartbeats 1000000
theorem awake01 : spilelaw01_awakeP = some true := by kernel_rfl
theorem ProportionExact_ok (x : Int × Int × Int × Int) : spilelaw01_ProportionExactP x = some true := by
  obtain ⟨a, b, c, d⟩ := x
  unfold spilelaw01_ProportionExactP spilelaw01_ProportionExact
  simp -implicitDefEqProofs only [awake01, evs, reduceIte, rdRes, rdTT, rdTy, rdLT, Res.un, TT.un, Ty.un, LT.un, Leaf.un, Leaf.plain, LT.plain, evh, List.replicate, splice, LT.pack, Leaf.pack, Nat.reduceAdd, Nat.reduceSub, Nat.reduceLeDiff, Nat.reduceLT, Nat.reduceEqDiff, LT.lo, Leaf.lo, Of_ok, rOfChecked_ok, Up_ok, rUp_ok, Compare_ok, rCompare_ok, decide_true]
theorem frac_trans {a b c d e f : Int} (hb : 0 < b) (hd : 0 < d) (hf : 0 < f) (h1 : a * d ≤ c * b) (h2 : c * f ≤ e * d) : a * f ≤ e * b := by
  have k1 : a * d * f ≤ c * b * f := Int.mul_le_mul_of_nonneg_right h1 (by omega)
  have k2 : c * f * b ≤ e * d * b := Int.mul_le_mul_of_nonneg_right h2 (by omega)
  have e1 : a * d * f = a * f * d := Int.mul_right_comm a d f
  have e2 : c * b * f = c * f * b := Int.mul_right_comm c b f
  have e3 : e * d * b = e * b * d := Int.mul_right_comm e d b
  have : a * f * d ≤ e * b * d := by omega
  exact Int.le_of_mul_le_mul_right this hd
def sgn (x y : Int) : Int := if x < y then -1 else if y < x then 1 else 0
theorem cmpOf_eq (a b c d : Int) : cmpOf a b c d = if (isAmt a && (isAmt b && (isAmt c && isAmt d))) = true then (if b = 0 ∨ d = 0 then (0, 16) else (sgn (a * d) (c * b), 0)) else (0, 2) := rfl
theorem sgn_swap (x y : Int) : sgn y x = - sgn x y := by unfold sgn; split <;> split <;> omega
theorem sgn_range (x y : Int) : sgn x y = -1 ∨ sgn x y = 0 ∨ sgn x y = 1 := by unfold sgn; split <;> (try split) <;> simp
theorem sgn_le {x y : Int} : sgn x y ≤ 0 ↔ x ≤ y := by unfold sgn; split <;> (try split) <;> simp <;> omega
theorem sgn_ge {x y : Int} : 0 ≤ sgn x y ↔ y ≤ x := by unfold sgn; split <;> (try split) <;> simp <;> omega
theorem ProportionOrder_ok (x : Int × Int × Int × Int × Int × Int) : spilelaw01_ProportionOrderP x = some true := by
  obtain ⟨x0, x1, x2, x3, x4, x5⟩ := x
  unfold spilelaw01_ProportionOrderP spilelaw01_ProportionOrder
  simp -implicitDefEqProofs only [awake01, evs, reduceIte, rdRes, rdTT, rdTy, rdLT, Res.un, TT.un, Ty.un, LT.un, Leaf.un, Leaf.plain, LT.plain, evh, List.replicate, splice, LT.pack, Leaf.pack, Nat.reduceAdd, Nat.reduceSub, Nat.reduceLeDiff, Nat.reduceLT, Nat.reduceEqDiff, LT.lo, Leaf.lo, Compare_ok]
  have facts : ((cmpOf x0 x1 x2 x3).2 = 0 ∧ (cmpOf x2 x3 x0 x1).2 = 0 ∧ (cmpOf x2 x3 x0 x1).1 = - (cmpOf x0 x1 x2 x3).1 ∧ ((cmpOf x0 x1 x2 x3).1 = -1 ∨ (cmpOf x0 x1 x2 x3).1 = 0 ∨ (cmpOf x0 x1 x2 x3).1 = 1) ∧ (cmpOf x0 x1 x4 x5).2 = (cmpOf x2 x3 x4 x5).2 ∧
      ((cmpOf x2 x3 x4 x5).2 = 0 → ((cmpOf x0 x1 x2 x3).1 ≤ 0 → (cmpOf x2 x3 x4 x5).1 ≤ 0 → (cmpOf x0 x1 x4 x5).1 ≤ 0) ∧ (0 ≤ (cmpOf x0 x1 x2 x3).1 → 0 ≤ (cmpOf x2 x3 x4 x5).1 → 0 ≤ (cmpOf x0 x1 x4 x5).1))) ∨
      ((cmpOf x0 x1 x2 x3).2 ≠ 0 ∧ (cmpOf x2 x3 x0 x1).2 = (cmpOf x0 x1 x2 x3).2 ∧ (cmpOf x0 x1 x2 x3).1 = 0 ∧ (cmpOf x2 x3 x0 x1).1 = 0) := by
    simp only [cmpOf_eq]
    by_cases h : (isAmt x0 && (isAmt x1 && (isAmt x2 && isAmt x3))) = true
    · have h' : (isAmt x2 && (isAmt x3 && (isAmt x0 && isAmt x1))) = true := by simp_all
      rw [if_pos h, if_pos h']
      by_cases hz : x1 = 0 ∨ x3 = 0
      · right
        rw [if_pos hz, if_pos (Or.symm hz)]
        simp
      · left
        rw [if_neg hz, if_neg (fun h => hz (Or.symm h))]
        simp only [Bool.and_eq_true, isAmt_iff] at h
        have e1 : (isAmt x0 && (isAmt x1 && (isAmt x4 && isAmt x5))) = (isAmt x2 && (isAmt x3 && (isAmt x4 && isAmt x5))) := by simp only [Bool.and_eq_true] at h'; simp [h']
        rw [e1]
        by_cases h4 : (isAmt x2 && (isAmt x3 && (isAmt x4 && isAmt x5))) = true
        · rw [if_pos h4, if_pos h4]
          simp only [Bool.and_eq_true, isAmt_iff] at h4
          by_cases h5 : x5 = 0
          · simp only [h5, or_true, if_true]
            exact ⟨trivial, trivial, sgn_swap _ _, sgn_range _ _, trivial, by simp⟩
          · rw [if_neg (show ¬ (x1 = 0 ∨ x5 = 0) by omega), if_neg (show ¬ (x3 = 0 ∨ x5 = 0) by omega)]
            refine ⟨rfl, rfl, sgn_swap _ _, sgn_range _ _, rfl, fun _ => ⟨fun a b => ?_, fun a b => ?_⟩⟩
            · rw [sgn_le] at *
              exact frac_trans (b := x1) (d := x3) (f := x5) (by omega) (by omega) (by omega) a b
            · rw [sgn_ge] at *
              exact frac_trans (b := x5) (d := x3) (f := x1) (by omega) (by omega) (by omega) b a
        · rw [if_neg h4, if_neg h4]
          exact ⟨rfl, rfl, sgn_swap _ _, sgn_range _ _, rfl, by simp⟩
    · have h' : ¬ (isAmt x2 && (isAmt x3 && (isAmt x0 && isAmt x1))) = true := fun hh => h (by simp_all)
      rw [if_neg h, if_neg h']
      right
      simp
  generalize cmpOf x0 x1 x2 x3 = A at *
  generalize cmpOf x2 x3 x0 x1 = B at *
  generalize cmpOf x2 x3 x4 x5 = C at *
  generalize cmpOf x0 x1 x4 x5 = D at *
  obtain ⟨a, e⟩ := A
  obtain ⟨b, f⟩ := B
  obtain ⟨c, g⟩ := C
  obtain ⟨d, hh⟩ := D
  simp only at facts
  rcases facts with ⟨rfl, rfl, rfl, ha, rfl, hcd⟩ | ⟨he, rfl, rfl, rfl⟩
  · rw [show IntKind.wrap .i64 (0 - -a) = a by rw [i64_in _ (by omega)]; omega]
    simp -implicitDefEqProofs only [evs, reduceIte, rdRes, rdTT, rdTy, rdLT, Res.un, TT.un, Ty.un, LT.un, Leaf.un, Leaf.plain, LT.plain, decide_true]
    rw [decide_eq_false (show ¬ a < -1 by omega), decide_eq_false (show ¬ 1 < a by omega)]
    simp -implicitDefEqProofs only [evs, reduceIte, rdRes, rdTT, rdTy, rdLT, Res.un, TT.un, Ty.un, LT.un, Leaf.un, Leaf.plain, LT.plain]
    by_cases hg : hh = 0
    · subst hg
      obtain ⟨k1, k2⟩ := hcd rfl
      simp -implicitDefEqProofs only [evs, reduceIte, rdRes, rdTT, rdTy, rdLT, Res.un, TT.un, Ty.un, LT.un, Leaf.un, Leaf.plain, LT.plain, decide_true]
      by_cases p1 : 0 < a
      · rw [decide_eq_true p1, decide_eq_false (show ¬ a < 0 by omega)]
        simp -implicitDefEqProofs only [evs, reduceIte, rdRes, rdTT, rdTy, rdLT, Res.un, TT.un, Ty.un, LT.un, Leaf.un, Leaf.plain, LT.plain]
        by_cases p2 : c < 0
        · rw [decide_eq_true p2]; rfl
        · rw [decide_eq_false p2, decide_eq_true (k2 (by omega) (by omega))]; rfl
      · rw [decide_eq_false p1]
        simp -implicitDefEqProofs only [evs, reduceIte, rdRes, rdTT, rdTy, rdLT, Res.un, TT.un, Ty.un, LT.un, Leaf.un, Leaf.plain, LT.plain]
        by_cases p2 : 0 < c
        · rw [decide_eq_true p2, decide_eq_false (show ¬ c < 0 by omega)]
          simp -implicitDefEqProofs only [evs, reduceIte, rdRes, rdTT, rdTy, rdLT, Res.un, TT.un, Ty.un, LT.un, Leaf.un, Leaf.plain, LT.plain]
          by_cases p3 : a < 0
          · rw [decide_eq_true p3]; rfl
          · rw [decide_eq_false p3, decide_eq_true (k2 (by omega) (by omega))]; rfl
        · rw [decide_eq_false p2, decide_eq_true (k1 (by omega) (by omega))]
          simp -implicitDefEqProofs only [evs, reduceIte, rdRes, rdTT, rdTy, rdLT, Res.un, TT.un, Ty.un, LT.un, Leaf.un, Leaf.plain, LT.plain]
          by_cases p3 : a < 0
          · rw [decide_eq_true p3]; rfl
          · rw [decide_eq_false p3]
            simp -implicitDefEqProofs only [evs, reduceIte, rdRes, rdTT, rdTy, rdLT, Res.un, TT.un, Ty.un, LT.un, Leaf.un, Leaf.plain, LT.plain]
            by_cases p4 : c < 0
            · rw [decide_eq_true p4]; rfl
            · rw [decide_eq_false p4, decide_eq_true (k2 (by omega) (by omega))]; rfl
    · simp -implicitDefEqProofs only [evs, reduceIte, rdRes, rdTT, rdTy, rdLT, Res.un, TT.un, Ty.un, LT.un, Leaf.un, Leaf.plain, LT.plain, decide_eq_false hg, decide_true]
  · simp -implicitDefEqProofs only [evs, reduceIte, rdRes, rdTT, rdTy, rdLT, Res.un, TT.un, Ty.un, LT.un, Leaf.un, Leaf.plain, LT.plain, decide_eq_false he, decide_true]
end Go.Proofs.Ytadlfinlbaogeaa
/- The law ProportionBack in plain numbers. Conditions: none. -/
namespace Go.Proofs.Ytadlfinlbaogeaa
open Go Go.Proofs.Ytadlfinlbaogeaa.Ev
set_option linter.unusedVariables false
set_option linter.unusedSimpArgs false
set_option maxRecDepth 100000
set_option maxHeartbeats 1000000
theorem back_parts {p c : Nat} (hc : 0 < c) : (p / c * c) / 18446744073709551616 + ((p / c * c) % 18446744073709551616 + p % c) / 18446744073709551616 = p / 18446744073709551616 ∧ ((p / c * c) % 18446744073709551616 + p % c) % 18446744073709551616 = p % 18446744073709551616 := by
  have h := Nat.div_add_mod p c
  rw [Nat.mul_comm] at h
  generalize p / c * c = q at *
  omega
theorem ProportionBack_ok (a b c : Int) : spilelaw01_ProportionBackP a b c = some true := by
  unfold spilelaw01_ProportionBackP spilelaw01_ProportionBack
  simp -implicitDefEqProofs only [awake01, evs, reduceIte, rdRes, rdTT, rdTy, rdLT, Res.un, TT.un, Ty.un, LT.un, Leaf.un, Leaf.plain, LT.plain, Of_ok, Up_ok, eq_self, decide_true]
  unfold upOf
  simp only
  by_cases hin : (isAmt a && (isAmt b && isAmt c)) = true
  · have hof : ofOf a b c = if c = 0 then (0, 0, 16) else if 128849018880000 < a * b / c then (0, 0, 15) else (a * b / c, a * b % c, 0) := by unfold ofOf; rw [if_pos hin]
    simp only [Bool.and_eq_true] at hin
    obtain ⟨ha, hb, hc⟩ := hin
    by_cases h0 : c = 0
    · rw [if_pos h0] at hof
      rw [hof]
      simp -implicitDefEqProofs only [evs, reduceIte, rdRes, rdTT, rdTy, rdLT, Res.un, TT.un, Ty.un, LT.un, Leaf.un, Leaf.plain, LT.plain, eq_self, decide_true]
      rfl
    · rw [if_neg h0] at hof
      by_cases hbig : 128849018880000 < a * b / c
      · rw [if_pos hbig] at hof
        rw [hof]
        simp -implicitDefEqProofs only [evs, reduceIte, rdRes, rdTT, rdTy, rdLT, Res.un, TT.un, Ty.un, LT.un, Leaf.un, Leaf.plain, LT.plain, eq_self, decide_true]
        rfl
      · rw [if_neg hbig] at hof
        rw [hof]
        obtain ⟨a, rfl, ha'⟩ := isAmt_nat ha
        obtain ⟨b, rfl, hb'⟩ := isAmt_nat hb
        obtain ⟨c, rfl, hc'⟩ := isAmt_nat hc
        have hab : a * b ≤ 128849018880000 * 128849018880000 := Nat.mul_le_mul ha' hb'
        have hcp : 0 < c := by omega
        have eq : (a : Int) * (b : Int) / (c : Int) = ((a * b / c : Nat) : Int) := by simp
        have er : (a : Int) * (b : Int) % (c : Int) = ((a * b % c : Nat) : Int) := by simp
        rw [eq] at hbig
        simp only [eq, er]
        have hr : a * b % c < c := Nat.mod_lt _ hcp
        obtain ⟨k1, k2⟩ := back_parts (p := a * b) hcp
        have hqc : a * b / c * c ≤ a * b := Nat.div_mul_le_self _ _
        generalize a * b / c = q at *
        generalize a * b % c = r at *
        simp -implicitDefEqProofs only [evs, reduceIte, rdRes, rdTT, rdTy, rdLT, Res.un, TT.un, Ty.un, LT.un, Leaf.un, Leaf.plain, LT.plain, eq_self, decide_true]
        rw [decide_eq_false (show ¬ (q : Int) < 0 by omega)]
        simp -implicitDefEqProofs only [evs, reduceIte, rdRes, rdTT, rdTy, rdLT, Res.un, TT.un, Ty.un, LT.un, Leaf.un, Leaf.plain, LT.plain]
        rw [decide_eq_false (show ¬ (r : Int) < 0 by omega)]
        simp -implicitDefEqProofs only [evs, reduceIte, rdRes, rdTT, rdTy, rdLT, Res.un, TT.un, Ty.un, LT.un, Leaf.un, Leaf.plain, LT.plain]
        rw [decide_eq_false (show ¬ (c : Int) ≤ (r : Int) by omega)]
        simp -implicitDefEqProofs only [evs, reduceIte, rdRes, rdTT, rdTy, rdLT, Res.un, TT.un, Ty.un, LT.un, Leaf.un, Leaf.plain, LT.plain]
        rw [u64_nat (n := a) (by omega), u64_nat (n := b) (by omega), u64_nat (n := q) (by omega), u64_nat (n := c) (by omega), u64_nat (n := r) (by omega), Mul64_ok (by omega) (by omega)]
        simp -implicitDefEqProofs only [evs, reduceIte, rdRes, rdTT, rdTy, rdLT, Res.un, TT.un, Ty.un, LT.un, Leaf.un, Leaf.plain, LT.plain]
        rw [Mul64_ok (by omega) (by omega)]
        simp -implicitDefEqProofs only [evs, reduceIte, rdRes, rdTT, rdTy, rdLT, Res.un, TT.un, Ty.un, LT.un, Leaf.un, Leaf.plain, LT.plain, math_bits_Add64, add64X]
        rw [guardO_pos (by omega)]
        simp -implicitDefEqProofs only [evs, reduceIte, rdRes, rdTT, rdTy, rdLT, Res.un, TT.un, Ty.un, LT.un, Leaf.un, Leaf.plain, LT.plain]
        have e1 : ((q * c % 18446744073709551616 : Nat) : Int) + (r : Int) + 0 = ((q * c % 18446744073709551616 + r : Nat) : Int) := by omega
        rw [e1]
        have e2 : ((q * c % 18446744073709551616 + r : Nat) : Int) / 18446744073709551616 = (((q * c % 18446744073709551616 + r) / 18446744073709551616 : Nat) : Int) := by omega
        have e3 : ((q * c % 18446744073709551616 + r : Nat) : Int) % 18446744073709551616 = (((q * c % 18446744073709551616 + r) % 18446744073709551616 : Nat) : Int) := by omega
        rw [e2, e3]
        have e4 : ((q * c / 18446744073709551616 : Nat) : Int) + (((q * c % 18446744073709551616 + r) / 18446744073709551616 : Nat) : Int) = ((a * b / 18446744073709551616 : Nat) : Int) := by rw [← k1]; omega
        rw [e4, u64_nat (n := a * b / 18446744073709551616) (by omega), k2]
        simp -implicitDefEqProofs only [evs, reduceIte, rdRes, rdTT, rdTy, rdLT, Res.un, TT.un, Ty.un, LT.un, Leaf.un, Leaf.plain, LT.plain, eq_self, decide_true]
        have hq0 : ¬ 128849018880000 < (q : Int) := hbig
        by_cases hr0 : (0 : Int) < (r : Int)
        · simp only [if_pos hr0]
          by_cases hlim : 128849018880000 < (q : Int) + 1
          · rw [if_pos hlim]
            simp -implicitDefEqProofs only [evs, reduceIte, rdRes, rdTT, rdTy, rdLT, Res.un, TT.un, Ty.un, LT.un, Leaf.un, Leaf.plain, LT.plain]
            rw [decide_eq_false (show ¬ (15 : Int) = 0 by omega)]
            simp -implicitDefEqProofs only [evs, reduceIte, rdRes, rdTT, rdTy, rdLT, Res.un, TT.un, Ty.un, LT.un, Leaf.un, Leaf.plain, LT.plain, eq_self, decide_true]
            rw [decide_eq_true (show (q : Int) = 128849018880000 by omega), decide_eq_true hr0]
            simp -implicitDefEqProofs only [evs, reduceIte, rdRes, rdTT, rdTy, rdLT, Res.un, TT.un, Ty.un, LT.un, Leaf.un, Leaf.plain, LT.plain]
          · rw [if_neg hlim]
            simp -implicitDefEqProofs only [evs, reduceIte, rdRes, rdTT, rdTy, rdLT, Res.un, TT.un, Ty.un, LT.un, Leaf.un, Leaf.plain, LT.plain, eq_self, decide_true]
            rw [show minI 1 (r : Int) = 1 by unfold minI; split <;> omega, show ((q : Int) + 1) = ((q + 1 : Nat) : Int) by omega, i64_nat (n := q + 1) (by omega), decide_eq_true rfl]
        · simp only [if_neg hr0]
          rw [if_neg (by omega)]
          simp -implicitDefEqProofs only [evs, reduceIte, rdRes, rdTT, rdTy, rdLT, Res.un, TT.un, Ty.un, LT.un, Leaf.un, Leaf.plain, LT.plain, eq_self, decide_true]
          rw [show minI 1 (r : Int) = 0 by unfold minI; split <;> omega, show (q : Int) + 0 = (q : Int) by omega, i64_nat (n := q) (by omega)]
          simp
  · have hof : ofOf a b c = (0, 0, 2) := by unfold ofOf; rw [if_neg hin]
    rw [hof]
    simp -implicitDefEqProofs only [evs, reduceIte, rdRes, rdTT, rdTy, rdLT, Res.un, TT.un, Ty.un, LT.un, Leaf.un, Leaf.plain, LT.plain, eq_self, decide_true]
    rfl
end Go.Proofs.Ytadlfinlbaogeaa
