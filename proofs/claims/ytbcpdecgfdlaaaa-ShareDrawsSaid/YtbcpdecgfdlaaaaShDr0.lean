/- What the functions of this seat compute: some texts in one. Conditions: those of each law. -/
import Derived.Test.YtbcpdecgfdlaaaaEvSpec
import Derived.Test.YtbcpdecgfdlaaaaFn10
import Derived.Lib.Mul64
/- The arithmetic of dividing 128 bits by 64 bits, digit by digit. Conditions: those of each law. -/
namespace Go.Proofs.Ytbcpdecgfdlaaaa
open Go Go.Proofs.Ytbcpdecgfdlaaaa.Ev
set_option linter.unusedVariables false
set_option linter.unusedSimpArgs false
/-- The estimate is too great exactly if the test says so. -/
theorem over_iff {y1 y0 n d q r : Nat} (hr : r + q * y1 = n) : 4294967296 * r + d < q * y0 ↔ n * 4294967296 + d < q * (y1 * 4294967296 + y0) := by
  have e1 : q * (y1 * 4294967296 + y0) = (q * y1) * 4294967296 + q * y0 := by rw [Nat.mul_add, Nat.mul_assoc]
  rw [e1, ← hr]
  generalize q * y1 = p
  generalize q * y0 = z
  omega
theorem quot_lt_iff {y n d q : Nat} (hy : 0 < y) : (n * 4294967296 + d) / y < q ↔ n * 4294967296 + d < q * y := Nat.div_lt_iff_lt_mul hy
theorem quot_small {y n d : Nat} (hy : n < y) (hd : d < 4294967296) : (n * 4294967296 + d) / y < 4294967296 := by
  rw [quot_lt_iff (by omega)]
  have : (n + 1) * 4294967296 ≤ y * 4294967296 := Nat.mul_le_mul_right _ hy
  omega
theorem first_ge {y1 y0 n d : Nat} (h1 : 0 < y1) (hd : d < 4294967296) : (n * 4294967296 + d) / (y1 * 4294967296 + y0) ≤ n / y1 := by
  rw [Nat.le_div_iff_mul_le h1]
  have h := Nat.div_mul_le_self (n * 4294967296 + d) (y1 * 4294967296 + y0)
  generalize (n * 4294967296 + d) / (y1 * 4294967296 + y0) = q at h ⊢
  rw [Nat.mul_add, ← Nat.mul_assoc] at h
  generalize q * y1 = p at h ⊢
  generalize q * y0 = z at h
  omega
theorem first_le {y1 y0 n : Nat} (h1 : 2147483648 ≤ y1) (h0 : y0 < 4294967296) (hn : n < y1 * 4294967296 + y0) : n / y1 ≤ 4294967297 := by
  rw [Nat.div_le_iff_le_mul_add_pred (by omega)]
  omega
/-- One digit of the quotient. -/
theorem digit_loop {F : Type} {f : (Int × Int) × H → Option (Stp ((Int × Int) × H) (Flow Int F × H))} {h : H} {y1 y0 n d : Nat} (h1 : 2147483648 ≤ y1) (h1' : y1 < 4294967296) (h0 : y0 < 4294967296) (hn : n < y1 * 4294967296 + y0) (hd : d < 4294967296)
    (hf : ∀ q r : Nat, q ≤ 4294967297 → r < 4294967296 → f (((q : Int), (r : Int)), h) = if 4294967296 ≤ q ∨ 4294967296 * r + d < q * y0 then (if 4294967296 ≤ r + y1 then some (.done (.ex0 (((q - 1 : Nat) : Int)), h)) else some (.more ((((q - 1 : Nat) : Int), ((r + y1 : Nat) : Int)), h))) else some (.done (.ex0 (q : Int), h))) :
    iter FUEL f ((((n / y1 : Nat) : Int), ((n % y1 : Nat) : Int)), h) = some (.ex0 (((n * 4294967296 + d) / (y1 * 4294967296 + y0) : Nat) : Int), h) := by
  have hy : 0 < y1 * 4294967296 + y0 := by omega
  have hq0 : ∃ Q, (n * 4294967296 + d) / (y1 * 4294967296 + y0) = Q := ⟨_, rfl⟩
  obtain ⟨Q, hQ⟩ := hq0
  have hfirst : Q ≤ n / y1 := by rw [← hQ]; exact first_ge (by omega) hd
  rw [hQ]
  obtain ⟨x, hx, hp⟩ := iter_inv (f := f) (Inv := fun st => st.2 = h ∧ ∃ q r : Nat, st.1 = ((q : Int), (r : Int)) ∧ r + q * y1 = n ∧ Q ≤ q ∧ q ≤ 4294967297 ∧ r < 4294967296)
    (Post := fun x => x = (.ex0 ((Q : Nat) : Int), h)) (fun st => st.1.1.toNat) (fun st hi => by
      obtain ⟨st, h0'⟩ := st
      obtain ⟨rfl, q, r, rfl, e1, e2, e3, e4⟩ := hi
      simp only
      rw [hf q r e3 e4]
      by_cases hc : 4294967296 ≤ q ∨ 4294967296 * r + d < q * y0
      · rw [if_pos hc]
        have hlt : Q < q := by
          rw [← hQ]
          rcases hc with hc | hc
          · exact Nat.lt_of_lt_of_le (quot_small hn hd) hc
          · exact (quot_lt_iff hy).2 ((over_iff e1).1 hc)
        have e1' : (r + y1) + (q - 1) * y1 = n := by
          have : q * y1 = (q - 1) * y1 + y1 := by
            conv => lhs; rw [show q = (q - 1) + 1 by omega, Nat.succ_mul]
          omega
        by_cases hb : 4294967296 ≤ r + y1
        · rw [if_pos hb]
          right
          refine ⟨_, rfl, ?_⟩
          have hle : q - 1 ≤ Q := by
            rw [← hQ, Nat.le_div_iff_mul_le hy]
            have hno : ¬ (4294967296 * (r + y1) + d < (q - 1) * y0) := by
              have : (q - 1) * y0 ≤ 4294967296 * 4294967295 := Nat.mul_le_mul (by omega) (by omega)
              omega
            rw [over_iff e1'] at hno
            omega
          have : q - 1 = Q := by omega
          rw [this]
        · rw [if_neg hb]
          left
          refine ⟨_, rfl, ⟨rfl, q - 1, r + y1, rfl, e1', by omega, by omega, by omega⟩, ?_⟩
          simp only [Int.toNat_natCast]
          omega
      · rw [if_neg hc]
        right
        refine ⟨_, rfl, ?_⟩
        have hle : q ≤ Q := by
          rw [← hQ, Nat.le_div_iff_mul_le hy]
          have hno : ¬ (4294967296 * r + d < q * y0) := fun h => hc (.inr h)
          rw [over_iff e1] at hno
          omega
        have : q = Q := by omega
        rw [← this]) FUEL ((((n / y1 : Nat) : Int), ((n % y1 : Nat) : Int)), h)
      ⟨rfl, n / y1, n % y1, rfl, by rw [Nat.mul_comm]; exact Nat.mod_add_div n y1, hfirst, first_le h1 h0 hn, by have := Nat.mod_lt n (show 0 < y1 by omega); omega⟩
      (by
        simp only [Int.toNat_natCast]
        have := first_le h1 h0 hn
        have : (4294967297 : Nat) < FUEL := by unfold FUEL; omega
        omega)
  rw [hx, hp]
end Go.Proofs.Ytbcpdecgfdlaaaa
/- What math/bits computes: leading zeros, products, and quotients of 128 bits. Conditions: those of each law. -/
namespace Go.Proofs.Ytbcpdecgfdlaaaa
open Go Go.Proofs.Ytbcpdecgfdlaaaa.Ev
set_option linter.unusedVariables false
set_option linter.unusedSimpArgs false
set_option maxRecDepth 100000
set_option maxHeartbeats 1000000
def lenTab : ByteArray := ⟨#[0, 1, 2, 2, 3, 3, 3, 3, 4, 4, 4, 4, 4, 4, 4, 4, 5, 5, 5, 5, 5, 5, 5, 5, 5, 5, 5, 5, 5, 5, 5, 5, 6, 6, 6, 6, 6, 6, 6, 6, 6, 6, 6, 6, 6, 6, 6, 6, 6, 6, 6, 6, 6, 6, 6, 6, 6, 6, 6, 6, 6, 6, 6, 6, 7, 7, 7, 7, 7, 7, 7, 7, 7, 7, 7, 7, 7, 7, 7, 7, 7, 7, 7, 7, 7, 7, 7, 7, 7, 7, 7, 7, 7, 7, 7, 7, 7, 7, 7, 7, 7, 7, 7, 7, 7, 7, 7, 7, 7, 7, 7, 7, 7, 7, 7, 7, 7, 7, 7, 7, 7, 7, 7, 7, 7, 7, 7, 7, 8, 8, 8, 8, 8, 8, 8, 8, 8, 8, 8, 8, 8, 8, 8, 8, 8, 8, 8, 8, 8, 8, 8, 8, 8, 8, 8, 8, 8, 8, 8, 8, 8, 8, 8, 8, 8, 8, 8, 8, 8, 8, 8, 8, 8, 8, 8, 8, 8, 8, 8, 8, 8, 8, 8, 8, 8, 8, 8, 8, 8, 8, 8, 8, 8, 8, 8, 8, 8, 8, 8, 8, 8, 8, 8, 8, 8, 8, 8, 8, 8, 8, 8, 8, 8, 8, 8, 8, 8, 8, 8, 8, 8, 8, 8, 8, 8, 8, 8, 8, 8, 8, 8, 8, 8, 8, 8, 8, 8, 8, 8, 8, 8, 8, 8, 8, 8, 8, 8, 8, 8, 8, 8, 8, 8, 8, 8, 8]⟩
def len8 (n : Nat) : Nat := (((lenTab.data[n]?).map UInt8.toNat).getD 0 : Nat)
theorem len8_ok : ∀ n, 0 < n → n < 256 → 2 ^ len8 n / 2 ≤ n ∧ n < 2 ^ len8 n ∧ 1 ≤ len8 n ∧ len8 n ≤ 8 := by
  intro n h0 h1
  have : (List.range 256).all (fun n => n == 0 || (decide (2 ^ len8 n / 2 ≤ n) && (decide (n < 2 ^ len8 n) && (decide (1 ≤ len8 n) && decide (len8 n ≤ 8))))) = true := by kernel_rfl
  have := List.all_eq_true.1 this n (by simp; omega)
  simp only [Bool.or_eq_true, Bool.and_eq_true, decide_eq_true_eq, beq_iff_eq] at this
  rcases this with h | h
  · omega
  · exact h
def lenTail (y k : Int) : Option Int :=
  guardO (0 ≤ (IntKind.wrap .u8 y) ∧ (IntKind.wrap .u8 y) < ((ByteArray.size lenTab : Nat) : Int)) (some (IntKind.wrap .i64 (k + (IntKind.wrap .i64 ((((lenTab.data[Int.toNat (IntKind.wrap .u8 y)]?).map UInt8.toNat).getD 0 : Nat) : Int)))))
theorem lenTail_ok {y k : Nat} (h0 : 0 < y) (h1 : y < 256) (hk : k ≤ 56) : lenTail (y : Int) (k : Int) = some ((k + len8 y : Nat) : Int) := by
  unfold lenTail
  rw [IntWalk.u8_in _ (by omega), Int.toNat_natCast, guardO_pos (by rw [show ByteArray.size lenTab = 256 by kernel_rfl]; omega)]
  have := len8_ok y h0 h1
  show some (IntKind.wrap .i64 ((k : Int) + IntKind.wrap .i64 ((len8 y : Nat) : Int))) = _
  rw [IntWalk.i64_in ((len8 y : Nat) : Int) (by omega), IntWalk.i64_in _ (by omega)]
  rfl
theorem Len64_key (x : Int) : math_bits_Len64P x =
    bif decide ((4294967296 : Int) ≤ x) then
      (bif decide ((65536 : Int) ≤ Int.fdiv x (2 ^ 32)) then
        (bif decide ((256 : Int) ≤ Int.fdiv (Int.fdiv x (2 ^ 32)) (2 ^ 16)) then lenTail (Int.fdiv (Int.fdiv (Int.fdiv x (2 ^ 32)) (2 ^ 16)) (2 ^ 8)) 56 else lenTail (Int.fdiv (Int.fdiv x (2 ^ 32)) (2 ^ 16)) 48)
      else (bif decide ((256 : Int) ≤ Int.fdiv x (2 ^ 32)) then lenTail (Int.fdiv (Int.fdiv x (2 ^ 32)) (2 ^ 8)) 40 else lenTail (Int.fdiv x (2 ^ 32)) 32))
    else
      (bif decide ((65536 : Int) ≤ x) then
        (bif decide ((256 : Int) ≤ Int.fdiv x (2 ^ 16)) then lenTail (Int.fdiv (Int.fdiv x (2 ^ 16)) (2 ^ 8)) 24 else lenTail (Int.fdiv x (2 ^ 16)) 16)
      else (bif decide ((256 : Int) ≤ x) then lenTail (Int.fdiv x (2 ^ 8)) 8 else lenTail x 0)) := by
  have gb : ∀ {p : Prop} [Decidable p] {α β : Type} (x : Option α) (f : α → Option β), (guardO p x).bind f = guardO p (x.bind f) := guardO_bind
  unfold math_bits_Len64P math_bits_Len64
  cases h1 : decide ((4294967296 : Int) ≤ x) with
  | true =>
    simp only [cond_true, Option.bind_some]
    cases h2 : decide ((65536 : Int) ≤ Int.fdiv x (2 ^ min (Int.toNat 32) (IntKind.bits .u64))) with
    | true =>
      simp only [cond_true, Option.bind_some]
      cases h3 : decide ((256 : Int) ≤ Int.fdiv (Int.fdiv x (2 ^ min (Int.toNat 32) (IntKind.bits .u64))) (2 ^ min (Int.toNat 16) (IntKind.bits .u64))) with
      | true =>
        rw [show decide ((65536 : Int) ≤ Int.fdiv x (2 ^ 32)) = true from h2, show decide ((256 : Int) ≤ Int.fdiv (Int.fdiv x (2 ^ 32)) (2 ^ 16)) = true from h3]
        simp only [cond_true, Option.bind_some, gb]
        rfl
      | false =>
        rw [show decide ((65536 : Int) ≤ Int.fdiv x (2 ^ 32)) = true from h2, show decide ((256 : Int) ≤ Int.fdiv (Int.fdiv x (2 ^ 32)) (2 ^ 16)) = false from h3]
        simp only [cond_true, cond_false, Option.bind_some, gb]
        rfl
    | false =>
      simp only [cond_false, Option.bind_some]
      cases h3 : decide ((256 : Int) ≤ Int.fdiv x (2 ^ min (Int.toNat 32) (IntKind.bits .u64))) with
      | true =>
        rw [show decide ((65536 : Int) ≤ Int.fdiv x (2 ^ 32)) = false from h2, show decide ((256 : Int) ≤ Int.fdiv x (2 ^ 32)) = true from h3]
        simp only [cond_true, cond_false, Option.bind_some, gb]
        rfl
      | false =>
        rw [show decide ((65536 : Int) ≤ Int.fdiv x (2 ^ 32)) = false from h2, show decide ((256 : Int) ≤ Int.fdiv x (2 ^ 32)) = false from h3]
        simp only [cond_true, cond_false, Option.bind_some, gb]
        rfl
  | false =>
    simp only [cond_false, Option.bind_some]
    cases h2 : decide ((65536 : Int) ≤ x) with
    | true =>
      simp only [cond_true, Option.bind_some]
      cases h3 : decide ((256 : Int) ≤ Int.fdiv x (2 ^ min (Int.toNat 16) (IntKind.bits .u64))) with
      | true =>
        rw [show decide ((256 : Int) ≤ Int.fdiv x (2 ^ 16)) = true from h3]
        simp only [cond_true, cond_false, Option.bind_some, gb]
        rfl
      | false =>
        rw [show decide ((256 : Int) ≤ Int.fdiv x (2 ^ 16)) = false from h3]
        simp only [cond_true, cond_false, Option.bind_some, gb]
        rfl
    | false =>
      simp only [cond_false, Option.bind_some]
      cases h3 : decide ((256 : Int) ≤ x) with
      | true =>
        simp only [cond_true, cond_false, Option.bind_some, gb]
        rfl
      | false =>
        simp only [cond_true, cond_false, Option.bind_some, gb]
        rfl
theorem fdiv_nat (x n : Nat) : Int.fdiv (x : Int) (n : Int) = ((x / n : Nat) : Int) := by
  rw [Int.fdiv_eq_ediv_of_nonneg _ (by omega)]
  rfl
theorem fdiv_pow (x n : Nat) : Int.fdiv (x : Int) (2 ^ n) = ((x / 2 ^ n : Nat) : Int) := by
  rw [← fdiv_nat]
  congr 1
/-- How many bits a number has. -/
theorem Len64_ok {x : Nat} (h0 : 0 < x) (h1 : x < 18446744073709551616) : ∃ n, math_bits_Len64P (x : Int) = some ((n : Nat) : Int) ∧ 1 ≤ n ∧ n ≤ 64 ∧ 2 ^ (n - 1) ≤ x ∧ x < 2 ^ n := by
  have fin : ∀ k : Nat, k ≤ 56 → 0 < x / 2 ^ k → x / 2 ^ k < 256 → ∃ n, lenTail ((x / 2 ^ k : Nat) : Int) ((k : Nat) : Int) = some ((n : Nat) : Int) ∧ 1 ≤ n ∧ n ≤ 64 ∧ 2 ^ (n - 1) ≤ x ∧ x < 2 ^ n := fun k hk g0 g1 => by
    obtain ⟨l1, l2, l3, l4⟩ := len8_ok _ g0 g1
    refine ⟨k + len8 (x / 2 ^ k), lenTail_ok g0 g1 hk, by omega, by omega, ?_, ?_⟩
    · have e : 2 ^ (k + len8 (x / 2 ^ k) - 1) = 2 ^ (len8 (x / 2 ^ k)) / 2 * 2 ^ k := by
        rw [show k + len8 (x / 2 ^ k) - 1 = (len8 (x / 2 ^ k) - 1) + k by omega, Nat.pow_add]
        congr 1
        conv => rhs; rw [show len8 (x / 2 ^ k) = (len8 (x / 2 ^ k) - 1) + 1 by omega, Nat.pow_succ, Nat.mul_div_cancel _ (by omega)]
      rw [e]
      exact Nat.le_trans (Nat.mul_le_mul_right _ l1) (Nat.div_mul_le_self x (2 ^ k))
    · rw [Nat.pow_add, Nat.mul_comm]
      exact (Nat.div_lt_iff_lt_mul (Nat.two_pow_pos k)).1 l2
  rw [Len64_key]
  have f16 : Int.fdiv (x : Int) (2 ^ 16) = ((x / 2 ^ 16 : Nat) : Int) := fdiv_pow x 16
  have f8 : Int.fdiv (x : Int) (2 ^ 8) = ((x / 2 ^ 8 : Nat) : Int) := fdiv_pow x 8
  have f32 : Int.fdiv (x : Int) (2 ^ 32) = ((x / 2 ^ 32 : Nat) : Int) := fdiv_pow x 32
  have f3216 : Int.fdiv ((x / 2 ^ 32 : Nat) : Int) (2 ^ 16) = ((x / 2 ^ 48 : Nat) : Int) := by rw [fdiv_pow, Nat.div_div_eq_div_mul]
  have f328 : Int.fdiv ((x / 2 ^ 32 : Nat) : Int) (2 ^ 8) = ((x / 2 ^ 40 : Nat) : Int) := by rw [fdiv_pow, Nat.div_div_eq_div_mul]
  have f32168 : Int.fdiv ((x / 2 ^ 48 : Nat) : Int) (2 ^ 8) = ((x / 2 ^ 56 : Nat) : Int) := by rw [fdiv_pow, Nat.div_div_eq_div_mul]
  have f168 : Int.fdiv ((x / 2 ^ 16 : Nat) : Int) (2 ^ 8) = ((x / 2 ^ 24 : Nat) : Int) := by rw [fdiv_pow, Nat.div_div_eq_div_mul]
  rw [f32, f16, f8, f3216, f328, f32168, f168]
  by_cases c1 : (4294967296 : Int) ≤ x
  · rw [decide_eq_true c1, cond_true]
    by_cases c2 : (65536 : Int) ≤ ((x / 2 ^ 32 : Nat) : Int)
    · rw [decide_eq_true c2, cond_true]
      by_cases c3 : (256 : Int) ≤ ((x / 2 ^ 48 : Nat) : Int)
      · rw [decide_eq_true c3, cond_true]; exact fin 56 (by omega) (by omega) (by omega)
      · rw [decide_eq_false c3, cond_false]; exact fin 48 (by omega) (by omega) (by omega)
    · rw [decide_eq_false c2, cond_false]
      by_cases c3 : (256 : Int) ≤ ((x / 2 ^ 32 : Nat) : Int)
      · rw [decide_eq_true c3, cond_true]; exact fin 40 (by omega) (by omega) (by omega)
      · rw [decide_eq_false c3, cond_false]; exact fin 32 (by omega) (by omega) (by omega)
  · rw [decide_eq_false c1, cond_false]
    by_cases c2 : (65536 : Int) ≤ x
    · rw [decide_eq_true c2, cond_true]
      by_cases c3 : (256 : Int) ≤ ((x / 2 ^ 16 : Nat) : Int)
      · rw [decide_eq_true c3, cond_true]; exact fin 24 (by omega) (by omega) (by omega)
      · rw [decide_eq_false c3, cond_false]; exact fin 16 (by omega) (by omega) (by omega)
    · rw [decide_eq_false c2, cond_false]
      by_cases c3 : (256 : Int) ≤ x
      · rw [decide_eq_true c3, cond_true]; exact fin 8 (by omega) (by omega) (by omega)
      · rw [decide_eq_false c3, cond_false]
        have := fin 0 (by omega) (by simpa using h0) (by simp; omega)
        simpa using this
theorem LeadingZeros64_ok {x : Nat} (h0 : 0 < x) (h1 : x < 18446744073709551616) : ∃ s, math_bits_LeadingZeros64P (x : Int) = some ((s : Nat) : Int) ∧ s ≤ 63 ∧ 9223372036854775808 ≤ x * 2 ^ s ∧ x * 2 ^ s < 18446744073709551616 := by
  obtain ⟨n, g1, g2, g3, g4, g5⟩ := Len64_ok h0 h1
  refine ⟨64 - n, ?_, by omega, ?_, ?_⟩
  · unfold math_bits_LeadingZeros64P math_bits_LeadingZeros64
    rw [g1]
    simp only [Option.bind_some]
    rw [IntWalk.i64_in _ (by omega), show (64 : Int) - (n : Int) = ((64 - n : Nat) : Int) by omega]
    rfl
  · have e : (9223372036854775808 : Nat) = 2 ^ (n - 1) * 2 ^ (64 - n) := by rw [← Nat.pow_add, show n - 1 + (64 - n) = 63 by omega]
    rw [e]
    exact Nat.mul_le_mul_right _ g4
  · have e : (18446744073709551616 : Nat) = 2 ^ n * 2 ^ (64 - n) := by rw [← Nat.pow_add, show n + (64 - n) = 64 by omega]
    rw [e]
    exact Nat.mul_lt_mul_of_pos_right g5 (Nat.two_pow_pos _)
end Go.Proofs.Ytbcpdecgfdlaaaa
/- What math/bits.Mul64 and Div64 compute. Conditions: those of each law. -/
namespace Go.Proofs.Ytbcpdecgfdlaaaa
open Go Go.Proofs.Ytbcpdecgfdlaaaa.Ev
set_option linter.unusedVariables false
set_option linter.unusedSimpArgs false
set_option maxRecDepth 100000
set_option maxHeartbeats 1000000
theorem u64_nat {n : Nat} (h : n < 18446744073709551616) : IntKind.u64.wrap (n : Int) = (n : Int) := IntWalk.u64_in _ (by omega)
theorem i64_nat {n : Nat} (h : n < 9223372036854775808) : IntKind.i64.wrap (n : Int) = (n : Int) := IntWalk.i64_in _ (by omega)
theorem and32 {x : Nat} (hx : x < 18446744073709551616) : bitsI .and .u64 (x : Int) 4294967295 = ((x % 4294967296 : Nat) : Int) := by
  have h : (BitVec.ofInt 64 (x : Int) &&& BitVec.ofInt 64 4294967295).toNat = x % 4294967296 := by
    rw [BitVec.toNat_and, BitVec.ofInt_natCast, BitVec.toNat_ofNat, show (BitVec.ofInt 64 4294967295).toNat = 2 ^ 32 - 1 by rfl, Nat.and_two_pow_sub_one_eq_mod, Nat.mod_eq_of_lt (b := 2 ^ 64) (by omega)]
  exact (congrArg (fun n : Nat => IntKind.u64.wrap (n : Int)) h).trans (IntWalk.u64_in _ (by omega))
theorem or_add {a b s : Nat} (hb : b < 2 ^ s) (h : a * 2 ^ s + b < 18446744073709551616) : bitsI .or .u64 ((a * 2 ^ s : Nat) : Int) (b : Int) = ((a * 2 ^ s + b : Nat) : Int) := by
  have h : (BitVec.ofInt 64 ((a * 2 ^ s : Nat) : Int) ||| BitVec.ofInt 64 (b : Int)).toNat = a * 2 ^ s + b := by
    rw [BitVec.toNat_or, BitVec.ofInt_natCast, BitVec.ofInt_natCast, BitVec.toNat_ofNat, BitVec.toNat_ofNat, Nat.mod_eq_of_lt (b := 2 ^ 64) (by omega), Nat.mod_eq_of_lt (b := 2 ^ 64) (by omega)]
    rw [← Nat.shiftLeft_eq, Nat.shiftLeft_add_eq_or_of_lt hb]
  exact (congrArg (fun n : Nat => IntKind.u64.wrap (n : Int)) h).trans (IntWalk.u64_in _ (by omega))
theorem shr32 (x : Nat) : Int.fdiv (x : Int) (2 ^ (min (Int.toNat 32) (IntKind.bits .u64))) = ((x / 4294967296 : Nat) : Int) := fdiv_pow x 32
theorem Mul64_ok {x y : Nat} (hx : x < 18446744073709551616) (hy : y < 18446744073709551616) :
    math_bits_Mul64P (x : Int) (y : Int) = some (((x * y / 18446744073709551616 : Nat) : Int), ((x * y % 18446744073709551616 : Nat) : Int)) := by
  obtain ⟨k1, k2, k3, k4⟩ := Go.Lib.mul64_hi x y hx hy
  unfold math_bits_Mul64P math_bits_Mul64
  rw [shr32, shr32, and32 hx, and32 hy]
  simp only [← Int.natCast_mul]
  have hb1 : x / 4294967296 * (y / 4294967296) < 18446744073709551616 := by
    have := Go.Lib.half_mul_le (a := x / 4294967296) (b := y / 4294967296) (by omega) (by omega); omega
  have hb2 : x / 4294967296 * (y % 4294967296) < 18446744073709551616 := by omega
  have hb3 : x % 4294967296 * (y / 4294967296) < 18446744073709551616 := by omega
  rw [IntWalk.u64_in ((x % 4294967296 * (y % 4294967296) : Nat) : Int) (by omega), IntWalk.u64_in ((x / 4294967296 * (y % 4294967296) : Nat) : Int) (by omega), IntWalk.u64_in ((x % 4294967296 * (y / 4294967296) : Nat) : Int) (by omega), IntWalk.u64_in ((x / 4294967296 * (y / 4294967296) : Nat) : Int) (by omega)]
  rw [shr32]
  simp only [← Int.natCast_add]
  rw [IntWalk.u64_in ((x / 4294967296 * (y % 4294967296) + x % 4294967296 * (y % 4294967296) / 4294967296 : Nat) : Int) (by omega)]
  rw [shr32, and32 (by omega)]
  simp only [← Int.natCast_add]
  generalize x / 4294967296 * (y % 4294967296) + x % 4294967296 * (y % 4294967296) / 4294967296 = t at *
  generalize x % 4294967296 * (y / 4294967296) = c at *
  generalize x / 4294967296 * (y / 4294967296) = a at *
  have hz : x * y < 340282366920938463463374607431768211456 := Nat.lt_of_lt_of_le (Nat.mul_lt_mul'' hx hy) (by decide)
  generalize x * y = z at *
  rw [IntWalk.u64_in ((a + t / 4294967296 : Nat) : Int) (by omega), IntWalk.u64_in ((t % 4294967296 + c : Nat) : Int) (by omega), shr32]
  simp only [← Int.natCast_add]
  rw [k4, IntWalk.u64_in _ (by omega), IntKind.wrap_u64, show ((z : Nat) : Int) % 18446744073709551616 = ((z % 18446744073709551616 : Nat) : Int) by omega]
  rfl
theorem wrap_mod (n : Nat) : IntKind.u64.wrap (n : Int) = ((n % 18446744073709551616 : Nat) : Int) := by rw [IntKind.wrap_u64]; omega
theorem mul_pow_cast (x s : Nat) : (x : Int) * 2 ^ s = ((x * 2 ^ s : Nat) : Int) := by simp
theorem tdiv_nat (x y : Nat) : Int.tdiv (x : Int) (y : Int) = ((x / y : Nat) : Int) := rfl
theorem tmod_nat (x y : Nat) : Int.tmod (x : Int) (y : Int) = ((x % y : Nat) : Int) := rfl
/-- What the division hands back where the upper word is 0. -/
theorem Div64_small {lo y : Nat} (h0 : 0 < y) (h1 : lo < 18446744073709551616) : math_bits_Div64P 0 (lo : Int) (y : Int) = some (((lo / y : Nat) : Int), ((lo % y : Nat) : Int)) := by
  unfold math_bits_Div64P math_bits_Div64
  have e1 : decide ((y : Int) = 0) = false := by simp; omega
  have e2 : decide ((y : Int) ≤ 0) = false := by simp; omega
  have hne : (y : Int) ≠ 0 := by omega
  have hle : lo / y ≤ lo := Nat.div_le_self _ _
  simp only [e1, e2, cond_false, cond_true, Option.bind_some, decide_true, guardO_pos hne, tdiv_nat, tmod_nat]
  rw [u64_nat (by omega)]
  rfl
theorem toNat_min {s : Nat} (hs : s ≤ 64) : min (Int.toNat (IntKind.wrap .u64 (s : Int))) (IntKind.bits .u64) = s := by
  rw [u64_nat (by omega), Int.toNat_natCast]
  exact Nat.min_eq_left hs
/-- One step: what is left behind a digit. -/
theorem left_ok {N u Q Y R : Nat} (hT : N * 4294967296 + u = Q * Y + R) (hR : R < 18446744073709551616) :
    IntKind.u64.wrap (IntKind.u64.wrap (IntKind.u64.wrap ((N : Int) * 4294967296) + (u : Int)) - IntKind.u64.wrap ((Q : Int) * (Y : Int))) = (R : Int) := by
  rw [← Int.natCast_mul Q Y]
  generalize Q * Y = P at *
  simp only [IntKind.wrap_u64]
  omega
theorem loop_test {q r y1 y0 d : Nat} (hq : q ≤ 4294967297) (hr : r < 4294967296) (h1 : 2147483648 ≤ y1) (h1' : y1 < 4294967296) (h0 : y0 < 4294967296) (hd : d < 4294967296) (h : H) {F : Type} :
    ((((bif !(decide ((4294967296 : Int) ≤ (q : Int))) then (some ((decide ((IntKind.wrap .u64 ((IntKind.wrap .u64 (4294967296 * (r : Int))) + (d : Int))) < (IntKind.wrap .u64 ((q : Int) * (y0 : Int))))), h)) else (some (true, h)))).bind fun (y10, h11) =>
      (bif y10 then (bif (decide ((4294967296 : Int) ≤ (IntKind.wrap .u64 ((r : Int) + (y1 : Int))))) then (some (.done (.ex0 (IntKind.wrap .u64 ((q : Int) - 1)), h11))) else (some (.more (((IntKind.wrap .u64 ((q : Int) - 1)), (IntKind.wrap .u64 ((r : Int) + (y1 : Int)))), h11)))) else (some (.done (.ex0 (q : Int), h11))))) : Option (Stp ((Int × Int) × H) (Flow Int F × H))) =
    if 4294967296 ≤ q ∨ 4294967296 * r + d < q * y0 then (if 4294967296 ≤ r + y1 then some (.done (.ex0 (((q - 1 : Nat) : Int)), h)) else some (.more ((((q - 1 : Nat) : Int), ((r + y1 : Nat) : Int)), h))) else some (.done (.ex0 (q : Int), h)) := by
  have hm : q * y0 < 18446744073709551616 := Nat.lt_of_le_of_lt (Nat.mul_le_mul hq (show y0 ≤ 4294967295 by omega)) (by decide)
  rw [← Int.natCast_mul, u64_nat hm]
  generalize hP : q * y0 = P at *
  have e1 : IntKind.wrap .u64 ((IntKind.wrap .u64 (4294967296 * (r : Int))) + (d : Int)) = ((4294967296 * r + d : Nat) : Int) := by
    simp only [IntKind.wrap_u64]
    omega
  have e2 : IntKind.wrap .u64 ((r : Int) + (y1 : Int)) = ((r + y1 : Nat) : Int) := by
    simp only [IntKind.wrap_u64]
    omega
  rw [e1, e2]
  have fin : 1 ≤ q → (bif (decide ((4294967296 : Int) ≤ ((r + y1 : Nat) : Int))) then (some (.done (.ex0 (IntKind.wrap .u64 ((q : Int) - 1)), h)) : Option (Stp ((Int × Int) × H) (Flow Int F × H))) else (some (.more (((IntKind.wrap .u64 ((q : Int) - 1)), ((r + y1 : Nat) : Int)), h)))) =
      if 4294967296 ≤ r + y1 then some (.done (.ex0 (((q - 1 : Nat) : Int)), h)) else some (.more ((((q - 1 : Nat) : Int), ((r + y1 : Nat) : Int)), h)) := fun h1 => by
    have e3 : IntKind.wrap .u64 ((q : Int) - 1) = ((q - 1 : Nat) : Int) := by
      rw [show (q : Int) - 1 = ((q - 1 : Nat) : Int) by omega, u64_nat (by omega)]
    rw [e3]
    by_cases hc : 4294967296 ≤ r + y1
    · rw [if_pos hc, decide_eq_true (by omega)]; rfl
    · rw [if_neg hc, decide_eq_false (by omega)]; rfl
  by_cases hq2 : 4294967296 ≤ q
  · rw [if_pos (.inl hq2), decide_eq_true (show (4294967296 : Int) ≤ (q : Int) by omega)]
    exact fin (by omega)
  · rw [decide_eq_false (show ¬ (4294967296 : Int) ≤ (q : Int) by omega)]
    by_cases hc : 4294967296 * r + d < P
    · rw [if_pos (.inr hc), decide_eq_true (show ((4294967296 * r + d : Nat) : Int) < (P : Int) by omega)]
      refine fin ?_
      rcases Nat.eq_zero_or_pos q with h | h
      · subst h
        simp at hP
        omega
      · exact h
    · rw [if_neg (by omega), decide_eq_false (show ¬ ((4294967296 * r + d : Nat) : Int) < (P : Int) by omega)]
      rfl
/-- The quotient and what is left of it, out of the digits. -/
theorem div_final {U y p Y N L Q1 N2 Q2 R B u1 u0 : Nat} (hp : 0 < p) (hY : Y = y * p) (hU : U * p = N * (B * B) + L) (hL : u1 * B + u0 = L)
    (h1 : Q1 * Y + N2 = N * B + u1) (h2 : Q2 * Y + R = N2 * B + u0) (hR : R < Y) : U / y = Q1 * B + Q2 ∧ R / p = U % y := by
  have e1 : (N * B + u1) * B = N * B * B + u1 * B := Nat.add_mul _ _ _
  have e2 : (Q1 * Y + N2) * B = Q1 * Y * B + N2 * B := Nat.add_mul _ _ _
  rw [h1] at e2
  have e3 : Y * (Q1 * B + Q2) = Q1 * Y * B + Q2 * Y := by rw [Nat.mul_add, Nat.mul_comm Y Q2, ← Nat.mul_assoc, Nat.mul_comm Y Q1]
  have e4 : N * (B * B) = N * B * B := (Nat.mul_assoc N B B).symm
  have hUQ : U * p = Y * (Q1 * B + Q2) + R := by omega
  have hd : U * p / (y * p) = U / y := Nat.mul_div_mul_right U y hp
  have hm : U * p % (y * p) = U % y * p := Nat.mul_mod_mul_right p U y
  rw [← hY, hUQ] at hd hm
  rw [Nat.mul_add_div (by omega), Nat.div_eq_of_lt hR, Nat.add_zero] at hd
  rw [Nat.mul_add_mod, Nat.mod_eq_of_lt hR] at hm
  exact ⟨hd.symm, by rw [hm, Nat.mul_div_cancel _ hp]⟩
abbrev DivF := (Int × Int) × H → Option (Stp ((Int × Int) × H) (Flow Int (Int × Int) × H))
/-- The two digits and what is left, out of the normalized numbers. -/
def divCore (f1 f2 : DivF) (N Y L Y1 L1 L0 : Int) (S : Nat) (h : H) : Option ((Int × Int) × H) :=
  (iter FUEL f1 ((IntKind.wrap .u64 (Int.tdiv N Y1), IntKind.wrap .u64 (N - IntKind.wrap .u64 (IntKind.wrap .u64 (Int.tdiv N Y1) * Y1))), h)).bind fun (fl, h) => match fl with
  | .next _ => none
  | .ret r => some (r, h)
  | .ex0 q1 =>
    guardO (Y1 ≠ 0) ((iter FUEL f2 ((IntKind.wrap .u64 (Int.tdiv (IntKind.wrap .u64 (IntKind.wrap .u64 (IntKind.wrap .u64 (N * 4294967296) + L1) - IntKind.wrap .u64 (q1 * Y))) Y1),
        IntKind.wrap .u64 (IntKind.wrap .u64 (IntKind.wrap .u64 (IntKind.wrap .u64 (N * 4294967296) + L1) - IntKind.wrap .u64 (q1 * Y)) - IntKind.wrap .u64 (IntKind.wrap .u64 (Int.tdiv (IntKind.wrap .u64 (IntKind.wrap .u64 (IntKind.wrap .u64 (N * 4294967296) + L1) - IntKind.wrap .u64 (q1 * Y))) Y1) * Y1))), h)).bind fun (fl, h) => match fl with
    | .next _ => none
    | .ret r => some (r, h)
    | .ex0 q2 => some ((IntKind.wrap .u64 (IntKind.wrap .u64 (q1 * 4294967296) + q2),
        Int.fdiv (IntKind.wrap .u64 (IntKind.wrap .u64 (IntKind.wrap .u64 (IntKind.wrap .u64 (IntKind.wrap .u64 (IntKind.wrap .u64 (N * 4294967296) + L1) - IntKind.wrap .u64 (q1 * Y)) * 4294967296) + L0) - IntKind.wrap .u64 (q2 * Y))) (2 ^ S)), h)
    | .ex1 _ => none)
  | .ex1 _ => none
theorem Div64_core {a0 a1 a2 r : Int} {h : H} (e1 : decide (a2 = 0) = false) (e2 : decide (a2 ≤ a0) = false) (e3 : decide (a0 = 0) = false) (hs : math_bits_LeadingZeros64P a2 = some r)
    (g1 : (0 : Int) ≤ IntKind.wrap .u64 r) (g2 : (0 : Int) ≤ IntKind.wrap .u64 (64 - IntKind.wrap .u64 r)) {s t : Nat} (hm : min (Int.toNat (IntKind.wrap .u64 r)) (IntKind.bits .u64) = s)
    (hm2 : min (Int.toNat (IntKind.wrap .u64 (64 - IntKind.wrap .u64 r))) (IntKind.bits .u64) = t) {Y Y1 L N L1 L0 : Int} (hY : IntKind.wrap .u64 (a2 * 2 ^ s) = Y) (hY1 : Int.fdiv Y (2 ^ (min (Int.toNat 32) (IntKind.bits .u64))) = Y1)
    (hL : IntKind.wrap .u64 (a1 * 2 ^ s) = L) (hN : bitsI .or .u64 (IntKind.wrap .u64 (a0 * 2 ^ s)) (Int.fdiv a1 (2 ^ t)) = N) (hL1 : Int.fdiv L (2 ^ (min (Int.toNat 32) (IntKind.bits .u64))) = L1) (hL0 : bitsI .and .u64 L 4294967295 = L0) (hne : Y1 ≠ 0) :
    math_bits_Div64 a0 a1 a2 h = divCore (math_bits_Div64.loop1 a1 a2 r) (math_bits_Div64.loop2 a1 a2 r) N Y L Y1 L1 L0 s h := by
  unfold math_bits_Div64
  simp only [e1, e2, e3, hs, cond_false, Option.bind_some, guardO_pos g1, guardO_pos g2, hm, hm2, hY, hY1, hL, hN, hL1, hL0, guardO_pos hne]
  unfold divCore
  simp only [guardO_pos hne]
  rfl
theorem divCore_ok {f1 f2 : DivF} {N Y L s : Nat} {h : H} (hY : 9223372036854775808 ≤ Y) (hY' : Y < 18446744073709551616) (hN : N < Y) (hL : L < 18446744073709551616)
    (hf1 : ∀ q r : Nat, q ≤ 4294967297 → r < 4294967296 → f1 (((q : Int), (r : Int)), h) = if 4294967296 ≤ q ∨ 4294967296 * r + L / 4294967296 < q * (Y % 4294967296) then (if 4294967296 ≤ r + Y / 4294967296 then some (.done (.ex0 (((q - 1 : Nat) : Int)), h)) else some (.more ((((q - 1 : Nat) : Int), ((r + Y / 4294967296 : Nat) : Int)), h))) else some (.done (.ex0 (q : Int), h)))
    (hf2 : ∀ q r : Nat, q ≤ 4294967297 → r < 4294967296 → f2 (((q : Int), (r : Int)), h) = if 4294967296 ≤ q ∨ 4294967296 * r + L % 4294967296 < q * (Y % 4294967296) then (if 4294967296 ≤ r + Y / 4294967296 then some (.done (.ex0 (((q - 1 : Nat) : Int)), h)) else some (.more ((((q - 1 : Nat) : Int), ((r + Y / 4294967296 : Nat) : Int)), h))) else some (.done (.ex0 (q : Int), h))) :
    ∃ Q1 Q2 N2 R : Nat, divCore f1 f2 (N : Int) (Y : Int) (L : Int) ((Y / 4294967296 : Nat) : Int) ((L / 4294967296 : Nat) : Int) ((L % 4294967296 : Nat) : Int) s h = some ((((Q1 * 4294967296 + Q2 : Nat) : Int), ((R / 2 ^ s : Nat) : Int)), h) ∧
      Q1 * Y + N2 = N * 4294967296 + L / 4294967296 ∧ Q2 * Y + R = N2 * 4294967296 + L % 4294967296 ∧ R < Y := by
  have h1 : 2147483648 ≤ Y / 4294967296 := by omega
  have h1' : Y / 4294967296 < 4294967296 := by omega
  have h0 : Y % 4294967296 < 4294967296 := by omega
  have hYe : Y / 4294967296 * 4294967296 + Y % 4294967296 = Y := by omega
  have hne : ((Y / 4294967296 : Nat) : Int) ≠ 0 := by omega
  have start : ∀ n : Nat, n < Y → IntKind.wrap .u64 (Int.tdiv (n : Int) ((Y / 4294967296 : Nat) : Int)) = ((n / (Y / 4294967296) : Nat) : Int) ∧
      IntKind.wrap .u64 ((n : Int) - IntKind.wrap .u64 (((n / (Y / 4294967296) : Nat) : Int) * ((Y / 4294967296 : Nat) : Int))) = ((n % (Y / 4294967296) : Nat) : Int) := fun n hn => by
    have e1 := first_le h1 h0 (show n < Y / 4294967296 * 4294967296 + Y % 4294967296 by omega)
    have e2 := Nat.div_add_mod n (Y / 4294967296)
    have e3 : n % (Y / 4294967296) < 18446744073709551616 := by have := Nat.mod_lt n (show 0 < Y / 4294967296 by omega); omega
    rw [tdiv_nat, u64_nat (by omega)]
    refine ⟨rfl, ?_⟩
    rw [← Int.natCast_mul, Nat.mul_comm]
    generalize n % (Y / 4294967296) = m at *
    generalize Y / 4294967296 * (n / (Y / 4294967296)) = z at *
    simp only [IntKind.wrap_u64]
    omega
  have run1 := digit_loop (F := Int × Int) (f := f1) (h := h) (n := N) (d := L / 4294967296) h1 h1' h0 (by omega) (by omega) hf1
  obtain ⟨s1, s2⟩ := start N hN
  rw [hYe] at run1
  have hq1 := Nat.div_add_mod (N * 4294967296 + L / 4294967296) Y
  have hr1 := Nat.mod_lt (N * 4294967296 + L / 4294967296) (show 0 < Y by omega)
  have hq1s := quot_small (d := L / 4294967296) hN (by omega)
  generalize (N * 4294967296 + L / 4294967296) / Y = Q1 at *
  generalize (N * 4294967296 + L / 4294967296) % Y = N2 at *
  rw [Nat.mul_comm] at hq1
  have w2 := left_ok hq1.symm (by omega)
  have run2 := digit_loop (F := Int × Int) (f := f2) (h := h) (n := N2) (d := L % 4294967296) h1 h1' h0 (by omega) (by omega) hf2
  obtain ⟨s3, s4⟩ := start N2 hr1
  rw [hYe] at run2
  have hq2 := Nat.div_add_mod (N2 * 4294967296 + L % 4294967296) Y
  have hr2 := Nat.mod_lt (N2 * 4294967296 + L % 4294967296) (show 0 < Y by omega)
  have hq2s := quot_small (d := L % 4294967296) hr1 (by omega)
  generalize (N2 * 4294967296 + L % 4294967296) / Y = Q2 at *
  generalize (N2 * 4294967296 + L % 4294967296) % Y = R at *
  rw [Nat.mul_comm] at hq2
  have w3 := left_ok hq2.symm (by omega)
  refine ⟨Q1, Q2, N2, R, ?_, hq1, hq2, hr2⟩
  have e9 : IntKind.wrap .u64 (IntKind.wrap .u64 ((Q1 : Int) * 4294967296) + (Q2 : Int)) = ((Q1 * 4294967296 + Q2 : Nat) : Int) := by
    simp only [IntKind.wrap_u64]
    omega
  unfold divCore
  rw [s1, s2, run1]
  simp only [Option.bind_some]
  rw [w2, s3, s4, run2, guardO_pos hne]
  simp only [Option.bind_some]
  rw [w3, e9, fdiv_pow]
/-- What the division hands back. -/
theorem Div64_great {hi lo y : Nat} (hh : 0 < hi) (hy : hi < y) (hy1 : y < 18446744073709551616) (hl : lo < 18446744073709551616) :
    math_bits_Div64P (hi : Int) (lo : Int) (y : Int) = some ((((hi * 18446744073709551616 + lo) / y : Nat) : Int), (((hi * 18446744073709551616 + lo) % y : Nat) : Int)) := by
  obtain ⟨s, hs, hs1, hs2, hs3⟩ := LeadingZeros64_ok (x := y) (by omega) hy1
  have e1 : decide ((y : Int) = 0) = false := by simp; omega
  have e2 : decide ((y : Int) ≤ (hi : Int)) = false := by simp; omega
  have e3 : decide ((hi : Int) = 0) = false := by simp; omega
  have hm := toNat_min (s := s) (by omega)
  have g1 : (0 : Int) ≤ IntKind.wrap .u64 (s : Int) := by rw [u64_nat (by omega)]; omega
  have hsub : IntKind.wrap .u64 (64 - IntKind.wrap .u64 (s : Int)) = ((64 - s : Nat) : Int) := by
    rw [u64_nat (by omega), show (64 : Int) - (s : Int) = ((64 - s : Nat) : Int) by omega, u64_nat (by omega)]
  have hm2 : min (Int.toNat (IntKind.wrap .u64 (64 - IntKind.wrap .u64 (s : Int)))) (IntKind.bits .u64) = 64 - s := by
    rw [hsub, Int.toNat_natCast]
    show min (64 - s) 64 = 64 - s
    omega
  have g2 : (0 : Int) ≤ IntKind.wrap .u64 (64 - IntKind.wrap .u64 (s : Int)) := by rw [hsub]; omega
  -- the normalized numbers
  have hp : 0 < 2 ^ s := Nat.two_pow_pos s
  have hY : ∃ Y, Y = y * 2 ^ s := ⟨_, rfl⟩
  obtain ⟨Y, hY⟩ := hY
  have hpow : 2 ^ (64 - s) * 2 ^ s = 18446744073709551616 := by rw [← Nat.pow_add, show 64 - s + s = 64 by omega]
  have hlow : lo / 2 ^ (64 - s) < 2 ^ s := by
    rw [Nat.div_lt_iff_lt_mul (Nat.two_pow_pos _), Nat.mul_comm, hpow]
    exact hl
  have hN1 : hi * 2 ^ s + 2 ^ s ≤ Y := by
    rw [hY, ← Nat.succ_mul]
    exact Nat.mul_le_mul_right _ hy
  have hhi : hi * 2 ^ s < 18446744073709551616 := by omega
  have hN : ∃ N, N = hi * 2 ^ s + lo / 2 ^ (64 - s) := ⟨_, rfl⟩
  obtain ⟨N, hN⟩ := hN
  have hL : ∃ L, L = lo * 2 ^ s % 18446744073709551616 := ⟨_, rfl⟩
  obtain ⟨L, hL⟩ := hL
  have hLo : lo * 2 ^ s / 18446744073709551616 = lo / 2 ^ (64 - s) := by rw [← hpow, Nat.mul_div_mul_right _ _ hp]
  have hU : (hi * 18446744073709551616 + lo) * 2 ^ s = N * (4294967296 * 4294967296) + L := by
    have e : (hi * 18446744073709551616 + lo) * 2 ^ s = (hi * 2 ^ s) * 18446744073709551616 + lo * 2 ^ s := by
      rw [Nat.add_mul (hi * 18446744073709551616) lo (2 ^ s), Nat.mul_right_comm hi 18446744073709551616 (2 ^ s)]
    rw [e, hN, hL]
    omega
  rw [← hY] at hs2 hs3
  have wY : IntKind.wrap .u64 ((y : Int) * 2 ^ s) = (Y : Int) := by rw [mul_pow_cast, ← hY, u64_nat hs3]
  have wL : IntKind.wrap .u64 ((lo : Int) * 2 ^ s) = (L : Int) := by rw [mul_pow_cast, wrap_mod, ← hL]
  have wN : bitsI .or .u64 (IntKind.wrap .u64 ((hi : Int) * 2 ^ s)) (Int.fdiv (lo : Int) (2 ^ (64 - s))) = (N : Int) := by
    rw [mul_pow_cast, fdiv_pow, u64_nat hhi, or_add hlow (by omega), hN]
  have hL2 : L < 18446744073709551616 := by rw [hL]; exact Nat.mod_lt _ (by decide)
  have hNY : N < Y := by omega
  have hne : ((Y / 4294967296 : Nat) : Int) ≠ 0 := by omega
  obtain ⟨Q1, Q2, N2, R, hrun, k1, k2, k3⟩ := divCore_ok (f1 := math_bits_Div64.loop1 (lo : Int) (y : Int) (s : Int)) (f2 := math_bits_Div64.loop2 (lo : Int) (y : Int) (s : Int)) (s := s) (h := H.empty) hs2 hs3 hNY hL2
    (fun q r hq hr => by
      unfold math_bits_Div64.loop1
      simp only [hm, wY, wL, shr32, and32 hs3]
      exact loop_test hq hr (by omega) (by omega) (by omega) (by omega) _)
    (fun q r hq hr => by
      unfold math_bits_Div64.loop2
      simp only [hm, wY, wL, shr32, and32 hs3, and32 hL2]
      exact loop_test hq hr (by omega) (by omega) (by omega) (by omega) _)
  have hcore := Div64_core (a0 := (hi : Int)) (a1 := (lo : Int)) (a2 := (y : Int)) (h := H.empty) e1 e2 e3 hs g1 g2 hm hm2 wY (shr32 Y) wL wN (shr32 L) (and32 hL2) hne
  rw [hrun] at hcore
  obtain ⟨hdiv, hmod⟩ := div_final (B := 4294967296) hp hY hU (show L / 4294967296 * 4294967296 + L % 4294967296 = L by omega) k1 k2 k3
  unfold math_bits_Div64P
  rw [hcore, hdiv, ← hmod]
  rfl
end Go.Proofs.Ytbcpdecgfdlaaaa
/- What package proportion computes of two or three numbers. Conditions: those of each law. -/
namespace Go.Proofs.Ytbcpdecgfdlaaaa
open Go Go.Proofs.Ytbcpdecgfdlaaaa.Ev
set_option linter.unusedVariables false
set_option linter.unusedSimpArgs false
set_option maxRecDepth 100000
set_option maxHeartbeats 1000000
theorem IndexFunc_int {T : Table} {v : V} {h : H} {xs : List Int} {f : Bool} (p : Int → Bool) (hn : xs.length < 2 ^ 63) (hc : ∀ x ∈ xs, ∀ {R : Type} (k : V → H → Option R), callV T.dy v [.int .i64 x] h k = k (.bool (p x)) h) :
    slices_IndexFunc_int_int T (rowSV f [.int .i64] xs) v h = some (idxOf p xs, h) := by
  unfold slices_IndexFunc_int_int
  rw [iter_find xs p (fun i => (i : Int)) hn (fun i x hx => by
    obtain ⟨hlt, rfl⟩ := List.getElem?_eq_some_iff.1 hx
    unfold slices_IndexFunc_int_int.loop1
    simp only [rowSV_len, Int.toNat_natCast]
    rw [decide_eq_true (by omega), cond_true, guardO_pos (by omega), rd_rowI, hx]
    simp only [Option.bind_some]
    rw [hc _ (List.getElem_mem hlt)]
    simp only [Res.pack, Ty.pack, Leaf.pack, Option.bind_some]
    rw [i64_succ (by omega)]
    cases p xs[i] <;> rfl) (by
    unfold slices_IndexFunc_int_int.loop1
    simp only [rowSV_len]
    rw [decide_eq_false (by omega), cond_false])]
  unfold idxOf
  cases xs.findIdx? p <;> rfl
theorem ContainsFunc_int {T : Table} {v : V} {h : H} {xs : List Int} {f : Bool} (p : Int → Bool) (hn : xs.length < 2 ^ 63) (hc : ∀ x ∈ xs, ∀ {R : Type} (k : V → H → Option R), callV T.dy v [.int .i64 x] h k = k (.bool (p x)) h) :
    slices_ContainsFunc_int_int T (rowSV f [.int .i64] xs) v h = some (xs.any p, h) := by
  unfold slices_ContainsFunc_int_int
  rw [IndexFunc_int (T := slices_ContainsFunc_int_int.tb T) p hn hc]
  simp only [Option.bind_some, idxOf_nonneg]
def isAmt (n : Int) : Bool := decide (0 ≤ n) && decide (n ≤ 128849018880000)
theorem isAmt_iff {n : Int} : isAmt n = true ↔ 0 ≤ n ∧ n ≤ 128849018880000 := by simp [isAmt]
theorem amount_ok (n : Int) : proportion_amountP n = some (isAmt n) := by
  unfold proportion_amountP proportion_amount isAmt
  cases decide (0 ≤ n) <;> rfl
theorem amounts1_ok (n : Int) : proportion_amounts_1P n = some (!isAmt n) := by
  unfold proportion_amounts_1P proportion_amounts_1
  simp only [evs, reduceIte, rdRes, rdTT, rdTy, rdLT, Res.un, TT.un, Ty.un, LT.un, Leaf.un, Leaf.plain, LT.plain, amount_ok]
theorem amounts_ok (xs : List Int) (hn : xs.length < 2 ^ 63) : proportion_amountsP xs = some (xs.all isAmt) := by
  unfold proportion_amountsP proportion_amounts
  rw [ContainsFunc_int (fun x => !isAmt x) hn (fun x hx R k => by
    show (proportion_amounts_1P x).bind (fun r => k ((Res.one (.leaf .bool)).lo true r) H.empty) = _
    rw [amounts1_ok]; rfl)]
  simp only [evs, reduceIte, rdRes, rdTT, rdTy, rdLT, Res.un, TT.un, Ty.un, LT.un, Leaf.un, Leaf.plain, LT.plain]
  rw [List.any_eq_not_all_not]
  simp
end Go.Proofs.Ytbcpdecgfdlaaaa
/- What package proportion and its reference compute of two or three numbers. Conditions: those of each law. -/
namespace Go.Proofs.Ytbcpdecgfdlaaaa
open Go Go.Proofs.Ytbcpdecgfdlaaaa.Ev
set_option linter.unusedVariables false
set_option linter.unusedSimpArgs false
set_option maxRecDepth 100000
set_option maxHeartbeats 1000000
theorem Div64_ok {hi lo y : Nat} (hy : hi < y) (hy1 : y < 18446744073709551616) (hl : lo < 18446744073709551616) :
    math_bits_Div64P (hi : Int) (lo : Int) (y : Int) = some ((((hi * 18446744073709551616 + lo) / y : Nat) : Int), (((hi * 18446744073709551616 + lo) % y : Nat) : Int)) := by
  rcases Nat.eq_zero_or_pos hi with rfl | h
  · rw [Nat.zero_mul, Nat.zero_add]
    exact Div64_small hy hl
  · exact Div64_great h hy hy1 hl
theorem product_ok {a b : Nat} (ha : a < 9223372036854775808) (hb : b < 9223372036854775808) : proportion_productP (a : Int) (b : Int) = some (((a * b / 18446744073709551616 : Nat) : Int), ((a * b % 18446744073709551616 : Nat) : Int)) := by
  unfold proportion_productP proportion_product
  rw [u64_nat (by omega), u64_nat (by omega), Mul64_ok (by omega) (by omega)]
  rfl
/-- A proportion and its remainder. -/
def divOf (a b c : Int) : Int × Int × Bool := if 128849018880000 < a * b / c then (0, 0, false) else (a * b / c, a * b % c, true)
theorem divided_nat {a b c : Nat} (ha : a ≤ 128849018880000) (hb : b ≤ 128849018880000) (hc : c ≤ 128849018880000) (h0 : 0 < c) :
    proportion_dividedP (a : Int) (b : Int) (c : Int) = some (if 128849018880000 < a * b / c then (0, 0, false) else (((a * b / c : Nat) : Int), ((a * b % c : Nat) : Int), true)) := by
  unfold proportion_dividedP proportion_divided
  rw [product_ok (by omega) (by omega)]
  simp only [evs, reduceIte, rdRes, rdTT, rdTy, rdLT, Res.un, TT.un, Ty.un, LT.un, Leaf.un, Leaf.plain, LT.plain, evh, List.replicate, splice, LT.pack, Leaf.pack, Nat.reduceAdd, Nat.reduceSub, Nat.reduceLeDiff, Nat.reduceLT, Nat.reduceEqDiff, LT.lo, Leaf.lo]
  rw [u64_nat (n := c) (by omega)]
  generalize hp : a * b = p at *
  by_cases h : c ≤ p / 18446744073709551616
  · rw [decide_eq_true (by omega)]
    have : 128849018880000 < p / c := by
      rw [Nat.lt_div_iff_mul_lt h0]
      have h1 : c * 18446744073709551616 ≤ p := by
        have := Nat.mul_le_mul_right 18446744073709551616 h
        omega
      omega
    rw [if_pos this]
    simp only [evs, reduceIte, rdRes, rdTT, rdTy, rdLT, Res.un, TT.un, Ty.un, LT.un, Leaf.un, Leaf.plain, LT.plain, evh, List.replicate, splice, LT.pack, Leaf.pack, Nat.reduceAdd, Nat.reduceSub, Nat.reduceLeDiff, Nat.reduceLT, Nat.reduceEqDiff, LT.lo, Leaf.lo]
  · rw [decide_eq_false (by omega), Div64_ok (by omega) (by omega) (by omega)]
    rw [show p / 18446744073709551616 * 18446744073709551616 + p % 18446744073709551616 = p by omega]
    simp only [evs, reduceIte, rdRes, rdTT, rdTy, rdLT, Res.un, TT.un, Ty.un, LT.un, Leaf.un, Leaf.plain, LT.plain, evh, List.replicate, splice, LT.pack, Leaf.pack, Nat.reduceAdd, Nat.reduceSub, Nat.reduceLeDiff, Nat.reduceLT, Nat.reduceEqDiff, LT.lo, Leaf.lo]
    by_cases hq : 128849018880000 < p / c
    · rw [decide_eq_true (by omega), if_pos hq]
      simp only [evs, reduceIte, rdRes, rdTT, rdTy, rdLT, Res.un, TT.un, Ty.un, LT.un, Leaf.un, Leaf.plain, LT.plain, evh, List.replicate, splice, LT.pack, Leaf.pack, Nat.reduceAdd, Nat.reduceSub, Nat.reduceLeDiff, Nat.reduceLT, Nat.reduceEqDiff, LT.lo, Leaf.lo]
    · have hr : p % c < c := Nat.mod_lt _ h0
      rw [decide_eq_false (by omega), if_neg hq, i64_nat (by omega), i64_nat (by omega)]
      simp only [evs, reduceIte, rdRes, rdTT, rdTy, rdLT, Res.un, TT.un, Ty.un, LT.un, Leaf.un, Leaf.plain, LT.plain, evh, List.replicate, splice, LT.pack, Leaf.pack, Nat.reduceAdd, Nat.reduceSub, Nat.reduceLeDiff, Nat.reduceLT, Nat.reduceEqDiff, LT.lo, Leaf.lo]
theorem isAmt_nat {a : Int} (h : isAmt a = true) : ∃ n : Nat, a = (n : Int) ∧ n ≤ 128849018880000 := by
  rw [isAmt_iff] at h
  exact ⟨a.toNat, by omega, by omega⟩
theorem divOf_nat (a b c : Nat) : divOf (a : Int) (b : Int) (c : Int) = if 128849018880000 < a * b / c then (0, 0, false) else (((a * b / c : Nat) : Int), ((a * b % c : Nat) : Int), true) := by
  unfold divOf
  rw [← Int.natCast_mul, ← Int.natCast_ediv, ← Int.natCast_emod]
  by_cases h : 128849018880000 < a * b / c
  · rw [if_pos h, if_pos (by omega)]
  · rw [if_neg h, if_neg (by omega)]
theorem divided_ok {a b c : Int} (ha : isAmt a = true) (hb : isAmt b = true) (hc : isAmt c = true) (h0 : c ≠ 0) : proportion_dividedP a b c = some (divOf a b c) := by
  obtain ⟨a, rfl, ha'⟩ := isAmt_nat ha
  obtain ⟨b, rfl, hb'⟩ := isAmt_nat hb
  obtain ⟨c, rfl, hc'⟩ := isAmt_nat hc
  rw [divided_nat ha' hb' hc' (by omega), divOf_nat]
/-- The proportion, or the error. -/
def ofOf (a b c : Int) : Int × Int × Int :=
  if (isAmt a && (isAmt b && isAmt c)) = true then (if c = 0 then (0, 0, 16) else if 128849018880000 < a * b / c then (0, 0, 15) else (a * b / c, a * b % c, 0)) else (0, 0, 2)
theorem Of_ok (a b c : Int) : proportion_OfP a b c = some (ofOf a b c) := by
  unfold proportion_OfP proportion_Of ofOf
  simp only [evs, reduceIte, rdRes, rdTT, rdTy, rdLT, Res.un, TT.un, Ty.un, LT.un, Leaf.un, Leaf.plain, LT.plain]
  rw [amounts_ok [a, b, c] (by simp)]
  simp only [evs, reduceIte, rdRes, rdTT, rdTy, rdLT, Res.un, TT.un, Ty.un, LT.un, Leaf.un, Leaf.plain, LT.plain, List.all_cons, List.all_nil]
  cases h : (isAmt a && (isAmt b && isAmt c)) with
  | false => simp only [evs, reduceIte, rdRes, rdTT, rdTy, rdLT, Res.un, TT.un, Ty.un, LT.un, Leaf.un, Leaf.plain, LT.plain]; rfl
  | true =>
    simp only [Bool.and_eq_true] at h
    by_cases h0 : c = 0
    · rw [decide_eq_true h0, if_pos h0]; simp only [evs, reduceIte, rdRes, rdTT, rdTy, rdLT, Res.un, TT.un, Ty.un, LT.un, Leaf.un, Leaf.plain, LT.plain]
    · rw [decide_eq_false h0, if_neg h0, divided_ok h.1 h.2.1 h.2.2 h0]
      unfold divOf
      by_cases hq : 128849018880000 < a * b / c
      · simp only [if_pos hq, evs, reduceIte, rdRes, rdTT, rdTy, rdLT, Res.un, TT.un, Ty.un, LT.un, Leaf.un, Leaf.plain, LT.plain]
      · simp only [if_neg hq, evs, reduceIte, rdRes, rdTT, rdTy, rdLT, Res.un, TT.un, Ty.un, LT.un, Leaf.un, Leaf.plain, LT.plain]
end Go.Proofs.Ytbcpdecgfdlaaaa
/- What the reference of package proportion computes of two or three numbers. Conditions: those of each law. -/
namespace Go.Proofs.Ytbcpdecgfdlaaaa
open Go Go.Proofs.Ytbcpdecgfdlaaaa.Ev
set_option linter.unusedVariables false
set_option linter.unusedSimpArgs false
set_option maxRecDepth 100000
set_option maxHeartbeats 1000000
end Go.Proofs.Ytbcpdecgfdlaaaa
/- What slices.SortStableFunc does with a slice of the call's own: the small steps. Conditions: those of each law. -/
namespace Go.Proofs.Ytbcpdecgfdlaaaa
open Go Go.Proofs.Ytbcpdecgfdlaaaa.Ev
set_option linter.unusedVariables false
set_option linter.unusedSimpArgs false
set_option maxRecDepth 100000
set_option maxHeartbeats 2000000

/-- One number of a list. -/
def g (xs : List Int) (k : Nat) : Int := (xs[k]?).getD 0
theorem g_some {xs : List Int} {k : Nat} (h : k < xs.length) : xs[k]? = some (g xs k) := by
  rw [g, List.getElem?_eq_getElem h]; rfl
theorem g_set {xs : List Int} {i k : Nat} {x : Int} (h : i < xs.length) : g (xs.set i x) k = if k = i then x else g xs k := by
  unfold g
  by_cases e : k = i
  · subst e; simp [h]
  · rw [if_neg e, List.getElem?_set_ne (by omega)]
/-- Two numbers change places. -/
def swp (i j : Nat) (xs : List Int) : List Int := (xs.set i (g xs j)).set j (g xs i)
theorem swp_length {i j : Nat} {xs : List Int} : (swp i j xs).length = xs.length := by simp [swp]
theorem g_swp {i j k : Nat} {xs : List Int} (hi : i < xs.length) (hj : j < xs.length) : g (swp i j xs) k = if k = j then g xs i else if k = i then g xs j else g xs k := by
  unfold swp
  rw [g_set (by simpa using hj), g_set hi]
theorem swp_perm {i j : Nat} {xs : List Int} (hi : i < xs.length) (hj : j < xs.length) : (swp i j xs).Perm xs := by
  have := List.set_set_perm hi hj
  unfold swp
  rw [show g xs j = xs[j] by rw [g, List.getElem?_eq_getElem hj]; rfl, show g xs i = xs[i] by rw [g, List.getElem?_eq_getElem hi]; rfl]
  exact this
/-- The heap with these numbers in a block. -/
def hS (sl : List Slot) (id : Nat) (xs : List Int) : H := hL (sl.set id (.own (cellsL [.int .i64] xs) 1))
abbrev sS (id n : Nat) (t : Bool) : SV := ⟨.hp id n 0, n, n, t⟩
theorem sS_a {id n : Nat} {t : Bool} : (sS id n t).a = .hp id n 0 := congrArg SV.a (Eq.refl (sS id n t))
theorem sS_len {id n : Nat} {t : Bool} : (sS id n t).len = n := congrArg SV.len (Eq.refl (sS id n t))
theorem pack_i (x : Int) : Res.pack (.one (.leaf (.int .i64))) (.int .i64 x) = some x := rfl
theorem add_hp {id n k : Nat} : V.add (.hp id n 0) k = .hp id n k := by simp [V.add]
section steps
variable {sl : List Slot} {id n : Nat} (hid : id < sl.length)
include hid
theorem rdS {xs : List Int} {k : Nat} (hn : xs.length = n) (hk : k < n) : rdT (.leaf (.int .i64)) (hS sl id xs) (V.add (.hp id n 0) (k * 1)) = some (g xs k) := by
  rw [add_hp]
  have := rd_ownL0 (ls := [.int .i64]) (xs := xs) (l := .int .i64) (sl := sl.set id (.own (cellsL [.int .i64] xs) 1)) (id := id) (e := 1) (n := n) (i := k) (w := 1) (by simp [hid]) (by simp [hn]) rfl (by omega)
  unfold hS
  rw [this, g_some (by omega)]
  rfl
theorem wrS {xs : List Int} {k : Nat} {x : Int} (hn : xs.length = n) (hk : k < n) : H.wrs (hS sl id xs) (V.add (.hp id n 0) (k * 1)) [.int .i64 x] = some (hS sl id (xs.set k x)) := by
  rw [add_hp]
  have := wrs_ownL (ls := [.int .i64]) (xs := xs) (sl := sl.set id (.own (cellsL [.int .i64] xs) 1)) (id := id) (e := 1) (n := n) (i := k) (w := 1) (x := x) (vs := [.int .i64 x]) (by simp [hid]) (by simp [hn]) rfl (by omega) rfl
  unfold hS
  rw [this]
  simp [List.set_set]
end steps
theorem i64n {m : Nat} {z : Int} (h : z = (m : Int)) (hm : m < 9223372036854775808) : IntKind.i64.wrap z = (m : Int) := by rw [h]; exact i64_nat hm
end Go.Proofs.Ytbcpdecgfdlaaaa
/- What slices.SortStableFunc does with a slice of the call's own: swapping ranges, rotating, inserting. Conditions: those of each law. -/
namespace Go.Proofs.Ytbcpdecgfdlaaaa
open Go Go.Proofs.Ytbcpdecgfdlaaaa.Ev
set_option linter.unusedVariables false
set_option linter.unusedSimpArgs false
set_option maxRecDepth 100000
set_option maxHeartbeats 4000000
section sort
variable {T : Table} {v : V} {sl : List Slot} {id n : Nat} {t : Bool}
/-- Two ranges change places. -/
theorem swapRange_ok (hid : id < sl.length) (hn63 : n < 4611686018427387904) {xs : List Int} (hn : xs.length = n) {a b k : Nat} (hab : a + k ≤ b) (hb : b + k ≤ n) :
    ∃ ys, slices_swapRangeCmpFunc_int T (sS id n t) (a : Int) (b : Int) (k : Int) v (hS sl id xs) = some ((), hS sl id ys) ∧ ys.length = n ∧ ys.Perm xs ∧
      ∀ j, g ys j = if a ≤ j ∧ j < a + k then g xs (j - a + b) else if b ≤ j ∧ j < b + k then g xs (j - b + a) else g xs j := by
  obtain ⟨r, hr, hp⟩ := iter_inv (f := slices_swapRangeCmpFunc_int.loop1 T (sS id n t) (a : Int) (b : Int) (k : Int))
    (Inv := fun st => ∃ (i : Nat) (ys : List Int), st = ((i : Int), hS sl id ys) ∧ i ≤ k ∧ ys.length = n ∧ ys.Perm xs ∧
      ∀ j, g ys j = if a ≤ j ∧ j < a + i then g xs (j - a + b) else if b ≤ j ∧ j < b + i then g xs (j - b + a) else g xs j)
    (Post := fun r => ∃ ys, r = (.ex0 (), hS sl id ys) ∧ ys.length = n ∧ ys.Perm xs ∧
      ∀ j, g ys j = if a ≤ j ∧ j < a + k then g xs (j - a + b) else if b ≤ j ∧ j < b + k then g xs (j - b + a) else g xs j)
    (fun st => k - st.1.toNat) (fun st hi => by
      obtain ⟨i, ys, rfl, hi, hl, hpm, hg⟩ := hi
      rcases Nat.lt_or_ge i k with hlt | hge
      · left
        refine ⟨(((i + 1 : Nat) : Int), hS sl id (swp (a + i) (b + i) ys)), ?_, ⟨i + 1, _, rfl, by omega, by rw [swp_length, hl], (swp_perm (by omega) (by omega)).trans hpm, fun j => ?_⟩, by simp only [Int.toNat_natCast]; omega⟩
        · unfold slices_swapRangeCmpFunc_int.loop1
          simp -implicitDefEqProofs only [reserve0, sS_a, sS_len]
          rw [decide_eq_true (by omega), cond_true, i64n (m := b + i) (by omega) (by omega), i64n (m := a + i) (by omega) (by omega), Int.toNat_natCast, Int.toNat_natCast, guardO_pos (by omega), rdS hid hl (by omega)]
          simp -implicitDefEqProofs only [Option.bind_some]
          rw [guardO_pos (by omega), rdS hid hl (by omega)]
          simp -implicitDefEqProofs only [Option.bind_some]
          rw [guardO_pos (by omega), wrS hid hl (by omega)]
          simp -implicitDefEqProofs only [Option.bind_some]
          rw [guardO_pos (by omega), wrS hid (by simpa using hl) (by omega)]
          simp -implicitDefEqProofs only [Option.bind_some]
          rw [i64_succ (by omega)]
          rfl
        · rw [g_swp (by omega) (by omega), hg, hg, hg]
          by_cases c1 : j = b + i
          · subst c1
            rw [if_pos rfl, if_neg (by omega), if_neg (by omega), if_neg (by omega), if_pos (by omega)]
            congr 1; omega
          · rw [if_neg c1]
            by_cases c2 : j = a + i
            · subst c2
              rw [if_pos rfl, if_neg (by omega), if_neg (by omega), if_pos (by omega)]
              congr 1; omega
            · rw [if_neg c2]
              by_cases c3 : a ≤ j ∧ j < a + i
              · rw [if_pos c3, if_pos (by omega)]
              · rw [if_neg c3, if_neg (show ¬ (a ≤ j ∧ j < a + (i + 1)) by omega)]
                by_cases c4 : b ≤ j ∧ j < b + i
                · rw [if_pos c4, if_pos (by omega)]
                · rw [if_neg c4, if_neg (by omega)]
      · right
        have : i = k := by omega
        subst this
        refine ⟨_, ?_, ys, rfl, hl, hpm, hg⟩
        unfold slices_swapRangeCmpFunc_int.loop1
        simp -implicitDefEqProofs only []
        rw [decide_eq_false (by omega), cond_false]) FUEL ((0 : Int), hS sl id xs) ⟨0, xs, rfl, Nat.zero_le _, hn, .refl _, fun j => by rw [if_neg (by omega), if_neg (by omega)]⟩ (fuel_gt (by
        show k - (0 : Int).toNat < 2 ^ 69
        omega))
  obtain ⟨ys, rfl, h1, h2, h3⟩ := hp
  refine ⟨ys, ?_, h1, h2, h3⟩
  unfold slices_swapRangeCmpFunc_int
  rw [hr]
  rfl
/-- Two neighbouring ranges change places. -/
theorem rotate_ok (hid : id < sl.length) (hn63 : n < 4611686018427387904) {xs : List Int} (hn : xs.length = n) {a m b : Nat} (ham : a < m) (hmb : m < b) (hb : b ≤ n) :
    ∃ ys, slices_rotateCmpFunc_int T (sS id n t) (a : Int) (m : Int) (b : Int) v (hS sl id xs) = some ((), hS sl id ys) ∧ ys.length = n ∧ ys.Perm xs ∧
      ∀ p, g ys p = if a ≤ p ∧ p < a + (b - m) then g xs (p + (m - a)) else if a + (b - m) ≤ p ∧ p < b then g xs (p - (b - m)) else g xs p := by
  obtain ⟨r, hr, hp⟩ := iter_inv (f := slices_rotateCmpFunc_int.loop1 T (sS id n t) (m : Int) v)
    (Inv := fun st => ∃ (i j : Nat) (ys : List Int), st = (((i : Int), (j : Int)), hS sl id ys) ∧ 0 < i ∧ 0 < j ∧ a + i ≤ m ∧ m + j ≤ b ∧ ys.length = n ∧ ys.Perm xs ∧
      ∀ p, (if a ≤ p ∧ p < a + (b - m) then g xs (p + (m - a)) else if a + (b - m) ≤ p ∧ p < b then g xs (p - (b - m)) else g xs p) =
        if m - i ≤ p ∧ p < m - i + j then g ys (p + i) else if m - i + j ≤ p ∧ p < m + j then g ys (p - j) else g ys p)
    (Post := fun r => ∃ (i : Nat) (ys : List Int), r = (.ex0 (i : Int), hS sl id ys) ∧ 0 < i ∧ a + i ≤ m ∧ m + i ≤ b ∧ ys.length = n ∧ ys.Perm xs ∧
      ∀ p, (if a ≤ p ∧ p < a + (b - m) then g xs (p + (m - a)) else if a + (b - m) ≤ p ∧ p < b then g xs (p - (b - m)) else g xs p) =
        if m - i ≤ p ∧ p < m then g ys (p + i) else if m ≤ p ∧ p < m + i then g ys (p - i) else g ys p)
    (fun st => st.1.1.toNat + st.1.2.toNat) (fun st hi => by
      obtain ⟨i, j, ys, rfl, hi0, hj0, hai, hjb, hl, hpm, hg⟩ := hi
      by_cases hij : i = j
      · right
        subst hij
        refine ⟨_, ?_, i, ys, rfl, hi0, hai, hjb, hl, hpm, fun p => ?_⟩
        · unfold slices_rotateCmpFunc_int.loop1
          simp -implicitDefEqProofs only [decide_true, Bool.not_true, cond_false]
        · rw [hg p, show m - i + i = m by omega]
      · left
        rcases Nat.lt_or_ge j i with hlt | hge
        · obtain ⟨zs, h1, h2, h3, h4⟩ := swapRange_ok (T := slices_rotateCmpFunc_int.tb T) (v := v) (t := t) hid hn63 hl (a := m - i) (b := m) (k := j) (by omega) (by omega)
          refine ⟨((((i - j : Nat) : Int), (j : Int)), hS sl id zs), ?_, ⟨i - j, j, zs, rfl, by omega, hj0, by omega, hjb, h2, h3.trans hpm, fun p => ?_⟩, by simp only [Int.toNat_natCast]; omega⟩
          · unfold slices_rotateCmpFunc_int.loop1
            simp -implicitDefEqProofs only []
            rw [decide_eq_false (show ¬ (i : Int) = (j : Int) by omega), decide_eq_true (show (j : Int) < (i : Int) by omega), i64n (m := m - i) (by omega) (by omega), h1]
            simp -implicitDefEqProofs only [Bool.not_false, cond_true, Option.bind_some]
            rw [i64n (m := i - j) (by omega) (by omega)]
          · rw [hg p, h4 (p + (i - j)), h4 (p - j), h4 p]
            by_cases c1 : m - i ≤ p ∧ p < m - i + j
            · rw [if_pos c1, if_neg (by omega), if_neg (by omega), if_pos (by omega)]
              congr 1; omega
            · rw [if_neg c1]
              by_cases c2 : m - i + j ≤ p ∧ p < m + j
              · rw [if_pos c2]
                by_cases c3 : m - (i - j) ≤ p ∧ p < m - (i - j) + j
                · rw [if_pos c3]
                  by_cases c4 : p + (i - j) < m
                  · omega
                  · rw [if_neg (by omega), if_pos (by omega)]
                    congr 1; omega
                · rw [if_neg c3]
                  by_cases c5 : m - (i - j) + j ≤ p ∧ p < m + j
                  · rw [if_pos c5, if_neg (by omega), if_neg (by omega)]
                  · omega
              · rw [if_neg c2, if_neg (by omega), if_neg (by omega), if_neg (by omega), if_neg (by omega)]
        · obtain ⟨zs, h1, h2, h3, h4⟩ := swapRange_ok (T := slices_rotateCmpFunc_int.tb T) (v := v) (t := t) hid hn63 hl (a := m - i) (b := m + j - i) (k := i) (by omega) (by omega)
          refine ⟨(((i : Int), ((j - i : Nat) : Int)), hS sl id zs), ?_, ⟨i, j - i, zs, rfl, hi0, by omega, hai, by omega, h2, h3.trans hpm, fun p => ?_⟩, by simp only [Int.toNat_natCast]; omega⟩
          · unfold slices_rotateCmpFunc_int.loop1
            simp -implicitDefEqProofs only []
            rw [decide_eq_false (show ¬ (i : Int) = (j : Int) by omega), decide_eq_false (show ¬ (j : Int) < (i : Int) by omega), i64n (z := (m : Int) - i) (m := m - i) (by omega) (by omega), i64n (z := (m : Int) + j) (m := m + j) (by omega) (by omega), i64n (z := ((m + j : Nat) : Int) - i) (m := m + j - i) (by omega) (by omega), h1]
            simp -implicitDefEqProofs only [Bool.not_false, cond_true, cond_false, Option.bind_some]
            rw [i64n (m := j - i) (by omega) (by omega)]
          · rw [hg p, h4 (p + i), h4 (p - (j - i)), h4 p]
            by_cases c1 : m - i ≤ p ∧ p < m - i + j
            · rw [if_pos c1]
              by_cases c2 : p < m - i + (j - i)
              · rw [if_pos (show m - i ≤ p ∧ p < m - i + (j - i) by omega), if_neg (by omega), if_neg (by omega)]
              · rw [if_neg (show ¬ (m - i ≤ p ∧ p < m - i + (j - i)) by omega)]
                by_cases c3 : p < m + (j - i)
                · rw [if_pos (show m - i + (j - i) ≤ p ∧ p < m + (j - i) by omega), if_pos (by omega)]
                  congr 1; omega
                · omega
            · rw [if_neg c1]
              by_cases c2 : m - i + j ≤ p ∧ p < m + j
              · rw [if_pos c2, if_neg (by omega), if_neg (by omega), if_neg (by omega), if_pos (by omega)]
                congr 1; omega
              · rw [if_neg c2, if_neg (by omega), if_neg (by omega), if_neg (by omega), if_neg (by omega)]) FUEL ((((m - a : Nat) : Int), ((b - m : Nat) : Int)), hS sl id xs)
      ⟨m - a, b - m, xs, rfl, by omega, by omega, by omega, by omega, hn, .refl _, fun p => by
        rw [show m - (m - a) = a by omega, show m + (b - m) = b by omega]⟩ (fuel_gt (by
        simp only [Int.toNat_natCast]
        omega))
  obtain ⟨i, ys, rfl, k1, k2, k3, k4, k5, k6⟩ := hp
  obtain ⟨zs, h1, h2, h3, h4⟩ := swapRange_ok (T := slices_rotateCmpFunc_int.tb T) (v := v) (t := t) hid hn63 k4 (a := m - i) (b := m) (k := i) (by omega) (by omega)
  refine ⟨zs, ?_, h2, h3.trans k5, fun p => ?_⟩
  · unfold slices_rotateCmpFunc_int
    rw [i64n (m := m - a) (by omega) (by omega), i64n (m := b - m) (by omega) (by omega), hr]
    simp -implicitDefEqProofs only [Option.bind_some]
    rw [i64n (m := m - i) (by omega) (by omega), h1]
    rfl
  · rw [k6 p, h4 p]
    by_cases c1 : m - i ≤ p ∧ p < m
    · rw [if_pos c1, if_pos (by omega)]
      congr 1; omega
    · rw [if_neg c1, if_neg (by omega)]
      by_cases c2 : m ≤ p ∧ p < m + i
      · rw [if_pos c2, if_pos c2]
        congr 1; omega
      · rw [if_neg c2, if_neg c2]
end sort
end Go.Proofs.Ytbcpdecgfdlaaaa
/- What slices.SortStableFunc does with a slice of the call's own: inserting. Conditions: those of each law. -/
namespace Go.Proofs.Ytbcpdecgfdlaaaa
open Go Go.Proofs.Ytbcpdecgfdlaaaa.Ev
set_option linter.unusedVariables false
set_option linter.unusedSimpArgs false
set_option maxRecDepth 100000
set_option maxHeartbeats 4000000
/-- A comparison that leaves the heap as it is. -/
def Cmp (T : Table) (v : V) (sl : List Slot) (id n : Nat) (D : Int → Prop) (c : Int → Int → Int) : Prop :=
  ∀ (x y : Int) (xs : List Int), D x → D y → xs.length = n → ∀ {R : Type} (k : V → H → Option R), callV T.dy v [.int .i64 x, .int .i64 y] (hS sl id xs) k = k (.int .i64 (c x y)) (hS sl id xs)
/-- What the comparison of a later element with an earlier one says of the order. -/
def Says (c : Int → Int → Int) (lt : Int → Int → Prop) (later earlier : Int) : Prop := (c later earlier < 0 → lt later earlier) ∧ (¬ c later earlier < 0 → lt earlier later)
section sort
variable {T : Table} {v : V} {sl : List Slot} {id n : Nat} {t : Bool} {D : Int → Prop} {c : Int → Int → Int} {lt : Int → Int → Prop}
theorem ins_inner (hid : id < sl.length) (hn63 : n < 4611686018427387904) (hc : Cmp T v sl id n D c) (htr : ∀ x y z, lt x y → lt y z → lt x z) {xs : List Int} (hn : xs.length = n) {a i : Nat} (hai : a ≤ i) (hi : i < n)
    (hD : ∀ k, a ≤ k → k ≤ i → D (g xs k)) (hs : ∀ p q, a ≤ p → p < q → q < i → lt (g xs p) (g xs q)) (hcmp : ∀ p, a ≤ p → p < i → Says c lt (g xs i) (g xs p)) :
    ∃ ys, iter FUEL (slices_insertionSortCmpFunc_int.loop1 T (sS id n t) (a : Int) v) ((i : Int), hS sl id xs) = some (.ex0 (), hS sl id ys) ∧ ys.length = n ∧ ys.Perm xs ∧ (∀ p, ¬ (a ≤ p ∧ p ≤ i) → g ys p = g xs p) ∧
      (∀ p, a ≤ p → p ≤ i → ∃ p', a ≤ p' ∧ p' ≤ i ∧ g ys p = g xs p') ∧ ∀ p q, a ≤ p → p < q → q ≤ i → lt (g ys p) (g ys q) := by
  obtain ⟨r, hr, hp⟩ := iter_inv (f := slices_insertionSortCmpFunc_int.loop1 T (sS id n t) (a : Int) v)
    (Inv := fun st => ∃ (j : Nat) (ys : List Int), st = ((j : Int), hS sl id ys) ∧ a ≤ j ∧ j ≤ i ∧ ys.length = n ∧ ys.Perm xs ∧ (∀ p, ¬ (a ≤ p ∧ p ≤ i) → g ys p = g xs p) ∧ g ys j = g xs i ∧
      (∀ p, a ≤ p → p ≤ i → p ≠ j → ∃ p', a ≤ p' ∧ p' < i ∧ g ys p = g xs p') ∧ (∀ p q, a ≤ p → p < q → q ≤ i → p ≠ j → q ≠ j → lt (g ys p) (g ys q)) ∧ ∀ q, j < q → q ≤ i → lt (g ys j) (g ys q))
    (Post := fun r => ∃ ys, r = (.ex0 (), hS sl id ys) ∧ ys.length = n ∧ ys.Perm xs ∧ (∀ p, ¬ (a ≤ p ∧ p ≤ i) → g ys p = g xs p) ∧
      (∀ p, a ≤ p → p ≤ i → ∃ p', a ≤ p' ∧ p' ≤ i ∧ g ys p = g xs p') ∧ ∀ p q, a ≤ p → p < q → q ≤ i → lt (g ys p) (g ys q))
    (fun st => st.1.toNat) (fun st hi' => by
      obtain ⟨j, ys, rfl, haj, hji, hl, hpm, hout, hj, hE, hso, hbe⟩ := hi'
      have hE' : ∀ p, a ≤ p → p ≤ i → ∃ p', a ≤ p' ∧ p' ≤ i ∧ g ys p = g xs p' := fun p h1 h2 => by
        by_cases e : p = j
        · subst e; exact ⟨i, hai, Nat.le_refl _, hj⟩
        · obtain ⟨p', k1, k2, k3⟩ := hE p h1 h2 e; exact ⟨p', k1, by omega, k3⟩
      by_cases hlt : a < j
      · have hDj : D (g ys j) := by rw [hj]; exact hD i hai (Nat.le_refl _)
        obtain ⟨p', e1, e2, e3⟩ := hE (j - 1) (by omega) (by omega) (by omega)
        have hDp : D (g ys (j - 1)) := by rw [e3]; exact hD p' e1 (by omega)
        have hsays : Says c lt (g ys j) (g ys (j - 1)) := by rw [hj, e3]; exact hcmp p' e1 e2
        by_cases hless : c (g ys j) (g ys (j - 1)) < 0
        · left
          have hlt2 := hsays.1 hless
          refine ⟨(((j - 1 : Nat) : Int), hS sl id (swp j (j - 1) ys)), ?_, ⟨j - 1, _, rfl, by omega, by omega, by rw [swp_length, hl], (swp_perm (by omega) (by omega)).trans hpm, fun p hp => ?_, ?_, fun p h1 h2 h3 => ?_, fun p q h1 h2 h3 h4 h5 => ?_, fun q h1 h2 => ?_⟩, by simp only [Int.toNat_natCast]; omega⟩
          · unfold slices_insertionSortCmpFunc_int.loop1
            simp -implicitDefEqProofs only [reserve0, sS_a, sS_len]
            rw [decide_eq_true (by omega), cond_true, i64n (z := (j : Int) - 1) (m := j - 1) (by omega) (by omega), Int.toNat_natCast, Int.toNat_natCast, guardO_pos (by omega), rdS hid hl (by omega)]
            simp -implicitDefEqProofs only [Option.bind_some]
            rw [guardO_pos (by omega), rdS hid hl (by omega)]
            simp -implicitDefEqProofs only [Option.bind_some]
            rw [hc _ _ ys hDj hDp hl]
            simp -implicitDefEqProofs only [pack_i, Option.bind_some]
            rw [decide_eq_true hless]
            simp -implicitDefEqProofs only [cond_true]
            rw [guardO_pos (by omega), rdS hid hl (by omega)]
            simp -implicitDefEqProofs only [Option.bind_some]
            rw [guardO_pos (by omega), rdS hid hl (by omega)]
            simp -implicitDefEqProofs only [Option.bind_some]
            rw [guardO_pos (by omega), wrS hid hl (by omega)]
            simp -implicitDefEqProofs only [Option.bind_some]
            rw [guardO_pos (by omega), wrS hid (by simpa using hl) (by omega)]
            rfl
          · rw [g_swp (by omega) (by omega), if_neg (by omega), if_neg (by omega)]
            exact hout p hp
          · rw [g_swp (by omega) (by omega), if_pos rfl, hj]
          · rw [g_swp (by omega) (by omega), if_neg h3]
            by_cases e : p = j
            · subst e; rw [if_pos rfl]; exact ⟨p', e1, e2, e3⟩
            · rw [if_neg e]; exact hE p h1 h2 e
          · rw [g_swp (by omega) (by omega), g_swp (by omega) (by omega), if_neg h4, if_neg h5]
            by_cases e : p = j
            · subst e
              rw [if_pos rfl, if_neg (by omega)]
              exact hso (p - 1) q (by omega) (by omega) h3 (by omega) (by omega)
            · rw [if_neg e]
              by_cases e' : q = j
              · subst e'
                rw [if_pos rfl]
                exact hso p (q - 1) h1 (by omega) (by omega) (by omega) (by omega)
              · rw [if_neg e']
                exact hso p q h1 h2 h3 e e'
          · rw [g_swp (by omega) (by omega), g_swp (by omega) (by omega), if_pos rfl, if_neg (by omega)]
            by_cases e : q = j
            · subst e; rw [if_pos rfl]; exact hlt2
            · rw [if_neg e]; exact hbe q (by omega) h2
        · right
          refine ⟨(.ex0 (), hS sl id ys), ?_, ys, rfl, hl, hpm, hout, hE', fun p q h1 h2 h3 => ?_⟩
          · unfold slices_insertionSortCmpFunc_int.loop1
            simp -implicitDefEqProofs only [reserve0, sS_a, sS_len]
            rw [decide_eq_true (by omega), cond_true, i64n (z := (j : Int) - 1) (m := j - 1) (by omega) (by omega), Int.toNat_natCast, Int.toNat_natCast, guardO_pos (by omega), rdS hid hl (by omega)]
            simp -implicitDefEqProofs only [Option.bind_some]
            rw [guardO_pos (by omega), rdS hid hl (by omega)]
            simp -implicitDefEqProofs only [Option.bind_some]
            rw [hc _ _ ys hDj hDp hl]
            simp -implicitDefEqProofs only [pack_i, Option.bind_some]
            rw [decide_eq_false hless]
            rfl
          · have hge := hsays.2 hless
            by_cases e : q = j
            · subst e
              by_cases e' : p = q - 1
              · subst e'; exact hge
              · exact htr _ _ _ (hso p (q - 1) h1 (by omega) (by omega) (by omega) (by omega)) hge
            · by_cases e' : p = j
              · subst e'; exact hbe q h2 h3
              · exact hso p q h1 h2 h3 e' e
      · right
        refine ⟨(.ex0 (), hS sl id ys), ?_, ys, rfl, hl, hpm, hout, hE', fun p q h1 h2 h3 => ?_⟩
        · unfold slices_insertionSortCmpFunc_int.loop1
          simp -implicitDefEqProofs only [reserve0]
          rw [decide_eq_false (by omega)]
          rfl
        · by_cases e' : p = j
          · subst e'; exact hbe q h2 h3
          · exact hso p q h1 h2 h3 e' (by omega)) FUEL ((i : Int), hS sl id xs)
    ⟨i, xs, rfl, hai, Nat.le_refl _, hn, .refl _, fun _ _ => rfl, rfl, fun p h1 h2 h3 => ⟨p, h1, by omega, rfl⟩, fun p q h1 h2 h3 h4 h5 => hs p q h1 h2 (by omega), fun q h1 h2 => by omega⟩ (fuel_gt (by
      simp only [Int.toNat_natCast]
      omega))
  obtain ⟨ys, rfl, k⟩ := hp
  exact ⟨ys, hr, k⟩
theorem insertion_ok (hid : id < sl.length) (hn63 : n < 4611686018427387904) (hc : Cmp T v sl id n D c) (htr : ∀ x y z, lt x y → lt y z → lt x z) {xs : List Int} (hn : xs.length = n) {a b : Nat} (hab : a ≤ b) (hb : b ≤ n)
    (hD : ∀ k, a ≤ k → k < b → D (g xs k)) (hcmp : ∀ p q, a ≤ p → p < q → q < b → Says c lt (g xs q) (g xs p)) :
    ∃ ys, slices_insertionSortCmpFunc_int T (sS id n t) (a : Int) (b : Int) v (hS sl id xs) = some ((), hS sl id ys) ∧ ys.length = n ∧ ys.Perm xs ∧ (∀ p, ¬ (a ≤ p ∧ p < b) → g ys p = g xs p) ∧
      (∀ p, a ≤ p → p < b → ∃ p', a ≤ p' ∧ p' < b ∧ g ys p = g xs p') ∧ ∀ p q, a ≤ p → p < q → q < b → lt (g ys p) (g ys q) := by
  obtain ⟨r, hr, hp⟩ := iter_inv (f := slices_insertionSortCmpFunc_int.loop2 T (sS id n t) (a : Int) (b : Int) v)
    (Inv := fun st => ∃ (i : Nat) (ys : List Int), st = ((i : Int), hS sl id ys) ∧ a < i ∧ (i ≤ b ∨ i = a + 1) ∧ ys.length = n ∧ ys.Perm xs ∧ (∀ p, ¬ (a ≤ p ∧ p < i ∧ p < b) → g ys p = g xs p) ∧
      (∀ p, a ≤ p → p < i → p < b → ∃ p', a ≤ p' ∧ p' < i ∧ p' < b ∧ g ys p = g xs p') ∧ ∀ p q, a ≤ p → p < q → q < i → q < b → lt (g ys p) (g ys q))
    (Post := fun r => ∃ ys, r = (.ex0 (), hS sl id ys) ∧ ys.length = n ∧ ys.Perm xs ∧ (∀ p, ¬ (a ≤ p ∧ p < b) → g ys p = g xs p) ∧
      (∀ p, a ≤ p → p < b → ∃ p', a ≤ p' ∧ p' < b ∧ g ys p = g xs p') ∧ ∀ p q, a ≤ p → p < q → q < b → lt (g ys p) (g ys q))
    (fun st => n + 1 - st.1.toNat) (fun st hi' => by
      obtain ⟨i, ys, rfl, hai, hib, hl, hpm, hout, hE, hso⟩ := hi'
      by_cases hlt : i < b
      · left
        obtain ⟨zs, h1, h2, h3, h4, h5, h6⟩ := ins_inner (t := t) hid hn63 hc htr hl (a := a) (i := i) (by omega) (by omega) (fun k k1 k2 => by
            by_cases e : k < i
            · obtain ⟨p', e1, e2, e3, e4⟩ := hE k k1 e (by omega)
              rw [e4]; exact hD p' e1 e3
            · rw [hout k (by omega)]; exact hD k k1 (by omega)) (fun p q k1 k2 k3 => hso p q k1 k2 k3 (by omega)) (fun p k1 k2 => by
            obtain ⟨p', e1, e2, e3, e4⟩ := hE p k1 k2 (by omega)
            rw [e4, hout i (by omega)]
            exact hcmp p' i e1 e2 hlt)
        refine ⟨(((i + 1 : Nat) : Int), hS sl id zs), ?_, ⟨i + 1, zs, rfl, by omega, by omega, h2, h3.trans hpm, fun p hp => ?_, fun p k1 k2 k3 => ?_, fun p q k1 k2 k3 k4 => h6 p q k1 k2 (by omega)⟩, by simp only [Int.toNat_natCast]; omega⟩
        · unfold slices_insertionSortCmpFunc_int.loop2
          simp -implicitDefEqProofs only []
          rw [decide_eq_true (by omega), cond_true, h1]
          simp -implicitDefEqProofs only [Option.bind_some]
          rw [i64_succ (by omega)]
        · rw [h4 p (by omega), hout p (by omega)]
        · obtain ⟨p', e1, e2, e3⟩ := h5 p k1 (by omega)
          rw [e3]
          by_cases e : p' < i
          · obtain ⟨p2, f1, f2, f3, f4⟩ := hE p' e1 e (by omega)
            exact ⟨p2, f1, by omega, f3, f4⟩
          · exact ⟨p', e1, by omega, by omega, hout p' (by omega)⟩
      · right
        refine ⟨(.ex0 (), hS sl id ys), ?_, ys, rfl, hl, hpm, fun p hp => hout p (by omega), fun p k1 k2 => ?_, fun p q k1 k2 k3 => hso p q k1 k2 (by omega) k3⟩
        · unfold slices_insertionSortCmpFunc_int.loop2
          simp -implicitDefEqProofs only []
          rw [decide_eq_false (by omega)]
          rfl
        · obtain ⟨p', e1, e2, e3, e4⟩ := hE p k1 (by omega) k2
          exact ⟨p', e1, e3, e4⟩) FUEL (((a + 1 : Nat) : Int), hS sl id xs)
    ⟨a + 1, xs, rfl, by omega, .inr rfl, hn, .refl _, fun _ _ => rfl, fun p h1 h2 h3 => ⟨p, h1, h2, h3, rfl⟩, fun p q h1 h2 h3 h4 => by omega⟩ (fuel_gt (by
      simp only [Int.toNat_natCast]
      omega))
  obtain ⟨ys, rfl, k⟩ := hp
  refine ⟨ys, ?_, k⟩
  unfold slices_insertionSortCmpFunc_int
  rw [i64n (z := (a : Int) + 1) (m := a + 1) (by omega) (by omega), hr]
  rfl
end sort
end Go.Proofs.Ytbcpdecgfdlaaaa
/- What slices.SortStableFunc does with a slice of the call's own: merging. Conditions: those of each law. -/
namespace Go.Proofs.Ytbcpdecgfdlaaaa
open Go Go.Proofs.Ytbcpdecgfdlaaaa.Ev
set_option linter.unusedVariables false
set_option linter.unusedSimpArgs false
set_option maxRecDepth 100000
set_option maxHeartbeats 8000000
theorem half_ok {i j : Nat} (h : i + j < 9223372036854775808) : IntKind.wrap .i64 (Int.fdiv (IntKind.wrap .u64 (IntKind.wrap .i64 ((i : Int) + (j : Int)))) (2 ^ (min (Int.toNat 1) (IntKind.bits .u64)))) = (((i + j) / 2 : Nat) : Int) := by
  rw [i64n (z := (i : Int) + j) (m := i + j) (by omega) h, IntWalk.u64_in _ (by omega)]
  rw [show (2 : Int) ^ (min (Int.toNat 1) (IntKind.bits .u64)) = ((2 : Nat) : Int) from rfl, Int.fdiv_eq_ediv_of_nonneg _ (by omega), ← Int.natCast_ediv]
  exact i64_nat (by omega)
/-- A search by halves. -/
theorem bsearch {hh : H} {F : Type} {f : (Int × Int) × H → Option (Stp ((Int × Int) × H) (Flow Int F × H))} {lo hi : Nat} (hlh : lo ≤ hi) (hbig : hi < 4611686018427387904) (P : Nat → Bool) (G B : Nat → Prop)
    (hf : ∀ i j : Nat, lo ≤ i → i < j → j ≤ hi → f (((i : Int), (j : Int)), hh) = some (.more ((((if P ((i + j) / 2) = true then (i + j) / 2 + 1 else i : Nat) : Int), ((if P ((i + j) / 2) = true then j else (i + j) / 2 : Nat) : Int)), hh)))
    (hd : ∀ i : Nat, f (((i : Int), (i : Int)), hh) = some (.done (.ex0 (i : Int), hh)))
    (hG : ∀ c, lo ≤ c → c < hi → P c = true → ∀ c', lo ≤ c' → c' ≤ c → G c') (hB : ∀ c, lo ≤ c → c < hi → P c = false → ∀ c', c ≤ c' → c' < hi → B c') :
    ∃ s : Nat, iter FUEL f (((lo : Int), (hi : Int)), hh) = some (.ex0 (s : Int), hh) ∧ lo ≤ s ∧ s ≤ hi ∧ (∀ c, lo ≤ c → c < s → G c) ∧ ∀ c, s ≤ c → c < hi → B c := by
  obtain ⟨r, hr, hp⟩ := iter_inv (f := f) (Inv := fun st => ∃ i j : Nat, st = (((i : Int), (j : Int)), hh) ∧ lo ≤ i ∧ i ≤ j ∧ j ≤ hi ∧ (∀ c, lo ≤ c → c < i → G c) ∧ ∀ c, j ≤ c → c < hi → B c)
    (Post := fun r => ∃ s : Nat, r = (.ex0 (s : Int), hh) ∧ lo ≤ s ∧ s ≤ hi ∧ (∀ c, lo ≤ c → c < s → G c) ∧ ∀ c, s ≤ c → c < hi → B c)
    (fun st => st.1.2.toNat - st.1.1.toNat) (fun st hi' => by
      obtain ⟨i, j, rfl, h1, h2, h3, h4, h5⟩ := hi'
      rcases Nat.lt_or_ge i j with hlt | hge
      · left
        refine ⟨_, hf i j h1 hlt h3, ?_, ?_⟩
        · cases hP : P ((i + j) / 2) with
          | true =>
            refine ⟨_, _, rfl, by simp only [if_true]; omega, by simp only [if_true]; omega, by simpa using h3, fun c k1 k2 => ?_, by simpa using h5⟩
            simp only [if_true] at k2
            exact hG ((i + j) / 2) (by omega) (by omega) hP c k1 (by omega)
          | false =>
            refine ⟨_, _, rfl, by simpa using h1, by simp; omega, by simp; omega, by simpa using h4, fun c k1 k2 => ?_⟩
            simp at k1
            exact hB ((i + j) / 2) (by omega) (by omega) hP c (by omega) k2
        · cases hP : P ((i + j) / 2) <;> simp <;> omega
      · right
        have : i = j := by omega
        subst this
        exact ⟨_, hd i, i, rfl, h1, h3, h4, h5⟩) FUEL (((lo : Int), (hi : Int)), hh) ⟨lo, hi, rfl, Nat.le_refl _, hlh, Nat.le_refl _, fun c k1 k2 => by omega, fun c k1 k2 => by omega⟩ (fuel_gt (by
      simp only [Int.toNat_natCast]
      omega))
  obtain ⟨s, rfl, k⟩ := hp
  exact ⟨s, hr, k⟩
section sort
variable {T : Table} {v : V} {sl : List Slot} {id n : Nat} {t : Bool} {D : Int → Prop} {c : Int → Int → Int} {lt : Int → Int → Prop}
/-- A number is carried to the right. -/
theorem carryR (hid : id < sl.length) (hn63 : n < 4611686018427387904) {xs : List Int} (hn : xs.length = n) {a i : Nat} (hai : a < i) (hi : i ≤ n) :
    ∃ ys, iter FUEL (slices_symMergeCmpFunc_int.loop2 T (sS id n t) (i : Int)) ((a : Int), hS sl id xs) = some (.ex0 (), hS sl id ys) ∧ ys.length = n ∧ ys.Perm xs ∧
      ∀ p, g ys p = if a ≤ p ∧ p < i - 1 then g xs (p + 1) else if p = i - 1 then g xs a else g xs p := by
  obtain ⟨r, hr, hp⟩ := iter_inv (f := slices_symMergeCmpFunc_int.loop2 T (sS id n t) (i : Int))
    (Inv := fun st => ∃ (k : Nat) (ys : List Int), st = ((k : Int), hS sl id ys) ∧ a ≤ k ∧ k ≤ i - 1 ∧ ys.length = n ∧ ys.Perm xs ∧ ∀ p, g ys p = if a ≤ p ∧ p < k then g xs (p + 1) else if p = k then g xs a else g xs p)
    (Post := fun r => ∃ ys, r = (.ex0 (), hS sl id ys) ∧ ys.length = n ∧ ys.Perm xs ∧ ∀ p, g ys p = if a ≤ p ∧ p < i - 1 then g xs (p + 1) else if p = i - 1 then g xs a else g xs p)
    (fun st => n - st.1.toNat) (fun st hi' => by
      obtain ⟨k, ys, rfl, hak, hki, hl, hpm, hg⟩ := hi'
      rcases Nat.lt_or_ge k (i - 1) with hlt | hge
      · left
        refine ⟨(((k + 1 : Nat) : Int), hS sl id (swp k (k + 1) ys)), ?_, ⟨k + 1, _, rfl, by omega, by omega, by rw [swp_length, hl], (swp_perm (by omega) (by omega)).trans hpm, fun p => ?_⟩, by simp only [Int.toNat_natCast]; omega⟩
        · unfold slices_symMergeCmpFunc_int.loop2
          simp -implicitDefEqProofs only [reserve0, sS_a, sS_len]
          rw [i64n (z := (i : Int) - 1) (m := i - 1) (by omega) (by omega), decide_eq_true (by omega), cond_true, i64n (z := (k : Int) + 1) (m := k + 1) (by omega) (by omega), Int.toNat_natCast, Int.toNat_natCast, guardO_pos (by omega), rdS hid hl (by omega)]
          simp -implicitDefEqProofs only [Option.bind_some]
          rw [guardO_pos (by omega), rdS hid hl (by omega)]
          simp -implicitDefEqProofs only [Option.bind_some]
          rw [guardO_pos (by omega), wrS hid hl (by omega)]
          simp -implicitDefEqProofs only [Option.bind_some]
          rw [guardO_pos (by omega), wrS hid (by simpa using hl) (by omega)]
          rfl
        · rw [g_swp (by omega) (by omega), hg, hg, hg]
          by_cases c1 : p = k + 1
          · subst c1
            rw [if_pos rfl, if_neg (by omega), if_pos rfl, if_neg (by omega), if_pos rfl]
          · rw [if_neg c1]
            by_cases c2 : p = k
            · subst c2
              rw [if_pos rfl, if_neg (by omega), if_neg (by omega), if_pos (by omega)]
            · rw [if_neg c2, if_neg c2]
              by_cases c3 : a ≤ p ∧ p < k
              · rw [if_pos c3, if_pos (by omega)]
              · rw [if_neg c3, if_neg (by omega), if_neg c1]
      · right
        have : k = i - 1 := by omega
        subst this
        refine ⟨(.ex0 (), hS sl id ys), ?_, ys, rfl, hl, hpm, hg⟩
        unfold slices_symMergeCmpFunc_int.loop2
        simp -implicitDefEqProofs only []
        rw [i64n (z := (i : Int) - 1) (m := i - 1) (by omega) (by omega), decide_eq_false (by omega)]
        rfl) FUEL ((a : Int), hS sl id xs) ⟨a, xs, rfl, Nat.le_refl _, by omega, hn, .refl _, fun p => by
        rw [if_neg (by omega)]
        by_cases e : p = a
        · subst e; rw [if_pos rfl]
        · rw [if_neg e]⟩ (fuel_gt (by
        simp only [Int.toNat_natCast]
        omega))
  obtain ⟨ys, rfl, k⟩ := hp
  exact ⟨ys, hr, k⟩
/-- A number is carried to the left. -/
theorem carryL (hid : id < sl.length) (hn63 : n < 4611686018427387904) {xs : List Int} (hn : xs.length = n) {m i : Nat} (him : i ≤ m) (hm : m < n) :
    ∃ ys, iter FUEL (slices_symMergeCmpFunc_int.loop4 T (sS id n t) (i : Int)) ((m : Int), hS sl id xs) = some (.ex0 (), hS sl id ys) ∧ ys.length = n ∧ ys.Perm xs ∧
      ∀ p, g ys p = if i < p ∧ p ≤ m then g xs (p - 1) else if p = i then g xs m else g xs p := by
  obtain ⟨r, hr, hp⟩ := iter_inv (f := slices_symMergeCmpFunc_int.loop4 T (sS id n t) (i : Int))
    (Inv := fun st => ∃ (k : Nat) (ys : List Int), st = ((k : Int), hS sl id ys) ∧ i ≤ k ∧ k ≤ m ∧ ys.length = n ∧ ys.Perm xs ∧ ∀ p, g ys p = if k < p ∧ p ≤ m then g xs (p - 1) else if p = k then g xs m else g xs p)
    (Post := fun r => ∃ ys, r = (.ex0 (), hS sl id ys) ∧ ys.length = n ∧ ys.Perm xs ∧ ∀ p, g ys p = if i < p ∧ p ≤ m then g xs (p - 1) else if p = i then g xs m else g xs p)
    (fun st => st.1.toNat) (fun st hi' => by
      obtain ⟨k, ys, rfl, hak, hki, hl, hpm, hg⟩ := hi'
      rcases Nat.lt_or_ge i k with hlt | hge
      · left
        refine ⟨(((k - 1 : Nat) : Int), hS sl id (swp k (k - 1) ys)), ?_, ⟨k - 1, _, rfl, by omega, by omega, by rw [swp_length, hl], (swp_perm (by omega) (by omega)).trans hpm, fun p => ?_⟩, by simp only [Int.toNat_natCast]; omega⟩
        · unfold slices_symMergeCmpFunc_int.loop4
          simp -implicitDefEqProofs only [reserve0, sS_a, sS_len]
          rw [decide_eq_true (by omega), cond_true, i64n (z := (k : Int) - 1) (m := k - 1) (by omega) (by omega), Int.toNat_natCast, Int.toNat_natCast, guardO_pos (by omega), rdS hid hl (by omega)]
          simp -implicitDefEqProofs only [Option.bind_some]
          rw [guardO_pos (by omega), rdS hid hl (by omega)]
          simp -implicitDefEqProofs only [Option.bind_some]
          rw [guardO_pos (by omega), wrS hid hl (by omega)]
          simp -implicitDefEqProofs only [Option.bind_some]
          rw [guardO_pos (by omega), wrS hid (by simpa using hl) (by omega)]
          rfl
        · rw [g_swp (by omega) (by omega), hg, hg, hg]
          by_cases c1 : p = k - 1
          · subst c1
            rw [if_pos rfl, if_neg (by omega), if_pos rfl, if_neg (by omega), if_pos rfl]
          · rw [if_neg c1]
            by_cases c2 : p = k
            · subst c2
              rw [if_pos rfl, if_neg (by omega), if_neg (by omega), if_pos (by omega)]
            · rw [if_neg c2, if_neg c2]
              by_cases c3 : k < p ∧ p ≤ m
              · rw [if_pos c3, if_pos (by omega)]
              · rw [if_neg c3, if_neg (by omega), if_neg c1]
      · right
        have : k = i := by omega
        subst this
        refine ⟨(.ex0 (), hS sl id ys), ?_, ys, rfl, hl, hpm, hg⟩
        unfold slices_symMergeCmpFunc_int.loop4
        simp -implicitDefEqProofs only []
        rw [decide_eq_false (by omega)]
        rfl) FUEL ((m : Int), hS sl id xs) ⟨m, xs, rfl, him, Nat.le_refl _, hn, .refl _, fun p => by
        rw [if_neg (by omega)]
        by_cases e : p = m
        · subst e; rw [if_pos rfl]
        · rw [if_neg e]⟩ (fuel_gt (by
        simp only [Int.toNat_natCast]
        omega))
  obtain ⟨ys, rfl, k⟩ := hp
  exact ⟨ys, hr, k⟩
end sort
end Go.Proofs.Ytbcpdecgfdlaaaa
/- What slices.SortStableFunc does with a slice of the call's own: merging two ordered ranges. Conditions: those of each law. -/
namespace Go.Proofs.Ytbcpdecgfdlaaaa
open Go Go.Proofs.Ytbcpdecgfdlaaaa.Ev
set_option linter.unusedVariables false
set_option linter.unusedSimpArgs false
set_option maxRecDepth 100000
set_option maxHeartbeats 8000000
section sort
variable {T : Table} {v : V} {sl : List Slot} {id n : Nat} {t : Bool} {D : Int → Prop} {c : Int → Int → Int} {lt : Int → Int → Prop}
/-- A range is put in order. -/
def Ordered (lt : Int → Int → Prop) (n a b : Nat) (xs ys : List Int) : Prop :=
  ys.length = n ∧ ys.Perm xs ∧ (∀ p, ¬ (a ≤ p ∧ p < b) → g ys p = g xs p) ∧ (∀ p, a ≤ p → p < b → ∃ p', a ≤ p' ∧ p' < b ∧ g ys p = g xs p') ∧ ∀ p q, a ≤ p → p < q → q < b → lt (g ys p) (g ys q)
theorem lt_le {lt : Int → Int → Prop} (htr : ∀ x y z, lt x y → lt y z → lt x z) {xs : List Int} {a b : Nat} (hs : ∀ p q, a ≤ p → p < q → q < b → lt (g xs p) (g xs q)) {p q : Nat} {z : Int} (h1 : a ≤ p) (h2 : p ≤ q) (h3 : q < b) (h : lt (g xs q) z) : lt (g xs p) z := by
  rcases Nat.lt_or_ge p q with h4 | h4
  · exact htr _ _ _ (hs p q h1 h4 h3) h
  · have : p = q := by omega
    subst this; exact h
theorem le_lt {lt : Int → Int → Prop} (htr : ∀ x y z, lt x y → lt y z → lt x z) {xs : List Int} {a b : Nat} (hs : ∀ p q, a ≤ p → p < q → q < b → lt (g xs p) (g xs q)) {p q : Nat} {z : Int} (h1 : a ≤ p) (h2 : p ≤ q) (h3 : q < b) (h : lt z (g xs p)) : lt z (g xs q) := by
  rcases Nat.lt_or_ge p q with h4 | h4
  · exact htr _ _ _ h (hs p q h1 h4 h3)
  · have : p = q := by omega
    subst this; exact h
/-- One element on the left. -/
theorem merge_left (hid : id < sl.length) (hn63 : n < 4611686018427387904) (hc : Cmp T v sl id n D c) (htr : ∀ x y z, lt x y → lt y z → lt x z) {xs : List Int} (hn : xs.length = n) {a b : Nat} (hab : a + 1 < b) (hb : b ≤ n)
    (hD : ∀ k, a ≤ k → k < b → D (g xs k)) (hs2 : ∀ p q, a + 1 ≤ p → p < q → q < b → lt (g xs p) (g xs q)) (hsays : ∀ q, a + 1 ≤ q → q < b → Says c lt (g xs q) (g xs a)) :
    ∃ (s : Nat) (ys : List Int), iter FUEL (slices_symMergeCmpFunc_int.loop1 T (sS id n t) (a : Int) v) ((((a + 1 : Nat) : Int), (b : Int)), hS sl id xs) = some (.ex0 (s : Int), hS sl id xs) ∧
      iter FUEL (slices_symMergeCmpFunc_int.loop2 T (sS id n t) (s : Int)) ((a : Int), hS sl id xs) = some (.ex0 (), hS sl id ys) ∧ Ordered lt n a b xs ys := by
  obtain ⟨s, h1, h2, h3, h4, h5⟩ := bsearch (f := slices_symMergeCmpFunc_int.loop1 T (sS id n t) (a : Int) v) (hh := hS sl id xs) (lo := a + 1) (hi := b) (by omega) (by omega) (fun k => decide (c (g xs k) (g xs a) < 0)) (fun k => lt (g xs k) (g xs a)) (fun k => lt (g xs a) (g xs k))
    (fun i j k1 k2 k3 => by
      unfold slices_symMergeCmpFunc_int.loop1
      simp -implicitDefEqProofs only [reserve0, sS_a, sS_len]
      rw [decide_eq_true (by omega), cond_true, half_ok (by omega), Int.toNat_natCast, Int.toNat_natCast, guardO_pos (by omega), rdS hid hn (by omega)]
      simp -implicitDefEqProofs only [Option.bind_some]
      rw [guardO_pos (by omega), rdS hid hn (by omega)]
      simp -implicitDefEqProofs only [Option.bind_some]
      rw [hc _ _ xs (hD _ (by omega) (by omega)) (hD _ (by omega) (by omega)) hn]
      simp -implicitDefEqProofs only [pack_i, Option.bind_some]
      rw [i64_succ (by omega)]
      by_cases hl : c (g xs ((i + j) / 2)) (g xs a) < 0
      · simp -implicitDefEqProofs only [decide_eq_true hl, cond_true, if_true]; rfl
      · simp -implicitDefEqProofs only [decide_eq_false hl, cond_false]; rfl)
    (fun i => by
      unfold slices_symMergeCmpFunc_int.loop1
      simp -implicitDefEqProofs only []
      rw [decide_eq_false (by omega)]
      rfl)
    (fun k k1 k2 k3 k' k4 k5 => lt_le htr hs2 k4 k5 k2 ((hsays k k1 k2).1 (of_decide_eq_true k3)))
    (fun k k1 k2 k3 k' k4 k5 => le_lt htr hs2 k1 k4 k5 ((hsays k k1 k2).2 (of_decide_eq_false k3)))
  obtain ⟨ys, g1, g2, g3, g4⟩ := carryR (T := T) (t := t) hid hn63 hn (a := a) (i := s) (by omega) (by omega)
  refine ⟨s, ys, h1, g1, g2, g3, fun p hp => ?_, fun p p1 p2 => ?_, fun p q p1 p2 p3 => ?_⟩
  · rw [g4, if_neg (by omega), if_neg (by omega)]
  · rw [g4]
    by_cases c1 : a ≤ p ∧ p < s - 1
    · rw [if_pos c1]; exact ⟨p + 1, by omega, by omega, rfl⟩
    · rw [if_neg c1]
      by_cases c2 : p = s - 1
      · rw [if_pos c2]; exact ⟨a, by omega, by omega, rfl⟩
      · rw [if_neg c2]; exact ⟨p, p1, p2, rfl⟩
  · rw [g4, g4]
    by_cases c1 : p < s - 1
    · rw [if_pos (by omega)]
      by_cases c2 : q < s - 1
      · rw [if_pos (by omega)]; exact hs2 _ _ (by omega) (by omega) (by omega)
      · rw [if_neg (by omega)]
        by_cases c3 : q = s - 1
        · rw [if_pos c3]; exact h4 _ (by omega) (by omega)
        · rw [if_neg c3]; exact hs2 _ _ (by omega) (by omega) (by omega)
    · rw [if_neg (by omega)]
      by_cases c3 : p = s - 1
      · rw [if_pos c3, if_neg (by omega), if_neg (by omega)]; exact h5 _ (by omega) (by omega)
      · rw [if_neg c3, if_neg (by omega), if_neg (by omega)]; exact hs2 _ _ (by omega) (by omega) (by omega)
/-- One element on the right. -/
theorem merge_right (hid : id < sl.length) (hn63 : n < 4611686018427387904) (hc : Cmp T v sl id n D c) (htr : ∀ x y z, lt x y → lt y z → lt x z) {xs : List Int} (hn : xs.length = n) {a m : Nat} (ham : a < m) (hm : m < n)
    (hD : ∀ k, a ≤ k → k < m + 1 → D (g xs k)) (hs1 : ∀ p q, a ≤ p → p < q → q < m → lt (g xs p) (g xs q)) (hsays : ∀ p, a ≤ p → p < m → Says c lt (g xs m) (g xs p)) :
    ∃ (s : Nat) (ys : List Int), iter FUEL (slices_symMergeCmpFunc_int.loop3 T (sS id n t) (m : Int) v) (((a : Int), (m : Int)), hS sl id xs) = some (.ex0 (s : Int), hS sl id xs) ∧
      iter FUEL (slices_symMergeCmpFunc_int.loop4 T (sS id n t) (s : Int)) ((m : Int), hS sl id xs) = some (.ex0 (), hS sl id ys) ∧ Ordered lt n a (m + 1) xs ys := by
  obtain ⟨s, h1, h2, h3, h4, h5⟩ := bsearch (f := slices_symMergeCmpFunc_int.loop3 T (sS id n t) (m : Int) v) (hh := hS sl id xs) (lo := a) (hi := m) (by omega) (by omega) (fun k => !decide (c (g xs m) (g xs k) < 0)) (fun k => lt (g xs k) (g xs m)) (fun k => lt (g xs m) (g xs k))
    (fun i j k1 k2 k3 => by
      unfold slices_symMergeCmpFunc_int.loop3
      simp -implicitDefEqProofs only [reserve0, sS_a, sS_len]
      rw [decide_eq_true (by omega), cond_true, half_ok (by omega), Int.toNat_natCast, Int.toNat_natCast, guardO_pos (by omega), rdS hid hn (by omega)]
      simp -implicitDefEqProofs only [Option.bind_some]
      rw [guardO_pos (by omega), rdS hid hn (by omega)]
      simp -implicitDefEqProofs only [Option.bind_some]
      rw [hc _ _ xs (hD _ (by omega) (by omega)) (hD _ (by omega) (by omega)) hn]
      simp -implicitDefEqProofs only [pack_i, Option.bind_some]
      rw [i64_succ (by omega)]
      by_cases hl : c (g xs m) (g xs ((i + j) / 2)) < 0
      · simp -implicitDefEqProofs only [decide_eq_true hl, cond_true, cond_false, Bool.not_true]; rfl
      · simp -implicitDefEqProofs only [decide_eq_false hl, cond_true, cond_false, Bool.not_false, if_true]; rfl)
    (fun i => by
      unfold slices_symMergeCmpFunc_int.loop3
      simp -implicitDefEqProofs only []
      rw [decide_eq_false (by omega)]
      rfl)
    (fun k k1 k2 k3 k' k4 k5 => lt_le htr hs1 k4 k5 k2 ((hsays k k1 k2).2 (by simpa using k3)))
    (fun k k1 k2 k3 k' k4 k5 => le_lt htr hs1 k1 k4 k5 ((hsays k k1 k2).1 (by simpa using k3)))
  obtain ⟨ys, g1, g2, g3, g4⟩ := carryL (T := T) (t := t) hid hn63 hn (m := m) (i := s) (by omega) (by omega)
  refine ⟨s, ys, h1, g1, g2, g3, fun p hp => ?_, fun p p1 p2 => ?_, fun p q p1 p2 p3 => ?_⟩
  · rw [g4, if_neg (by omega), if_neg (by omega)]
  · rw [g4]
    by_cases c1 : s < p ∧ p ≤ m
    · rw [if_pos c1]; exact ⟨p - 1, by omega, by omega, rfl⟩
    · rw [if_neg c1]
      by_cases c2 : p = s
      · rw [if_pos c2]; exact ⟨m, by omega, by omega, rfl⟩
      · rw [if_neg c2]; exact ⟨p, p1, p2, rfl⟩
  · rw [g4, g4]
    by_cases c1 : p < s
    · rw [if_neg (show ¬ (s < p ∧ p ≤ m) by omega), if_neg (by omega)]
      by_cases c2 : s < q
      · rw [if_pos (by omega)]; exact hs1 _ _ (by omega) (by omega) (by omega)
      · rw [if_neg (by omega)]
        by_cases c3 : q = s
        · rw [if_pos c3]; exact h4 _ (by omega) (by omega)
        · rw [if_neg c3]; exact hs1 _ _ (by omega) (by omega) (by omega)
    · by_cases c3 : p = s
      · rw [if_neg (show ¬ (s < p ∧ p ≤ m) by omega), if_pos c3, if_pos (by omega)]; exact h5 _ (by omega) (by omega)
      · rw [if_pos (show s < p ∧ p ≤ m by omega), if_pos (by omega)]; exact hs1 _ _ (by omega) (by omega) (by omega)
theorem symMerge_ok (hid : id < sl.length) (hn63 : n < 1152921504606846976) (hc : Cmp T v sl id n D c) (htr : ∀ x y z, lt x y → lt y z → lt x z) : ∀ (d a m b : Nat) (xs : List Int), xs.length = n → a < m → m < b → b ≤ n → b - a ≤ 2 ^ d →
    (∀ k, a ≤ k → k < b → D (g xs k)) → (∀ p q, a ≤ p → p < q → q < m → lt (g xs p) (g xs q)) → (∀ p q, m ≤ p → p < q → q < b → lt (g xs p) (g xs q)) → (∀ p q, a ≤ p → p < m → m ≤ q → q < b → Says c lt (g xs q) (g xs p)) →
    ∃ ys, slices_symMergeCmpFunc_int.lev T d (sS id n t) (a : Int) (m : Int) (b : Int) v (hS sl id xs) = some ((), hS sl id ys) ∧ Ordered lt n a b xs ys
  | 0, a, m, b, xs, hn, ham, hmb, hb, hd, hD, hs1, hs2, hsays => by omega
  | d + 1, a, m, b, xs, hn, ham, hmb, hb, hd, hD, hs1, hs2, hsays => by
    show ∃ ys, slices_symMergeCmpFunc_int.step T (slices_symMergeCmpFunc_int.lev T d) (sS id n t) (a : Int) (m : Int) (b : Int) v (hS sl id xs) = some ((), hS sl id ys) ∧ Ordered lt n a b xs ys
    unfold slices_symMergeCmpFunc_int.step
    rw [i64n (z := (m : Int) - a) (m := m - a) (by omega) (by omega)]
    by_cases h1 : m - a = 1
    · have hma : m = a + 1 := by omega
      subst hma
      obtain ⟨s, ys, k1, k2, k3⟩ := merge_left (t := t) hid (by omega) hc htr hn (a := a) (b := b) (by omega) hb hD hs2 (fun q q1 q2 => hsays a q (Nat.le_refl _) (by omega) q1 q2)
      refine ⟨ys, ?_, k3⟩
      rw [decide_eq_true (by omega), k1]
      simp -implicitDefEqProofs only [cond_true, Option.bind_some]
      rw [k2]
      rfl
    · rw [decide_eq_false (show ¬ (((m - a : Nat) : Int) = 1) by omega), i64n (z := (b : Int) - m) (m := b - m) (by omega) (by omega)]
      simp -implicitDefEqProofs only [cond_false]
      by_cases h2 : b - m = 1
      · have hbm : b = m + 1 := by omega
        subst hbm
        obtain ⟨s, ys, k1, k2, k3⟩ := merge_right (t := t) hid (by omega) hc htr hn (a := a) (m := m) ham (by omega) hD hs1 (fun p p1 p2 => hsays p m p1 p2 (Nat.le_refl _) (by omega))
        refine ⟨ys, ?_, k3⟩
        rw [decide_eq_true (by omega), k1]
        simp -implicitDefEqProofs only [cond_true, Option.bind_some]
        rw [k2]
        rfl
      · rw [decide_eq_false (show ¬ (((b - m : Nat) : Int) = 1) by omega), half_ok (i := a) (j := b) (by omega)]
        simp -implicitDefEqProofs only [cond_false]
        obtain ⟨mid, hmid⟩ : ∃ mid, mid = (a + b) / 2 := ⟨_, rfl⟩
        rw [← hmid, i64n (z := (mid : Int) + m) (m := mid + m) (by omega) (by omega)]
        obtain ⟨lo, hlo⟩ : ∃ lo, lo = if mid < m then mid + m - b else a := ⟨_, rfl⟩
        obtain ⟨hi, hhi⟩ : ∃ hi, hi = if mid < m then mid else m := ⟨_, rfl⟩
        have hcond : (bif decide ((mid : Int) < (m : Int)) then (some (.next (IntKind.wrap .i64 (((mid + m : Nat) : Int) - (b : Int)), (mid : Int)), hS sl id xs) : Option (Flow (Int × Int) Unit × H)) else some (.next ((a : Int), (m : Int)), hS sl id xs)) = some (.next ((lo : Int), (hi : Int)), hS sl id xs) := by
          by_cases e : mid < m
          · rw [decide_eq_true (by omega), i64n (z := ((mid + m : Nat) : Int) - b) (m := mid + m - b) (by omega) (by omega), hlo, hhi, if_pos e, if_pos e]; rfl
          · rw [decide_eq_false (by omega), hlo, hhi, if_neg e, if_neg e]; rfl
        rw [hcond]
        simp -implicitDefEqProofs only [Option.bind_some]
        have b1 : lo ≤ hi ∧ a ≤ lo ∧ hi ≤ m ∧ hi ≤ mid ∧ (lo = a ∨ lo = mid + m - b) ∧ (hi = mid ∨ hi = m) ∧ mid + m - lo ≤ b := by
          by_cases e : mid < m
          · rw [if_pos e] at hlo hhi; omega
          · rw [if_neg e] at hlo hhi; omega
        clear hlo hhi hcond
        obtain ⟨b1, b2, b3, b4, b5, b6, b7⟩ := b1
        obtain ⟨s, g1, g2, g3, g4, g5⟩ := bsearch (f := slices_symMergeCmpFunc_int.loop5 T (sS id n t) (a : Int) (m : Int) (b : Int) v) (hh := hS sl id xs) (lo := lo) (hi := hi) b1 (by omega) (fun k => !decide (c (g xs (mid + m - 1 - k)) (g xs k) < 0)) (fun k => lt (g xs k) (g xs (mid + m - 1 - k))) (fun k => lt (g xs (mid + m - 1 - k)) (g xs k))
          (fun i j k1 k2 k3 => by
            unfold slices_symMergeCmpFunc_int.loop5
            simp -implicitDefEqProofs only [reserve0, sS_a, sS_len]
            rw [decide_eq_true (by omega), cond_true, half_ok (i := a) (j := b) (by omega), half_ok (i := i) (j := j) (by omega), ← hmid, i64n (z := (mid : Int) + m) (m := mid + m) (by omega) (by omega), i64n (z := ((mid + m : Nat) : Int) - 1) (m := mid + m - 1) (by omega) (by omega), i64n (z := ((mid + m - 1 : Nat) : Int) - (((i + j) / 2 : Nat) : Int)) (m := mid + m - 1 - (i + j) / 2) (by omega) (by omega), Int.toNat_natCast, Int.toNat_natCast, guardO_pos (by omega), rdS hid hn (by omega)]
            simp -implicitDefEqProofs only [Option.bind_some]
            rw [guardO_pos (by omega), rdS hid hn (by omega)]
            simp -implicitDefEqProofs only [Option.bind_some]
            rw [hc _ _ xs (hD _ (by omega) (by omega)) (hD _ (by omega) (by omega)) hn]
            simp -implicitDefEqProofs only [pack_i, Option.bind_some]
            rw [i64_succ (by omega)]
            by_cases hl : c (g xs (mid + m - 1 - (i + j) / 2)) (g xs ((i + j) / 2)) < 0
            · simp -implicitDefEqProofs only [decide_eq_true hl, cond_true, cond_false, Bool.not_true]; rfl
            · simp -implicitDefEqProofs only [decide_eq_false hl, cond_true, cond_false, Bool.not_false, if_true]; rfl)
          (fun i => by
            unfold slices_symMergeCmpFunc_int.loop5
            simp -implicitDefEqProofs only []
            rw [decide_eq_false (by omega)]
            rfl)
          (fun k k1 k2 k3 k' k4 k5 => by
            have h0 := (hsays k (mid + m - 1 - k) (by omega) (by omega) (by omega) (by omega)).2 (by simpa using k3)
            exact lt_le htr hs1 (by omega) k5 (by omega) (le_lt htr hs2 (p := mid + m - 1 - k) (by omega) (by omega) (by omega) h0))
          (fun k k1 k2 k3 k' k4 k5 => by
            have h0 := (hsays k (mid + m - 1 - k) (by omega) (by omega) (by omega) (by omega)).1 (by simpa using k3)
            exact le_lt htr hs1 (p := k) (by omega) k4 (by omega) (lt_le htr hs2 (p := mid + m - 1 - k') (q := mid + m - 1 - k) (by omega) (by omega) (by omega) h0))
        rw [g1]
        simp -implicitDefEqProofs only [Option.bind_some]
        obtain ⟨e, he⟩ : ∃ e, e = mid + m - s := ⟨_, rfl⟩
        rw [i64n (z := ((mid + m : Nat) : Int) - s) (m := e) (by omega) (by omega)]
        -- what lies across the middle
        have F1 : a < s → e < b → lt (g xs (s - 1)) (g xs e) := fun h1 h2 => by
          have := g4 (s - 1) (by omega) (by omega)
          rwa [show mid + m - 1 - (s - 1) = e by omega] at this
        have F2 : s < m → m < e → lt (g xs (e - 1)) (g xs s) := fun h1 h2 => by
          have := g5 s (Nat.le_refl _) (by omega)
          rwa [show mid + m - 1 - s = e - 1 by omega] at this
        clear g4 g5 g1
        -- the rotation
        have hrot : ∃ ys, ((bif decide ((s : Int) < (m : Int)) then some (decide ((m : Int) < (e : Int)), hS sl id xs) else some (false, hS sl id xs) : Option (Bool × H)).bind fun x => (bif x.1 then ((slices_rotateCmpFunc_int (slices_symMergeCmpFunc_int.tb T) (sS id n t) (s : Int) (m : Int) (e : Int) v x.2).bind fun x => some (.next (), x.2)) else some (.next (), x.2) : Option (Flow Unit Unit × H))) = some (.next (), hS sl id ys) ∧
            ys.length = n ∧ ys.Perm xs ∧ ∀ p, g ys p = if s ≤ p ∧ p < mid then g xs (p + (m - s)) else if mid ≤ p ∧ p < e then g xs (p - (e - m)) else g xs p := by
          by_cases r1 : s < m ∧ m < e
          · obtain ⟨ys, k1, k2, k3, k4⟩ := rotate_ok (T := slices_symMergeCmpFunc_int.tb T) (v := v) (t := t) hid (by omega) hn (a := s) (m := m) (b := e) r1.1 r1.2 (by omega)
            refine ⟨ys, ?_, k2, k3, fun p => ?_⟩
            · rw [decide_eq_true (by omega), decide_eq_true (by omega)]
              simp -implicitDefEqProofs only [cond_true, Option.bind_some, k1]
            · rw [k4 p, show s + (e - m) = mid by omega]
          · refine ⟨xs, ?_, hn, .refl _, fun p => ?_⟩
            · by_cases r2 : s < m
              · rw [decide_eq_true (by omega), decide_eq_false (by omega)]; rfl
              · rw [decide_eq_false (by omega)]; rfl
            · by_cases c1 : s ≤ p ∧ p < mid
              · rw [if_pos c1]; congr 1; omega
              · rw [if_neg c1]
                by_cases c2 : mid ≤ p ∧ p < e
                · rw [if_pos c2]; congr 1; omega
                · rw [if_neg c2]
        obtain ⟨ys, r1, r2, r3, r4⟩ := hrot
        have ysL : ∀ p, a ≤ p → p < s → g ys p = g xs p := fun p h1 h2 => by rw [r4, if_neg (by omega), if_neg (by omega)]
        have ysM : ∀ p, s ≤ p → p < mid → g ys p = g xs (p + (m - s)) := fun p h1 h2 => by rw [r4, if_pos ⟨h1, h2⟩]
        have ysN : ∀ p, mid ≤ p → p < e → g ys p = g xs (p - (e - m)) := fun p h1 h2 => by rw [r4, if_neg (by omega), if_pos ⟨h1, h2⟩]
        have ysR : ∀ p, e ≤ p → g ys p = g xs p := fun p h1 => by rw [r4, if_neg (by omega), if_neg (by omega)]
        have hDy : ∀ k, a ≤ k → k < b → D (g ys k) := fun k h1 h2 => by
          by_cases c1 : k < s
          · rw [ysL k h1 c1]; exact hD k h1 h2
          · by_cases c2 : k < mid
            · rw [ysM k (by omega) c2]; exact hD _ (by omega) (by omega)
            · by_cases c3 : k < e
              · rw [ysN k (by omega) c3]; exact hD _ (by omega) (by omega)
              · rw [ysR k (by omega)]; exact hD k h1 h2
        rw [← Option.bind_assoc, r1]
        simp -implicitDefEqProofs only [Option.bind_some]
        have s1 : ∀ p q, a ≤ p → p < q → q < s → lt (g ys p) (g ys q) := fun p q h1 h2 h3 => by rw [ysL p h1 (by omega), ysL q (by omega) h3]; exact hs1 p q h1 h2 (by omega)
        have s2 : ∀ p q, s ≤ p → p < q → q < mid → lt (g ys p) (g ys q) := fun p q h1 h2 h3 => by rw [ysM p h1 (by omega), ysM q (by omega) h3]; exact hs2 _ _ (by omega) (by omega) (by omega)
        have s3 : ∀ p q, mid ≤ p → p < q → q < e → lt (g ys p) (g ys q) := fun p q h1 h2 h3 => by rw [ysN p h1 (by omega), ysN q (by omega) h3]; exact hs1 _ _ (by omega) (by omega) (by omega)
        have s4 : ∀ p q, e ≤ p → p < q → q < b → lt (g ys p) (g ys q) := fun p q h1 h2 h3 => by rw [ysR p h1, ysR q (by omega)]; exact hs2 _ _ (by omega) (by omega) (by omega)
        -- the left half
        have hleft : ∃ zs, ((bif decide ((a : Int) < (s : Int)) then some (decide ((s : Int) < (mid : Int)), hS sl id ys) else some (false, hS sl id ys) : Option (Bool × H)).bind fun x => (bif x.1 then ((slices_symMergeCmpFunc_int.lev T d (sS id n t) (a : Int) (s : Int) (mid : Int) v x.2).bind fun x => some (.next (), x.2)) else some (.next (), x.2) : Option (Flow Unit Unit × H))) = some (.next (), hS sl id zs) ∧ Ordered lt n a mid ys zs := by
          by_cases c1 : a < s ∧ s < mid
          · obtain ⟨zs, k1, k2⟩ := symMerge_ok hid hn63 hc htr d a s mid ys r2 c1.1 c1.2 (by omega) (by rw [Nat.pow_succ] at hd; omega) (fun k h1 h2 => hDy k h1 (by omega)) s1 s2 (fun p q h1 h2 h3 h4 => by
              rw [ysL p h1 h2, ysM q h3 h4]; exact hsays _ _ h1 (by omega) (by omega) (by omega))
            refine ⟨zs, ?_, k2⟩
            rw [decide_eq_true (by omega), decide_eq_true (by omega)]
            simp -implicitDefEqProofs only [cond_true, Option.bind_some, k1]
          · refine ⟨ys, ?_, r2, .refl _, fun _ _ => rfl, fun p h1 h2 => ⟨p, h1, h2, rfl⟩, fun p q h1 h2 h3 => ?_⟩
            · by_cases c2 : a < s
              · rw [decide_eq_true (by omega), decide_eq_false (by omega)]; rfl
              · rw [decide_eq_false (by omega)]; rfl
            · by_cases c2 : a < s
              · exact s1 p q h1 h2 (by omega)
              · exact s2 p q (by omega) h2 h3
        obtain ⟨zs, l1, l2, l3, l4, l5, l6⟩ := hleft
        rw [← Option.bind_assoc, l1]
        simp -implicitDefEqProofs only [Option.bind_some]
        have zR : ∀ p, mid ≤ p → g zs p = g ys p := fun p h => l4 p (by omega)
        -- the right half
        have hright : ∃ ws, ((bif decide ((mid : Int) < (e : Int)) then some (decide ((e : Int) < (b : Int)), hS sl id zs) else some (false, hS sl id zs) : Option (Bool × H)).bind fun x => (bif x.1 then ((slices_symMergeCmpFunc_int.lev T d (sS id n t) (mid : Int) (e : Int) (b : Int) v x.2).bind fun x => some (.next (), x.2)) else some (.next (), x.2) : Option (Flow Unit Unit × H))) = some (.next (), hS sl id ws) ∧ Ordered lt n mid b zs ws := by
          by_cases c1 : mid < e ∧ e < b
          · obtain ⟨ws, k1, k2⟩ := symMerge_ok hid hn63 hc htr d mid e b zs l2 c1.1 c1.2 (by omega) (by rw [Nat.pow_succ] at hd; omega) (fun k h1 h2 => by rw [zR k h1]; exact hDy k (by omega) h2) (fun p q h1 h2 h3 => by rw [zR p h1, zR q (by omega)]; exact s3 p q h1 h2 h3) (fun p q h1 h2 h3 => by rw [zR p (by omega), zR q (by omega)]; exact s4 p q h1 h2 h3) (fun p q h1 h2 h3 h4 => by
              rw [zR p h1, zR q (by omega), ysN p h1 h2, ysR q h3]; exact hsays _ _ (by omega) (by omega) (by omega) (by omega))
            refine ⟨ws, ?_, k2⟩
            rw [decide_eq_true (by omega), decide_eq_true (by omega)]
            simp -implicitDefEqProofs only [cond_true, Option.bind_some, k1]
          · refine ⟨zs, ?_, l2, .refl _, fun _ _ => rfl, fun p h1 h2 => ⟨p, h1, h2, rfl⟩, fun p q h1 h2 h3 => ?_⟩
            · by_cases c2 : mid < e
              · rw [decide_eq_true (by omega), decide_eq_false (by omega)]; rfl
              · rw [decide_eq_false (by omega)]; rfl
            · rw [zR p h1, zR q (by omega)]
              by_cases c2 : mid < e
              · exact s3 p q h1 h2 (by omega)
              · exact s4 p q (by omega) h2 h3
        obtain ⟨ws, w1, w2, w3, w4, w5, w6⟩ := hright
        rw [← Option.bind_assoc, w1]
        simp -implicitDefEqProofs only [Option.bind_some]
        refine ⟨ws, rfl, w2, w3.trans (l3.trans r3), fun p hp => ?_, fun p h1 h2 => ?_, fun p q h1 h2 h3 => ?_⟩
        · rw [w4 p (by omega), l4 p (by omega), r4, if_neg (by omega), if_neg (by omega)]
        · have hy : ∃ p', a ≤ p' ∧ p' < b ∧ g ws p = g ys p' := by
            by_cases c1 : p < mid
            · obtain ⟨p', k1, k2, k3⟩ := l5 p h1 c1
              exact ⟨p', k1, by omega, by rw [w4 p (by omega), k3]⟩
            · obtain ⟨p', k1, k2, k3⟩ := w5 p (by omega) h2
              exact ⟨p', by omega, k2, by rw [k3, zR p' k1]⟩
          obtain ⟨p', k1, k2, k3⟩ := hy
          rw [k3]
          by_cases c1 : p' < s
          · exact ⟨p', k1, k2, ysL p' k1 c1⟩
          · by_cases c2 : p' < mid
            · exact ⟨_, by omega, by omega, ysM p' (by omega) c2⟩
            · by_cases c3 : p' < e
              · exact ⟨_, by omega, by omega, ysN p' (by omega) c3⟩
              · exact ⟨p', k1, k2, ysR p' (by omega)⟩
        · by_cases c1 : q < mid
          · rw [w4 p (by omega), w4 q (by omega)]
            exact l6 p q h1 h2 c1
          · by_cases c2 : mid ≤ p
            · exact w6 p q c2 h2 h3
            · obtain ⟨p', k1, k2, k3⟩ := l5 p h1 (by omega)
              obtain ⟨q', k4, k5, k6⟩ := w5 q (by omega) h3
              rw [w4 p (by omega), k3, k6, zR q' k4]
              by_cases d1 : p' < s
              · rw [ysL p' k1 d1]
                by_cases d2 : q' < e
                · rw [ysN q' k4 d2]
                  exact hs1 _ _ k1 (by omega) (by omega)
                · rw [ysR q' (by omega)]
                  exact lt_le htr hs1 k1 (show p' ≤ s - 1 by omega) (by omega) (le_lt htr hs2 (p := e) (q := q') (by omega) (by omega) (by omega) (F1 (by omega) (by omega)))
              · rw [ysM p' (by omega) k2]
                by_cases d2 : q' < e
                · rw [ysN q' k4 d2]
                  exact lt_le htr hs2 (by omega) (show p' + (m - s) ≤ e - 1 by omega) (by omega) (le_lt htr hs1 (p := s) (q := q' - (e - m)) (by omega) (by omega) (by omega) (F2 (by omega) (by omega)))
                · rw [ysR q' (by omega)]
                  exact hs2 _ _ (by omega) (by omega) (by omega)
end sort
end Go.Proofs.Ytbcpdecgfdlaaaa
/- What slices.SortStableFunc does with a slice of the call's own of at most 64 numbers. Conditions: those of each law. -/
namespace Go.Proofs.Ytbcpdecgfdlaaaa
open Go Go.Proofs.Ytbcpdecgfdlaaaa.Ev
set_option linter.unusedVariables false
set_option linter.unusedSimpArgs false
set_option maxRecDepth 100000
set_option maxHeartbeats 8000000
theorem iter_more {S F : Type} {f : S → Option (Stp S F)} {s s' : S} {k : Nat} (h : f s = some (.more s')) : iter (k + 1) f s = iter k f s' := by simp [iter, h]
theorem iter_done {S F : Type} {f : S → Option (Stp S F)} {s : S} {x : F} {k : Nat} (h : f s = some (.done x)) : iter (k + 1) f s = some x := by simp [iter, h]
theorem fuel3 : FUEL = FUEL - 3 + 1 + 1 + 1 := by unfold FUEL; omega
section sort
variable {T : Table} {v : V} {sl : List Slot} {id n : Nat} {t : Bool} {D : Int → Prop} {c : Int → Int → Int} {lt : Int → Int → Prop}
/-- In blocks of a size all is in order, and each number stays in its block. -/
def Blocks (lt : Int → Int → Prop) (n w : Nat) (xs ys : List Int) : Prop :=
  ys.length = n ∧ ys.Perm xs ∧ (∀ p, p < n → ∃ p', p' < n ∧ p' / w = p / w ∧ g ys p = g xs p') ∧ ∀ p q, p < q → q < n → p / w = q / w → lt (g ys p) (g ys q)
theorem blocks20 (hid : id < sl.length) (hn64 : n ≤ 64) (hc : Cmp T v sl id n D c) (htr : ∀ x y z, lt x y → lt y z → lt x z) {xs : List Int} (hn : xs.length = n)
    (hD : ∀ k, k < n → D (g xs k)) (hsays : ∀ p q, p < q → q < n → Says c lt (g xs q) (g xs p)) :
    ∃ (a : Nat) (ys zs : List Int), iter FUEL (slices_stableCmpFunc_int.loop1 T (sS id n t) (n : Int) v) ((0, 20), hS sl id xs) = some (.ex0 (a : Int), hS sl id ys) ∧
      slices_insertionSortCmpFunc_int (slices_stableCmpFunc_int.tb T) (sS id n t) (a : Int) (n : Int) v (hS sl id ys) = some ((), hS sl id zs) ∧ Blocks lt n 20 xs zs := by
  obtain ⟨r, hr, hp⟩ := iter_inv (f := slices_stableCmpFunc_int.loop1 T (sS id n t) (n : Int) v)
    (Inv := fun st => ∃ (k : Nat) (ys : List Int), st = ((((20 * k : Nat) : Int), ((20 * k + 20 : Nat) : Int)), hS sl id ys) ∧ 20 * k ≤ n ∧ ys.length = n ∧ ys.Perm xs ∧ (∀ p, 20 * k ≤ p → g ys p = g xs p) ∧
      (∀ p, p < 20 * k → ∃ p', p' < 20 * k ∧ p' / 20 = p / 20 ∧ g ys p = g xs p') ∧ ∀ p q, p < q → q < 20 * k → p / 20 = q / 20 → lt (g ys p) (g ys q))
    (Post := fun r => ∃ (k : Nat) (ys : List Int), r = (.ex0 ((20 * k : Nat) : Int), hS sl id ys) ∧ 20 * k ≤ n ∧ n < 20 * k + 20 ∧ ys.length = n ∧ ys.Perm xs ∧ (∀ p, 20 * k ≤ p → g ys p = g xs p) ∧
      (∀ p, p < 20 * k → ∃ p', p' < 20 * k ∧ p' / 20 = p / 20 ∧ g ys p = g xs p') ∧ ∀ p q, p < q → q < 20 * k → p / 20 = q / 20 → lt (g ys p) (g ys q))
    (fun st => n + 20 - st.1.2.toNat) (fun st hi' => by
      obtain ⟨k, ys, rfl, hk, hl, hpm, hout, hE, hso⟩ := hi'
      by_cases hlt : 20 * k + 20 ≤ n
      · left
        obtain ⟨zs, h1, h2, h3, h4, h5, h6⟩ := insertion_ok (T := slices_stableCmpFunc_int.tb T) (t := t) hid (by omega) (fun x y xs => hc x y xs) htr hl (a := 20 * k) (b := 20 * k + 20) (by omega) hlt (fun p p1 p2 => by rw [hout p p1]; exact hD p (by omega)) (fun p q p1 p2 p3 => by
          rw [hout p p1, hout q (by omega)]; exact hsays p q p2 (by omega))
        refine ⟨((((20 * (k + 1) : Nat) : Int), ((20 * (k + 1) + 20 : Nat) : Int)), hS sl id zs), ?_, ⟨k + 1, zs, rfl, by omega, h2, h3.trans hpm, fun p hp => ?_, fun p hp => ?_, fun p q h7 h8 h9 => ?_⟩, by simp only [Int.toNat_natCast]; omega⟩
        · unfold slices_stableCmpFunc_int.loop1
          simp -implicitDefEqProofs only []
          rw [decide_eq_true (by omega), cond_true, h1]
          simp -implicitDefEqProofs only [Option.bind_some]
          rw [i64n (z := ((20 * k + 20 : Nat) : Int) + 20) (m := 20 * (k + 1) + 20) (by omega) (by omega)]
          rfl
        · rw [h4 p (by omega), hout p (by omega)]
        · by_cases c1 : p < 20 * k
          · obtain ⟨p', e1, e2, e3⟩ := hE p c1
            exact ⟨p', by omega, e2, by rw [h4 p (by omega), e3]⟩
          · obtain ⟨p', e1, e2, e3⟩ := h5 p (by omega) (by omega)
            exact ⟨p', by omega, by omega, by rw [e3, hout p' e1]⟩
        · by_cases c1 : q < 20 * k
          · rw [h4 p (by omega), h4 q (by omega)]
            exact hso p q h7 c1 h9
          · exact h6 p q (by omega) h7 (by omega)
      · right
        refine ⟨_, ?_, k, ys, rfl, hk, by omega, hl, hpm, hout, hE, hso⟩
        unfold slices_stableCmpFunc_int.loop1
        simp -implicitDefEqProofs only []
        rw [decide_eq_false (by omega), cond_false]) FUEL ((0, 20), hS sl id xs) ⟨0, xs, rfl, by omega, hn, .refl _, fun _ _ => rfl, fun p hp => by omega, fun p q h1 h2 => by omega⟩ (fuel_gt (by
      show n + 20 - (20 : Int).toNat < 2 ^ 69
      omega))
  obtain ⟨k, ys, rfl, hk, hk2, hl, hpm, hout, hE, hso⟩ := hp
  obtain ⟨zs, h1, h2, h3, h4, h5, h6⟩ := insertion_ok (T := slices_stableCmpFunc_int.tb T) (t := t) hid (by omega) (fun x y xs => hc x y xs) htr hl (a := 20 * k) (b := n) hk (Nat.le_refl _) (fun p p1 p2 => by rw [hout p p1]; exact hD p p2) (fun p q p1 p2 p3 => by
    rw [hout p p1, hout q (by omega)]; exact hsays p q p2 p3)
  refine ⟨20 * k, ys, zs, hr, h1, h2, h3.trans hpm, fun p hp => ?_, fun p q h7 h8 h9 => ?_⟩
  · by_cases c1 : p < 20 * k
    · obtain ⟨p', e1, e2, e3⟩ := hE p c1
      exact ⟨p', by omega, e2, by rw [h4 p (by omega), e3]⟩
    · obtain ⟨p', e1, e2, e3⟩ := h5 p (by omega) hp
      exact ⟨p', e2, by omega, by rw [e3, hout p' e1]⟩
  · by_cases c1 : q < 20 * k
    · rw [h4 p (by omega), h4 q (by omega)]
      exact hso p q h7 c1 h9
    · exact h6 p q (by omega) h7 h8
/-- Two blocks are merged. -/
theorem mergeBlocks (hid : id < sl.length) (hn64 : n ≤ 64) (hc : Cmp T v sl id n D c) (htr : ∀ x y z, lt x y → lt y z → lt x z) {xs ys : List Int} (hn : ys.length = n) {w a m b : Nat} (hw : 0 < w) (ham : a < m) (hmb : m < b) (hb : b ≤ n)
    (hD : ∀ k, k < n → D (g xs k)) (hsays : ∀ p q, p < q → q < n → Says c lt (g xs q) (g xs p)) (hE : ∀ p, a ≤ p → p < b → ∃ p', p' < n ∧ p' / w = p / w ∧ g ys p = g xs p')
    (h1 : ∀ p q, a ≤ p → p < q → q < m → lt (g ys p) (g ys q)) (h2 : ∀ p q, m ≤ p → p < q → q < b → lt (g ys p) (g ys q)) (hcut : ∀ p q, p < m → m ≤ q → p / w < q / w) :
    ∃ zs, slices_symMergeCmpFunc_int T (sS id n t) (a : Int) (m : Int) (b : Int) v (hS sl id ys) = some ((), hS sl id zs) ∧ Ordered lt n a b ys zs := by
  refine symMerge_ok hid (by omega) hc htr 40 a m b ys hn ham hmb hb (by omega) (fun k k1 k2 => ?_) h1 h2 (fun p q p1 p2 p3 p4 => ?_)
  · obtain ⟨p', e1, e2, e3⟩ := hE k k1 k2
    rw [e3]; exact hD p' e1
  · obtain ⟨p', e1, e2, e3⟩ := hE p p1 (by omega)
    obtain ⟨q', f1, f2, f3⟩ := hE q (by omega) p4
    rw [e3, f3]
    have hc := hcut p q p2 p3
    refine hsays p' q' ?_ f1
    rw [← e2, ← f2] at hc
    exact Nat.lt_of_not_le fun h => Nat.not_lt.2 (Nat.div_le_div_right (c := w) h) hc
theorem SortStable_ok (hid : id < sl.length) (hn64 : n ≤ 64) (hc : Cmp T v sl id n D c) (htr : ∀ x y z, lt x y → lt y z → lt x z) {xs : List Int} (hn : xs.length = n)
    (hD : ∀ k, k < n → D (g xs k)) (hsays : ∀ p q, p < q → q < n → Says c lt (g xs q) (g xs p)) :
    ∃ ys, slices_SortStableFunc_int_int T (sS id n t) v (hS sl id xs) = some ((), hS sl id ys) ∧ ys.length = n ∧ ys.Perm xs ∧ ∀ p q, p < q → q < n → lt (g ys p) (g ys q) := by
  unfold slices_SortStableFunc_int_int slices_stableCmpFunc_int
  simp -implicitDefEqProofs only [sS_len]
  obtain ⟨a, ys0, ys, h1, h2, hl, hpm, hE, hso⟩ := blocks20 (T := slices_SortStableFunc_int_int.tb T) (t := t) hid hn64 (fun x y xs => hc x y xs) htr hn hD hsays
  rw [h1]
  simp -implicitDefEqProofs only [Option.bind_some]
  rw [h2]
  simp -implicitDefEqProofs only [Option.bind_some]
  have hc' : Cmp (slices_stableCmpFunc_int.tb (slices_SortStableFunc_int_int.tb T)) v sl id n D c := fun x y xs => hc x y xs
  have fin : ∃ zs, iter FUEL (slices_stableCmpFunc_int.loop3 (slices_SortStableFunc_int_int.tb T) (sS id n t) (n : Int) v) (20, hS sl id ys) = some (.ex0 (), hS sl id zs) ∧ zs.length = n ∧ zs.Perm xs ∧ ∀ p q, p < q → q < n → lt (g zs p) (g zs q) := by
    by_cases c1 : 20 < n
    · by_cases c2 : 40 ≤ n
      · -- the first two blocks
        obtain ⟨zs, k1, k2, k3, k4, k5, k6⟩ := mergeBlocks (t := t) hid hn64 hc' htr (xs := xs) hl (w := 20) (a := 0) (m := 20) (b := 40) (by omega) (by omega) (by omega) c2 hD hsays (fun p _ hp => hE p (by omega)) (fun p q _ p2 p3 => hso p q p2 (by omega) (by omega)) (fun p q p1 p2 p3 => hso p q p2 (by omega) (by omega)) (fun p q p1 p2 => by omega)
        have hE2 : ∀ p, p < n → ∃ p', p' < n ∧ p' / 20 = p / 20 ∧ g zs p = g xs p' ∨ p < 40 := fun p hp => by
          by_cases e : p < 40
          · exact ⟨0, .inr e⟩
          · obtain ⟨p', e1, e2, e3⟩ := hE p hp
            exact ⟨p', .inl ⟨e1, e2, by rw [k4 p (by omega), e3]⟩⟩
        have hE3 : ∀ p, p < n → p < 40 → ∃ p', p' < 40 ∧ g zs p = g xs p' := fun p hp h40 => by
          obtain ⟨p', e1, e2, e3⟩ := k5 p (by omega) h40
          obtain ⟨p2, f1, f2, f3⟩ := hE p' (by omega)
          exact ⟨p2, by omega, by rw [e3, f3]⟩
        have step2 : slices_stableCmpFunc_int.loop2 (slices_SortStableFunc_int_int.tb T) (sS id n t) (n : Int) v 20 ((0, 40), hS sl id ys) = some (.more ((40, 80), hS sl id zs)) := by
          unfold slices_stableCmpFunc_int.loop2
          simp -implicitDefEqProofs only []
          rw [decide_eq_true (by omega), cond_true, show IntKind.wrap .i64 ((0 : Int) + 20) = ((20 : Nat) : Int) from rfl, show (0 : Int) = ((0 : Nat) : Int) from rfl, show (40 : Int) = ((40 : Nat) : Int) from rfl, k1]
          rfl
        have stop2 : slices_stableCmpFunc_int.loop2 (slices_SortStableFunc_int_int.tb T) (sS id n t) (n : Int) v 20 ((40, 80), hS sl id zs) = some (.done (.ex0 40, hS sl id zs)) := by
          unfold slices_stableCmpFunc_int.loop2
          simp -implicitDefEqProofs only []
          rw [decide_eq_false (by omega), cond_false]
        have inner : iter FUEL (slices_stableCmpFunc_int.loop2 (slices_SortStableFunc_int_int.tb T) (sS id n t) (n : Int) v 20) ((0, IntKind.wrap .i64 (2 * 20)), hS sl id ys) = some (.ex0 40, hS sl id zs) := by
          rw [fuel3, show IntKind.wrap .i64 ((2 : Int) * 20) = 40 from rfl, iter_more step2, iter_done stop2]
        -- the blocks behind them
        have rest : ∃ ws, ((bif decide (IntKind.wrap .i64 ((40 : Int) + 20) < (n : Int)) then ((slices_symMergeCmpFunc_int (slices_stableCmpFunc_int.tb (slices_SortStableFunc_int_int.tb T)) (sS id n t) 40 (IntKind.wrap .i64 ((40 : Int) + 20)) (n : Int) v (hS sl id zs)).bind fun x => some (.next (), x.2)) else some (.next (), hS sl id zs) : Option (Flow Unit Unit × H))) = some (.next (), hS sl id ws) ∧
            ws.length = n ∧ ws.Perm xs ∧ (∀ p, p < n → ∃ p', p' < n ∧ p' / 40 = p / 40 ∧ g ws p = g xs p') ∧ ∀ p q, p < q → q < n → p / 40 = q / 40 → lt (g ws p) (g ws q) := by
          by_cases c3 : 60 < n
          · obtain ⟨ws, m1, m2, m3, m4, m5, m6⟩ := mergeBlocks (t := t) hid hn64 hc' htr (xs := xs) k2 (w := 20) (a := 40) (m := 60) (b := n) (by omega) (by omega) c3 (Nat.le_refl _) hD hsays (fun p p1 p2 => by
                obtain ⟨p', h | h⟩ := hE2 p p2
                · exact ⟨p', h⟩
                · omega) (fun p q p1 p2 p3 => by rw [k4 p (by omega), k4 q (by omega)]; exact hso p q p2 (by omega) (by omega)) (fun p q p1 p2 p3 => by rw [k4 p (by omega), k4 q (by omega)]; exact hso p q p2 (by omega) (by omega)) (fun p q p1 p2 => by omega)
            refine ⟨ws, ?_, m2, m3.trans (k3.trans hpm), fun p hp => ?_, fun p q p1 p2 p3 => ?_⟩
            · rw [show IntKind.wrap .i64 ((40 : Int) + 20) = ((60 : Nat) : Int) from rfl, decide_eq_true (by omega), cond_true, show (40 : Int) = ((40 : Nat) : Int) from rfl, m1]
              rfl
            · by_cases e : p < 40
              · obtain ⟨p', e1, e2⟩ := hE3 p hp e
                exact ⟨p', by omega, by omega, by rw [m4 p (by omega), e2]⟩
              · obtain ⟨p', e1, e2, e3⟩ := m5 p (by omega) hp
                obtain ⟨p2, h | h⟩ := hE2 p' e2
                · exact ⟨p2, h.1, by omega, by rw [e3, h.2.2]⟩
                · omega
            · by_cases e : q < 40
              · rw [m4 p (by omega), m4 q (by omega)]; exact k6 p q (by omega) p1 e
              · exact m6 p q (by omega) p1 p2
          · refine ⟨zs, ?_, k2, k3.trans hpm, fun p hp => ?_, fun p q p1 p2 p3 => ?_⟩
            · rw [show IntKind.wrap .i64 ((40 : Int) + 20) = ((60 : Nat) : Int) from rfl, decide_eq_false (by omega)]; rfl
            · by_cases e : p < 40
              · obtain ⟨p', e1, e2⟩ := hE3 p hp e
                exact ⟨p', by omega, by omega, e2⟩
              · obtain ⟨p2, h | h⟩ := hE2 p hp
                · exact ⟨p2, h.1, by omega, h.2.2⟩
                · omega
            · by_cases e : q < 40
              · exact k6 p q (by omega) p1 e
              · rw [k4 p (by omega), k4 q (by omega)]; exact hso p q p1 p2 (by omega)
        obtain ⟨ws, r1, r2, r3, r4, r5⟩ := rest
        have step3 : slices_stableCmpFunc_int.loop3 (slices_SortStableFunc_int_int.tb T) (sS id n t) (n : Int) v (20, hS sl id ys) = some (.more (40, hS sl id ws)) := by
          unfold slices_stableCmpFunc_int.loop3
          simp -implicitDefEqProofs only []
          rw [decide_eq_true (by omega), cond_true, inner]
          simp -implicitDefEqProofs only [Option.bind_some]
          rw [r1]
          rfl
        by_cases c4 : 40 < n
        · obtain ⟨us, u1, u2, u3, u4, u5, u6⟩ := mergeBlocks (t := t) hid hn64 hc' htr (xs := xs) r2 (w := 40) (a := 0) (m := 40) (b := n) (by omega) (by omega) c4 (Nat.le_refl _) hD hsays (fun p _ hp => r4 p hp) (fun p q _ p2 p3 => r5 p q p2 (by omega) (by omega)) (fun p q p1 p2 p3 => r5 p q p2 p3 (by omega)) (fun p q p1 p2 => by omega)
          have stop4 : slices_stableCmpFunc_int.loop2 (slices_SortStableFunc_int_int.tb T) (sS id n t) (n : Int) v 40 ((0, 80), hS sl id ws) = some (.done (.ex0 0, hS sl id ws)) := by
            unfold slices_stableCmpFunc_int.loop2
            simp -implicitDefEqProofs only []
            rw [decide_eq_false (by omega), cond_false]
          have step4 : slices_stableCmpFunc_int.loop3 (slices_SortStableFunc_int_int.tb T) (sS id n t) (n : Int) v (40, hS sl id ws) = some (.more (80, hS sl id us)) := by
            unfold slices_stableCmpFunc_int.loop3
            simp -implicitDefEqProofs only []
            rw [decide_eq_true (by omega), cond_true, fuel3, show IntKind.wrap .i64 ((2 : Int) * 40) = 80 from rfl, iter_done stop4]
            simp -implicitDefEqProofs only [Option.bind_some]
            rw [show IntKind.wrap .i64 ((0 : Int) + 40) = ((40 : Nat) : Int) from rfl, decide_eq_true (by omega), cond_true, show (0 : Int) = ((0 : Nat) : Int) from rfl, u1]
            rfl
          have stop5 : slices_stableCmpFunc_int.loop3 (slices_SortStableFunc_int_int.tb T) (sS id n t) (n : Int) v (80, hS sl id us) = some (.done (.ex0 (), hS sl id us)) := by
            unfold slices_stableCmpFunc_int.loop3
            simp -implicitDefEqProofs only []
            rw [decide_eq_false (by omega), cond_false]
          exact ⟨us, by rw [fuel3, iter_more step3, iter_more step4, iter_done stop5], u2, u3.trans r3, fun p q p1 p2 => u6 p q (by omega) p1 p2⟩
        · have stop5 : slices_stableCmpFunc_int.loop3 (slices_SortStableFunc_int_int.tb T) (sS id n t) (n : Int) v (40, hS sl id ws) = some (.done (.ex0 (), hS sl id ws)) := by
            unfold slices_stableCmpFunc_int.loop3
            simp -implicitDefEqProofs only []
            rw [decide_eq_false (by omega), cond_false]
          exact ⟨ws, by rw [fuel3, iter_more step3, iter_done stop5], r2, r3, fun p q p1 p2 => r5 p q p1 p2 (by omega)⟩
      · -- one block and a part of another one
        obtain ⟨us, u1, u2, u3, u4, u5, u6⟩ := mergeBlocks (t := t) hid hn64 hc' htr (xs := xs) hl (w := 20) (a := 0) (m := 20) (b := n) (by omega) (by omega) c1 (Nat.le_refl _) hD hsays (fun p _ hp => hE p hp) (fun p q _ p2 p3 => hso p q p2 (by omega) (by omega)) (fun p q p1 p2 p3 => hso p q p2 p3 (by omega)) (fun p q p1 p2 => by omega)
        have stop4 : slices_stableCmpFunc_int.loop2 (slices_SortStableFunc_int_int.tb T) (sS id n t) (n : Int) v 20 ((0, 40), hS sl id ys) = some (.done (.ex0 0, hS sl id ys)) := by
          unfold slices_stableCmpFunc_int.loop2
          simp -implicitDefEqProofs only []
          rw [decide_eq_false (by omega), cond_false]
        have step4 : slices_stableCmpFunc_int.loop3 (slices_SortStableFunc_int_int.tb T) (sS id n t) (n : Int) v (20, hS sl id ys) = some (.more (40, hS sl id us)) := by
          unfold slices_stableCmpFunc_int.loop3
          simp -implicitDefEqProofs only []
          rw [decide_eq_true (by omega), cond_true, fuel3, show IntKind.wrap .i64 ((2 : Int) * 20) = 40 from rfl, iter_done stop4]
          simp -implicitDefEqProofs only [Option.bind_some]
          rw [show IntKind.wrap .i64 ((0 : Int) + 20) = ((20 : Nat) : Int) from rfl, decide_eq_true (by omega), cond_true, show (0 : Int) = ((0 : Nat) : Int) from rfl, u1]
          rfl
        have stop5 : slices_stableCmpFunc_int.loop3 (slices_SortStableFunc_int_int.tb T) (sS id n t) (n : Int) v (40, hS sl id us) = some (.done (.ex0 (), hS sl id us)) := by
          unfold slices_stableCmpFunc_int.loop3
          simp -implicitDefEqProofs only []
          rw [decide_eq_false (by omega), cond_false]
        exact ⟨us, by rw [fuel3, iter_more step4, iter_done stop5], u2, u3.trans hpm, fun p q p1 p2 => u6 p q (by omega) p1 p2⟩
    · have stop5 : slices_stableCmpFunc_int.loop3 (slices_SortStableFunc_int_int.tb T) (sS id n t) (n : Int) v (20, hS sl id ys) = some (.done (.ex0 (), hS sl id ys)) := by
        unfold slices_stableCmpFunc_int.loop3
        simp -implicitDefEqProofs only []
        rw [decide_eq_false (by omega), cond_false]
      exact ⟨ys, by rw [fuel3, iter_done stop5], hl, hpm, fun p q p1 p2 => hso p q p1 p2 (by omega)⟩
  obtain ⟨zs, f1, f2, f3, f4⟩ := fin
  rw [f1]
  exact ⟨zs, rfl, f2, f3, f4⟩
end sort
end Go.Proofs.Ytbcpdecgfdlaaaa
/- The sum of weights. Conditions: those of each law. -/
namespace Go.Proofs.Ytbcpdecgfdlaaaa
open Go Go.Proofs.Ytbcpdecgfdlaaaa.Ev
set_option linter.unusedVariables false
set_option linter.unusedSimpArgs false
set_option maxRecDepth 100000
set_option maxHeartbeats 2000000
/-- The sum of right weights for an amount, or the error. -/
def weighOf (a : Int) (ws : List Int) : Int × Int :=
  if isAmt a = true then (if ws.length = 0 then (0, 9) else if 64 < ws.length then (0, 8) else if (ws.all isAmt && isAmt ws.sum) = true then (if ws.sum = 0 then (0, 16) else (ws.sum, 0)) else (0, 2)) else (0, 2)
theorem sum_take_succ {ws : List Int} {i : Nat} (h : i < ws.length) : (ws.take (i + 1)).sum = (ws.take i).sum + ws[i] := by
  rw [← List.take_append_getElem h, List.sum_append]; simp
theorem amt_sum : ∀ (ws : List Int), ws.all isAmt = true → 0 ≤ ws.sum ∧ ws.sum ≤ ws.length * 128849018880000
  | [], _ => by simp
  | w :: ws, h => by
    simp only [List.all_cons, Bool.and_eq_true, isAmt_iff] at h
    have := amt_sum ws h.2
    simp only [List.sum_cons, List.length_cons]
    have e : ((ws.length + 1 : Nat) : Int) * 128849018880000 = (ws.length : Int) * 128849018880000 + 128849018880000 := by
      rw [Int.natCast_add, Int.add_mul]; rfl
    omega
theorem amt_take {ws : List Int} (h : ws.all isAmt = true) (i : Nat) : (ws.take i).all isAmt = true := by
  rw [List.all_eq_true] at *
  exact fun x hx => h x (List.mem_of_mem_take hx)
theorem weigh_ok (a : Int) (ws : List Int) (hl : ws.length < 2 ^ 63) : proportion_weighP a ws = some (weighOf a ws) := by
  unfold proportion_weighP proportion_weigh weighOf
  rw [amount_ok]
  simp -implicitDefEqProofs only [evs, reduceIte, rdRes, rdTT, rdTy, rdLT, Res.un, TT.un, Ty.un, LT.un, Leaf.un, Leaf.plain, LT.plain]
  cases ha : isAmt a with
  | false => simp -implicitDefEqProofs only [evs, reduceIte, rdRes, rdTT, rdTy, rdLT, Res.un, TT.un, Ty.un, LT.un, Leaf.un, Leaf.plain, LT.plain]; rfl
  | true =>
    simp -implicitDefEqProofs only [evs, reduceIte, rdRes, rdTT, rdTy, rdLT, Res.un, TT.un, Ty.un, LT.un, Leaf.un, Leaf.plain, LT.plain]
    by_cases h0 : ws.length = 0
    · rw [decide_eq_true (by omega), if_pos h0]; simp -implicitDefEqProofs only [evs, reduceIte, rdRes, rdTT, rdTy, rdLT, Res.un, TT.un, Ty.un, LT.un, Leaf.un, Leaf.plain, LT.plain]
    · rw [decide_eq_false (by omega), if_neg h0]
      simp -implicitDefEqProofs only [evs, reduceIte, rdRes, rdTT, rdTy, rdLT, Res.un, TT.un, Ty.un, LT.un, Leaf.un, Leaf.plain, LT.plain]
      by_cases h1 : 64 < ws.length
      · rw [decide_eq_true (by omega), if_pos h1]; simp -implicitDefEqProofs only [evs, reduceIte, rdRes, rdTT, rdTy, rdLT, Res.un, TT.un, Ty.un, LT.un, Leaf.un, Leaf.plain, LT.plain]
      · rw [decide_eq_false (by omega), if_neg h1]
        simp -implicitDefEqProofs only [evs, reduceIte, rdRes, rdTT, rdTy, rdLT, Res.un, TT.un, Ty.un, LT.un, Leaf.un, Leaf.plain, LT.plain]
        rw [amounts_ok ws hl]
        simp -implicitDefEqProofs only [evs, reduceIte, rdRes, rdTT, rdTy, rdLT, Res.un, TT.un, Ty.un, LT.un, Leaf.un, Leaf.plain, LT.plain]
        cases h2 : ws.all isAmt with
        | false => simp -implicitDefEqProofs only [evs, reduceIte, rdRes, rdTT, rdTy, rdLT, Res.un, TT.un, Ty.un, LT.un, Leaf.un, Leaf.plain, LT.plain, Bool.false_and]; rfl
        | true =>
          simp -implicitDefEqProofs only [evs, reduceIte, rdRes, rdTT, rdTy, rdLT, Res.un, TT.un, Ty.un, LT.un, Leaf.un, Leaf.plain, LT.plain]
          have hs := amt_sum ws h2
          rw [iter_from (f := proportion_weigh.loop1 (rowSV false [.int .i64] ws)) (x := (.ex0 (ws.take ws.length).sum, H.empty)) (fun i => (((ws.take i).sum, (i : Int)), H.empty)) (s0 := ((0, 0), H.empty)) rfl ws.length FUEL (fun i hi => by
            have k1 := amt_sum _ (amt_take h2 i)
            have k2 := amt_sum _ (amt_take h2 (i + 1))
            rw [List.length_take] at k1 k2
            unfold proportion_weigh.loop1
            simp -implicitDefEqProofs only [rowSV_len, Int.toNat_natCast]
            rw [decide_eq_true (by omega), cond_true, guardO_pos (by omega), rd_rowI, List.getElem?_eq_getElem hi]
            simp -implicitDefEqProofs only [Option.bind_some]
            rw [← sum_take_succ hi, i64_in _ (by omega), i64_succ (by omega)]) (by
            unfold proportion_weigh.loop1
            simp -implicitDefEqProofs only [rowSV_len]
            rw [decide_eq_false (by omega), cond_false]) (fuel_gt (by omega)), List.take_length]
          simp -implicitDefEqProofs only [evs, reduceIte, rdRes, rdTT, rdTy, rdLT, Res.un, TT.un, Ty.un, LT.un, Leaf.un, Leaf.plain, LT.plain, amount_ok]
          cases h3 : isAmt ws.sum with
          | false => simp -implicitDefEqProofs only [evs, reduceIte, rdRes, rdTT, rdTy, rdLT, Res.un, TT.un, Ty.un, LT.un, Leaf.un, Leaf.plain, LT.plain]; rfl
          | true =>
            simp -implicitDefEqProofs only [evs, reduceIte, rdRes, rdTT, rdTy, rdLT, Res.un, TT.un, Ty.un, LT.un, Leaf.un, Leaf.plain, LT.plain]
            by_cases h4 : ws.sum = 0
            · rw [decide_eq_true h4, if_pos h4]; simp -implicitDefEqProofs only [evs, reduceIte, rdRes, rdTT, rdTy, rdLT, Res.un, TT.un, Ty.un, LT.un, Leaf.un, Leaf.plain, LT.plain]
            · rw [decide_eq_false h4, if_neg h4]; simp -implicitDefEqProofs only [evs, reduceIte, rdRes, rdTT, rdTy, rdLT, Res.un, TT.un, Ty.un, LT.un, Leaf.un, Leaf.plain, LT.plain]
end Go.Proofs.Ytbcpdecgfdlaaaa
/- How an amount is divided by weights, in plain numbers. Conditions: those of each law. -/
namespace Go.Proofs.Ytbcpdecgfdlaaaa
open Go Go.Proofs.Ytbcpdecgfdlaaaa.Ev
set_option linter.unusedVariables false
set_option linter.unusedSimpArgs false
set_option maxRecDepth 100000
set_option maxHeartbeats 2000000
theorem g_eq {xs : List Int} {k : Nat} (h : k < xs.length) : g xs k = xs[k] := by rw [g, List.getElem?_eq_getElem h]; rfl
theorem g_ext {xs ys : List Int} (hl : xs.length = ys.length) (h : ∀ k, k < xs.length → g xs k = g ys k) : xs = ys := by
  refine List.ext_getElem hl fun k h1 h2 => ?_
  rw [← g_eq h1, ← g_eq h2]; exact h k h1
theorem g_map {f : Int → Int} {xs : List Int} {k : Nat} (h : k < xs.length) : g (xs.map f) k = f (g xs k) := by
  rw [g_eq (by simpa using h), List.getElem_map, g_eq h]
theorem g_ofFn {f : Nat → Int} {n k : Nat} (h : k < n) : g ((List.range n).map f) k = f k := by
  rw [g_eq (by simpa using h), List.getElem_map, List.getElem_range]
theorem g_mem {xs : List Int} {k : Nat} (h : k < xs.length) : g xs k ∈ xs := by rw [g_eq h]; exact List.getElem_mem h
/-- The places 0, 1, .. -/
def iota (n : Nat) : List Int := (List.range n).map fun k : Nat => (k : Int)
theorem iota_length {n : Nat} : (iota n).length = n := by simp [iota]
theorem g_iota {n k : Nat} (h : k < n) : g (iota n) k = (k : Int) := g_ofFn h
theorem mem_iota {n : Nat} {x : Int} : x ∈ iota n ↔ 0 ≤ x ∧ x < n := by
  simp only [iota, List.mem_map, List.mem_range]
  constructor
  · rintro ⟨k, hk, rfl⟩; omega
  · intro h; exact ⟨x.toNat, by omega, by omega⟩
theorem iota_nodup {n : Nat} : (iota n).Nodup := by
  unfold iota
  rw [List.nodup_iff_pairwise_ne, List.pairwise_map]
  exact List.Pairwise.imp (fun h => by omega) List.pairwise_lt_range
/-- The greater rest comes first, then the lesser place. -/
def ltR (rs : List Int) (x y : Int) : Prop := g rs y.toNat < g rs x.toNat ∨ (g rs x.toNat = g rs y.toNat ∧ x < y)
instance (rs : List Int) (x y : Int) : Decidable (ltR rs x y) := by unfold ltR; exact inferInstance
theorem ltR_trans {rs : List Int} (x y z : Int) (h1 : ltR rs x y) (h2 : ltR rs y z) : ltR rs x z := by unfold ltR at *; omega
theorem ltR_total {rs : List Int} {x y : Int} (h : x ≠ y) : ltR rs x y ∨ ltR rs y x := by unfold ltR at *; omega
theorem ltR_irrefl {rs : List Int} {x : Int} : ¬ ltR rs x x := by unfold ltR; omega
/-- The places in the order of their rests. -/
def ord (rs : List Int) : List Int := (iota rs.length).mergeSort fun x y => !decide (ltR rs y x)
theorem ord_perm {rs : List Int} : (ord rs).Perm (iota rs.length) := List.mergeSort_perm ..
theorem ord_length {rs : List Int} : (ord rs).length = rs.length := by rw [ord_perm.length_eq, iota_length]
theorem ord_nodup {rs : List Int} : (ord rs).Nodup := (ord_perm.nodup_iff).2 iota_nodup
theorem ord_pairwise {rs : List Int} : (ord rs).Pairwise (ltR rs) := by
  have h1 : (ord rs).Pairwise fun x y => (!decide (ltR rs y x)) = true := List.pairwise_mergeSort (fun a b c => by
    simp only [Bool.not_eq_true', decide_eq_false_iff_not]
    unfold ltR; omega) (fun a b => by
    simp only [Bool.or_eq_true, Bool.not_eq_true', decide_eq_false_iff_not]
    unfold ltR; omega) _
  have h2 := ord_nodup (rs := rs)
  rw [List.nodup_iff_pairwise_ne] at h2
  refine List.Pairwise.imp₂ (fun a b h1 h2 => ?_) h1 h2
  simp only [Bool.not_eq_true', decide_eq_false_iff_not] at h1
  rcases ltR_total (rs := rs) h2 with h | h
  · exact h
  · exact absurd h h1
theorem ord_uniq {rs ys : List Int} (hp : ys.Perm (iota rs.length)) (hs : ∀ p q, p < q → q < rs.length → ltR rs (g ys p) (g ys q)) : ys = ord rs := by
  have hl : ys.length = rs.length := by rw [hp.length_eq, iota_length]
  refine List.Perm.eq_of_pairwise (le := ltR rs) (fun a b _ _ h1 h2 => ?_) ?_ ord_pairwise (hp.trans ord_perm.symm)
  · exact absurd (ltR_trans _ _ _ h1 h2) ltR_irrefl
  · rw [List.pairwise_iff_getElem]
    intro i j hi hj hij
    have := hs i j hij (by omega)
    rwa [g_eq hi, g_eq hj] at this
theorem ord_lt {rs : List Int} {p q : Nat} (h : p < q) (hq : q < rs.length) : ltR rs (g (ord rs) p) (g (ord rs) q) := by
  have := ord_pairwise (rs := rs)
  rw [List.pairwise_iff_getElem] at this
  have h2 := this p q (by rw [ord_length]; omega) (by rw [ord_length]; omega) h
  rwa [← g_eq, ← g_eq] at h2
theorem ord_range {rs : List Int} {p : Nat} (h : p < rs.length) : 0 ≤ g (ord rs) p ∧ g (ord rs) p < rs.length := by
  have := g_mem (xs := ord rs) (k := p) (by rw [ord_length]; exact h)
  exact mem_iota.1 (ord_perm.mem_iff.1 this)
/-- Numbers with one more at the first places of an order. -/
def bump (qs os : List Int) (k : Nat) : List Int := (List.range qs.length).map fun i => g qs i + if (i : Int) ∈ os.take k then 1 else 0
theorem bump_length {qs os : List Int} {k : Nat} : (bump qs os k).length = qs.length := by simp [bump]
theorem g_bump {qs os : List Int} {k i : Nat} (h : i < qs.length) : g (bump qs os k) i = g qs i + if (i : Int) ∈ os.take k then 1 else 0 := g_ofFn h
theorem bump_zero {qs os : List Int} : bump qs os 0 = qs := g_ext bump_length fun k hk => by
  rw [bump_length] at hk
  rw [g_bump hk]; simp
theorem bump_succ {qs os : List Int} {k x : Nat} (hn : os.Nodup) (hk : k < os.length) (hx : g os k = (x : Int)) (hq : x < qs.length) : (bump qs os k).set x (g (bump qs os k) x + 1) = bump qs os (k + 1) := by
  refine g_ext (by simp [bump_length]) fun i hi => ?_
  rw [List.length_set, bump_length] at hi
  rw [g_set (by rw [bump_length]; exact hq)]
  have ht : os.take (k + 1) = os.take k ++ [(x : Int)] := by rw [← List.take_append_getElem hk, ← g_eq hk, hx]
  have hnot : (x : Int) ∉ os.take k := by
    intro hm
    have h2 : (os.take (k + 1)).Nodup := List.Nodup.sublist (List.take_sublist _ _) hn
    rw [ht, List.nodup_append] at h2
    exact h2.2.2 _ hm _ (by simp) rfl
  by_cases e : i = x
  · subst e
    rw [if_pos rfl, g_bump hi, g_bump hi, ht, if_neg hnot, if_pos (by simp)]
    omega
  · rw [if_neg e, g_bump hi, g_bump hi, ht]
    congr 1
    by_cases h : (i : Int) ∈ os.take k
    · rw [if_pos h, if_pos (by simp [h])]
    · rw [if_neg h, if_neg (by simp [h]; omega)]
/-- Quotients and rests. -/
def quos (a S : Int) (ws : List Int) : List Int := ws.map fun w => a * w / S
def rems (a S : Int) (ws : List Int) : List Int := ws.map fun w => a * w % S
def divParts (a S : Int) (ws : List Int) : List Int := bump (quos a S ws) (ord (rems a S ws)) (a - (quos a S ws).sum).toNat
def divideOf (a : Int) (ws : List Int) : List Int × Int := if (weighOf a ws).2 = 0 then (divParts a (weighOf a ws).1 ws, 0) else ([], (weighOf a ws).2)
theorem weighOf_ok {a : Int} {ws : List Int} (h : (weighOf a ws).2 = 0) : isAmt a = true ∧ 0 < ws.length ∧ ws.length ≤ 64 ∧ ws.all isAmt = true ∧ isAmt ws.sum = true ∧ ws.sum ≠ 0 ∧ (weighOf a ws).1 = ws.sum := by
  unfold weighOf at *
  split at h
  · rename_i ha
    rw [if_pos ha]
    split at h
    · simp at h
    · rename_i h0
      rw [if_neg h0]
      split at h
      · simp at h
      · rename_i h1
        rw [if_neg h1]
        split at h
        · rename_i h2
          rw [if_pos h2]
          split at h
          · simp at h
          · rename_i h3
            rw [if_neg h3]
            simp only [Bool.and_eq_true] at h2
            exact ⟨ha, by omega, by omega, h2.1, h2.2, h3, rfl⟩
        · simp at h
  · simp at h
theorem quos_length {a S : Int} {ws : List Int} : (quos a S ws).length = ws.length := by simp [quos]
theorem rems_length {a S : Int} {ws : List Int} : (rems a S ws).length = ws.length := by simp [rems]
theorem quo_sum (a S : Int) (ws : List Int) : S * (quos a S ws).sum + (rems a S ws).sum = a * ws.sum := by
  induction ws with
  | nil => simp [quos, rems]
  | cons w ws ih =>
    simp only [quos, rems, List.map_cons, List.sum_cons] at ih ⊢
    rw [Int.mul_add, Int.mul_add a, ← ih]
    have := Int.mul_ediv_add_emod (a * w) S
    omega
theorem rems_bound {a S : Int} (hS : 0 < S) (ws : List Int) : 0 ≤ (rems a S ws).sum ∧ (rems a S ws).sum ≤ ws.length * (S - 1) := by
  induction ws with
  | nil => simp [rems]
  | cons w ws ih =>
    simp only [rems, List.map_cons, List.sum_cons, List.length_cons] at ih ⊢
    have h1 := Int.emod_nonneg (a * w) (show S ≠ 0 by omega)
    have h2 := Int.emod_lt_of_pos (a * w) hS
    have e : ((ws.length + 1 : Nat) : Int) * (S - 1) = (ws.length : Int) * (S - 1) + (S - 1) := by rw [Int.natCast_add, Int.add_mul]; simp
    omega
theorem left_bound {a : Int} {ws : List Int} (hS : 0 < ws.sum) (hl : 0 < ws.length) : 0 ≤ a - (quos a ws.sum ws).sum ∧ a - (quos a ws.sum ws).sum < ws.length := by
  have h1 := quo_sum a ws.sum ws
  obtain ⟨h2, h3⟩ := rems_bound (a := a) hS ws
  generalize (quos a ws.sum ws).sum = q at *
  generalize (rems a ws.sum ws).sum = r at *
  have e : ws.sum * (a - q) = r := by rw [Int.mul_sub, Int.mul_comm ws.sum a]; omega
  constructor
  · rcases Int.lt_or_le (a - q) 0 with h | h
    · have : ws.sum * (a - q) < 0 := Int.mul_neg_of_pos_of_neg hS h
      omega
    · exact h
  · rcases Int.lt_or_le (a - q) (ws.length : Int) with h | h
    · exact h
    · have h4 : ws.sum * (ws.length : Int) ≤ ws.sum * (a - q) := Int.mul_le_mul_of_nonneg_left h (by omega)
      have h5 : (ws.length : Int) * (ws.sum - 1) = ws.sum * (ws.length : Int) - ws.length := by rw [Int.mul_sub, Int.mul_comm]; omega
      omega
theorem quo_nonneg {a S : Int} {ws : List Int} (ha : 0 ≤ a) (hS : 0 < S) (hw : ∀ w ∈ ws, 0 ≤ w) : ∀ q ∈ quos a S ws, 0 ≤ q := by
  intro q hq
  obtain ⟨w, hw', rfl⟩ := List.mem_map.1 hq
  exact Int.ediv_nonneg (Int.mul_nonneg ha (hw w hw')) (by omega)
theorem sum_nonneg : ∀ {xs : List Int}, (∀ x ∈ xs, 0 ≤ x) → 0 ≤ xs.sum
  | [], _ => by simp
  | x :: xs, h => by
    have := sum_nonneg (xs := xs) fun y hy => h y (by simp [hy])
    have := h x (by simp)
    simp only [List.sum_cons]; omega
theorem sum_take_le {xs : List Int} (h : ∀ x ∈ xs, 0 ≤ x) (i : Nat) : 0 ≤ (xs.take i).sum ∧ (xs.take i).sum ≤ xs.sum := by
  have h1 : xs.sum = (xs.take i).sum + (xs.drop i).sum := by rw [← List.sum_append, List.take_append_drop]
  have h2 := sum_nonneg (xs := xs.drop i) fun y hy => h y (List.mem_of_mem_drop hy)
  have h3 := sum_nonneg (xs := xs.take i) fun y hy => h y (List.mem_of_mem_take hy)
  omega
theorem mem_le_sum : ∀ {xs : List Int} {x : Int}, (∀ y ∈ xs, 0 ≤ y) → x ∈ xs → x ≤ xs.sum
  | [], _, _, h => by simp at h
  | y :: xs, x, hn, h => by
    have h1 := sum_nonneg (xs := xs) fun z hz => hn z (by simp [hz])
    have h2 := hn y (by simp)
    simp only [List.sum_cons]
    rcases List.mem_cons.1 h with rfl | h
    · omega
    · have := mem_le_sum (xs := xs) (fun z hz => hn z (by simp [hz])) h
      omega
theorem all_amt {ws : List Int} (h : ws.all isAmt = true) : ∀ w ∈ ws, 0 ≤ w ∧ w ≤ 128849018880000 := fun w hw => isAmt_iff.1 (List.all_eq_true.1 h w hw)
theorem quo_le {a S w : Int} (ha : 0 ≤ a) (hS : 0 < S) (hw : w ≤ S) : a * w / S ≤ a := by
  exact Int.ediv_le_of_le_mul hS (Int.mul_le_mul_of_nonneg_left hw ha)
theorem divOf_small {a S w : Int} (ha : isAmt a = true) (hS : 0 < S) (h0 : 0 ≤ w) (hw : w ≤ S) : divOf a w S = (a * w / S, a * w % S, true) := by
  unfold divOf
  have := quo_le (isAmt_iff.1 ha).1 hS hw
  have := (isAmt_iff.1 ha).2
  rw [if_neg (by omega)]
/-- The first elements of a list, zeros behind them. -/
def fillTo (xs : List Int) (i : Nat) : List Int := xs.take i ++ List.replicate (xs.length - i) 0
theorem fillTo_length {xs : List Int} {i : Nat} (h : i ≤ xs.length) : (fillTo xs i).length = xs.length := by simp [fillTo]; omega
theorem g_fillTo {xs : List Int} {i k : Nat} (hi : i ≤ xs.length) (hk : k < xs.length) : g (fillTo xs i) k = if k < i then g xs k else 0 := by
  unfold fillTo g
  by_cases h : k < i
  · rw [if_pos h, List.getElem?_append_left (by simp; omega), List.getElem?_take, if_pos h]
  · rw [if_neg h, List.getElem?_append_right (by simp; omega), List.getElem?_replicate]
    split <;> rfl
theorem fillTo_set {xs : List Int} {i : Nat} (h : i < xs.length) : (fillTo xs i).set i (g xs i) = fillTo xs (i + 1) := by
  refine g_ext (by rw [List.length_set, fillTo_length (by omega), fillTo_length h]) fun k hk => ?_
  rw [List.length_set, fillTo_length (by omega)] at hk
  rw [g_set (by rw [fillTo_length (by omega)]; exact h), g_fillTo h hk]
  by_cases e : k = i
  · subst e; rw [if_pos rfl, if_pos (by omega)]
  · rw [if_neg e, g_fillTo (by omega) hk]
    by_cases h : k < i
    · rw [if_pos h, if_pos (by omega)]
    · rw [if_neg h, if_neg (by omega)]
theorem fillTo_all {xs : List Int} : fillTo xs xs.length = xs := by simp [fillTo]
theorem fillTo_zero {xs : List Int} : fillTo xs 0 = List.replicate xs.length 0 := by simp [fillTo]
theorem repeat_zero (n : Nat) : repeatCells [.int .i64 0] n = cellsL [.int .i64] (List.replicate n 0) := by
  induction n with
  | zero => rfl
  | succ n ih => simp only [repeatCells, ih, List.replicate_succ, cellsL, List.flatMap_cons, LT.lo, Leaf.lo]
end Go.Proofs.Ytbcpdecgfdlaaaa
/- Slots of two numbers. Conditions: those of each law. -/
namespace Go.Proofs.Ytbcpdecgfdlaaaa
open Go Go.Proofs.Ytbcpdecgfdlaaaa.Ev
set_option linter.unusedVariables false
set_option linter.unusedSimpArgs false
set_option maxRecDepth 100000
set_option maxHeartbeats 4000000
abbrev j2 : List Leaf := [.int .i64, .int .i64]
abbrev c2 (x : Int × Int) : Slot := .own [.int .i64 x.1, .int .i64 x.2] 2
theorem new_c2 {sl : List Slot} {x : Int × Int} : H.wrs (hL (sl ++ [Slot.own [V.int .i64 0, V.int .i64 0] 2])) (.hp sl.length 2 0) [.int .i64 x.1, .int .i64 x.2] = some (hL (sl ++ [c2 x])) := by
  rw [wrs_own (g := 2) (cs := [V.int .i64 0, V.int .i64 0]) (e := 2) (by simp) rfl (by simp)]
  simp [splice]
theorem rd_c2 {sl : List Slot} {id : Nat} {x : Int × Int} (h : sl[id]? = some (c2 x)) : rdT (.leaf (.int .i64)) (hL sl) (.hp id 2 0) = some x.1 ∧ rdT (.leaf (.int .i64)) (hL sl) (.hp id 2 1) = some x.2 := by
  refine ⟨?_, ?_⟩
  · rw [rd_own (g := 2) h rfl]; rfl
  · rw [rd_own (g := 2) h rfl]; rfl
theorem rds_c2 {sl : List Slot} {id : Nat} {x : Int × Int} (h : sl[id]? = some (c2 x)) : rdT (.agg [.int .i64, .int .i64]) (hL sl) (.hp id 2 0) = some x := by
  rw [rds_hp (by simp), hL_m, h]; rfl
theorem wrs_c2 {sl : List Slot} {id : Nat} {x y : Int × Int} (h : sl[id]? = some (c2 x)) : H.wrs (hL sl) (.hp id 2 0) [.int .i64 y.1, .int .i64 y.2] = some (hL (sl.set id (c2 y))) := by
  rw [wrs_own (g := 2) h rfl (by simp)]; rfl
/-- A loop that goes through 'n' rounds, with what holds ahead of each. -/
theorem iter_upto {S F : Type} {f : S → Option (Stp S F)} (Inv : Nat → S → Prop) (Post : F → Prop) (n : Nat) (hstep : ∀ i s, i < n → Inv i s → ∃ s', f s = some (.more s') ∧ Inv (i + 1) s') (hend : ∀ s, Inv n s → ∃ x, f s = some (.done x) ∧ Post x) :
    ∀ (fuel i : Nat) (s : S), i ≤ n → Inv i s → n - i < fuel → ∃ x, iter fuel f s = some x ∧ Post x
  | 0, _, _, _, _, h => by omega
  | fuel + 1, i, s, hi, hs, h => by
    rcases Nat.lt_or_ge i n with hlt | hge
    · obtain ⟨s', h1, h2⟩ := hstep i s hlt hs
      obtain ⟨x, k1, k2⟩ := iter_upto Inv Post n hstep hend fuel (i + 1) s' (by omega) h2 (by omega)
      exact ⟨x, by simp only [iter, h1, Option.bind_some]; exact k1, k2⟩
    · have : i = n := by omega
      subst this
      obtain ⟨x, h1, h2⟩ := hend s hs
      exact ⟨x, by simp only [iter, h1, Option.bind_some], h2⟩
theorem Acc.appendAt {sl : List Slot} {ls : List Leaf} {xs : List (LT ls)} {s : SV} {o : Option Nat} {w b i : Nat} {x : LT ls} {vs : List V} (h : Acc sl ls xs s o) (hi : i < sl.length) (ho : o ≠ some i) (hw : ls.length = w) (hpos : 0 < w) (hl : xs.length + 1 ≤ 2 ^ 36) (hb : b ≤ 2 ^ 11) (hv : vs = LT.lo true ls x) :
    ∃ s' sl' id, appendS (hL sl) (some i) w b s vs 1 = some (s', hL sl') ∧ Acc sl' ls (xs ++ [x]) s' (some id) ∧ (o = some id ∨ o = none ∧ id = i) ∧ sl'.length = sl.length ∧ ∀ j, o ≠ some j → j ≠ i → sl'[j]? = sl[j]? := by
  subst hw
  subst hv
  cases o with
  | none =>
    obtain ⟨rfl, hs⟩ := h
    refine ⟨ownSV i ls [x].length, sl.set i (.own (cellsL ls [x]) ls.length), i, ?_, ⟨by simp, rfl, ?_⟩, .inr ⟨rfl, rfl⟩, by simp, fun j _ hj => ?_⟩
    · rcases hs with rfl | rfl <;>
      · simp only [appendS, appendV, nilSV, newAt]
        rw [if_neg (show ¬ (1 = 0) by omega)]
        unfold guardO roomCells
        rw [if_pos ⟨by omega, hb⟩, if_pos ⟨trivial, trivial, trivial⟩, hL_put hi]
        simp [ownSV, cellsL]
    · rw [List.getElem?_set_self hi]; rfl
    · rw [List.getElem?_set_ne (Ne.symm hj)]
  | some id =>
    obtain ⟨h1, rfl, h3⟩ := h
    have hid := (List.getElem?_eq_some_iff.1 h3).1
    refine ⟨ownSV id ls (xs ++ [x]).length, sl.set id (.own (cellsL ls (xs ++ [x])) ls.length), id, append_own h3 rfl hpos h1 hl hb rfl, ⟨by simp, rfl, ?_⟩, .inl rfl, by simp, fun j hj hlt => ?_⟩
    · rw [List.getElem?_set_self hid]
    · rw [List.getElem?_set_ne (fun e => hj (by rw [e]))]
theorem Acc.addr {sl : List Slot} {ls : List Leaf} {xs : List (LT ls)} {s : SV} {o : Option Nat} (h : Acc sl ls xs s o) {cs : List V} {n c i : Nat} {t : Bool} : ∃ g, appAddr (.slice s.a s.len s.cap s.tail) (.slice (.lp true cs 0) n c t) (some i) = .hp (o.getD i) g 0 := by
  cases o with
  | none => obtain ⟨rfl, rfl | rfl⟩ := h <;> exact ⟨_, rfl⟩
  | some id => obtain ⟨h1, rfl, h3⟩ := h; exact ⟨_, rfl⟩
theorem apart_hp {i j g g' o o' : Nat} (h : i ≠ j) : apartA (.hp i g o) (.hp j g' o') = true := by
  have : Nat.beq i j = false := by
    rw [← Bool.not_eq_true]
    intro e
    exact h (Nat.eq_of_beq_eq_true e)
  simp [apartA, this]
end Go.Proofs.Ytbcpdecgfdlaaaa
/- What Divide of package proportion computes. Conditions: those of each law. -/
namespace Go.Proofs.Ytbcpdecgfdlaaaa
open Go Go.Proofs.Ytbcpdecgfdlaaaa.Ev
set_option linter.unusedVariables false
set_option linter.unusedSimpArgs false
set_option maxRecDepth 100000
set_option maxHeartbeats 4000000
theorem cmpI_ok (a b : Int) : cmp_Compare_intP a b = some (if a < b then -1 else if b < a then 1 else 0) := by
  unfold cmp_Compare_intP cmp_Compare_int
  have hn : ∀ x, cmp_isNaN_intP x = some false := fun x => by unfold cmp_isNaN_intP cmp_isNaN_int; simp -implicitDefEqProofs only [evs, reduceIte, rdRes, rdTT, rdTy, rdLT, Res.un, TT.un, Ty.un, LT.un, Leaf.un, Leaf.plain, LT.plain, decide_true]
  simp -implicitDefEqProofs only [hn, evs, reduceIte, rdRes, rdTT, rdTy, rdLT, Res.un, TT.un, Ty.un, LT.un, Leaf.un, Leaf.plain, LT.plain]
  by_cases h : a < b
  · rw [decide_eq_true h, if_pos h]; rfl
  · rw [decide_eq_false h, if_neg h]
    by_cases h2 : b < a
    · rw [decide_eq_true h2, if_pos h2]; rfl
    · rw [decide_eq_false h2, if_neg h2]; rfl
/-- The comparison of places by their rests. -/
def cmpR (rs : List Int) (x y : Int) : Int := if g rs y.toNat < g rs x.toNat then -1 else if g rs x.toNat < g rs y.toNat then 1 else 0
abbrev cellI (xs : List Int) : Slot := .own (cellsL [.int .i64] xs) 1
/-- The heap of Divide. -/
def dH (p r o : List Int) (n : Nat) : H := hL [cellI p, cellI r, cellI o, .own [.slice (.hp 1 n 0) n n true] 1]
theorem dH_rd3 {p r o : List Int} {n : Nat} : rdT (.leaf .slice) (dH p r o n) (.hp 3 1 0) = some ⟨.hp 1 n 0, n, n, true⟩ := by
  unfold dH
  rw [rd_own (g := 1) (cs := [.slice (.hp 1 n 0) n n true]) (e := 1) rfl rfl]
  rfl
theorem dH_rd0 {p r o : List Int} {n k : Nat} (hn : p.length = n) : rdT (.leaf (.int .i64)) (dH p r o n) (.hp 0 n (k * 1)) = p[k]? := by
  unfold dH
  rw [rd_ownL0 (ls := [.int .i64]) (xs := p) (w := 1) (e := 1) rfl (by simp [hn]) rfl (by omega)]
  cases p[k]? <;> simp [LT.lo, Leaf.lo, Leaf.pack]
theorem dH_rd1 {p r o : List Int} {n k : Nat} (hn : r.length = n) : rdT (.leaf (.int .i64)) (dH p r o n) (.hp 1 n (k * 1)) = r[k]? := by
  unfold dH
  rw [rd_ownL0 (ls := [.int .i64]) (xs := r) (w := 1) (e := 1) rfl (by simp [hn]) rfl (by omega)]
  cases r[k]? <;> simp [LT.lo, Leaf.lo, Leaf.pack]
theorem dH_rd2 {p r o : List Int} {n k : Nat} (hn : o.length = n) : rdT (.leaf (.int .i64)) (dH p r o n) (.hp 2 n (k * 1)) = o[k]? := by
  unfold dH
  rw [rd_ownL0 (ls := [.int .i64]) (xs := o) (w := 1) (e := 1) rfl (by simp [hn]) rfl (by omega)]
  cases o[k]? <;> simp [LT.lo, Leaf.lo, Leaf.pack]
theorem dH_wr0 {p r o : List Int} {n k : Nat} {x : Int} (hn : p.length = n) (hk : k < n) : H.wrs (dH p r o n) (.hp 0 n (k * 1)) [.int .i64 x] = some (dH (p.set k x) r o n) := by
  unfold dH
  rw [wrs_ownL (ls := [.int .i64]) (xs := p) (w := 1) (e := 1) (x := x) (vs := [.int .i64 x]) rfl (by simp [hn]) rfl (by omega) rfl]
  rfl
theorem dH_wr1 {p r o : List Int} {n k : Nat} {x : Int} (hn : r.length = n) (hk : k < n) : H.wrs (dH p r o n) (.hp 1 n (k * 1)) [.int .i64 x] = some (dH p (r.set k x) o n) := by
  unfold dH
  rw [wrs_ownL (ls := [.int .i64]) (xs := r) (w := 1) (e := 1) (x := x) (vs := [.int .i64 x]) rfl (by simp [hn]) rfl (by omega) rfl]
  rfl
theorem dH_wr2 {p r o : List Int} {n k : Nat} {x : Int} (hn : o.length = n) (hk : k < n) : H.wrs (dH p r o n) (.hp 2 n (k * 1)) [.int .i64 x] = some (dH p r (o.set k x) n) := by
  unfold dH
  rw [wrs_ownL (ls := [.int .i64]) (xs := o) (w := 1) (e := 1) (x := x) (vs := [.int .i64 x]) rfl (by simp [hn]) rfl (by omega) rfl]
  rfl
theorem dH_hS {p r o o' : List Int} {n : Nat} : hS [cellI p, cellI r, cellI o', .own [.slice (.hp 1 n 0) n n true] 1] 2 o = dH p r o n := rfl
theorem Divide1_ok {p r o : List Int} {n : Nat} {x y : Int} (hr : r.length = n) (hx : 0 ≤ x ∧ x < n) (hy : 0 ≤ y ∧ y < n) : proportion_Divide_1 x y (.hp 3 1 0) (dH p r o n) = some (cmpR r x y, dH p r o n) := by
  unfold proportion_Divide_1
  simp -implicitDefEqProofs only [reserve0, dH_rd3, Option.bind_some]
  rw [guardO_pos (by omega), add_hp, dH_rd1 hr, g_some (by omega)]
  simp -implicitDefEqProofs only [Option.bind_some]
  rw [guardO_pos (by omega), add_hp, dH_rd1 hr, g_some (by omega)]
  simp -implicitDefEqProofs only [Option.bind_some, cmpI_ok]
  rfl
theorem divide_loop1 {a S : Int} {ws : List Int} {f : Bool} (ha : isAmt a = true) (hws : ws.all isAmt = true) (hS : isAmt S = true) (hS0 : 0 < S) (hSw : ∀ w ∈ ws, w ≤ S) (hsum : (quos a S ws).sum ≤ a) (hl : ws.length ≤ 64) :
    iter FUEL (proportion_Divide.loop1 (hL []) a (rowSV f [.int .i64] ws) S) ((a, 0), dH (List.replicate ws.length 0) (List.replicate ws.length 0) (List.replicate ws.length 0) ws.length) =
      some (.ex0 (a - (quos a S ws).sum), dH (quos a S ws) (rems a S ws) (iota ws.length) ws.length) := by
  have hq := quo_nonneg (a := a) (S := S) (ws := ws) (isAmt_iff.1 ha).1 hS0 (fun w hw => (all_amt hws w hw).1)
  have ha' := isAmt_iff.1 ha
  have hS' := isAmt_iff.1 hS
  refine (iter_from (f := proportion_Divide.loop1 (hL []) a (rowSV f [.int .i64] ws) S) (fun i => ((a - ((quos a S ws).take i).sum, (i : Int)), dH (fillTo (quos a S ws) i) (fillTo (rems a S ws) i) (fillTo (iota ws.length) i) ws.length)) ?_ ws.length FUEL (fun i hi => ?_) ?_ (fuel_gt (by omega)))
  · simp only [List.take_zero, List.sum_nil, Int.sub_zero, fillTo_zero, quos_length, rems_length, iota_length]
    rfl
  · have hw := all_amt hws _ (List.getElem_mem hi)
    have hwS := hSw _ (List.getElem_mem hi)
    have hx := List.getElem?_eq_getElem hi
    have hgq : g (quos a S ws) i = a * ws[i] / S := by rw [quos, g_map hi, g_eq hi]
    have hgr : g (rems a S ws) i = a * ws[i] % S := by rw [rems, g_map hi, g_eq hi]
    have k1 := sum_take_le hq i
    have k2 := sum_take_le hq (i + 1)
    have k3 := sum_take_succ (ws := quos a S ws) (i := i) (by rw [quos_length]; exact hi)
    rw [← g_eq] at k3
    unfold proportion_Divide.loop1
    simp -implicitDefEqProofs only [rowSV_len, Int.toNat_natCast, Nat.mul_one, Nat.zero_add, reserve0, hL_next, List.length_nil]
    rw [decide_eq_true (by omega), cond_true, guardO_pos (by omega), show V.add (rowSV f [.int .i64] ws).a i = V.add (rowSV f [.int .i64] ws).a (i * 1) by rw [Nat.mul_one], rd_rowI, hx]
    simp -implicitDefEqProofs only [Option.bind_some, dH_rd3]
    rw [divided_ok ha (isAmt_iff.2 hw) hS (by omega), divOf_small ha hS0 hw.1 hwS, ← hgq, ← hgr]
    simp -implicitDefEqProofs only [Option.bind_some]
    have d0 := dH_wr0 (p := fillTo (quos a S ws) i) (r := fillTo (rems a S ws) i) (o := fillTo (iota ws.length) i) (n := ws.length) (k := i) (x := g (quos a S ws) i) (by rw [fillTo_length (by rw [quos_length]; omega), quos_length]) hi
    rw [fillTo_set (by rw [quos_length]; exact hi), Nat.mul_one] at d0
    rw [guardO_pos (by omega), d0]
    simp -implicitDefEqProofs only [Option.bind_some]
    have d1 := dH_wr1 (p := fillTo (quos a S ws) (i + 1)) (r := fillTo (rems a S ws) i) (o := fillTo (iota ws.length) i) (n := ws.length) (k := i) (x := g (rems a S ws) i) (by rw [fillTo_length (by rw [rems_length]; omega), rems_length]) hi
    rw [fillTo_set (by rw [rems_length]; exact hi), Nat.mul_one] at d1
    rw [guardO_pos (by omega), add_hp, d1]
    simp -implicitDefEqProofs only [Option.bind_some]
    have d2 := dH_wr2 (p := fillTo (quos a S ws) (i + 1)) (r := fillTo (rems a S ws) (i + 1)) (o := fillTo (iota ws.length) i) (n := ws.length) (k := i) (x := g (iota ws.length) i) (by rw [fillTo_length (by rw [iota_length]; omega), iota_length]) hi
    rw [fillTo_set (by rw [iota_length]; exact hi), Nat.mul_one, g_iota hi] at d2
    rw [guardO_pos (p := apartA _ _ = true) rfl, guardO_pos (by omega), d2]
    simp -implicitDefEqProofs only [Option.bind_some]
    have d3 := dH_rd0 (p := fillTo (quos a S ws) (i + 1)) (r := fillTo (rems a S ws) (i + 1)) (o := fillTo (iota ws.length) (i + 1)) (n := ws.length) (k := i) (by rw [fillTo_length (by rw [quos_length]; omega), quos_length])
    rw [Nat.mul_one, g_some (by rw [fillTo_length (by rw [quos_length]; omega), quos_length]; exact hi), g_fillTo (by rw [quos_length]; omega) (by rw [quos_length]; exact hi), if_pos (by omega)] at d3
    rw [guardO_pos (by omega), d3]
    simp -implicitDefEqProofs only [Option.bind_some]
    rw [i64_in _ (by omega), i64_succ (by omega), show a - ((quos a S ws).take i).sum - g (quos a S ws) i = a - ((quos a S ws).take (i + 1)).sum by omega]
  · have e1 := fillTo_all (xs := quos a S ws)
    have e2 := fillTo_all (xs := rems a S ws)
    have e3 := fillTo_all (xs := iota ws.length)
    rw [quos_length] at e1
    rw [rems_length] at e2
    rw [iota_length] at e3
    simp only [e1, e2, e3]
    rw [show (quos a S ws).take ws.length = quos a S ws by rw [← quos_length (a := a) (S := S) (ws := ws), List.take_length]]
    unfold proportion_Divide.loop1
    simp -implicitDefEqProofs only [rowSV_len]
    rw [decide_eq_false (by omega), cond_false]
theorem divide_loop2 {qs rs os : List Int} {n k : Nat} {f : Bool} {ws : List Int} (hw : ws.length = n) (hq : qs.length = n) (ho : os.length = n) (hnd : os.Nodup) (hr : ∀ i, i < n → 0 ≤ g os i ∧ g os i < n) (hk : k ≤ n) (hn : n ≤ 64) (hb : ∀ q ∈ qs, 0 ≤ q ∧ q ≤ 128849018880000) :
    iter FUEL (proportion_Divide.loop2 (hL []) (rowSV f [.int .i64] ws) (k : Int)) (0, dH qs rs os n) = some (.ex0 (), dH (bump qs os k) rs os n) := by
  refine (iter_from (f := proportion_Divide.loop2 (hL []) (rowSV f [.int .i64] ws) (k : Int)) (fun i => ((i : Int), dH (bump qs os i) rs os n)) ?_ k FUEL (fun i hi => ?_) ?_ (fuel_gt (by omega)))
  · rw [bump_zero]; rfl
  · have hri := hr i (by omega)
    obtain ⟨x, hx⟩ : ∃ x : Nat, g os i = (x : Int) := ⟨(g os i).toNat, by omega⟩
    have hqx := hb (g qs x) (g_mem (by omega))
    unfold proportion_Divide.loop2
    simp -implicitDefEqProofs only [rowSV_len, Int.toNat_natCast, Nat.mul_one, Nat.zero_add, hL_next, List.length_nil, hw]
    have d2 := dH_rd2 (p := bump qs os i) (r := rs) (o := os) (n := n) (k := i) ho
    rw [Nat.mul_one, g_some (by omega), hx] at d2
    rw [decide_eq_true (by omega), cond_true, guardO_pos (by omega), d2]
    simp -implicitDefEqProofs only [Option.bind_some, Int.toNat_natCast]
    have d0 := dH_rd0 (p := bump qs os i) (r := rs) (o := os) (n := n) (k := x) (by rw [bump_length, hq])
    rw [Nat.mul_one, g_some (by rw [bump_length]; omega)] at d0
    have hgx : 0 ≤ (x : Int) ∧ (x : Int) < (n : Int) := by rw [← hx]; exact hri
    rw [guardO_pos hgx, d0]
    simp -implicitDefEqProofs only [Option.bind_some]
    have hgb := g_bump (qs := qs) (os := os) (k := i) (i := x) (by omega)
    have hle : g (bump qs os i) x ≤ 128849018880001 ∧ 0 ≤ g (bump qs os i) x := by
      rw [hgb]; split <;> omega
    rw [guardO_pos hgx, i64_in _ (by omega)]
    have d1 := dH_wr0 (p := bump qs os i) (r := rs) (o := os) (n := n) (k := x) (x := g (bump qs os i) x + 1) (by rw [bump_length, hq]) (by omega)
    rw [Nat.mul_one, bump_succ hnd (by omega) hx (by omega)] at d1
    rw [d1]
    simp -implicitDefEqProofs only [Option.bind_some]
    rw [i64_succ (by omega)]
  · unfold proportion_Divide.loop2
    simp -implicitDefEqProofs only []
    rw [decide_eq_false (by omega), cond_false]
theorem Divide_ok (a : Int) (ws : List Int) (hl : ws.length < 2 ^ 63) : proportion_DivideP a ws = some (divideOf a ws) := by
  unfold proportion_DivideP proportion_Divide divideOf
  simp -implicitDefEqProofs only [evs, reduceIte, rdRes, rdTT, rdTy, rdLT, Res.un, TT.un, Ty.un, LT.un, Leaf.un, Leaf.plain, LT.plain, weigh_ok a ws hl]
  by_cases he : (weighOf a ws).2 = 0
  · rw [if_pos he, he]
    obtain ⟨ha, h0, h64, hall, hSa, hne, h1⟩ := weighOf_ok he
    rw [h1]
    have hS' := isAmt_iff.1 hSa
    have hlb := left_bound (a := a) (ws := ws) (by omega) h0
    have ha' := isAmt_iff.1 ha
    simp -implicitDefEqProofs only [decide_true, Bool.not_true, cond_false, Int.toNat_natCast, Nat.mul_one, hL_empty, hL_reserve, hL_next, List.length_nil, Nat.zero_add, List.replicate, List.nil_append, repeat_zero]
    rw [guardO_pos (⟨by omega, by omega, by unfold roomCells; omega, by omega, trivial⟩), guardO_pos (⟨by omega, by omega, by unfold roomCells; omega, by omega, trivial⟩), guardO_pos (⟨by omega, by omega, by unfold roomCells; omega, by omega, trivial⟩)]
    rw [hL_put (by simp), hL_put (by simp), hL_put (by simp), hL_put (by simp)]
    simp -implicitDefEqProofs only [List.set_cons_zero, List.set_cons_succ]
    rw [wrs_own (g := 1) (cs := [.slice .nil 0 0 false]) (e := 1) rfl rfl (by simp)]
    simp -implicitDefEqProofs only [Option.bind_some, List.set_cons_zero, List.set_cons_succ, splice, List.take_zero, List.nil_append, List.length_cons, List.length_nil, Nat.zero_add, List.drop_succ_cons, List.drop_zero, List.drop_nil, List.append_nil]
    rw [guardO_pos (p := apartA _ _ = true) rfl]
    have hl1 := divide_loop1 (f := false) ha hall hSa (by omega) (fun w hw => mem_le_sum (fun y hy => (all_amt hall y hy).1) hw) (by omega) h64
    unfold dH at hl1
    rw [hl1]
    simp -implicitDefEqProofs only [Option.bind_some]
    obtain ⟨left, hleft⟩ : ∃ k : Nat, a - (quos a ws.sum ws).sum = (k : Int) := ⟨(a - (quos a ws.sum ws).sum).toNat, by omega⟩
    obtain ⟨ys, s1, s2, s3, s4⟩ := SortStable_ok (T := proportion_Divide.tb) (v := .func 67 [.hp 3 1 0]) (sl := [cellI (quos a ws.sum ws), cellI (rems a ws.sum ws), cellI (iota ws.length), .own [.slice (.hp 1 ws.length 0) ws.length ws.length true] 1]) (id := 2) (n := ws.length) (t := true) (D := fun x => 0 ≤ x ∧ x < ws.length) (c := cmpR (rems a ws.sum ws)) (lt := ltR (rems a ws.sum ws)) (by simp) h64
      (fun x y xs hx hy hxs R k => by
        show (proportion_Divide_1 x y (.hp 3 1 0) (hS [cellI (quos a ws.sum ws), cellI (rems a ws.sum ws), cellI (iota ws.length), .own [.slice (.hp 1 ws.length 0) ws.length ws.length true] 1] 2 xs)).bind (fun p => k (.int .i64 p.1) p.2) = _
        rw [dH_hS, Divide1_ok rems_length hx hy]
        rfl) (fun x y z => ltR_trans x y z) (xs := iota ws.length) iota_length (fun k hk => by rw [g_iota hk]; omega) (fun p q hpq hq => by
        rw [g_iota (k := q) hq, g_iota (k := p) (by omega)]
        unfold Says cmpR ltR
        simp only [Int.toNat_natCast]
        constructor
        · intro h; split at h
          · left; assumption
          · split at h <;> omega
        · intro h; split at h
          · omega
          · split at h <;> omega)
    have hys : ys = ord (rems a ws.sum ws) := ord_uniq (by rw [rems_length]; exact s3) (fun p q h1 h2 => by rw [rems_length] at h2; exact s4 p q h1 h2)
    rw [hys] at s1
    rw [dH_hS, dH_hS] at s1
    unfold dH sS at s1
    rw [s1]
    simp -implicitDefEqProofs only [Option.bind_some, hleft]
    have hl2 := divide_loop2 (f := false) (qs := quos a ws.sum ws) (rs := rems a ws.sum ws) (os := ord (rems a ws.sum ws)) (n := ws.length) (k := left) (ws := ws) rfl quos_length (by rw [ord_length, rems_length]) ord_nodup (fun i hi => by
        have := ord_range (rs := rems a ws.sum ws) (p := i) (by rw [rems_length]; exact hi)
        rwa [rems_length] at this) (by omega) h64 (fun q hq => by
        obtain ⟨w, hw, rfl⟩ := List.mem_map.1 hq
        have k1 := all_amt hall w hw
        have k2 := mem_le_sum (fun y hy => (all_amt hall y hy).1) hw
        have k3 := quo_le (a := a) (S := ws.sum) (w := w) ha'.1 (by omega) k2
        exact ⟨Int.ediv_nonneg (Int.mul_nonneg ha'.1 k1.1) (by omega), by omega⟩)
    unfold dH at hl2
    rw [hl2]
    simp -implicitDefEqProofs only [Option.bind_some]
    unfold divParts
    rw [hleft, Int.toNat_natCast]
    have hb : (bump (quos a ws.sum ws) (ord (rems a ws.sum ws)) left).length = ws.length := by rw [bump_length, quos_length]
    have hread := rdRow_own (lp := false) (ls := [.int .i64]) (xs := bump (quos a ws.sum ws) (ord (rems a ws.sum ws)) left) (sl := [cellI (bump (quos a ws.sum ws) (ord (rems a ws.sum ws)) left), cellI (rems a ws.sum ws), cellI (ord (rems a ws.sum ws)), .own [.slice (.hp 1 ws.length 0) ws.length ws.length true] 1]) (id := 0) (e := 1) (n := ws.length) (c := ws.length) (t := true) rfl (by rw [hb]; simp) rfl
    rw [hb] at hread
    rw [hread]
    rfl
  · rw [if_neg he, decide_eq_false he]
    simp -implicitDefEqProofs only [evs, reduceIte, rdRes, rdTT, rdTy, rdLT, Res.un, TT.un, Ty.un, LT.un, Leaf.un, Leaf.plain, LT.plain]
end Go.Proofs.Ytbcpdecgfdlaaaa
/- What Divide of the reference of package proportion computes. Conditions: those of each law. -/
namespace Go.Proofs.Ytbcpdecgfdlaaaa
open Go Go.Proofs.Ytbcpdecgfdlaaaa.Ev
set_option linter.unusedVariables false
set_option linter.unusedSimpArgs false
set_option maxRecDepth 100000
set_option maxHeartbeats 4000000
theorem ownSV_len {id n : Nat} {ls : List Leaf} : (ownSV id ls n).len = n := congrArg SV.len (Eq.refl _)
theorem ownSV_ptr {id n : Nat} {ls : List Leaf} : (ownSV id ls n).a = V.hp id (n * ls.length) 0 := congrArg SV.a (Eq.refl _)
end Go.Proofs.Ytbcpdecgfdlaaaa
/- What Draw of package mix computes. Conditions: those of each law. -/
namespace Go.Proofs.Ytbcpdecgfdlaaaa
open Go Go.Proofs.Ytbcpdecgfdlaaaa.Ev
set_option linter.unusedVariables false
set_option linter.unusedSimpArgs false
set_option maxRecDepth 100000
set_option maxHeartbeats 4000000
/-- A liquid that can be: its alcohol and its volume in range, no alcohol in no volume. -/
def isPlain (x : Int × Int) : Bool := decide (0 ≤ x.1 ∧ x.1 ≤ 10737418240000 ∧ 0 ≤ x.2 ∧ x.2 ≤ 128849018880000 ∧ (0 < x.2 ∨ x.1 = 0))
theorem isPlain_iff {x : Int × Int} : isPlain x = true ↔ 0 ≤ x.1 ∧ x.1 ≤ 10737418240000 ∧ 0 ≤ x.2 ∧ x.2 ≤ 128849018880000 ∧ (0 < x.2 ∨ x.1 = 0) := by simp [isPlain]
theorem plain_ok (a v : Int) : mix_plainP (a, v) = some (isPlain (a, v)) := by
  unfold mix_plainP mix_plain isPlain
  simp -implicitDefEqProofs only [evs, reduceIte, rdRes, rdTT, rdTy, rdLT, Res.un, TT.un, Ty.un, LT.un, Leaf.un, Leaf.plain, LT.plain, evh, List.replicate, splice, LT.pack, Leaf.pack, Nat.reduceAdd, Nat.reduceSub, Nat.reduceLeDiff, Nat.reduceLT, Nat.reduceEqDiff, LT.lo, Leaf.lo]
  by_cases h1 : 0 ≤ a
  · rw [decide_eq_true h1]
    simp -implicitDefEqProofs only [evs, reduceIte, rdRes, rdTT, rdTy, rdLT, Res.un, TT.un, Ty.un, LT.un, Leaf.un, Leaf.plain, LT.plain, evh, List.replicate, splice, LT.pack, Leaf.pack, Nat.reduceAdd, Nat.reduceSub, Nat.reduceLeDiff, Nat.reduceLT, Nat.reduceEqDiff, LT.lo, Leaf.lo]
    by_cases h2 : a ≤ 10737418240000
    · rw [decide_eq_true h2]
      simp -implicitDefEqProofs only [evs, reduceIte, rdRes, rdTT, rdTy, rdLT, Res.un, TT.un, Ty.un, LT.un, Leaf.un, Leaf.plain, LT.plain, evh, List.replicate, splice, LT.pack, Leaf.pack, Nat.reduceAdd, Nat.reduceSub, Nat.reduceLeDiff, Nat.reduceLT, Nat.reduceEqDiff, LT.lo, Leaf.lo]
      by_cases h3 : 0 ≤ v
      · rw [decide_eq_true h3]
        simp -implicitDefEqProofs only [evs, reduceIte, rdRes, rdTT, rdTy, rdLT, Res.un, TT.un, Ty.un, LT.un, Leaf.un, Leaf.plain, LT.plain, evh, List.replicate, splice, LT.pack, Leaf.pack, Nat.reduceAdd, Nat.reduceSub, Nat.reduceLeDiff, Nat.reduceLT, Nat.reduceEqDiff, LT.lo, Leaf.lo]
        by_cases h4 : v ≤ 128849018880000
        · rw [decide_eq_true h4]
          simp -implicitDefEqProofs only [evs, reduceIte, rdRes, rdTT, rdTy, rdLT, Res.un, TT.un, Ty.un, LT.un, Leaf.un, Leaf.plain, LT.plain, evh, List.replicate, splice, LT.pack, Leaf.pack, Nat.reduceAdd, Nat.reduceSub, Nat.reduceLeDiff, Nat.reduceLT, Nat.reduceEqDiff, LT.lo, Leaf.lo]
          by_cases h5 : 0 < v
          · rw [decide_eq_true h5]
            simp -implicitDefEqProofs only [evs, reduceIte, rdRes, rdTT, rdTy, rdLT, Res.un, TT.un, Ty.un, LT.un, Leaf.un, Leaf.plain, LT.plain, evh, List.replicate, splice, LT.pack, Leaf.pack, Nat.reduceAdd, Nat.reduceSub, Nat.reduceLeDiff, Nat.reduceLT, Nat.reduceEqDiff, LT.lo, Leaf.lo]
            rw [decide_eq_true (by omega)]
          · rw [decide_eq_false h5]
            simp -implicitDefEqProofs only [evs, reduceIte, rdRes, rdTT, rdTy, rdLT, Res.un, TT.un, Ty.un, LT.un, Leaf.un, Leaf.plain, LT.plain, evh, List.replicate, splice, LT.pack, Leaf.pack, Nat.reduceAdd, Nat.reduceSub, Nat.reduceLeDiff, Nat.reduceLT, Nat.reduceEqDiff, LT.lo, Leaf.lo]
            by_cases h6 : a = 0
            · rw [decide_eq_true h6, decide_eq_true (by omega)]
            · rw [decide_eq_false h6, decide_eq_false (by omega)]
        · rw [decide_eq_false h4, decide_eq_false (p := _ ∧ _) (by omega)]
          simp -implicitDefEqProofs only [evs, reduceIte, rdRes, rdTT, rdTy, rdLT, Res.un, TT.un, Ty.un, LT.un, Leaf.un, Leaf.plain, LT.plain, evh, List.replicate, splice, LT.pack, Leaf.pack, Nat.reduceAdd, Nat.reduceSub, Nat.reduceLeDiff, Nat.reduceLT, Nat.reduceEqDiff, LT.lo, Leaf.lo]
      · rw [decide_eq_false h3, decide_eq_false (p := _ ∧ _) (by omega)]
        simp -implicitDefEqProofs only [evs, reduceIte, rdRes, rdTT, rdTy, rdLT, Res.un, TT.un, Ty.un, LT.un, Leaf.un, Leaf.plain, LT.plain, evh, List.replicate, splice, LT.pack, Leaf.pack, Nat.reduceAdd, Nat.reduceSub, Nat.reduceLeDiff, Nat.reduceLT, Nat.reduceEqDiff, LT.lo, Leaf.lo]
    · rw [decide_eq_false h2, decide_eq_false (p := _ ∧ _) (by omega)]
      simp -implicitDefEqProofs only [evs, reduceIte, rdRes, rdTT, rdTy, rdLT, Res.un, TT.un, Ty.un, LT.un, Leaf.un, Leaf.plain, LT.plain, evh, List.replicate, splice, LT.pack, Leaf.pack, Nat.reduceAdd, Nat.reduceSub, Nat.reduceLeDiff, Nat.reduceLT, Nat.reduceEqDiff, LT.lo, Leaf.lo]
  · rw [decide_eq_false h1, decide_eq_false (p := _ ∧ _) (by omega)]
    simp -implicitDefEqProofs only [evs, reduceIte, rdRes, rdTT, rdTy, rdLT, Res.un, TT.un, Ty.un, LT.un, Leaf.un, Leaf.plain, LT.plain, evh, List.replicate, splice, LT.pack, Leaf.pack, Nat.reduceAdd, Nat.reduceSub, Nat.reduceLeDiff, Nat.reduceLT, Nat.reduceEqDiff, LT.lo, Leaf.lo]
/-- A draw: what is drawn, what stays, the error. -/
def drawOf (x : Int × Int) (w : Int) : (Int × Int) × (Int × Int) × Int :=
  if isPlain x = true then (if w < 0 then ((0, 0), (0, 0), 2) else if x.2 < w then ((0, 0), (0, 0), 17) else ((x.1 * w / x.2, w), (x.1 - x.1 * w / x.2, x.2 - w), 0)) else ((0, 0), (0, 0), 1)
theorem share_le {a w v : Int} (ha : 0 ≤ a) (hw : 0 ≤ w) (hv : 0 < v) (h : w ≤ v) : 0 ≤ a * w / v ∧ a * w / v ≤ a := by
  refine ⟨Int.ediv_nonneg (Int.mul_nonneg ha hw) (by omega), ?_⟩
  have := Int.ediv_le_ediv hv (Int.mul_le_mul_of_nonneg_left h ha)
  rwa [Int.mul_ediv_cancel _ (by omega)] at this
theorem Draw_ok (a v w : Int) : mix_DrawP (a, v) w = some (drawOf (a, v) w) := by
  unfold mix_DrawP mix_Draw drawOf
  simp -implicitDefEqProofs only [evs, reduceIte, rdRes, rdTT, rdTy, rdLT, Res.un, TT.un, Ty.un, LT.un, Leaf.un, Leaf.plain, LT.plain, evh, List.replicate, splice, LT.pack, Leaf.pack, Nat.reduceAdd, Nat.reduceSub, Nat.reduceLeDiff, Nat.reduceLT, Nat.reduceEqDiff, LT.lo, Leaf.lo]
  rw [plain_ok]
  simp -implicitDefEqProofs only [evs, reduceIte, rdRes, rdTT, rdTy, rdLT, Res.un, TT.un, Ty.un, LT.un, Leaf.un, Leaf.plain, LT.plain, evh, List.replicate, splice, LT.pack, Leaf.pack, Nat.reduceAdd, Nat.reduceSub, Nat.reduceLeDiff, Nat.reduceLT, Nat.reduceEqDiff, LT.lo, Leaf.lo]
  cases h : isPlain (a, v) with
  | false => simp -implicitDefEqProofs only [evs, reduceIte, rdRes, rdTT, rdTy, rdLT, Res.un, TT.un, Ty.un, LT.un, Leaf.un, Leaf.plain, LT.plain, evh, List.replicate, splice, LT.pack, Leaf.pack, Nat.reduceAdd, Nat.reduceSub, Nat.reduceLeDiff, Nat.reduceLT, Nat.reduceEqDiff, LT.lo, Leaf.lo]; rfl
  | true =>
    rw [isPlain_iff] at h
    simp only at h
    simp -implicitDefEqProofs only [evs, reduceIte, rdRes, rdTT, rdTy, rdLT, Res.un, TT.un, Ty.un, LT.un, Leaf.un, Leaf.plain, LT.plain, evh, List.replicate, splice, LT.pack, Leaf.pack, Nat.reduceAdd, Nat.reduceSub, Nat.reduceLeDiff, Nat.reduceLT, Nat.reduceEqDiff, LT.lo, Leaf.lo]
    by_cases h1 : w < 0
    · rw [decide_eq_true h1, if_pos h1]
      simp -implicitDefEqProofs only [evs, reduceIte, rdRes, rdTT, rdTy, rdLT, Res.un, TT.un, Ty.un, LT.un, Leaf.un, Leaf.plain, LT.plain, evh, List.replicate, splice, LT.pack, Leaf.pack, Nat.reduceAdd, Nat.reduceSub, Nat.reduceLeDiff, Nat.reduceLT, Nat.reduceEqDiff, LT.lo, Leaf.lo]
    · rw [decide_eq_false h1, if_neg h1]
      simp -implicitDefEqProofs only [evs, reduceIte, rdRes, rdTT, rdTy, rdLT, Res.un, TT.un, Ty.un, LT.un, Leaf.un, Leaf.plain, LT.plain, evh, List.replicate, splice, LT.pack, Leaf.pack, Nat.reduceAdd, Nat.reduceSub, Nat.reduceLeDiff, Nat.reduceLT, Nat.reduceEqDiff, LT.lo, Leaf.lo]
      by_cases h2 : v < w
      · rw [decide_eq_true h2, if_pos h2]
        simp -implicitDefEqProofs only [evs, reduceIte, rdRes, rdTT, rdTy, rdLT, Res.un, TT.un, Ty.un, LT.un, Leaf.un, Leaf.plain, LT.plain, evh, List.replicate, splice, LT.pack, Leaf.pack, Nat.reduceAdd, Nat.reduceSub, Nat.reduceLeDiff, Nat.reduceLT, Nat.reduceEqDiff, LT.lo, Leaf.lo]
      · rw [decide_eq_false h2, if_neg h2]
        simp -implicitDefEqProofs only [evs, reduceIte, rdRes, rdTT, rdTy, rdLT, Res.un, TT.un, Ty.un, LT.un, Leaf.un, Leaf.plain, LT.plain, evh, List.replicate, splice, LT.pack, Leaf.pack, Nat.reduceAdd, Nat.reduceSub, Nat.reduceLeDiff, Nat.reduceLT, Nat.reduceEqDiff, LT.lo, Leaf.lo]
        by_cases h3 : v = 0
        · have ha : a = 0 := by omega
          have hw : w = 0 := by omega
          subst h3 ha hw
          rw [decide_eq_true rfl]
          simp -implicitDefEqProofs only [evs, reduceIte, rdRes, rdTT, rdTy, rdLT, Res.un, TT.un, Ty.un, LT.un, Leaf.un, Leaf.plain, LT.plain, evh, List.replicate, splice, LT.pack, Leaf.pack, Nat.reduceAdd, Nat.reduceSub, Nat.reduceLeDiff, Nat.reduceLT, Nat.reduceEqDiff, LT.lo, Leaf.lo]
          rfl
        · rw [decide_eq_false h3]
          have hs := share_le (a := a) (w := w) (v := v) (by omega) (by omega) (by omega) (by omega)
          have hof : ofOf a w v = (a * w / v, a * w % v, 0) := by
            unfold ofOf
            rw [if_pos (by simp [isAmt_iff]; omega), if_neg h3, if_neg (by omega)]
          simp -implicitDefEqProofs only [evs, reduceIte, rdRes, rdTT, rdTy, rdLT, Res.un, TT.un, Ty.un, LT.un, Leaf.un, Leaf.plain, LT.plain, evh, List.replicate, splice, LT.pack, Leaf.pack, Nat.reduceAdd, Nat.reduceSub, Nat.reduceLeDiff, Nat.reduceLT, Nat.reduceEqDiff, LT.lo, Leaf.lo, Of_ok, hof]
          rw [i64_in _ (by omega), i64_in _ (by omega)]
          rfl
end Go.Proofs.Ytbcpdecgfdlaaaa
/- What share.Check, share.Sum and those of the reference compute. Conditions: those of each law. -/
namespace Go.Proofs.Ytbcpdecgfdlaaaa
open Go Go.Proofs.Ytbcpdecgfdlaaaa.Ev
set_option linter.unusedVariables false
set_option linter.unusedSimpArgs false
set_option maxRecDepth 100000
set_option maxHeartbeats 4000000
/-- An element of a list of pairs. -/
def at2 (xs : List (Int × Int)) (i : Nat) : Int × Int := xs[i]?.getD (0, 0)
theorem at2_some {xs : List (Int × Int)} {i : Nat} (h : i < xs.length) : xs[i]? = some (at2 xs i) := by
  unfold at2
  rw [List.getElem?_eq_getElem h]
  rfl
theorem at2_mem {xs : List (Int × Int)} {i : Nat} (h : i < xs.length) : at2 xs i ∈ xs := List.mem_of_getElem? (at2_some h)
theorem rd_at2 {f : Bool} {xs : List (Int × Int)} {i : Nat} {h : H} (hi : i < xs.length) : rdT (.leaf (.int .i64)) h (((rowSV f j2 xs).a.add (i * 2)).add 0) = some (at2 xs i).1 ∧ rdT (.leaf (.int .i64)) h (((rowSV f j2 xs).a.add (i * 2)).add 1) = some (at2 xs i).2 := by
  refine ⟨?_, ?_⟩ <;> (rw [add_add, rd_row (ls := j2) (w := 2) rfl (by omega), at2_some hi]; rfl)
theorem nn_at2 {f : Bool} {xs : List (Int × Int)} {i : Nat} (hi : i < xs.length) : V.nn ((rowSV f j2 xs).a.add (i * 2)) = true := nn_row (by omega) (by simp)
/-- The first one of some faults. -/
def firstF (f : Nat → Int) (n : Nat) : Int := (((List.range n).find? fun i => !decide (f i = 0)).map f).getD 0
theorem first_cases (f : Nat → Int) : ∀ (n : Nat), ((∀ i, i < n → f i = 0) ∧ firstF f n = 0) ∨ ∃ m, m < n ∧ f m ≠ 0 ∧ (∀ i, i < m → f i = 0) ∧ firstF f n = f m := fun n => by
  unfold firstF
  cases h : (List.range n).find? fun i => !decide (f i = 0) with
  | none =>
    refine .inl ⟨fun i hi => ?_, rfl⟩
    have := List.find?_eq_none.1 h i (List.mem_range.2 hi)
    simpa using this
  | some m =>
    obtain ⟨h1, us, bs, h2, h3⟩ := List.find?_eq_some_iff_append.1 h
    refine .inr ⟨m, List.mem_range.1 (by rw [h2]; simp), by simpa using h1, fun i hi => ?_, rfl⟩
    have hm : us.length = m := by
      have h4 : (List.range n)[us.length]? = some m := by rw [h2]; simp
      rw [List.getElem?_eq_some_iff] at h4
      obtain ⟨_, h5⟩ := h4
      simpa using h5
    have : i ∈ us := by
      have h4 : (List.range n)[i]? = us[i]? := by rw [h2, List.getElem?_append_left (by omega)]
      have hn : m < n := List.mem_range.1 (by rw [h2]; simp)
      rw [List.getElem?_range (by omega)] at h4
      exact List.mem_of_getElem? h4.symm
    have := h3 i this
    simpa using this
def okS (x : Int × Int) : Bool := decide (1 ≤ x.1 ∧ x.1 ≤ 1073741824 ∧ 1 ≤ x.2 ∧ x.2 ≤ 10737418240000)
theorem okS_iff {x : Int × Int} : okS x = true ↔ 1 ≤ x.1 ∧ x.1 ≤ 1073741824 ∧ 1 ≤ x.2 ∧ x.2 ≤ 10737418240000 := by simp [okS]
/-- The sum of the alcohol. -/
def sumA (xs : List (Int × Int)) : Int := (xs.map (·.2)).sum
theorem sumA_take {xs : List (Int × Int)} {i : Nat} (h : i < xs.length) : sumA (xs.take (i + 1)) = sumA (xs.take i) + (at2 xs i).2 := by
  have := at2_some h
  obtain ⟨hi, he⟩ := List.getElem?_eq_some_iff.1 this
  unfold sumA
  rw [← List.take_append_getElem hi, he]
  simp
theorem sumA_bound : ∀ (xs : List (Int × Int)), (∀ x ∈ xs, 0 ≤ x.2 ∧ x.2 ≤ 1000000000000000) → 0 ≤ sumA xs ∧ sumA xs ≤ xs.length * 1000000000000000
  | [], _ => by simp [sumA]
  | x :: xs, h => by
    have h1 := h x (by simp)
    have h2 := sumA_bound xs fun y hy => h y (by simp [hy])
    unfold sumA at h2 ⊢
    simp only [List.map_cons, List.sum_cons, List.length_cons]
    omega
def sfault (xs : List (Int × Int)) (i : Nat) : Int := if okS (at2 xs i) = true then (if 0 < i ∧ (at2 xs i).1 ≤ (at2 xs (i - 1)).1 then 5 else 0) else 2
def shareCheck (xs : List (Int × Int)) : Int :=
  if 32 < xs.length then 8 else if firstF (sfault xs) xs.length = 0 then (if 10737418240000 < sumA xs then 15 else 0) else firstF (sfault xs) xs.length
theorem okS_code {x1 x2 : Int} {h : H} : (bif !(decide (x1 < 1)) then (bif !(decide ((1073741824 : Int) < x1)) then (bif !(decide (x2 < 1)) then some (decide ((10737418240000 : Int) < x2), h) else some (true, h)) else some (true, h)) else some (true, h) : Option (Bool × H)) = some (!okS (x1, x2), h) := by
  unfold okS
  by_cases h1 : x1 < 1
  · rw [decide_eq_true h1, decide_eq_false (p := _ ∧ _) (by simp only; omega)]; rfl
  · rw [decide_eq_false h1]
    by_cases h2 : (1073741824 : Int) < x1
    · rw [decide_eq_true h2, decide_eq_false (p := _ ∧ _) (by simp only; omega)]; rfl
    · rw [decide_eq_false h2]
      by_cases h3 : x2 < 1
      · rw [decide_eq_true h3, decide_eq_false (p := _ ∧ _) (by simp only; omega)]; rfl
      · rw [decide_eq_false h3]
        by_cases h4 : (10737418240000 : Int) < x2
        · rw [decide_eq_true h4, decide_eq_false (p := _ ∧ _) (by simp only; omega)]; rfl
        · rw [decide_eq_false h4, decide_eq_true (p := _ ∧ _) (by simp only; omega)]; rfl
theorem sfault_ok {xs : List (Int × Int)} {i : Nat} (h : sfault xs i = 0) : okS (at2 xs i) = true := by
  unfold sfault at h
  by_cases h1 : okS (at2 xs i) = true
  · exact h1
  · rw [if_neg h1] at h; simp at h
theorem take_ok {xs : List (Int × Int)} {i : Nat} (hi : i ≤ xs.length) (h : ∀ j, j < i → sfault xs j = 0) : ∀ x ∈ xs.take i, 0 ≤ x.2 ∧ x.2 ≤ 1000000000000000 := fun x hx => by
  obtain ⟨j, hj, e⟩ := List.getElem_of_mem hx
  rw [List.length_take] at hj
  rw [List.getElem_take] at e
  have h1 := okS_iff.1 (sfault_ok (h j (by omega)))
  have : at2 xs j = x := by
    have := at2_some (xs := xs) (i := j) (by omega)
    rw [List.getElem?_eq_getElem (by omega), e] at this
    exact (Option.some.inj this).symm
  rw [this] at h1
  omega
theorem sCheck_step {xs : List (Int × Int)} {f : Bool} {i : Nat} (hi : i < xs.length) (h32 : xs.length ≤ 32) (hp : ∀ j, j < i → sfault xs j = 0) :
    share_Check.loop1 (rowSV f j2 xs) ((sumA (xs.take i), (i : Int)), hL ((xs.take i).map c2)) = some (if sfault xs i = 0 then .more ((sumA (xs.take (i + 1)), ((i + 1 : Nat) : Int)), hL ((xs.take (i + 1)).map c2)) else .done (.ret (sfault xs i), hL ((xs.take (i + 1)).map c2))) := by
  have hget := at2_some hi
  have hsl : (xs.take i).map c2 ++ [c2 (at2 xs i)] = (xs.take (i + 1)).map c2 := by
    obtain ⟨h1, he⟩ := List.getElem?_eq_some_iff.1 hget
    rw [← List.take_append_getElem h1, he, List.map_append]
    rfl
  have hrow : ((xs.take i).map c2 ++ [c2 (at2 xs i)])[((xs.take i).map c2).length]? = some (c2 (at2 xs i)) := by simp
  have r1 := rd_c2 hrow
  have nw := new_c2 (sl := (xs.take i).map c2) (x := at2 xs i)
  have hb := sumA_bound (xs.take i) (take_ok (by omega) hp)
  rw [List.length_take, Nat.min_eq_left (by omega)] at hb
  have hst := sumA_take hi
  have hg1 : 0 ≤ (i : Int) ∧ (i : Int) < (xs.length : Int) := by omega
  unfold share_Check.loop1
  simp -implicitDefEqProofs only [Int.toNat_natCast, rowSV_len, guardO_pos hg1, reserve0]
  rw [decide_eq_true hg1.2, cond_true, rds_rowF (ls := j2) (w := 2) rfl (by omega) rfl, hget]
  simp -implicitDefEqProofs only [Option.bind_some, hL_new, hL_next]
  rw [nw]
  simp -implicitDefEqProofs only [Option.bind_some, r1.1, r1.2]
  rw [okS_code]
  unfold sfault
  cases hok : okS (at2 xs i) with
  | false =>
    simp -implicitDefEqProofs only [evs, reduceIte, rdRes, rdTT, rdTy, rdLT, Res.un, TT.un, Ty.un, LT.un, Leaf.un, Leaf.plain, LT.plain, Bool.false_eq_true]
    rw [hsl, if_neg (by simp)]
  | true =>
    have hok' := okS_iff.1 hok
    simp -implicitDefEqProofs only [evs, reduceIte, rdRes, rdTT, rdTy, rdLT, Res.un, TT.un, Ty.un, LT.un, Leaf.un, Leaf.plain, LT.plain, Bool.false_eq_true]
    cases i with
    | zero =>
      rw [decide_eq_false (show ¬ (0 : Int) < ((0 : Nat) : Int) by omega)]
      simp -implicitDefEqProofs only [evs, reduceIte, rdRes, rdTT, rdTy, rdLT, Res.un, TT.un, Ty.un, LT.un, Leaf.un, Leaf.plain, LT.plain, Bool.false_eq_true]
      rw [r1.2]
      simp -implicitDefEqProofs only [evs, reduceIte, rdRes, rdTT, rdTy, rdLT, Res.un, TT.un, Ty.un, LT.un, Leaf.un, Leaf.plain, LT.plain]
      rw [if_neg (show ¬ ((0 : Nat) < 0 ∧ _) by omega), if_pos rfl, hsl, i64_in _ (by omega), i64_succ (by omega), hst]
    | succ j =>
      have hj : ((j + 1 : Nat) : Int) - 1 = ((j : Nat) : Int) := by omega
      have hg2 : 0 ≤ (j : Int) ∧ (j : Int) < (xs.length : Int) := by omega
      rw [decide_eq_true (show (0 : Int) < ((j + 1 : Nat) : Int) by omega), hj, i64_in (j : Int) (by omega)]
      simp -implicitDefEqProofs only [evs, reduceIte, rdRes, rdTT, rdTy, rdLT, Res.un, TT.un, Ty.un, LT.un, Leaf.un, Leaf.plain, LT.plain, Int.toNat_natCast]
      rw [guardO_pos hg2, guardO_pos (nn_at2 (by omega)), (rd_at2 (by omega)).1]
      simp -implicitDefEqProofs only [evs, reduceIte, rdRes, rdTT, rdTy, rdLT, Res.un, TT.un, Ty.un, LT.un, Leaf.un, Leaf.plain, LT.plain]
      rw [r1.1]
      simp -implicitDefEqProofs only [evs, reduceIte, rdRes, rdTT, rdTy, rdLT, Res.un, TT.un, Ty.un, LT.un, Leaf.un, Leaf.plain, LT.plain]
      rw [Nat.add_sub_cancel]
      by_cases hle : (at2 xs (j + 1)).1 ≤ (at2 xs j).1
      · rw [decide_eq_true hle]
        simp -implicitDefEqProofs only [evs, reduceIte, rdRes, rdTT, rdTy, rdLT, Res.un, TT.un, Ty.un, LT.un, Leaf.un, Leaf.plain, LT.plain]
        rw [if_pos (show (0 < j + 1 ∧ (at2 xs (j + 1)).1 ≤ (at2 xs j).1) from ⟨by omega, hle⟩), if_neg (by omega), hsl]
      · rw [decide_eq_false hle]
        simp -implicitDefEqProofs only [evs, reduceIte, rdRes, rdTT, rdTy, rdLT, Res.un, TT.un, Ty.un, LT.un, Leaf.un, Leaf.plain, LT.plain, Bool.false_eq_true]
        rw [r1.2]
        simp -implicitDefEqProofs only [evs, reduceIte, rdRes, rdTT, rdTy, rdLT, Res.un, TT.un, Ty.un, LT.un, Leaf.un, Leaf.plain, LT.plain]
        rw [if_neg (show ¬ (0 < j + 1 ∧ (at2 xs (j + 1)).1 ≤ (at2 xs j).1) from fun h => hle h.2), if_pos rfl, hsl, i64_in _ (by omega), i64_succ (by omega), hst]
theorem SCheck_ok (xs : List (Int × Int)) (hl : xs.length < 2 ^ 63) : share_CheckP xs = some (shareCheck xs) := by
  unfold share_CheckP share_Check shareCheck
  simp -implicitDefEqProofs only [evs, reduceIte, rdRes, rdTT, rdTy, rdLT, Res.un, TT.un, Ty.un, LT.un, Leaf.un, Leaf.plain, LT.plain, hL_empty]
  by_cases h32 : 32 < xs.length
  · rw [if_pos h32, decide_eq_true (show (32 : Int) < (xs.length : Int) by omega)]
    simp -implicitDefEqProofs only [evs, reduceIte, rdRes, rdTT, rdTy, rdLT, Res.un, TT.un, Ty.un, LT.un, Leaf.un, Leaf.plain, LT.plain]
  · rw [if_neg h32, decide_eq_false (show ¬ (32 : Int) < (xs.length : Int) by omega)]
    simp -implicitDefEqProofs only [evs, reduceIte, rdRes, rdTT, rdTy, rdLT, Res.un, TT.un, Ty.un, LT.un, Leaf.un, Leaf.plain, LT.plain]
    rcases first_cases (sfault xs) xs.length with ⟨h1, h2⟩ | ⟨m, h1, h2, h3, h4⟩
    · rw [h2, if_pos rfl]
      rw [iter_from (s0 := (((0 : Int), (0 : Int)), hL [])) (f := share_Check.loop1 (rowSV false j2 xs)) (x := (.ex0 (sumA xs), hL (xs.map c2))) (fun i => ((sumA (xs.take i), (i : Int)), hL ((xs.take i).map c2))) rfl xs.length FUEL (fun i hi => by
        rw [sCheck_step hi (by omega) (fun j hj => h1 j (by omega)), if_pos (h1 i hi)]) (by
        unfold share_Check.loop1
        simp -implicitDefEqProofs only [rowSV_len]
        rw [decide_eq_false (by omega), cond_false, List.take_length]) (fuel_gt (by omega))]
      simp -implicitDefEqProofs only [evs, reduceIte, rdRes, rdTT, rdTy, rdLT, Res.un, TT.un, Ty.un, LT.un, Leaf.un, Leaf.plain, LT.plain]
      by_cases hs : 10737418240000 < sumA xs
      · rw [decide_eq_true hs, if_pos hs]; simp -implicitDefEqProofs only [evs, reduceIte, rdRes, rdTT, rdTy, rdLT, Res.un, TT.un, Ty.un, LT.un, Leaf.un, Leaf.plain, LT.plain]
      · rw [decide_eq_false hs, if_neg hs]; simp -implicitDefEqProofs only [evs, reduceIte, rdRes, rdTT, rdTy, rdLT, Res.un, TT.un, Ty.un, LT.un, Leaf.un, Leaf.plain, LT.plain]
    · rw [h4, if_neg h2]
      rw [iter_from (s0 := (((0 : Int), (0 : Int)), hL [])) (f := share_Check.loop1 (rowSV false j2 xs)) (x := (.ret (sfault xs m), hL ((xs.take (m + 1)).map c2))) (fun i => ((sumA (xs.take i), (i : Int)), hL ((xs.take i).map c2))) rfl m FUEL (fun i hi => by
        rw [sCheck_step (by omega) (by omega) (fun j hj => h3 j (by omega)), if_pos (h3 i hi)]) (by
        rw [sCheck_step h1 (by omega) h3, if_neg h2]) (fuel_gt (by omega))]
      simp -implicitDefEqProofs only [evs, reduceIte, rdRes, rdTT, rdTy, rdLT, Res.un, TT.un, Ty.un, LT.un, Leaf.un, Leaf.plain, LT.plain]
end Go.Proofs.Ytbcpdecgfdlaaaa
/- What share.amounts, share.Sum and those of the reference compute. Conditions: those of each law. -/
namespace Go.Proofs.Ytbcpdecgfdlaaaa
open Go Go.Proofs.Ytbcpdecgfdlaaaa.Ev
set_option linter.unusedVariables false
set_option linter.unusedSimpArgs false
set_option maxRecDepth 100000
set_option maxHeartbeats 4000000
theorem shareCheck_ok {xs : List (Int × Int)} (h : shareCheck xs = 0) : xs.length ≤ 32 ∧ (∀ i, i < xs.length → sfault xs i = 0) ∧ (∀ x ∈ xs, okS x = true) ∧ sumA xs ≤ 10737418240000 := by
  unfold shareCheck at h
  by_cases h32 : 32 < xs.length
  · rw [if_pos h32] at h; simp at h
  · rw [if_neg h32] at h
    rcases first_cases (sfault xs) xs.length with ⟨h1, h2⟩ | ⟨m, h1, h2, h3, h4⟩
    · rw [h2, if_pos rfl] at h
      by_cases hs : 10737418240000 < sumA xs
      · rw [if_pos hs] at h; simp at h
      · refine ⟨by omega, h1, fun x hx => ?_, by omega⟩
        obtain ⟨i, hi, e⟩ := List.getElem_of_mem hx
        have := sfault_ok (h1 i hi)
        have h5 := at2_some hi
        rw [List.getElem?_eq_getElem hi, e] at h5
        rw [Option.some.inj h5]
        exact this
    · rw [h4, if_neg h2] at h
      exact absurd h h2
theorem okS_bound {xs : List (Int × Int)} (h : ∀ x ∈ xs, okS x = true) : ∀ x ∈ xs, 0 ≤ x.2 ∧ x.2 ≤ 1000000000000000 := fun x hx => by
  have := okS_iff.1 (h x hx)
  omega
theorem take_bound {xs : List (Int × Int)} (h : ∀ x ∈ xs, 0 ≤ x.2 ∧ x.2 ≤ 1000000000000000) (i : Nat) (hi : i ≤ xs.length) : 0 ≤ sumA (xs.take i) ∧ sumA (xs.take i) ≤ i * 1000000000000000 := by
  have := sumA_bound (xs.take i) fun x hx => h x (List.mem_of_mem_take hx)
  rw [List.length_take, Nat.min_eq_left hi] at this
  exact this
theorem take_snd {xs : List (Int × Int)} {i : Nat} (h : i < xs.length) : (xs.take (i + 1)).map (·.2) = (xs.take i).map (·.2) ++ [(at2 xs i).2] := by
  obtain ⟨hi, he⟩ := List.getElem?_eq_some_iff.1 (at2_some h)
  rw [← List.take_append_getElem hi, he, List.map_append]
  rfl
theorem amounts23_ok (xs : List (Int × Int)) (hl : xs.length ≤ 64) (hb : ∀ x ∈ xs, 0 ≤ x.2 ∧ x.2 ≤ 1000000000000000) : share_amountsP xs = some (xs.map (·.2), sumA xs) := by
  unfold share_amountsP share_amounts
  simp -implicitDefEqProofs only [evs, reduceIte, rdRes, rdTT, rdTy, rdLT, Res.un, TT.un, Ty.un, LT.un, Leaf.un, Leaf.plain, LT.plain, hL_empty]
  obtain ⟨x, h1, s, sl, o, rfl, h2⟩ := iter_upto (f := share_amounts.loop1 (rowSV false j2 xs)) (fun i st => ∃ s sl o, st = ((s, sumA (xs.take i), (i : Int)), hL sl) ∧ Acc sl [.int .i64] ((xs.take i).map (·.2)) s o)
    (fun x => ∃ s sl o, x = (.ex0 (s, sumA xs), hL sl) ∧ Acc sl [.int .i64] (xs.map (·.2)) s o) xs.length (fun i st hi hst => by
      obtain ⟨s, sl, o, rfl, hacc⟩ := hst
      have hget := at2_some hi
      have hrow : (sl ++ [c2 (at2 xs i)])[sl.length]? = some (c2 (at2 xs i)) := by simp
      have nw := new_c2 (sl := sl) (x := at2 xs i)
      have hbd := take_bound hb i (by omega)
      have hx := hb _ (at2_mem hi)
      have hst := sumA_take hi
      have hg1 : 0 ≤ (i : Int) ∧ (i : Int) < (xs.length : Int) := by omega
      have hrow2 : (sl ++ [c2 (at2 xs i)] ++ List.replicate 1 Slot.fresh)[sl.length]? = some (c2 (at2 xs i)) := by simp
      have r1 := rd_c2 hrow2
      have hacc2 : Acc (sl ++ [c2 (at2 xs i)] ++ List.replicate 1 Slot.fresh) [.int .i64] ((xs.take i).map (·.2)) s o := hacc.more.more
      have hlen : (sl ++ [c2 (at2 xs i)]).length < (sl ++ [c2 (at2 xs i)] ++ List.replicate 1 Slot.fresh).length := by simp
      have ho : o ≠ some (sl ++ [c2 (at2 xs i)]).length := fun e => by
        subst e
        have := hacc.lt
        simp at this
        omega
      have ho2 : o ≠ some sl.length := fun e => by
        subst e
        have := hacc.lt
        omega
      obtain ⟨s', sl', id, k1, k2, k3, k4, k5⟩ := Acc.appendAt hacc2 (b := 8) (w := 1) (x := (at2 xs i).2) (vs := [.int .i64 (at2 xs i).2]) hlen ho rfl (by omega) (by rw [List.length_map, List.length_take]; omega) (by omega) rfl
      have hs' : sl'[sl.length]? = some (c2 (at2 xs i)) := by
        rw [k5 sl.length ho2 (by simp), hrow2]
      have r2 := rd_c2 hs'
      obtain ⟨g, hg⟩ := Acc.addr hacc2 (cs := [.int .i64 (at2 xs i).2]) (n := 1) (c := 1) (t := false) (i := (sl ++ [c2 (at2 xs i)]).length)
      have hap : o.getD (sl ++ [c2 (at2 xs i)]).length ≠ sl.length := by
        cases o with
        | none => simp
        | some id => intro e; simp only [Option.getD_some] at e; exact ho2 (by rw [e])
      refine ⟨((s', sumA (xs.take (i + 1)), ((i + 1 : Nat) : Int)), hL sl'), ?_, s', sl', some id, rfl, by rw [take_snd hi]; exact k2⟩
      unfold share_amounts.loop1
      simp -implicitDefEqProofs only [Int.toNat_natCast, rowSV_len, guardO_pos hg1]
      rw [decide_eq_true hg1.2, cond_true, rds_rowF (ls := j2) (w := 2) rfl (by omega) rfl, hget]
      simp -implicitDefEqProofs only [Option.bind_some, hL_new, hL_next]
      rw [nw]
      simp -implicitDefEqProofs only [Option.bind_some, hL_reserve, hL_next]
      rw [r1.2]
      simp -implicitDefEqProofs only [Option.bind_some]
      rw [k1]
      simp -implicitDefEqProofs only [Option.bind_some]
      rw [r2.2]
      simp -implicitDefEqProofs only [Option.bind_some]
      rw [hg, guardO_pos (apart_hp hap), i64_in _ (by omega), i64_succ (by omega), hst]) (fun st hst => by
      obtain ⟨s, sl, o, rfl, hacc⟩ := hst
      rw [List.take_length] at hacc ⊢
      refine ⟨_, ?_, s, sl, o, rfl, hacc⟩
      unfold share_amounts.loop1
      simp -implicitDefEqProofs only [rowSV_len]
      rw [decide_eq_false (by omega), cond_false]) FUEL 0 ((⟨.nil, 0, 0, false⟩, 0, 0), hL []) (by omega) ⟨_, [], none, rfl, Acc.nil⟩ (by have := fuel_gt (n := xs.length) (by omega); omega)
  rw [h1]
  simp -implicitDefEqProofs only [evs, reduceIte, rdRes, rdTT, rdTy, rdLT, Res.un, TT.un, Ty.un, LT.un, Leaf.un, Leaf.plain, LT.plain]
  rw [h2.read rfl]
  rfl
def shareSum (xs : List (Int × Int)) : Int × Int := if shareCheck xs = 0 then (sumA xs, 0) else (0, 1)
theorem SSum_ok (xs : List (Int × Int)) (hl : xs.length < 2 ^ 63) : share_SumP xs = some (shareSum xs) := by
  unfold share_SumP share_Sum shareSum
  simp -implicitDefEqProofs only [evs, reduceIte, rdRes, rdTT, rdTy, rdLT, Res.un, TT.un, Ty.un, LT.un, Leaf.un, Leaf.plain, LT.plain]
  rw [SCheck_ok xs hl]
  simp -implicitDefEqProofs only [evs, reduceIte, rdRes, rdTT, rdTy, rdLT, Res.un, TT.un, Ty.un, LT.un, Leaf.un, Leaf.plain, LT.plain]
  by_cases h : shareCheck xs = 0
  · obtain ⟨h1, h2, h3, h4⟩ := shareCheck_ok h
    rw [decide_eq_true h, if_pos h]
    simp -implicitDefEqProofs only [evs, reduceIte, rdRes, rdTT, rdTy, rdLT, Res.un, TT.un, Ty.un, LT.un, Leaf.un, Leaf.plain, LT.plain]
    rw [amounts23_ok xs (by omega) (okS_bound h3)]
    simp -implicitDefEqProofs only [evs, reduceIte, rdRes, rdTT, rdTy, rdLT, Res.un, TT.un, Ty.un, LT.un, Leaf.un, Leaf.plain, LT.plain]
  · rw [decide_eq_false h, if_neg h]
    simp -implicitDefEqProofs only [evs, reduceIte, rdRes, rdTT, rdTy, rdLT, Res.un, TT.un, Ty.un, LT.un, Leaf.un, Leaf.plain, LT.plain]
end Go.Proofs.Ytbcpdecgfdlaaaa
/- Joining lists of shares, in plain numbers; spileref23.join computes it. Conditions: those of each law. -/
namespace Go.Proofs.Ytbcpdecgfdlaaaa
open Go Go.Proofs.Ytbcpdecgfdlaaaa.Ev
set_option linter.unusedVariables false
set_option linter.unusedSimpArgs false
set_option maxRecDepth 100000
set_option maxHeartbeats 4000000
def joinL : List (Int × Int) → List (Int × Int) → List (Int × Int)
  | [], ys => ys
  | x :: xs, [] => x :: xs
  | x :: xs, y :: ys => if x.1 < y.1 then x :: joinL xs (y :: ys) else if y.1 < x.1 then y :: joinL (x :: xs) ys else (x.1, x.2 + y.2) :: joinL xs ys
termination_by xs ys => xs.length + ys.length
theorem joinL_nil (xs : List (Int × Int)) : joinL xs [] = xs := by cases xs <;> simp [joinL]
theorem nil_joinL (xs : List (Int × Int)) : joinL [] xs = xs := by simp [joinL]
theorem joinL_lt {x y : Int × Int} {xs ys : List (Int × Int)} (h : x.1 < y.1) : joinL (x :: xs) (y :: ys) = x :: joinL xs (y :: ys) := by rw [joinL, if_pos h]
theorem joinL_gt {x y : Int × Int} {xs ys : List (Int × Int)} (h : y.1 < x.1) : joinL (x :: xs) (y :: ys) = y :: joinL (x :: xs) ys := by rw [joinL, if_neg (by omega), if_pos h]
theorem joinL_eq {x y : Int × Int} {xs ys : List (Int × Int)} (h : x.1 = y.1) : joinL (x :: xs) (y :: ys) = (x.1, x.2 + y.2) :: joinL xs ys := by rw [joinL, if_neg (by omega), if_neg (by omega)]
/-- What holds of joined lists, case by case. -/
theorem joinL_cases {P : List (Int × Int) → List (Int × Int) → Prop} (h1 : ∀ ys, P [] ys) (h2 : ∀ xs, P xs []) (h3 : ∀ x xs y ys, x.1 < y.1 → P xs (y :: ys) → P (x :: xs) (y :: ys)) (h4 : ∀ x xs y ys, y.1 < x.1 → P (x :: xs) ys → P (x :: xs) (y :: ys))
    (h5 : ∀ x xs y ys, x.1 = y.1 → P xs ys → P (x :: xs) (y :: ys)) : ∀ (n : Nat) (xs ys : List (Int × Int)), xs.length + ys.length ≤ n → P xs ys
  | n, [], ys, _ => h1 ys
  | n, x :: xs, [], _ => h2 _
  | 0, x :: xs, y :: ys, h => by simp at h
  | n + 1, x :: xs, y :: ys, h => by
    simp only [List.length_cons] at h
    rcases Int.lt_trichotomy x.1 y.1 with h6 | h6 | h6
    · exact h3 x xs y ys h6 (joinL_cases h1 h2 h3 h4 h5 n xs (y :: ys) (by simp only [List.length_cons]; omega))
    · exact h5 x xs y ys h6 (joinL_cases h1 h2 h3 h4 h5 n xs ys (by omega))
    · exact h4 x xs y ys h6 (joinL_cases h1 h2 h3 h4 h5 n (x :: xs) ys (by simp only [List.length_cons]; omega))
theorem joinL_length (xs ys : List (Int × Int)) : (joinL xs ys).length ≤ xs.length + ys.length := by
  refine joinL_cases (P := fun xs ys => (joinL xs ys).length ≤ xs.length + ys.length) (fun ys => by rw [nil_joinL]; simp) (fun xs => by rw [joinL_nil]; simp) (fun x xs y ys h ih => ?_) (fun x xs y ys h ih => ?_) (fun x xs y ys h ih => ?_) _ xs ys (Nat.le_refl _)
  · rw [joinL_lt h]; simp only [List.length_cons] at ih ⊢; omega
  · rw [joinL_gt h]; simp only [List.length_cons] at ih ⊢; omega
  · rw [joinL_eq h]; simp only [List.length_cons] at ih ⊢; omega
theorem joinL_sum (xs ys : List (Int × Int)) : sumA (joinL xs ys) = sumA xs + sumA ys := by
  refine joinL_cases (P := fun xs ys => sumA (joinL xs ys) = sumA xs + sumA ys) (fun ys => by rw [nil_joinL]; simp [sumA]) (fun xs => by rw [joinL_nil]; simp [sumA]) (fun x xs y ys h ih => ?_) (fun x xs y ys h ih => ?_) (fun x xs y ys h ih => ?_) _ xs ys (Nat.le_refl _)
  · rw [joinL_lt h]; simp only [sumA, List.map_cons, List.sum_cons] at ih ⊢; omega
  · rw [joinL_gt h]; simp only [sumA, List.map_cons, List.sum_cons] at ih ⊢; omega
  · rw [joinL_eq h]; simp only [sumA, List.map_cons, List.sum_cons] at ih ⊢; omega
/-- The fills of both. -/
theorem joinL_fill (xs ys : List (Int × Int)) : ∀ p ∈ joinL xs ys, (∃ q ∈ xs, q.1 = p.1) ∨ ∃ q ∈ ys, q.1 = p.1 := by
  refine joinL_cases (P := fun xs ys => ∀ p ∈ joinL xs ys, (∃ q ∈ xs, q.1 = p.1) ∨ ∃ q ∈ ys, q.1 = p.1) (fun ys p hp => by rw [nil_joinL] at hp; exact .inr ⟨p, hp, rfl⟩) (fun xs p hp => by rw [joinL_nil] at hp; exact .inl ⟨p, hp, rfl⟩) (fun x xs y ys h ih p hp => ?_) (fun x xs y ys h ih p hp => ?_) (fun x xs y ys h ih p hp => ?_) _ xs ys (Nat.le_refl _)
  · rw [joinL_lt h] at hp
    rcases List.mem_cons.1 hp with rfl | hp
    · exact .inl ⟨p, by simp, rfl⟩
    · rcases ih p hp with ⟨q, h1, h2⟩ | h1
      · exact .inl ⟨q, by simp [h1], h2⟩
      · exact .inr h1
  · rw [joinL_gt h] at hp
    rcases List.mem_cons.1 hp with rfl | hp
    · exact .inr ⟨p, by simp, rfl⟩
    · rcases ih p hp with h1 | ⟨q, h1, h2⟩
      · exact .inl h1
      · exact .inr ⟨q, by simp [h1], h2⟩
  · rw [joinL_eq h] at hp
    rcases List.mem_cons.1 hp with rfl | hp
    · exact .inl ⟨x, by simp, rfl⟩
    · rcases ih p hp with ⟨q, h1, h2⟩ | ⟨q, h1, h2⟩
      · exact .inl ⟨q, by simp [h1], h2⟩
      · exact .inr ⟨q, by simp [h1], h2⟩
abbrev SortedF (xs : List (Int × Int)) : Prop := List.Pairwise (fun x y => x.1 < y.1) xs
theorem joinL_sorted (xs ys : List (Int × Int)) : SortedF xs → SortedF ys → SortedF (joinL xs ys) := by
  refine joinL_cases (P := fun xs ys => SortedF xs → SortedF ys → SortedF (joinL xs ys)) (fun ys _ h => by rw [nil_joinL]; exact h) (fun xs h _ => by rw [joinL_nil]; exact h) (fun x xs y ys h ih h1 h2 => ?_) (fun x xs y ys h ih h1 h2 => ?_) (fun x xs y ys h ih h1 h2 => ?_) _ xs ys (Nat.le_refl _)
  · have h3 := List.pairwise_cons.1 h1
    have h4 := List.pairwise_cons.1 h2
    rw [joinL_lt h]
    refine List.pairwise_cons.2 ⟨fun p hp => ?_, ih h3.2 h2⟩
    rcases joinL_fill _ _ p hp with ⟨q, k1, k2⟩ | ⟨q, k1, k2⟩
    · have := h3.1 q k1; omega
    · rcases List.mem_cons.1 k1 with rfl | k1
      · omega
      · have := h4.1 q k1; omega
  · have h3 := List.pairwise_cons.1 h1
    have h4 := List.pairwise_cons.1 h2
    rw [joinL_gt h]
    refine List.pairwise_cons.2 ⟨fun p hp => ?_, ih h1 h4.2⟩
    rcases joinL_fill _ _ p hp with ⟨q, k1, k2⟩ | ⟨q, k1, k2⟩
    · rcases List.mem_cons.1 k1 with rfl | k1
      · omega
      · have := h3.1 q k1; omega
    · have := h4.1 q k1; omega
  · have h3 := List.pairwise_cons.1 h1
    have h4 := List.pairwise_cons.1 h2
    rw [joinL_eq h]
    refine List.pairwise_cons.2 ⟨fun p hp => ?_, ih h3.2 h4.2⟩
    simp only
    rcases joinL_fill _ _ p hp with ⟨q, k1, k2⟩ | ⟨q, k1, k2⟩
    · have := h3.1 q k1; omega
    · have := h4.1 q k1; omega
/-- What a list has of a fill. -/
def amtOf (f : Int) (xs : List (Int × Int)) : Int := ((xs.filter fun x => decide (x.1 = f)).map (·.2)).sum
theorem amtOf_nil {f : Int} : amtOf f [] = 0 := rfl
theorem amtOf_cons {f : Int} {x : Int × Int} {xs : List (Int × Int)} : amtOf f (x :: xs) = (if x.1 = f then x.2 else 0) + amtOf f xs := by
  unfold amtOf
  by_cases h : x.1 = f
  · rw [List.filter_cons_of_pos (by simpa using h), if_pos h]; simp
  · rw [List.filter_cons_of_neg (by simpa using h), if_neg h]; simp
theorem amtOf_append {f : Int} : ∀ {xs ys : List (Int × Int)}, amtOf f (xs ++ ys) = amtOf f xs + amtOf f ys
  | [], ys => by simp [amtOf_nil]
  | x :: xs, ys => by rw [List.cons_append, amtOf_cons, amtOf_cons, amtOf_append]; omega
theorem amtOf_none {f : Int} : ∀ {xs : List (Int × Int)}, (∀ x ∈ xs, x.1 ≠ f) → amtOf f xs = 0
  | [], _ => rfl
  | x :: xs, h => by rw [amtOf_cons, if_neg (h x (by simp)), amtOf_none fun y hy => h y (by simp [hy])]; rfl
theorem amtOf_mem : ∀ {xs : List (Int × Int)} {x : Int × Int}, SortedF xs → x ∈ xs → amtOf x.1 xs = x.2
  | [], _, _, h => by cases h
  | y :: ys, x, hs, h => by
    have h3 := List.pairwise_cons.1 hs
    rw [amtOf_cons]
    rcases List.mem_cons.1 h with rfl | h
    · rw [if_pos rfl, amtOf_none fun z hz => by have := h3.1 z hz; omega]; omega
    · have := h3.1 x h
      rw [if_neg (by omega), amtOf_mem h3.2 h]; omega
theorem amtOf_join (f : Int) (xs ys : List (Int × Int)) : amtOf f (joinL xs ys) = amtOf f xs + amtOf f ys := by
  refine joinL_cases (P := fun xs ys => amtOf f (joinL xs ys) = amtOf f xs + amtOf f ys) (fun ys => by rw [nil_joinL]; simp [amtOf_nil]) (fun xs => by rw [joinL_nil]; simp [amtOf_nil]) (fun x xs y ys h ih => ?_) (fun x xs y ys h ih => ?_) (fun x xs y ys h ih => ?_) _ xs ys (Nat.le_refl _)
  · rw [joinL_lt h, amtOf_cons, ih, amtOf_cons (x := x)]; omega
  · rw [joinL_gt h, amtOf_cons, ih, amtOf_cons (x := y)]; omega
  · rw [joinL_eq h, amtOf_cons, ih, amtOf_cons (x := x), amtOf_cons (x := y)]
    simp only
    by_cases hf : x.1 = f
    · rw [if_pos hf, if_pos hf, if_pos (by omega)]; omega
    · rw [if_neg hf, if_neg hf, if_neg (by omega)]; omega
/-- The joined list, by its fills alone. -/
theorem joinL_map (xs ys : List (Int × Int)) (hx : SortedF xs) (hy : SortedF ys) : ((joinL xs ys).map (·.1)).map (fun f => (f, amtOf f xs + amtOf f ys)) = joinL xs ys := by
  rw [List.map_map]
  have : ∀ p ∈ joinL xs ys, ((fun f => (f, amtOf f xs + amtOf f ys)) ∘ fun x : Int × Int => x.1) p = p := fun p hp => by
    simp only [Function.comp]
    rw [← amtOf_join, amtOf_mem (joinL_sorted xs ys hx hy) hp]
  rw [List.map_congr_left this, List.map_id']
theorem drop_at2 {xs : List (Int × Int)} {i : Nat} (h : i < xs.length) : xs.drop i = at2 xs i :: xs.drop (i + 1) := by
  have := at2_some h
  rw [List.getElem?_eq_getElem h] at this
  rw [List.drop_eq_getElem_cons h, Option.some.inj this]
end Go.Proofs.Ytbcpdecgfdlaaaa
/- slices.Grow and slices.Concat of shares; sums by fill in a map. Conditions: those of each law. -/
namespace Go.Proofs.Ytbcpdecgfdlaaaa
open Go Go.Proofs.Ytbcpdecgfdlaaaa.Ev
set_option linter.unusedVariables false
set_option linter.unusedSimpArgs false
set_option maxRecDepth 100000
set_option maxHeartbeats 4000000
def pick3 {α : Type} (a b c : α) : Nat → α
  | 0 => a
  | 1 => b
  | _ => c
theorem pick3_0 {α : Type} {a b c : α} : pick3 a b c 0 = a := rfl
theorem pick3_1 {α : Type} {a b c : α} : pick3 a b c 1 = b := rfl
theorem pick3_2 {α : Type} {a b c : α} : pick3 a b c 2 = c := rfl
/-- An append to a slice of the call's own that has room. -/
theorem append_room {sl : List Slot} {id n a c w b : Nat} {old cs : List V} (hs : sl[id]? = some (.own old w)) (ho : old.length = n * w) (hc : cs.length = c * w) (hf : a + c ≤ n) (hn : n ≤ 2 ^ 36) (hb : b ≤ 2 ^ 11) :
    appendS (hL sl) none w b ⟨.hp id (n * w) 0, a, n, true⟩ cs c = some (⟨.hp id (n * w) 0, a + c, n, true⟩, hL (sl.set id (.own (splice old (a * w) cs) w))) := by
  have hid := (List.getElem?_eq_some_iff.1 hs).1
  simp only [appendS, appendV]
  by_cases h0 : c = 0
  · subst h0
    have : cs = [] := List.eq_nil_of_length_eq_zero (by simpa using hc)
    subst this
    rw [if_pos rfl]
    have : splice old (a * w) [] = old := by simp [splice]
    rw [this]
    have : sl.set id (.own old w) = sl := by
      obtain ⟨h1, h2⟩ := List.getElem?_eq_some_iff.1 hs
      rw [← h2]; exact List.set_getElem_self h1
    rw [this]
    rfl
  · rw [if_neg h0, guardO_pos ⟨by unfold roomCells; omega, hb⟩, hL_m, hs]
    simp only [Option.getD_some]
    rw [if_neg (by omega), if_pos hf, Nat.zero_add, wrs_own hs ho (by rw [hc, ← Nat.add_mul]; exact Nat.mul_le_mul_right _ hf)]
    rfl
theorem Grow_ok {sl : List Slot} {n : Nat} (hn : n ≤ 2 ^ 30) : slices_Grow_api_Share_api_Share ⟨.nil, 0, 0, false⟩ (n : Int) (hL sl) = if n = 0 then some (⟨.nil, 0, 0, false⟩, hL sl) else some (⟨.hp sl.length (n * 2) 0, 0, n, true⟩, hL (sl ++ [.own (repeatCells [.int .i64 0, .int .i64 0] n) 2])) := by
  unfold slices_Grow_api_Share_api_Share
  rw [decide_eq_false (show ¬ (n : Int) < 0 by omega)]
  simp -implicitDefEqProofs only [evs, reduceIte, rdRes, rdTT, rdTy, rdLT, Res.un, TT.un, Ty.un, LT.un, Leaf.un, Leaf.plain, LT.plain, Int.toNat_zero, Nat.sub_self]
  rw [show IntKind.wrap .i64 (((0 : Nat) : Int) - ((0 : Nat) : Int)) = 0 from rfl, show (n : Int) - 0 = (n : Int) by omega, i64_nat (by omega)]
  by_cases h0 : n = 0
  · subst h0
    rw [if_pos rfl, decide_eq_false (show ¬ (0 : Int) < ((0 : Nat) : Int) by omega)]
    simp -implicitDefEqProofs only [evs, reduceIte, rdRes, rdTT, rdTy, rdLT, Res.un, TT.un, Ty.un, LT.un, Leaf.un, Leaf.plain, LT.plain]
  · rw [if_neg h0, decide_eq_true (show (0 : Int) < (n : Int) by omega)]
    simp -implicitDefEqProofs only [evs, reduceIte, rdRes, rdTT, rdTy, rdLT, Res.un, TT.un, Ty.un, LT.un, Leaf.un, Leaf.plain, LT.plain]
    rw [guardO_pos (by omega), guardO_pos ⟨by omega, by unfold roomCells; omega, by omega⟩, Int.toNat_natCast]
    simp -implicitDefEqProofs only [evs, reduceIte, rdRes, rdTT, rdTy, rdLT, Res.un, TT.un, Ty.un, LT.un, Leaf.un, Leaf.plain, LT.plain]
    simp only [appendS, appendV, V.add, newAt]
    rw [if_neg h0, guardO_pos ⟨by unfold roomCells; omega, by omega⟩, if_pos ⟨trivial, trivial, rfl⟩, hL_new, hL_next]
    simp -implicitDefEqProofs only [evs, reduceIte, rdRes, rdTT, rdTy, rdLT, Res.un, TT.un, Ty.un, LT.un, Leaf.un, Leaf.plain, LT.plain]
    rw [guardO_pos (by omega)]
    simp -implicitDefEqProofs only [evs, reduceIte, rdRes, rdTT, rdTy, rdLT, Res.un, TT.un, Ty.un, LT.un, Leaf.un, Leaf.plain, LT.plain]
    rfl
theorem cells_of {f : Bool} {h : H} {xs : List (Int × Int)} : cellsOf h (.slice (rowSV f j2 xs).a xs.length xs.length true) 2 = some (xs.length, cellsL j2 xs) := by
  have e : (rowSV f j2 xs).a = .lp f (cellsL j2 xs) 0 := rfl
  have hlen : (cellsL j2 xs).length = xs.length * 2 := flat_length (ls := j2) xs
  unfold cellsOf
  by_cases h0 : xs.length = 0
  · have : xs = [] := List.eq_nil_of_length_eq_zero h0
    subst this
    rfl
  · simp only
    rw [if_neg h0, e]
    simp only [H.rds, H.from, Option.bind_some, List.drop_zero]
    rw [if_pos ⟨by omega, by omega⟩, List.take_of_length_le (by omega)]
    rfl
theorem Concat_ok {sl : List Slot} (xs ys : List (Int × Int)) (hl : xs.length + ys.length ≤ 2 ^ 30) :
    ∃ s ext o, slices_Concat_api_Share_api_Share ⟨.lp true [.slice (rowSV false j2 xs).a xs.length xs.length true, .slice (rowSV false j2 ys).a ys.length ys.length true] 0, 2, 2, false⟩ (hL sl) = some (s, hL (sl ++ ext)) ∧ Acc (sl ++ ext) j2 (xs ++ ys) s o ∧ ∀ id, o = some id → sl.length ≤ id := by
  have hA : (V.add (V.lp true [.slice (rowSV false j2 xs).a xs.length xs.length true, .slice (rowSV false j2 ys).a ys.length ys.length true] 0) (0 * 1)) = V.lp true [.slice (rowSV false j2 xs).a xs.length xs.length true, .slice (rowSV false j2 ys).a ys.length ys.length true] 0 := rfl
  have r0 : ∀ h : H, rdT (.leaf .slice) h (V.add (V.lp true [.slice (rowSV false j2 xs).a xs.length xs.length true, .slice (rowSV false j2 ys).a ys.length ys.length true] 0) (0 * 1)) = some ⟨(rowSV false j2 xs).a, xs.length, xs.length, true⟩ := fun h => rfl
  have r1 : ∀ h : H, rdT (.leaf .slice) h (V.add (V.lp true [.slice (rowSV false j2 xs).a xs.length xs.length true, .slice (rowSV false j2 ys).a ys.length ys.length true] 0) (1 * 1)) = some ⟨(rowSV false j2 ys).a, ys.length, ys.length, true⟩ := fun h => rfl
  have w1 : IntKind.wrap .i64 ((0 : Int) + (xs.length : Int)) = (xs.length : Int) := by rw [i64_in _ (by omega)]; omega
  have w2 : IntKind.wrap .i64 ((xs.length : Int) + (ys.length : Int)) = ((xs.length + ys.length : Nat) : Int) := by rw [i64_in _ (by omega)]; omega
  have w3 : IntKind.wrap .i64 ((0 : Int) + 1) = 1 := rfl
  have w4 : IntKind.wrap .i64 ((1 : Int) + 1) = 2 := rfl
  have c0 : Int.toNat 0 = 0 := rfl
  have c1 : Int.toNat 1 = 1 := rfl
  unfold slices_Concat_api_Share_api_Share
  have L1 : iter FUEL (slices_Concat_api_Share_api_Share.loop1 ⟨.lp true [.slice (rowSV false j2 xs).a xs.length xs.length true, .slice (rowSV false j2 ys).a ys.length ys.length true] 0, 2, 2, false⟩) ((0, 0), hL sl) = some (.ex0 (((xs.length + ys.length : Nat) : Int)), hL sl) := by
    refine iter_from (s0 := ((0, 0), hL sl)) (fun i => ((pick3 (0 : Int) (xs.length : Int) ((xs.length + ys.length : Nat) : Int) i, (i : Int)), hL sl)) rfl 2 FUEL (fun i hi => ?_) ?_ (fuel_gt (by omega))
    · obtain rfl | rfl : i = 0 ∨ i = 1 := by omega
      · unfold slices_Concat_api_Share_api_Share.loop1
        simp -implicitDefEqProofs only [evs, reduceIte, rdRes, rdTT, rdTy, rdLT, Res.un, TT.un, Ty.un, LT.un, Leaf.un, Leaf.plain, LT.plain]
        rw [decide_eq_true (show (((0 : Nat) : Int) < ((2 : Nat) : Int)) by omega), cond_true, guardO_pos (by omega)]
        rw [show Int.toNat (((0 : Nat) : Int)) = 0 from rfl, r0]
        simp -implicitDefEqProofs only [evs, reduceIte, rdRes, rdTT, rdTy, rdLT, Res.un, TT.un, Ty.un, LT.un, Leaf.un, Leaf.plain, LT.plain]
        rw [pick3_0, w1, decide_eq_false (show ¬ (xs.length : Int) < 0 by omega)]
        simp -implicitDefEqProofs only [evs, reduceIte, rdRes, rdTT, rdTy, rdLT, Res.un, TT.un, Ty.un, LT.un, Leaf.un, Leaf.plain, LT.plain]
        rfl
      · unfold slices_Concat_api_Share_api_Share.loop1
        simp -implicitDefEqProofs only [evs, reduceIte, rdRes, rdTT, rdTy, rdLT, Res.un, TT.un, Ty.un, LT.un, Leaf.un, Leaf.plain, LT.plain]
        rw [decide_eq_true (show (((1 : Nat) : Int) < ((2 : Nat) : Int)) by omega), cond_true, guardO_pos (by omega)]
        rw [show Int.toNat (((1 : Nat) : Int)) = 1 from rfl, r1]
        simp -implicitDefEqProofs only [evs, reduceIte, rdRes, rdTT, rdTy, rdLT, Res.un, TT.un, Ty.un, LT.un, Leaf.un, Leaf.plain, LT.plain]
        rw [pick3_1, w2, decide_eq_false (show ¬ ((xs.length + ys.length : Nat) : Int) < 0 by omega)]
        simp -implicitDefEqProofs only [evs, reduceIte, rdRes, rdTT, rdTy, rdLT, Res.un, TT.un, Ty.un, LT.un, Leaf.un, Leaf.plain, LT.plain]
        rfl
    · unfold slices_Concat_api_Share_api_Share.loop1
      simp -implicitDefEqProofs only [evs, reduceIte, rdRes, rdTT, rdTy, rdLT, Res.un, TT.un, Ty.un, LT.un, Leaf.un, Leaf.plain, LT.plain]
      rw [decide_eq_false (show ¬ (((2 : Nat) : Int) < ((2 : Nat) : Int)) by omega), cond_false]
      rfl
  rw [L1]
  simp -implicitDefEqProofs only [evs, reduceIte, rdRes, rdTT, rdTy, rdLT, Res.un, TT.un, Ty.un, LT.un, Leaf.un, Leaf.plain, LT.plain]
  rw [Grow_ok hl]
  have hx : ∀ h, cellsOf h (.slice (rowSV false j2 xs).a xs.length xs.length true) 2 = some (xs.length, cellsL j2 xs) := fun h => cells_of
  have hy : ∀ h, cellsOf h (.slice (rowSV false j2 ys).a ys.length ys.length true) 2 = some (ys.length, cellsL j2 ys) := fun h => cells_of
  have lx : (cellsL j2 xs).length = xs.length * 2 := flat_length (ls := j2) xs
  have ly : (cellsL j2 ys).length = ys.length * 2 := flat_length (ls := j2) ys
  have key : ∀ (t0 t1 t2 : SV × List Slot), appendS (hL t0.2) none 2 16 t0.1 (cellsL j2 xs) xs.length = some (t1.1, hL t1.2) → appendS (hL t1.2) none 2 16 t1.1 (cellsL j2 ys) ys.length = some (t2.1, hL t2.2) →
      iter FUEL (slices_Concat_api_Share_api_Share.loop2 ⟨.lp true [.slice (rowSV false j2 xs).a xs.length xs.length true, .slice (rowSV false j2 ys).a ys.length ys.length true] 0, 2, 2, false⟩) ((t0.1, 0), hL t0.2) = some (.ex0 t2.1, hL t2.2) := fun t0 t1 t2 h1 h2 => by
    refine iter_from (s0 := ((t0.1, 0), hL t0.2)) (fun i => ((pick3 t0.1 t1.1 t2.1 i, (i : Int)), hL (pick3 t0.2 t1.2 t2.2 i))) rfl 2 FUEL (fun i hi => ?_) ?_ (fuel_gt (by omega))
    · obtain rfl | rfl : i = 0 ∨ i = 1 := by omega
      · unfold slices_Concat_api_Share_api_Share.loop2
        simp -implicitDefEqProofs only [evs, reduceIte, rdRes, rdTT, rdTy, rdLT, Res.un, TT.un, Ty.un, LT.un, Leaf.un, Leaf.plain, LT.plain]
        rw [decide_eq_true (show (((0 : Nat) : Int) < ((2 : Nat) : Int)) by omega), cond_true, guardO_pos (by omega)]
        rw [show Int.toNat (((0 : Nat) : Int)) = 0 from rfl, r0]
        simp -implicitDefEqProofs only [evs, reduceIte, rdRes, rdTT, rdTy, rdLT, Res.un, TT.un, Ty.un, LT.un, Leaf.un, Leaf.plain, LT.plain]
        rw [hx]
        simp -implicitDefEqProofs only [evs, reduceIte, rdRes, rdTT, rdTy, rdLT, Res.un, TT.un, Ty.un, LT.un, Leaf.un, Leaf.plain, LT.plain]
        rw [pick3_0, pick3_0, h1]
        simp -implicitDefEqProofs only [evs, reduceIte, rdRes, rdTT, rdTy, rdLT, Res.un, TT.un, Ty.un, LT.un, Leaf.un, Leaf.plain, LT.plain]
        rfl
      · unfold slices_Concat_api_Share_api_Share.loop2
        simp -implicitDefEqProofs only [evs, reduceIte, rdRes, rdTT, rdTy, rdLT, Res.un, TT.un, Ty.un, LT.un, Leaf.un, Leaf.plain, LT.plain]
        rw [decide_eq_true (show (((1 : Nat) : Int) < ((2 : Nat) : Int)) by omega), cond_true, guardO_pos (by omega)]
        rw [show Int.toNat (((1 : Nat) : Int)) = 1 from rfl, r1]
        simp -implicitDefEqProofs only [evs, reduceIte, rdRes, rdTT, rdTy, rdLT, Res.un, TT.un, Ty.un, LT.un, Leaf.un, Leaf.plain, LT.plain]
        rw [hy]
        simp -implicitDefEqProofs only [evs, reduceIte, rdRes, rdTT, rdTy, rdLT, Res.un, TT.un, Ty.un, LT.un, Leaf.un, Leaf.plain, LT.plain]
        rw [pick3_1, pick3_1, h2]
        simp -implicitDefEqProofs only [evs, reduceIte, rdRes, rdTT, rdTy, rdLT, Res.un, TT.un, Ty.un, LT.un, Leaf.un, Leaf.plain, LT.plain]
        rfl
    · unfold slices_Concat_api_Share_api_Share.loop2
      simp -implicitDefEqProofs only [evs, reduceIte, rdRes, rdTT, rdTy, rdLT, Res.un, TT.un, Ty.un, LT.un, Leaf.un, Leaf.plain, LT.plain]
      rw [decide_eq_false (show ¬ (((2 : Nat) : Int) < ((2 : Nat) : Int)) by omega), cond_false]
      rfl
  by_cases h0 : xs.length + ys.length = 0
  · have hx0 : xs = [] := List.eq_nil_of_length_eq_zero (by omega)
    have hy0 : ys = [] := List.eq_nil_of_length_eq_zero (by omega)
    subst hx0 hy0
    rw [if_pos (show ([] : List (Int × Int)).length + ([] : List (Int × Int)).length = 0 from rfl)]
    simp -implicitDefEqProofs only [evs, reduceIte, rdRes, rdTT, rdTy, rdLT, Res.un, TT.un, Ty.un, LT.un, Leaf.un, Leaf.plain, LT.plain]
    rw [key (⟨.nil, 0, 0, false⟩, sl) (⟨.nil, 0, 0, false⟩, sl) (⟨.nil, 0, 0, false⟩, sl) rfl rfl]
    simp -implicitDefEqProofs only [evs, reduceIte, rdRes, rdTT, rdTy, rdLT, Res.un, TT.un, Ty.un, LT.un, Leaf.un, Leaf.plain, LT.plain]
    exact ⟨⟨.nil, 0, 0, false⟩, [], none, by rw [List.append_nil], ⟨rfl, .inl rfl⟩, fun _ h => by cases h⟩
  · rw [if_neg h0]
    simp -implicitDefEqProofs only [evs, reduceIte, rdRes, rdTT, rdTy, rdLT, Res.un, TT.un, Ty.un, LT.un, Leaf.un, Leaf.plain, LT.plain]
    have s0 : (sl ++ [Slot.own (repeatCells [.int .i64 0, .int .i64 0] (xs.length + ys.length)) 2])[sl.length]? = some (.own (repeatCells [.int .i64 0, .int .i64 0] (xs.length + ys.length)) 2) := by simp
    have a1 := append_room (b := 16) (a := 0) s0 (repeatCells_length _ _) lx (by omega) (by omega) (by omega)
    have s1 : ((sl ++ [Slot.own (repeatCells [.int .i64 0, .int .i64 0] (xs.length + ys.length)) 2]).set sl.length (.own (splice (repeatCells [.int .i64 0, .int .i64 0] (xs.length + ys.length)) (0 * 2) (cellsL j2 xs)) 2))[sl.length]? = some (.own (splice (repeatCells [.int .i64 0, .int .i64 0] (xs.length + ys.length)) (0 * 2) (cellsL j2 xs)) 2) := by rw [List.getElem?_set_self (by simp)]
    have hrl : (repeatCells [V.int .i64 0, V.int .i64 0] (xs.length + ys.length)).length = (xs.length + ys.length) * 2 := repeatCells_length _ _
    have a2 := append_room (b := 16) (a := 0 + xs.length) s1 (n := xs.length + ys.length) (by simp only [splice, List.length_append, List.length_take, List.length_drop, hrl, lx]; omega) ly (by omega) (by omega) (by omega)
    rw [key (_, _) (_, _) (_, _) a1 a2]
    simp -implicitDefEqProofs only [evs, reduceIte, rdRes, rdTT, rdTy, rdLT, Res.un, TT.un, Ty.un, LT.un, Leaf.un, Leaf.plain, LT.plain]
    have hfull : splice (splice (repeatCells [V.int .i64 0, V.int .i64 0] (xs.length + ys.length)) (0 * 2) (cellsL j2 xs)) ((0 + xs.length) * 2) (cellsL j2 ys) = cellsL j2 (xs ++ ys) := by
      simp only [splice, Nat.zero_mul, List.take_zero, List.nil_append, Nat.zero_add]
      rw [← lx, List.take_left' rfl, List.drop_eq_nil_of_le (by rw [List.length_append, List.length_drop, hrl, lx, ly]; omega), List.append_nil]
      unfold cellsL
      rw [List.flatMap_append]
    rw [hfull, List.set_set, List.set_append_right _ _ (Nat.le_refl _), Nat.sub_self]
    simp only [List.set_cons_zero]
    refine ⟨_, [Slot.own (cellsL j2 (xs ++ ys)) 2], some sl.length, rfl, ⟨by simp only [List.length_append]; omega, ?_, ?_⟩, fun id h => by cases h; exact Nat.le_refl _⟩
    · simp only [ownSV, List.length_append, Nat.zero_add]
      rfl
    · simp
theorem getM_set_self (k v : Int) : ∀ es : List (Int × Int), getM k (setM k v es) = some v
  | [] => by simp [setM, getM]
  | (a, u) :: es => by
    simp only [setM]
    by_cases h : k = a
    · rw [if_pos h]; simp [getM, h]
    · rw [if_neg h]; simp only [getM]; rw [if_neg h]; exact getM_set_self k v es
theorem getM_set_ne {k j : Int} (v : Int) (hne : k ≠ j) : ∀ es : List (Int × Int), getM k (setM j v es) = getM k es
  | [] => by simp [setM, getM, hne]
  | (a, u) :: es => by
    simp only [setM]
    by_cases h : j = a
    · rw [if_pos h]; simp only [getM]; rw [if_neg (by omega), if_neg (by omega)]
    · rw [if_neg h]; simp only [getM]; rw [getM_set_ne v hne es]
/-- The sums of all fills, in a map. -/
def sumsM (xs : List (Int × Int)) : List (Int × Int) := xs.foldl (fun es x => setM x.1 ((getM x.1 es).getD 0 + x.2) es) []
theorem sumsM_get (k : Int) (xs : List (Int × Int)) : (getM k (sumsM xs)).getD 0 = amtOf k xs := by
  have : ∀ (xs : List (Int × Int)) (es : List (Int × Int)), (getM k (xs.foldl (fun es x => setM x.1 ((getM x.1 es).getD 0 + x.2) es) es)).getD 0 = (getM k es).getD 0 + amtOf k xs := fun xs => by
    induction xs with
    | nil => intro es; simp [amtOf_nil]
    | cons x xs ih =>
      intro es
      rw [List.foldl_cons, ih, amtOf_cons]
      by_cases h : x.1 = k
      · rw [if_pos h, h, getM_set_self]; simp only [Option.getD_some]; omega
      · rw [if_neg h, getM_set_ne _ (fun e => h e.symm)]; omega
  have := this xs []
  simpa [sumsM, getM] using this
theorem amtOf_bound (k : Int) : ∀ (xs : List (Int × Int)), (∀ x ∈ xs, 0 ≤ x.2 ∧ x.2 ≤ 1000000000000000) → 0 ≤ amtOf k xs ∧ amtOf k xs ≤ xs.length * 1000000000000000
  | [], _ => by simp [amtOf_nil]
  | x :: xs, h => by
    have h1 := h x (by simp)
    have h2 := amtOf_bound k xs fun y hy => h y (by simp [hy])
    rw [amtOf_cons]
    simp only [List.length_cons]
    split <;> omega
theorem sumsM_snoc {xs : List (Int × Int)} {i : Nat} (h : i < xs.length) : sumsM (xs.take (i + 1)) = setM (at2 xs i).1 ((getM (at2 xs i).1 (sumsM (xs.take i))).getD 0 + (at2 xs i).2) (sumsM (xs.take i)) := by
  have := at2_some h
  obtain ⟨hi, he⟩ := List.getElem?_eq_some_iff.1 this
  unfold sumsM
  rw [← List.take_append_getElem hi, he, List.foldl_append]
  rfl
end Go.Proofs.Ytbcpdecgfdlaaaa
/- What share.joined puts on the heap; one round of share.union. Conditions: those of each law. -/
namespace Go.Proofs.Ytbcpdecgfdlaaaa
open Go Go.Proofs.Ytbcpdecgfdlaaaa.Ev
set_option linter.unusedVariables false
set_option linter.unusedSimpArgs false
set_option maxRecDepth 100000
set_option maxHeartbeats 4000000
theorem rd_map {sl : List Slot} {id j : Nat} (h : sl[id]? = some (.own [.map (some j)] 1)) : rdT (.leaf .map) (hL sl) (.hp id 1 0) = some (some j) := by
  rw [rd_own (g := 1) h rfl]; rfl
theorem imap_hL {sl : List Slot} {id : Nat} {es : List (Int × Int)} (h : sl[id]? = some (.imap .i64 .i64 es)) : H.imap (hL sl) id .i64 .i64 = some es := by
  simp [H.imap, hL_m, h]
abbrev slS (s : SV) : Slot := .own [.slice s.a s.len s.cap s.tail] 1
theorem rd_sl {sl : List Slot} {id : Nat} {s : SV} (h : sl[id]? = some (slS s)) : rdT (.leaf .slice) (hL sl) (.hp id 1 0) = some s := by
  rw [rd_own (g := 1) h rfl]; rfl
theorem wrs_one {sl : List Slot} {id : Nat} {u v : V} (h : sl[id]? = some (.own [u] 1)) : H.wrs (hL sl) (.hp id 1 0) [v] = some (hL (sl.set id (.own [v] 1))) := by
  rw [wrs_own (g := 1) h rfl (by simp)]; rfl
theorem hL_newS {l : List Slot} {s : Slot} : H.newS (hL l) s = hL (l ++ [s]) := by
  refine H.ext' (by simp [H.newS, hL]) fun i => ?_
  simp only [H.newS, hL]
  by_cases hi : i = l.length
  · subst hi
    simp
  · rw [beq_ne hi, cond_false]
    rcases Nat.lt_or_ge i l.length with h | h
    · rw [List.getElem?_append_left h]
    · rw [List.getElem?_eq_none h, List.getElem?_eq_none (by simp; omega)]
theorem Acc.rds2 {sl : List Slot} {zs : List (Int × Int)} {s : SV} {o : Option Nat} {i : Nat} (h : Acc sl j2 zs s o) (hi : i < zs.length) : rdT (.agg j2) (hL sl) (V.add s.a (i * 2)) = some (at2 zs i) := by
  cases o with
  | none => obtain ⟨rfl, _⟩ := h; simp at hi
  | some id =>
    obtain ⟨h1, rfl, h3⟩ := h
    have := rds_ownL (i := i) (ms := j2) (w := 2) h3 rfl rfl rfl (by omega)
    simp only [ownSV, V.add, Nat.zero_add]
    rw [this]
    have e := at2_some hi
    show (zs[i]?).bind _ = _
    rw [e]; rfl
theorem joined_step {sl : List Slot} {zs : List (Int × Int)} {s : SV} {o : Option Nat} {p q i : Nat} {h3 : H} (hacc : Acc sl j2 zs s o) (hi : i < zs.length) (hz : ∀ x ∈ zs, 0 ≤ x.2 ∧ x.2 ≤ 1000000000000000) (hl : zs.length ≤ 4096) (hq : h3.next = q) (hql : sl[q]? = some (.own [.map (some p)] 1)) (hp : sl[p]? = some (.imap .i64 .i64 (sumsM (zs.take i)))) :
    share_joined.loop1 h3 s ((i : Int), hL sl) = some (.more (((i + 1 : Nat) : Int), hL ((sl ++ [c2 (at2 zs i)]).set p (.imap .i64 .i64 (sumsM (zs.take (i + 1))))))) := by
  have hg1 : 0 ≤ (i : Int) ∧ (i : Int) < (s.len : Int) := by rw [hacc.len]; omega
  have hrow : (sl ++ [c2 (at2 zs i)])[sl.length]? = some (c2 (at2 zs i)) := by simp
  have r1 := rd_c2 hrow
  have hpl := (List.getElem?_eq_some_iff.1 hp).1
  have hqq : (sl ++ [c2 (at2 zs i)])[q]? = some (.own [.map (some p)] 1) := by rw [List.getElem?_append_left (List.getElem?_eq_some_iff.1 hql).1, hql]
  have hpp : (sl ++ [c2 (at2 zs i)])[p]? = some (.imap .i64 .i64 (sumsM (zs.take i))) := by rw [List.getElem?_append_left hpl, hp]
  have hb := amtOf_bound (at2 zs i).1 (zs.take i) fun x hx => hz x (List.mem_of_mem_take hx)
  rw [List.length_take, Nat.min_eq_left (by omega)] at hb
  have hx := hz _ (at2_mem hi)
  unfold share_joined.loop1
  simp -implicitDefEqProofs only [Int.toNat_natCast, guardO_pos hg1]
  rw [decide_eq_true hg1.2, cond_true, Acc.rds2 hacc hi]
  simp -implicitDefEqProofs only [Option.bind_some, hL_new, hL_next]
  rw [new_c2]
  simp -implicitDefEqProofs only [Option.bind_some, hq]
  rw [rd_map hqq, r1.1]
  simp -implicitDefEqProofs only [Option.bind_some]
  rw [imap_hL hpp]
  simp -implicitDefEqProofs only [Option.bind_some]
  rw [r1.2]
  simp -implicitDefEqProofs only [Option.bind_some]
  rw [hL_put (by simp; omega), sumsM_get, i64_succ (by omega), i64_in _ (by omega), sumsM_snoc hi, sumsM_get]
theorem joined_ok {sl : List Slot} (xs ys : List (Int × Int)) (hx : ∀ x ∈ xs, 0 ≤ x.2 ∧ x.2 ≤ 1000000000000000) (hy : ∀ x ∈ ys, 0 ≤ x.2 ∧ x.2 ≤ 1000000000000000) (hl : xs.length + ys.length ≤ 4096) :
    ∃ sl', share_joined (rowSV false j2 xs) (rowSV false j2 ys) (hL sl) = some (.func 88 [.hp sl.length 1 0, .hp (sl.length + 1) 1 0, .hp (sl.length + 3) 1 0], hL sl') ∧ sl.length + 4 ≤ sl'.length ∧
      sl'[sl.length]? = some (slS (rowSV false j2 xs)) ∧ sl'[sl.length + 1]? = some (slS (rowSV false j2 ys)) ∧ sl'[sl.length + 2]? = some (.imap .i64 .i64 (sumsM (xs ++ ys))) ∧ sl'[sl.length + 3]? = some (.own [.map (some (sl.length + 2))] 1) ∧ ∀ j, j < sl.length → sl'[j]? = sl[j]? := by
  have hz : ∀ x ∈ xs ++ ys, 0 ≤ x.2 ∧ x.2 ≤ 1000000000000000 := fun x h => by
    rcases List.mem_append.1 h with h | h
    · exact hx x h
    · exact hy x h
  let sl4 : List Slot := sl ++ [slS (rowSV false j2 xs), slS (rowSV false j2 ys), .imap .i64 .i64 [], .own [.map (some (sl.length + 2))] 1]
  have h4l : sl4.length = sl.length + 4 := by simp [sl4]
  have get : ∀ k, sl4[sl.length + k]? = [slS (rowSV false j2 xs), slS (rowSV false j2 ys), .imap .i64 .i64 [], .own [.map (some (sl.length + 2))] 1][k]? := fun k => by
    simp only [sl4]
    rw [List.getElem?_append_right (by omega)]
    congr 1
    omega
  obtain ⟨s, ext, o, k1, k2, k3⟩ := Concat_ok (sl := sl4) xs ys (by omega)
  unfold share_joined
  simp -implicitDefEqProofs only [evs, reduceIte, rdRes, rdTT, rdTy, rdLT, Res.un, TT.un, Ty.un, LT.un, Leaf.un, Leaf.plain, LT.plain, hL_new, hL_newS, hL_next, List.append_assoc, List.cons_append, List.nil_append]
  have hw : H.wrs (hL (sl ++ [Slot.own [.slice (rowSV false j2 xs).a xs.length xs.length true] 1, Slot.own [.slice (rowSV false j2 ys).a ys.length ys.length true] 1, .imap .i64 .i64 [], .own [.map none] 1])) (.hp (sl.length + 3) 1 0) [.map (some (sl.length + 2))] = some (hL sl4) := by
    rw [wrs_one (u := .map none) (by rw [List.getElem?_append_right (by omega), show sl.length + 3 - sl.length = 3 by omega]; rfl), List.set_append_right _ _ (by omega), show sl.length + 3 - sl.length = 3 by omega]
    rfl
  simp only [List.length_append, List.length_cons, List.length_nil, Nat.zero_add, Nat.reduceAdd]
  rw [hw]
  simp -implicitDefEqProofs only [evs, reduceIte, rdRes, rdTT, rdTy, rdLT, Res.un, TT.un, Ty.un, LT.un, Leaf.un, Leaf.plain, LT.plain]
  rw [rd_sl (s := rowSV false j2 xs) (by have := get 0; simpa using this)]
  simp -implicitDefEqProofs only [evs, reduceIte, rdRes, rdTT, rdTy, rdLT, Res.un, TT.un, Ty.un, LT.un, Leaf.un, Leaf.plain, LT.plain]
  rw [rd_sl (s := rowSV false j2 ys) (by have := get 1; simpa using this)]
  simp -implicitDefEqProofs only [evs, reduceIte, rdRes, rdTT, rdTy, rdLT, Res.un, TT.un, Ty.un, LT.un, Leaf.un, Leaf.plain, LT.plain]
  rw [k1]
  simp -implicitDefEqProofs only [evs, reduceIte, rdRes, rdTT, rdTy, rdLT, Res.un, TT.un, Ty.un, LT.un, Leaf.un, Leaf.plain, LT.plain]
  obtain ⟨x, e1, sl', rfl, e2, e3, e4⟩ := iter_upto (f := share_joined.loop1 (hL (sl ++ [Slot.own [.slice (rowSV false j2 xs).a xs.length xs.length true] 1, Slot.own [.slice (rowSV false j2 ys).a ys.length ys.length true] 1, .imap .i64 .i64 []])) s)
    (fun i st => ∃ sl', st = ((i : Int), hL sl') ∧ sl4.length ≤ sl'.length ∧ sl'[sl.length + 2]? = some (.imap .i64 .i64 (sumsM ((xs ++ ys).take i))) ∧ ∀ j, j ≠ sl.length + 2 → j < (sl4 ++ ext).length → sl'[j]? = (sl4 ++ ext)[j]?)
    (fun x => ∃ sl', x = (.ex0 (), hL sl') ∧ sl4.length ≤ sl'.length ∧ sl'[sl.length + 2]? = some (.imap .i64 .i64 (sumsM (xs ++ ys))) ∧ ∀ j, j ≠ sl.length + 2 → j < (sl4 ++ ext).length → sl'[j]? = (sl4 ++ ext)[j]?) (xs ++ ys).length (fun i st hi hst => by
      obtain ⟨sl', rfl, f1, f2, f3⟩ := hst
      have hacc : Acc sl' j2 (xs ++ ys) s o := k2.frame fun id hid => by
        have h1 := k3 id hid
        subst hid
        exact f3 id (by omega) k2.lt
      refine ⟨_, joined_step (q := sl.length + 3) (p := sl.length + 2) hacc hi hz (by rw [List.length_append]; omega) (by simp [hL_next]) ?_ f2, _, rfl, by simp; omega, ?_, fun j hj hjl => ?_⟩
      · rw [f3 _ (by omega) (by rw [List.length_append]; omega), List.getElem?_append_left (by omega), get 3]; rfl
      · rw [List.getElem?_set_self (by simp; omega)]
      · have h9 := f3 j hj hjl
        rw [List.getElem?_set_ne (Ne.symm hj)]
        have hjl' : j < sl'.length := by
          rcases Nat.lt_or_ge j sl'.length with h | h
          · exact h
          · rw [List.getElem?_eq_none h, List.getElem?_eq_getElem hjl] at h9
            cases h9
        rw [List.getElem?_append_left hjl', h9]) (fun st hst => by
      obtain ⟨sl', rfl, f1, f2, f3⟩ := hst
      rw [List.take_length] at f2
      refine ⟨_, ?_, sl', rfl, f1, f2, f3⟩
      unfold share_joined.loop1
      simp -implicitDefEqProofs only [k2.len]
      rw [decide_eq_false (by omega), cond_false]) FUEL 0 (0, hL (sl4 ++ ext)) (by omega) ⟨_, rfl, by simp, by rw [List.getElem?_append_left (by omega), get 2]; rfl, fun _ _ _ => rfl⟩ (by have := fuel_gt (n := (xs ++ ys).length) (by rw [List.length_append]; omega); omega)
  rw [e1]
  simp -implicitDefEqProofs only [evs, reduceIte, rdRes, rdTT, rdTy, rdLT, Res.un, TT.un, Ty.un, LT.un, Leaf.un, Leaf.plain, LT.plain]
  have at4 : ∀ k, k < 4 → k ≠ 2 → sl'[sl.length + k]? = [slS (rowSV false j2 xs), slS (rowSV false j2 ys), .imap .i64 .i64 [], .own [.map (some (sl.length + 2))] 1][k]? := fun k hk hk2 => by
    rw [e4 _ (by omega) (by rw [List.length_append]; omega), List.getElem?_append_left (by omega), get k]
  refine ⟨sl', rfl, by omega, at4 0 (by omega) (by omega), at4 1 (by omega) (by omega), e3, at4 3 (by omega) (by omega), fun j hj => ?_⟩
  rw [e4 j (by omega) (by rw [List.length_append]; omega), List.append_assoc, List.getElem?_append_left hj]
/-- One round of share.union. -/
theorem round_ok {sl : List Slot} {acc : List (Int × Int)} {s : SV} {o : Option Nat} {N : Nat} {h h3 : H} {x : Int × Int} (hn : h.next = 0) (hN : h3.next = N) (h0 : sl[0]? = some (slS s)) (hl : sl[N]? = some (.loop .ready)) (hacc : Acc sl j2 acc s o) (ho : ∀ id, o = some id → N < id) (hpos : 0 < N) (hal : acc.length ≤ 8192) :
    ∃ sl' s' id, share_union.round1 h h3 x (hL sl) = some (hL sl') ∧ sl'[0]? = some (slS s') ∧ sl'[N]? = some (.loop .ready) ∧ Acc sl' j2 (acc ++ [x]) s' (some id) ∧ N < id ∧ sl.length ≤ sl'.length ∧ ∀ j, 0 < j → j < N → sl'[j]? = sl[j]? := by
  have hNl := (List.getElem?_eq_some_iff.1 hl).1
  have hb : H.begin (hL sl) N = some (hL (sl.set N (.loop .busy))) := by
    unfold H.begin
    rw [hL_m, hl]
    simp only [Option.getD_some]
    rw [hL_put hNl]
  have h0' : (sl.set N (.loop .busy))[0]? = some (slS s) := by rw [List.getElem?_set_ne (by omega), h0]
  have hacc' : Acc (sl.set N (.loop .busy)) j2 acc s o := hacc.frame fun id hid => by
    have := ho id hid
    rw [List.getElem?_set_ne (by omega)]
  obtain ⟨s', sl1, id, k1, k2, k3, k4, k5⟩ := hacc'.append (b := 16) (w := 2) (x := x) (vs := [.int .i64 x.1, .int .i64 x.2]) rfl (by omega) (by omega) (by omega) rfl
  rw [List.length_set] at k3 k4
  have hid : N < id := by
    rcases k3 with k3 | ⟨_, k3⟩
    · exact ho id k3
    · omega
  have no : ∀ j, j ≤ N → o ≠ some j := fun j hj e => by have := ho j e; omega
  have h0'' : sl1[0]? = some (slS s) := by rw [k5 0 (no 0 (by omega)) (by rw [List.length_set]; omega), h0']
  have hNl1 : sl1[N]? = some (.loop .busy) := by rw [k5 N (no N (by omega)) (by rw [List.length_set]; omega), List.getElem?_set_self hNl]
  have hl1 : N < sl1.length := (List.getElem?_eq_some_iff.1 hNl1).1
  refine ⟨(sl1.set 0 (slS s')).set N (.loop .ready), s', id, ?_, ?_, ?_, ?_, hid, by simp; omega, fun j hj1 hj2 => ?_⟩
  · unfold share_union.round1
    simp -implicitDefEqProofs only [hN, hn, hb, Option.bind_some]
    rw [rd_sl h0']
    simp -implicitDefEqProofs only [Option.bind_some]
    rw [k1]
    simp -implicitDefEqProofs only [Option.bind_some]
    rw [wrs_one h0'']
    simp -implicitDefEqProofs only [Option.bind_some]
    unfold H.endR
    rw [hL_m, List.getElem?_set_ne (by omega), hNl1]
    simp only [Option.getD_some]
    rw [hL_put (by rw [List.length_set]; omega)]
  · rw [List.getElem?_set_ne (by omega), List.getElem?_set_self (by omega)]
  · rw [List.getElem?_set_self (by rw [List.length_set]; omega)]
  · refine k2.frame fun id' hid' => ?_
    cases hid'
    rw [List.getElem?_set_ne (by omega), List.getElem?_set_ne (by omega)]
  · rw [List.getElem?_set_ne (by omega), List.getElem?_set_ne (by omega), k5 j (no j (by omega)) (by rw [List.length_set]; omega), List.getElem?_set_ne (by omega)]
end Go.Proofs.Ytbcpdecgfdlaaaa
