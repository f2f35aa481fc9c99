/- The arithmetic of dividing 128 bits by 64 bits, digit by digit. Conditions: those of each law. -/
import Derived.Test.YtaepkinihaipkaaEvSpec
namespace Go.Proofs.Ytaepkinihaipkaa
open Go Go.Proofs.Ytaepkinihaipkaa.Ev
set_option linter.unusedVariables false
set_option linter.unusedSimpArgs false
/-- The estimate is too great exactly if the test says so. -/
theorem over_iff {y1 y0 n d q r : Nat} (hr : r + q * y1 = n) : 4294967296 * r + d < q * y0 ↔ n * 4294967296 + d < q * (y1 * 4294967296 + y0) := by
  have e1 : q * (y1 * 4294967296 + y0) = (q * y1) * 4294967296 + q * y0 := by rw [Nat.mul_add, Nat.mul_assoc]
  rw [e1, ← hr]
  generalize q * y1 = p
  generalize q * y0 = z
  omega
theorem quot_lt_iff {y n d q : Nat} (hy : 0 < y) : (n * 4294967296 + d) / y < q ↔ n * 4294967296 + d < q * y := Nat.div_lt_iff_lt_mul hy
theorem quot_small {y n d : Nat} (hy : n < y) (hd : d < 4294967296) : (n * 4294967296 + d) / y < 4294967296 := by
  rw [quot_lt_iff (by omega)]
  have : (n + 1) * 4294967296 ≤ y * 4294967296 := Nat.mul_le_mul_right _ hy
  omega
theorem first_ge {y1 y0 n d : Nat} (h1 : 0 < y1) (hd : d < 4294967296) : (n * 4294967296 + d) / (y1 * 4294967296 + y0) ≤ n / y1 := by
  rw [Nat.le_div_iff_mul_le h1]
  have h := Nat.div_mul_le_self (n * 4294967296 + d) (y1 * 4294967296 + y0)
  generalize (n * 4294967296 + d) / (y1 * 4294967296 + y0) = q at h ⊢
  rw [Nat.mul_add, ← Nat.mul_assoc] at h
  generalize q * y1 = p at h ⊢
  generalize q * y0 = z at h
  omega
theorem first_le {y1 y0 n : Nat} (h1 : 2147483648 ≤ y1) (h0 : y0 < 4294967296) (hn : n < y1 * 4294967296 + y0) : n / y1 ≤ 4294967297 := by
  rw [Nat.div_le_iff_le_mul_add_pred (by omega)]
  omega
/-- One digit of the quotient. -/
theorem digit_loop {F : Type} {f : (Int × Int) × H → Option (Stp ((Int × Int) × H) (Flow Int F × H))} {h : H} {y1 y0 n d : Nat} (h1 : 2147483648 ≤ y1) (h1' : y1 < 4294967296) (h0 : y0 < 4294967296) (hn : n < y1 * 4294967296 + y0) (hd : d < 4294967296)
    (hf : ∀ q r : Nat, q ≤ 4294967297 → r < 4294967296 → f (((q : Int), (r : Int)), h) = if 4294967296 ≤ q ∨ 4294967296 * r + d < q * y0 then (if 4294967296 ≤ r + y1 then some (.done (.ex0 (((q - 1 : Nat) : Int)), h)) else some (.more ((((q - 1 : Nat) : Int), ((r + y1 : Nat) : Int)), h))) else some (.done (.ex0 (q : Int), h))) :
    iter FUEL f ((((n / y1 : Nat) : Int), ((n % y1 : Nat) : Int)), h) = some (.ex0 (((n * 4294967296 + d) / (y1 * 4294967296 + y0) : Nat) : Int), h) := by
  have hy : 0 < y1 * 4294967296 + y0 := by omega
  have hq0 : ∃ Q, (n * 4294967296 + d) / (y1 * 4294967296 + y0) = Q := ⟨_, rfl⟩
  obtain ⟨Q, hQ⟩ := hq0
  have hfirst : Q ≤ n / y1 := by rw [← hQ]; exact first_ge (by omega) hd
  rw [hQ]
  obtain ⟨x, hx, hp⟩ := iter_inv (f := f) (Inv := fun st => st.2 = h ∧ ∃ q r : Nat, st.1 = ((q : Int), (r : Int)) ∧ r + q * y1 = n ∧ Q ≤ q ∧ q ≤ 4294967297 ∧ r < 4294967296)
    (Post := fun x => x = (.ex0 ((Q : Nat) : Int), h)) (fun st => st.1.1.toNat) (fun st hi => by
      obtain ⟨st, h0'⟩ := st
      obtain ⟨rfl, q, r, rfl, e1, e2, e3, e4⟩ := hi
      simp only
      rw [hf q r e3 e4]
      by_cases hc : 4294967296 ≤ q ∨ 4294967296 * r + d < q * y0
      · rw [if_pos hc]
        have hlt : Q < q := by
          rw [← hQ]
          rcases hc with hc | hc
          · exact Nat.lt_of_lt_of_le (quot_small hn hd) hc
          · exact (quot_lt_iff hy).2 ((over_iff e1).1 hc)
        have e1' : (r + y1) + (q - 1) * y1 = n := by
          have : q * y1 = (q - 1) * y1 + y1 := by
            conv => lhs; rw [show q = (q - 1) + 1 by omega, Nat.succ_mul]
          omega
        by_cases hb : 4294967296 ≤ r + y1
        · rw [if_pos hb]
          right
          refine ⟨_, rfl, ?_⟩
          have hle : q - 1 ≤ Q := by
            rw [← hQ, Nat.le_div_iff_mul_le hy]
            have hno : ¬ (4294967296 * (r + y1) + d < (q - 1) * y0) := by
              have : (q - 1) * y0 ≤ 4294967296 * 4294967295 := Nat.mul_le_mul (by omega) (by omega)
              omega
            rw [over_iff e1'] at hno
            omega
          have : q - 1 = Q := by omega
          rw [this]
        · rw [if_neg hb]
          left
          refine ⟨_, rfl, ⟨rfl, q - 1, r + y1, rfl, e1', by omega, by omega, by omega⟩, ?_⟩
          simp only [Int.toNat_natCast]
          omega
      · rw [if_neg hc]
        right
        refine ⟨_, rfl, ?_⟩
        have hle : q ≤ Q := by
          rw [← hQ, Nat.le_div_iff_mul_le hy]
          have hno : ¬ (4294967296 * r + d < q * y0) := fun h => hc (.inr h)
          rw [over_iff e1] at hno
          omega
        have : q = Q := by omega
        rw [← this]) FUEL ((((n / y1 : Nat) : Int), ((n % y1 : Nat) : Int)), h)
      ⟨rfl, n / y1, n % y1, rfl, by rw [Nat.mul_comm]; exact Nat.mod_add_div n y1, hfirst, first_le h1 h0 hn, by have := Nat.mod_lt n (show 0 < y1 by omega); omega⟩
      (by
        simp only [Int.toNat_natCast]
        have := first_le h1 h0 hn
        have : (4294967297 : Nat) < FUEL := by unfold FUEL; omega
        omega)
  rw [hx, hp]
end Go.Proofs.Ytaepkinihaipkaa
