/- What math/bits.Mul64 and Div64 compute. Conditions: those of each law. -/
import Derived.Test.YtaepkinihaipkaaS01b
namespace Go.Proofs.Ytaepkinihaipkaa
open Go Go.Proofs.Ytaepkinihaipkaa.Ev
set_option linter.unusedVariables false
set_option linter.unusedSimpArgs false
set_option maxRecDepth 100000
set_option maxHeartbeats 1000000
theorem u64_nat {n : Nat} (h : n < 18446744073709551616) : IntKind.u64.wrap (n : Int) = (n : Int) := IntWalk.u64_in _ (by omega)
theorem i64_nat {n : Nat} (h : n < 9223372036854775808) : IntKind.i64.wrap (n : Int) = (n : Int) := IntWalk.i64_in _ (by omega)
theorem and32 {x : Nat} (hx : x < 18446744073709551616) : bitsI .and .u64 (x : Int) 4294967295 = ((x % 4294967296 : Nat) : Int) := by
  have h : (BitVec.ofInt 64 (x : Int) &&& BitVec.ofInt 64 4294967295).toNat = x % 4294967296 := by
    rw [BitVec.toNat_and, BitVec.ofInt_natCast, BitVec.toNat_ofNat, show (BitVec.ofInt 64 4294967295).toNat = 2 ^ 32 - 1 by rfl, Nat.and_two_pow_sub_one_eq_mod, Nat.mod_eq_of_lt (b := 2 ^ 64) (by omega)]
  exact (congrArg (fun n : Nat => IntKind.u64.wrap (n : Int)) h).trans (IntWalk.u64_in _ (by omega))
theorem or_add {a b s : Nat} (hb : b < 2 ^ s) (h : a * 2 ^ s + b < 18446744073709551616) : bitsI .or .u64 ((a * 2 ^ s : Nat) : Int) (b : Int) = ((a * 2 ^ s + b : Nat) : Int) := by
  have h : (BitVec.ofInt 64 ((a * 2 ^ s : Nat) : Int) ||| BitVec.ofInt 64 (b : Int)).toNat = a * 2 ^ s + b := by
    rw [BitVec.toNat_or, BitVec.ofInt_natCast, BitVec.ofInt_natCast, BitVec.toNat_ofNat, BitVec.toNat_ofNat, Nat.mod_eq_of_lt (b := 2 ^ 64) (by omega), Nat.mod_eq_of_lt (b := 2 ^ 64) (by omega)]
    rw [← Nat.shiftLeft_eq, Nat.shiftLeft_add_eq_or_of_lt hb]
  exact (congrArg (fun n : Nat => IntKind.u64.wrap (n : Int)) h).trans (IntWalk.u64_in _ (by omega))
theorem shr32 (x : Nat) : Int.fdiv (x : Int) (2 ^ (min (Int.toNat 32) (IntKind.bits .u64))) = ((x / 4294967296 : Nat) : Int) := fdiv_pow x 32
theorem Mul64_ok {x y : Nat} (hx : x < 18446744073709551616) (hy : y < 18446744073709551616) :
    math_bits_Mul64P (x : Int) (y : Int) = some (((x * y / 18446744073709551616 : Nat) : Int), ((x * y % 18446744073709551616 : Nat) : Int)) := by
  obtain ⟨k1, k2, k3, k4⟩ := Go.Lib.mul64_hi x y hx hy
  unfold math_bits_Mul64P math_bits_Mul64
  rw [shr32, shr32, and32 hx, and32 hy]
  simp only [← Int.natCast_mul]
  have hb1 : x / 4294967296 * (y / 4294967296) < 18446744073709551616 := by
    have := Go.Lib.half_mul_le (a := x / 4294967296) (b := y / 4294967296) (by omega) (by omega); omega
  have hb2 : x / 4294967296 * (y % 4294967296) < 18446744073709551616 := by omega
  have hb3 : x % 4294967296 * (y / 4294967296) < 18446744073709551616 := by omega
  rw [IntWalk.u64_in ((x % 4294967296 * (y % 4294967296) : Nat) : Int) (by omega), IntWalk.u64_in ((x / 4294967296 * (y % 4294967296) : Nat) : Int) (by omega), IntWalk.u64_in ((x % 4294967296 * (y / 4294967296) : Nat) : Int) (by omega), IntWalk.u64_in ((x / 4294967296 * (y / 4294967296) : Nat) : Int) (by omega)]
  rw [shr32]
  simp only [← Int.natCast_add]
  rw [IntWalk.u64_in ((x / 4294967296 * (y % 4294967296) + x % 4294967296 * (y % 4294967296) / 4294967296 : Nat) : Int) (by omega)]
  rw [shr32, and32 (by omega)]
  simp only [← Int.natCast_add]
  generalize x / 4294967296 * (y % 4294967296) + x % 4294967296 * (y % 4294967296) / 4294967296 = t at *
  generalize x % 4294967296 * (y / 4294967296) = c at *
  generalize x / 4294967296 * (y / 4294967296) = a at *
  have hz : x * y < 340282366920938463463374607431768211456 := Nat.lt_of_lt_of_le (Nat.mul_lt_mul'' hx hy) (by decide)
  generalize x * y = z at *
  rw [IntWalk.u64_in ((a + t / 4294967296 : Nat) : Int) (by omega), IntWalk.u64_in ((t % 4294967296 + c : Nat) : Int) (by omega), shr32]
  simp only [← Int.natCast_add]
  rw [k4, IntWalk.u64_in _ (by omega), IntKind.wrap_u64, show ((z : Nat) : Int) % 18446744073709551616 = ((z % 18446744073709551616 : Nat) : Int) by omega]
  rfl
theorem wrap_mod (n : Nat) : IntKind.u64.wrap (n : Int) = ((n % 18446744073709551616 : Nat) : Int) := by rw [IntKind.wrap_u64]; omega
theorem mul_pow_cast (x s : Nat) : (x : Int) * 2 ^ s = ((x * 2 ^ s : Nat) : Int) := by simp
theorem tdiv_nat (x y : Nat) : Int.tdiv (x : Int) (y : Int) = ((x / y : Nat) : Int) := rfl
theorem tmod_nat (x y : Nat) : Int.tmod (x : Int) (y : Int) = ((x % y : Nat) : Int) := rfl
/-- What the division hands back where the upper word is 0. -/
theorem Div64_small {lo y : Nat} (h0 : 0 < y) (h1 : lo < 18446744073709551616) : math_bits_Div64P 0 (lo : Int) (y : Int) = some (((lo / y : Nat) : Int), ((lo % y : Nat) : Int)) := by
  unfold math_bits_Div64P math_bits_Div64
  have e1 : decide ((y : Int) = 0) = false := by simp; omega
  have e2 : decide ((y : Int) ≤ 0) = false := by simp; omega
  have hne : (y : Int) ≠ 0 := by omega
  have hle : lo / y ≤ lo := Nat.div_le_self _ _
  simp only [e1, e2, cond_false, cond_true, Option.bind_some, decide_true, guardO_pos hne, tdiv_nat, tmod_nat]
  rw [u64_nat (by omega)]
  rfl
theorem toNat_min {s : Nat} (hs : s ≤ 64) : min (Int.toNat (IntKind.wrap .u64 (s : Int))) (IntKind.bits .u64) = s := by
  rw [u64_nat (by omega), Int.toNat_natCast]
  exact Nat.min_eq_left hs
/-- One step: what is left behind a digit. -/
theorem left_ok {N u Q Y R : Nat} (hT : N * 4294967296 + u = Q * Y + R) (hR : R < 18446744073709551616) :
    IntKind.u64.wrap (IntKind.u64.wrap (IntKind.u64.wrap ((N : Int) * 4294967296) + (u : Int)) - IntKind.u64.wrap ((Q : Int) * (Y : Int))) = (R : Int) := by
  rw [← Int.natCast_mul Q Y]
  generalize Q * Y = P at *
  simp only [IntKind.wrap_u64]
  omega
theorem loop_test {q r y1 y0 d : Nat} (hq : q ≤ 4294967297) (hr : r < 4294967296) (h1 : 2147483648 ≤ y1) (h1' : y1 < 4294967296) (h0 : y0 < 4294967296) (hd : d < 4294967296) (h : H) {F : Type} :
    ((((bif !(decide ((4294967296 : Int) ≤ (q : Int))) then (some ((decide ((IntKind.wrap .u64 ((IntKind.wrap .u64 (4294967296 * (r : Int))) + (d : Int))) < (IntKind.wrap .u64 ((q : Int) * (y0 : Int))))), h)) else (some (true, h)))).bind fun (y10, h11) =>
      (bif y10 then (bif (decide ((4294967296 : Int) ≤ (IntKind.wrap .u64 ((r : Int) + (y1 : Int))))) then (some (.done (.ex0 (IntKind.wrap .u64 ((q : Int) - 1)), h11))) else (some (.more (((IntKind.wrap .u64 ((q : Int) - 1)), (IntKind.wrap .u64 ((r : Int) + (y1 : Int)))), h11)))) else (some (.done (.ex0 (q : Int), h11))))) : Option (Stp ((Int × Int) × H) (Flow Int F × H))) =
    if 4294967296 ≤ q ∨ 4294967296 * r + d < q * y0 then (if 4294967296 ≤ r + y1 then some (.done (.ex0 (((q - 1 : Nat) : Int)), h)) else some (.more ((((q - 1 : Nat) : Int), ((r + y1 : Nat) : Int)), h))) else some (.done (.ex0 (q : Int), h)) := by
  have hm : q * y0 < 18446744073709551616 := Nat.lt_of_le_of_lt (Nat.mul_le_mul hq (show y0 ≤ 4294967295 by omega)) (by decide)
  rw [← Int.natCast_mul, u64_nat hm]
  generalize hP : q * y0 = P at *
  have e1 : IntKind.wrap .u64 ((IntKind.wrap .u64 (4294967296 * (r : Int))) + (d : Int)) = ((4294967296 * r + d : Nat) : Int) := by
    simp only [IntKind.wrap_u64]
    omega
  have e2 : IntKind.wrap .u64 ((r : Int) + (y1 : Int)) = ((r + y1 : Nat) : Int) := by
    simp only [IntKind.wrap_u64]
    omega
  rw [e1, e2]
  have fin : 1 ≤ q → (bif (decide ((4294967296 : Int) ≤ ((r + y1 : Nat) : Int))) then (some (.done (.ex0 (IntKind.wrap .u64 ((q : Int) - 1)), h)) : Option (Stp ((Int × Int) × H) (Flow Int F × H))) else (some (.more (((IntKind.wrap .u64 ((q : Int) - 1)), ((r + y1 : Nat) : Int)), h)))) =
      if 4294967296 ≤ r + y1 then some (.done (.ex0 (((q - 1 : Nat) : Int)), h)) else some (.more ((((q - 1 : Nat) : Int), ((r + y1 : Nat) : Int)), h)) := fun h1 => by
    have e3 : IntKind.wrap .u64 ((q : Int) - 1) = ((q - 1 : Nat) : Int) := by
      rw [show (q : Int) - 1 = ((q - 1 : Nat) : Int) by omega, u64_nat (by omega)]
    rw [e3]
    by_cases hc : 4294967296 ≤ r + y1
    · rw [if_pos hc, decide_eq_true (by omega)]; rfl
    · rw [if_neg hc, decide_eq_false (by omega)]; rfl
  by_cases hq2 : 4294967296 ≤ q
  · rw [if_pos (.inl hq2), decide_eq_true (show (4294967296 : Int) ≤ (q : Int) by omega)]
    exact fin (by omega)
  · rw [decide_eq_false (show ¬ (4294967296 : Int) ≤ (q : Int) by omega)]
    by_cases hc : 4294967296 * r + d < P
    · rw [if_pos (.inr hc), decide_eq_true (show ((4294967296 * r + d : Nat) : Int) < (P : Int) by omega)]
      refine fin ?_
      rcases Nat.eq_zero_or_pos q with h | h
      · subst h
        simp at hP
        omega
      · exact h
    · rw [if_neg (by omega), decide_eq_false (show ¬ ((4294967296 * r + d : Nat) : Int) < (P : Int) by omega)]
      rfl
/-- The quotient and what is left of it, out of the digits. -/
theorem div_final {U y p Y N L Q1 N2 Q2 R B u1 u0 : Nat} (hp : 0 < p) (hY : Y = y * p) (hU : U * p = N * (B * B) + L) (hL : u1 * B + u0 = L)
    (h1 : Q1 * Y + N2 = N * B + u1) (h2 : Q2 * Y + R = N2 * B + u0) (hR : R < Y) : U / y = Q1 * B + Q2 ∧ R / p = U % y := by
  have e1 : (N * B + u1) * B = N * B * B + u1 * B := Nat.add_mul _ _ _
  have e2 : (Q1 * Y + N2) * B = Q1 * Y * B + N2 * B := Nat.add_mul _ _ _
  rw [h1] at e2
  have e3 : Y * (Q1 * B + Q2) = Q1 * Y * B + Q2 * Y := by rw [Nat.mul_add, Nat.mul_comm Y Q2, ← Nat.mul_assoc, Nat.mul_comm Y Q1]
  have e4 : N * (B * B) = N * B * B := (Nat.mul_assoc N B B).symm
  have hUQ : U * p = Y * (Q1 * B + Q2) + R := by omega
  have hd : U * p / (y * p) = U / y := Nat.mul_div_mul_right U y hp
  have hm : U * p % (y * p) = U % y * p := Nat.mul_mod_mul_right p U y
  rw [← hY, hUQ] at hd hm
  rw [Nat.mul_add_div (by omega), Nat.div_eq_of_lt hR, Nat.add_zero] at hd
  rw [Nat.mul_add_mod, Nat.mod_eq_of_lt hR] at hm
  exact ⟨hd.symm, by rw [hm, Nat.mul_div_cancel _ hp]⟩
abbrev DivF := (Int × Int) × H → Option (Stp ((Int × Int) × H) (Flow Int (Int × Int) × H))
/-- The two digits and what is left, out of the normalized numbers. -/
def divCore (f1 f2 : DivF) (N Y L Y1 L1 L0 : Int) (S : Nat) (h : H) : Option ((Int × Int) × H) :=
  (iter FUEL f1 ((IntKind.wrap .u64 (Int.tdiv N Y1), IntKind.wrap .u64 (N - IntKind.wrap .u64 (IntKind.wrap .u64 (Int.tdiv N Y1) * Y1))), h)).bind fun (fl, h) => match fl with
  | .next _ => none
  | .ret r => some (r, h)
  | .ex0 q1 =>
    guardO (Y1 ≠ 0) ((iter FUEL f2 ((IntKind.wrap .u64 (Int.tdiv (IntKind.wrap .u64 (IntKind.wrap .u64 (IntKind.wrap .u64 (N * 4294967296) + L1) - IntKind.wrap .u64 (q1 * Y))) Y1),
        IntKind.wrap .u64 (IntKind.wrap .u64 (IntKind.wrap .u64 (IntKind.wrap .u64 (N * 4294967296) + L1) - IntKind.wrap .u64 (q1 * Y)) - IntKind.wrap .u64 (IntKind.wrap .u64 (Int.tdiv (IntKind.wrap .u64 (IntKind.wrap .u64 (IntKind.wrap .u64 (N * 4294967296) + L1) - IntKind.wrap .u64 (q1 * Y))) Y1) * Y1))), h)).bind fun (fl, h) => match fl with
    | .next _ => none
    | .ret r => some (r, h)
    | .ex0 q2 => some ((IntKind.wrap .u64 (IntKind.wrap .u64 (q1 * 4294967296) + q2),
        Int.fdiv (IntKind.wrap .u64 (IntKind.wrap .u64 (IntKind.wrap .u64 (IntKind.wrap .u64 (IntKind.wrap .u64 (IntKind.wrap .u64 (N * 4294967296) + L1) - IntKind.wrap .u64 (q1 * Y)) * 4294967296) + L0) - IntKind.wrap .u64 (q2 * Y))) (2 ^ S)), h)
    | .ex1 _ => none)
  | .ex1 _ => none
theorem Div64_core {a0 a1 a2 r : Int} {h : H} (e1 : decide (a2 = 0) = false) (e2 : decide (a2 ≤ a0) = false) (e3 : decide (a0 = 0) = false) (hs : math_bits_LeadingZeros64P a2 = some r)
    (g1 : (0 : Int) ≤ IntKind.wrap .u64 r) (g2 : (0 : Int) ≤ IntKind.wrap .u64 (64 - IntKind.wrap .u64 r)) {s t : Nat} (hm : min (Int.toNat (IntKind.wrap .u64 r)) (IntKind.bits .u64) = s)
    (hm2 : min (Int.toNat (IntKind.wrap .u64 (64 - IntKind.wrap .u64 r))) (IntKind.bits .u64) = t) {Y Y1 L N L1 L0 : Int} (hY : IntKind.wrap .u64 (a2 * 2 ^ s) = Y) (hY1 : Int.fdiv Y (2 ^ (min (Int.toNat 32) (IntKind.bits .u64))) = Y1)
    (hL : IntKind.wrap .u64 (a1 * 2 ^ s) = L) (hN : bitsI .or .u64 (IntKind.wrap .u64 (a0 * 2 ^ s)) (Int.fdiv a1 (2 ^ t)) = N) (hL1 : Int.fdiv L (2 ^ (min (Int.toNat 32) (IntKind.bits .u64))) = L1) (hL0 : bitsI .and .u64 L 4294967295 = L0) (hne : Y1 ≠ 0) :
    math_bits_Div64 a0 a1 a2 h = divCore (math_bits_Div64.loop1 a1 a2 r) (math_bits_Div64.loop2 a1 a2 r) N Y L Y1 L1 L0 s h := by
  unfold math_bits_Div64
  simp only [e1, e2, e3, hs, cond_false, Option.bind_some, guardO_pos g1, guardO_pos g2, hm, hm2, hY, hY1, hL, hN, hL1, hL0, guardO_pos hne]
  unfold divCore
  simp only [guardO_pos hne]
  rfl
theorem divCore_ok {f1 f2 : DivF} {N Y L s : Nat} {h : H} (hY : 9223372036854775808 ≤ Y) (hY' : Y < 18446744073709551616) (hN : N < Y) (hL : L < 18446744073709551616)
    (hf1 : ∀ q r : Nat, q ≤ 4294967297 → r < 4294967296 → f1 (((q : Int), (r : Int)), h) = if 4294967296 ≤ q ∨ 4294967296 * r + L / 4294967296 < q * (Y % 4294967296) then (if 4294967296 ≤ r + Y / 4294967296 then some (.done (.ex0 (((q - 1 : Nat) : Int)), h)) else some (.more ((((q - 1 : Nat) : Int), ((r + Y / 4294967296 : Nat) : Int)), h))) else some (.done (.ex0 (q : Int), h)))
    (hf2 : ∀ q r : Nat, q ≤ 4294967297 → r < 4294967296 → f2 (((q : Int), (r : Int)), h) = if 4294967296 ≤ q ∨ 4294967296 * r + L % 4294967296 < q * (Y % 4294967296) then (if 4294967296 ≤ r + Y / 4294967296 then some (.done (.ex0 (((q - 1 : Nat) : Int)), h)) else some (.more ((((q - 1 : Nat) : Int), ((r + Y / 4294967296 : Nat) : Int)), h))) else some (.done (.ex0 (q : Int), h))) :
    ∃ Q1 Q2 N2 R : Nat, divCore f1 f2 (N : Int) (Y : Int) (L : Int) ((Y / 4294967296 : Nat) : Int) ((L / 4294967296 : Nat) : Int) ((L % 4294967296 : Nat) : Int) s h = some ((((Q1 * 4294967296 + Q2 : Nat) : Int), ((R / 2 ^ s : Nat) : Int)), h) ∧
      Q1 * Y + N2 = N * 4294967296 + L / 4294967296 ∧ Q2 * Y + R = N2 * 4294967296 + L % 4294967296 ∧ R < Y := by
  have h1 : 2147483648 ≤ Y / 4294967296 := by omega
  have h1' : Y / 4294967296 < 4294967296 := by omega
  have h0 : Y % 4294967296 < 4294967296 := by omega
  have hYe : Y / 4294967296 * 4294967296 + Y % 4294967296 = Y := by omega
  have hne : ((Y / 4294967296 : Nat) : Int) ≠ 0 := by omega
  have start : ∀ n : Nat, n < Y → IntKind.wrap .u64 (Int.tdiv (n : Int) ((Y / 4294967296 : Nat) : Int)) = ((n / (Y / 4294967296) : Nat) : Int) ∧
      IntKind.wrap .u64 ((n : Int) - IntKind.wrap .u64 (((n / (Y / 4294967296) : Nat) : Int) * ((Y / 4294967296 : Nat) : Int))) = ((n % (Y / 4294967296) : Nat) : Int) := fun n hn => by
    have e1 := first_le h1 h0 (show n < Y / 4294967296 * 4294967296 + Y % 4294967296 by omega)
    have e2 := Nat.div_add_mod n (Y / 4294967296)
    have e3 : n % (Y / 4294967296) < 18446744073709551616 := by have := Nat.mod_lt n (show 0 < Y / 4294967296 by omega); omega
    rw [tdiv_nat, u64_nat (by omega)]
    refine ⟨rfl, ?_⟩
    rw [← Int.natCast_mul, Nat.mul_comm]
    generalize n % (Y / 4294967296) = m at *
    generalize Y / 4294967296 * (n / (Y / 4294967296)) = z at *
    simp only [IntKind.wrap_u64]
    omega
  have run1 := digit_loop (F := Int × Int) (f := f1) (h := h) (n := N) (d := L / 4294967296) h1 h1' h0 (by omega) (by omega) hf1
  obtain ⟨s1, s2⟩ := start N hN
  rw [hYe] at run1
  have hq1 := Nat.div_add_mod (N * 4294967296 + L / 4294967296) Y
  have hr1 := Nat.mod_lt (N * 4294967296 + L / 4294967296) (show 0 < Y by omega)
  have hq1s := quot_small (d := L / 4294967296) hN (by omega)
  generalize (N * 4294967296 + L / 4294967296) / Y = Q1 at *
  generalize (N * 4294967296 + L / 4294967296) % Y = N2 at *
  rw [Nat.mul_comm] at hq1
  have w2 := left_ok hq1.symm (by omega)
  have run2 := digit_loop (F := Int × Int) (f := f2) (h := h) (n := N2) (d := L % 4294967296) h1 h1' h0 (by omega) (by omega) hf2
  obtain ⟨s3, s4⟩ := start N2 hr1
  rw [hYe] at run2
  have hq2 := Nat.div_add_mod (N2 * 4294967296 + L % 4294967296) Y
  have hr2 := Nat.mod_lt (N2 * 4294967296 + L % 4294967296) (show 0 < Y by omega)
  have hq2s := quot_small (d := L % 4294967296) hr1 (by omega)
  generalize (N2 * 4294967296 + L % 4294967296) / Y = Q2 at *
  generalize (N2 * 4294967296 + L % 4294967296) % Y = R at *
  rw [Nat.mul_comm] at hq2
  have w3 := left_ok hq2.symm (by omega)
  refine ⟨Q1, Q2, N2, R, ?_, hq1, hq2, hr2⟩
  have e9 : IntKind.wrap .u64 (IntKind.wrap .u64 ((Q1 : Int) * 4294967296) + (Q2 : Int)) = ((Q1 * 4294967296 + Q2 : Nat) : Int) := by
    simp only [IntKind.wrap_u64]
    omega
  unfold divCore
  rw [s1, s2, run1]
  simp only [Option.bind_some]
  rw [w2, s3, s4, run2, guardO_pos hne]
  simp only [Option.bind_some]
  rw [w3, e9, fdiv_pow]
/-- What the division hands back. -/
theorem Div64_great {hi lo y : Nat} (hh : 0 < hi) (hy : hi < y) (hy1 : y < 18446744073709551616) (hl : lo < 18446744073709551616) :
    math_bits_Div64P (hi : Int) (lo : Int) (y : Int) = some ((((hi * 18446744073709551616 + lo) / y : Nat) : Int), (((hi * 18446744073709551616 + lo) % y : Nat) : Int)) := by
  obtain ⟨s, hs, hs1, hs2, hs3⟩ := LeadingZeros64_ok (x := y) (by omega) hy1
  have e1 : decide ((y : Int) = 0) = false := by simp; omega
  have e2 : decide ((y : Int) ≤ (hi : Int)) = false := by simp; omega
  have e3 : decide ((hi : Int) = 0) = false := by simp; omega
  have hm := toNat_min (s := s) (by omega)
  have g1 : (0 : Int) ≤ IntKind.wrap .u64 (s : Int) := by rw [u64_nat (by omega)]; omega
  have hsub : IntKind.wrap .u64 (64 - IntKind.wrap .u64 (s : Int)) = ((64 - s : Nat) : Int) := by
    rw [u64_nat (by omega), show (64 : Int) - (s : Int) = ((64 - s : Nat) : Int) by omega, u64_nat (by omega)]
  have hm2 : min (Int.toNat (IntKind.wrap .u64 (64 - IntKind.wrap .u64 (s : Int)))) (IntKind.bits .u64) = 64 - s := by
    rw [hsub, Int.toNat_natCast]
    show min (64 - s) 64 = 64 - s
    omega
  have g2 : (0 : Int) ≤ IntKind.wrap .u64 (64 - IntKind.wrap .u64 (s : Int)) := by rw [hsub]; omega
  -- the normalized numbers
  have hp : 0 < 2 ^ s := Nat.two_pow_pos s
  have hY : ∃ Y, Y = y * 2 ^ s := ⟨_, rfl⟩
  obtain ⟨Y, hY⟩ := hY
  have hpow : 2 ^ (64 - s) * 2 ^ s = 18446744073709551616 := by rw [← Nat.pow_add, show 64 - s + s = 64 by omega]
  have hlow : lo / 2 ^ (64 - s) < 2 ^ s := by
    rw [Nat.div_lt_iff_lt_mul (Nat.two_pow_pos _), Nat.mul_comm, hpow]
    exact hl
  have hN1 : hi * 2 ^ s + 2 ^ s ≤ Y := by
    rw [hY, ← Nat.succ_mul]
    exact Nat.mul_le_mul_right _ hy
  have hhi : hi * 2 ^ s < 18446744073709551616 := by omega
  have hN : ∃ N, N = hi * 2 ^ s + lo / 2 ^ (64 - s) := ⟨_, rfl⟩
  obtain ⟨N, hN⟩ := hN
  have hL : ∃ L, L = lo * 2 ^ s % 18446744073709551616 := ⟨_, rfl⟩
  obtain ⟨L, hL⟩ := hL
  have hLo : lo * 2 ^ s / 18446744073709551616 = lo / 2 ^ (64 - s) := by rw [← hpow, Nat.mul_div_mul_right _ _ hp]
  have hU : (hi * 18446744073709551616 + lo) * 2 ^ s = N * (4294967296 * 4294967296) + L := by
    have e : (hi * 18446744073709551616 + lo) * 2 ^ s = (hi * 2 ^ s) * 18446744073709551616 + lo * 2 ^ s := by
      rw [Nat.add_mul (hi * 18446744073709551616) lo (2 ^ s), Nat.mul_right_comm hi 18446744073709551616 (2 ^ s)]
    rw [e, hN, hL]
    omega
  rw [← hY] at hs2 hs3
  have wY : IntKind.wrap .u64 ((y : Int) * 2 ^ s) = (Y : Int) := by rw [mul_pow_cast, ← hY, u64_nat hs3]
  have wL : IntKind.wrap .u64 ((lo : Int) * 2 ^ s) = (L : Int) := by rw [mul_pow_cast, wrap_mod, ← hL]
  have wN : bitsI .or .u64 (IntKind.wrap .u64 ((hi : Int) * 2 ^ s)) (Int.fdiv (lo : Int) (2 ^ (64 - s))) = (N : Int) := by
    rw [mul_pow_cast, fdiv_pow, u64_nat hhi, or_add hlow (by omega), hN]
  have hL2 : L < 18446744073709551616 := by rw [hL]; exact Nat.mod_lt _ (by decide)
  have hNY : N < Y := by omega
  have hne : ((Y / 4294967296 : Nat) : Int) ≠ 0 := by omega
  obtain ⟨Q1, Q2, N2, R, hrun, k1, k2, k3⟩ := divCore_ok (f1 := math_bits_Div64.loop1 (lo : Int) (y : Int) (s : Int)) (f2 := math_bits_Div64.loop2 (lo : Int) (y : Int) (s : Int)) (s := s) (h := H.empty) hs2 hs3 hNY hL2
    (fun q r hq hr => by
      unfold math_bits_Div64.loop1
      simp only [hm, wY, wL, shr32, and32 hs3]
      exact loop_test hq hr (by omega) (by omega) (by omega) (by omega) _)
    (fun q r hq hr => by
      unfold math_bits_Div64.loop2
      simp only [hm, wY, wL, shr32, and32 hs3, and32 hL2]
      exact loop_test hq hr (by omega) (by omega) (by omega) (by omega) _)
  have hcore := Div64_core (a0 := (hi : Int)) (a1 := (lo : Int)) (a2 := (y : Int)) (h := H.empty) e1 e2 e3 hs g1 g2 hm hm2 wY (shr32 Y) wL wN (shr32 L) (and32 hL2) hne
  rw [hrun] at hcore
  obtain ⟨hdiv, hmod⟩ := div_final (B := 4294967296) hp hY hU (show L / 4294967296 * 4294967296 + L % 4294967296 = L by omega) k1 k2 k3
  unfold math_bits_Div64P
  rw [hcore, hdiv, ← hmod]
  rfl
end Go.Proofs.Ytaepkinihaipkaa
