/- What the functions of this seat compute: some texts in one. Conditions: those of each law. -/
import Derived.Test.YtfkabibbaajfhaaEvSpec
import Derived.Test.YtfkabibbaajfhaaFn9
import Derived.Test.YtfkabibbaajfhaaEvRow
/- Lists of numbers; searches in them. Conditions: those of each law. -/
namespace Go.Proofs.Ytfkabibbaajfhaa
open Go Go.Proofs.Ytfkabibbaajfhaa.Ev
set_option linter.unusedVariables false
set_option linter.unusedSimpArgs false
set_option maxRecDepth 100000
set_option maxHeartbeats 1000000
theorem u64_nat {n : Nat} (h : n < 18446744073709551616) : IntKind.u64.wrap (n : Int) = (n : Int) := IntWalk.u64_in _ (by omega)
theorem IndexFunc_int {T : Table} {v : V} {h : H} {xs : List Int} {f : Bool} (p : Int → Bool) (hn : xs.length < 2 ^ 63) (hc : ∀ x ∈ xs, ∀ {R : Type} (k : V → H → Option R), callV T.dy v [.int .i64 x] h k = k (.bool (p x)) h) :
    slices_IndexFunc_int_int T (rowSV f [.int .i64] xs) v h = some (idxOf p xs, h) := by
  unfold slices_IndexFunc_int_int
  rw [iter_find xs p (fun i => (i : Int)) hn (fun i x hx => by
    obtain ⟨hlt, rfl⟩ := List.getElem?_eq_some_iff.1 hx
    unfold slices_IndexFunc_int_int.loop1
    simp only [rowSV_len, Int.toNat_natCast]
    rw [decide_eq_true (by omega), cond_true, guardO_pos (by omega), rd_rowI, hx]
    simp only [Option.bind_some]
    rw [hc _ (List.getElem_mem hlt)]
    simp only [Res.pack, Ty.pack, Leaf.pack, Option.bind_some]
    rw [i64_succ (by omega)]
    cases p xs[i] <;> rfl) (by
    unfold slices_IndexFunc_int_int.loop1
    simp only [rowSV_len]
    rw [decide_eq_false (by omega), cond_false])]
  unfold idxOf
  cases xs.findIdx? p <;> rfl
theorem ContainsFunc_int {T : Table} {v : V} {h : H} {xs : List Int} {f : Bool} (p : Int → Bool) (hn : xs.length < 2 ^ 63) (hc : ∀ x ∈ xs, ∀ {R : Type} (k : V → H → Option R), callV T.dy v [.int .i64 x] h k = k (.bool (p x)) h) :
    slices_ContainsFunc_int_int T (rowSV f [.int .i64] xs) v h = some (xs.any p, h) := by
  unfold slices_ContainsFunc_int_int
  rw [IndexFunc_int (T := slices_ContainsFunc_int_int.tb T) p hn hc]
  simp only [Option.bind_some, idxOf_nonneg]
def g (xs : List Int) (k : Nat) : Int := (xs[k]?).getD 0
theorem g_some {xs : List Int} {k : Nat} (h : k < xs.length) : xs[k]? = some (g xs k) := by
  rw [g, List.getElem?_eq_getElem h]; rfl
theorem g_eq {xs : List Int} {k : Nat} (h : k < xs.length) : g xs k = xs[k] := by rw [g, List.getElem?_eq_getElem h]; rfl
theorem g_mem {xs : List Int} {k : Nat} (h : k < xs.length) : g xs k ∈ xs := by rw [g_eq h]; exact List.getElem_mem h
theorem sum_nonneg : ∀ {xs : List Int}, (∀ x ∈ xs, 0 ≤ x) → 0 ≤ xs.sum
  | [], _ => by simp
  | x :: xs, h => by
    have := sum_nonneg (xs := xs) fun y hy => h y (by simp [hy])
    have := h x (by simp)
    simp only [List.sum_cons]; omega
theorem sum_take_succ {ws : List Int} {i : Nat} (h : i < ws.length) : (ws.take (i + 1)).sum = (ws.take i).sum + ws[i] := by
  rw [← List.take_append_getElem h, List.sum_append]; simp
end Go.Proofs.Ytfkabibbaajfhaa
/- What sort.Search computes. Conditions: those of each law. -/
namespace Go.Proofs.Ytfkabibbaajfhaa
open Go Go.Proofs.Ytfkabibbaajfhaa.Ev
set_option linter.unusedVariables false
set_option linter.unusedSimpArgs false
set_option maxRecDepth 100000
set_option maxHeartbeats 4000000
theorem mid_eq {lo hi : Nat} (h : lo + hi < 4611686018427387904) : IntKind.wrap .i64 (Int.fdiv (IntKind.wrap .u64 (IntKind.wrap .i64 ((lo : Int) + (hi : Int)))) (2 ^ (min (Int.toNat 1) (IntKind.bits .u64)))) = (((lo + hi) / 2 : Nat) : Int) := by
  rw [← Int.natCast_add, i64_nat (by omega), u64_nat (by omega), show ((2 : Int) ^ (min (Int.toNat 1) (IntKind.bits .u64))) = 2 from rfl, Int.fdiv_eq_ediv_of_nonneg _ (by omega)]
  rw [show (((lo + hi : Nat) : Int) / 2) = (((lo + hi) / 2 : Nat) : Int) by omega, i64_nat (by omega)]
theorem search_step {T : Table} {v : V} {h : H} {lo hi : Nat} (p : Nat → Bool) (hlt : lo < hi) (hh : hi < 2305843009213693952)
    (hc : ∀ {R : Type} (k : V → H → Option R), callV T.dy v [.int .i64 (((lo + hi) / 2 : Nat) : Int)] h k = k (.bool (p ((lo + hi) / 2))) h) :
    sort_Search.loop1 T v (((lo : Int), (hi : Int)), h) = some (.more (if p ((lo + hi) / 2) = true then ((lo : Int), (((lo + hi) / 2 : Nat) : Int)) else ((((lo + hi) / 2 + 1 : Nat) : Int), (hi : Int)), h)) := by
  unfold sort_Search.loop1
  simp only [mid_eq (lo := lo) (hi := hi) (by omega)]
  rw [decide_eq_true (show (lo : Int) < (hi : Int) by omega), cond_true, hc]
  try simp -implicitDefEqProofs only [Res.pack, Ty.pack, Leaf.pack, Option.bind_some]
  cases p ((lo + hi) / 2) with
  | true => simp -implicitDefEqProofs only [evs, reduceIte, rdRes, rdTT, rdTy, rdLT, Res.un, TT.un, Ty.un, LT.un, Leaf.un, Leaf.plain, LT.plain]
  | false =>
    try simp -implicitDefEqProofs only [evs, reduceIte, rdRes, rdTT, rdTy, rdLT, Res.un, TT.un, Ty.un, LT.un, Leaf.un, Leaf.plain, LT.plain, Bool.false_eq_true]
    rw [i64_succ (by omega)]
theorem search_loop {T : Table} {v : V} {h : H} {n : Nat} (p : Nat → Bool) (hn : n < 2305843009213693952)
    (hc : ∀ m, m < n → ∀ {R : Type} (k : V → H → Option R), callV T.dy v [.int .i64 (m : Int)] h k = k (.bool (p m)) h) :
    ∀ (fuel lo hi : Nat), hi - lo < fuel → lo ≤ hi → hi ≤ n → (lo = 0 ∨ p (lo - 1) = false) → (hi = n ∨ p hi = true) →
      ∃ m : Nat, iter fuel (sort_Search.loop1 T v) (((lo : Int), (hi : Int)), h) = some (.ex0 (m : Int), h) ∧ m ≤ n ∧ (m = 0 ∨ p (m - 1) = false) ∧ (m = n ∨ p m = true)
  | 0, lo, hi, hf, _, _, _, _ => by omega
  | fuel + 1, lo, hi, hf, hle, hhn, h1, h2 => by
    rw [iter]
    by_cases e : lo = hi
    · subst e
      refine ⟨lo, ?_, hhn, h1, h2⟩
      have hend : sort_Search.loop1 T v (((lo : Int), (lo : Int)), h) = some (.done (.ex0 (lo : Int), h)) := by
        unfold sort_Search.loop1
        simp only
        rw [decide_eq_false (show ¬ (lo : Int) < (lo : Int) by omega), cond_false]
      rw [hend]
      rfl
    · rw [search_step p (by omega) (by omega) (hc _ (by omega))]
      by_cases hp : p ((lo + hi) / 2) = true
      · rw [if_pos hp]
        exact search_loop p hn hc fuel lo ((lo + hi) / 2) (by omega) (by omega) (by omega) h1 (.inr hp)
      · rw [if_neg hp]
        exact search_loop p hn hc fuel ((lo + hi) / 2 + 1) hi (by omega) (by omega) hhn (.inr (by rw [Nat.add_sub_cancel]; simpa using hp)) h2
/-- The place that a search finds: all before say no, all from there on say yes. -/
theorem Search_ok {T : Table} {v : V} {h : H} {n : Nat} (p : Nat → Bool) (hn : n < 2305843009213693952) (hm : ∀ a b, a ≤ b → b < n → p a = true → p b = true)
    (hc : ∀ m, m < n → ∀ {R : Type} (k : V → H → Option R), callV T.dy v [.int .i64 (m : Int)] h k = k (.bool (p m)) h) :
    ∃ m : Nat, sort_Search T (n : Int) v h = some ((m : Int), h) ∧ m ≤ n ∧ (∀ q, q < m → p q = false) ∧ (∀ q, m ≤ q → q < n → p q = true) := by
  obtain ⟨m, h1, h2, h3, h4⟩ := search_loop p hn hc FUEL 0 n (by have := fuel_gt (n := n) (by omega); omega) (by omega) (by omega) (.inl rfl) (.inl rfl)
  refine ⟨m, ?_, h2, fun q hq => ?_, fun q hq hqn => ?_⟩
  · unfold sort_Search
    have hz : ((0 : Nat) : Int) = 0 := rfl
    rw [hz] at h1
    rw [h1]
    rfl
  · rcases h3 with h3 | h3
    · omega
    · cases hpq : p q with
      | false => rfl
      | true =>
        have := hm q (m - 1) (by omega) (by omega) hpq
        rw [h3] at this
        exact absurd this (by simp)
  · rcases h4 with h4 | h4
    · omega
    · exact hm m q hq hqn h4
end Go.Proofs.Ytfkabibbaajfhaa
/- Slots of two numbers. Conditions: those of each law. -/
namespace Go.Proofs.Ytfkabibbaajfhaa
open Go Go.Proofs.Ytfkabibbaajfhaa.Ev
set_option linter.unusedVariables false
set_option linter.unusedSimpArgs false
set_option maxRecDepth 100000
set_option maxHeartbeats 4000000
abbrev j2 : List Leaf := [.int .i64, .int .i64]
abbrev c2 (x : Int × Int) : Slot := .own [.int .i64 x.1, .int .i64 x.2] 2
theorem new_c2 {sl : List Slot} {x : Int × Int} : H.wrs (hL (sl ++ [Slot.own [V.int .i64 0, V.int .i64 0] 2])) (.hp sl.length 2 0) [.int .i64 x.1, .int .i64 x.2] = some (hL (sl ++ [c2 x])) := by
  rw [wrs_own (g := 2) (cs := [V.int .i64 0, V.int .i64 0]) (e := 2) (by simp) rfl (by simp)]
  simp [splice]
theorem rd_c2 {sl : List Slot} {id : Nat} {x : Int × Int} (h : sl[id]? = some (c2 x)) : rdT (.leaf (.int .i64)) (hL sl) (.hp id 2 0) = some x.1 ∧ rdT (.leaf (.int .i64)) (hL sl) (.hp id 2 1) = some x.2 := by
  refine ⟨?_, ?_⟩
  · rw [rd_own (g := 2) h rfl]; rfl
  · rw [rd_own (g := 2) h rfl]; rfl
theorem rds_c2 {sl : List Slot} {id : Nat} {x : Int × Int} (h : sl[id]? = some (c2 x)) : rdT (.agg [.int .i64, .int .i64]) (hL sl) (.hp id 2 0) = some x := by
  rw [rds_hp (by simp), hL_m, h]; rfl
theorem wrs_c2 {sl : List Slot} {id : Nat} {x y : Int × Int} (h : sl[id]? = some (c2 x)) : H.wrs (hL sl) (.hp id 2 0) [.int .i64 y.1, .int .i64 y.2] = some (hL (sl.set id (c2 y))) := by
  rw [wrs_own (g := 2) h rfl (by simp)]; rfl
end Go.Proofs.Ytfkabibbaajfhaa
/- What plain of package mix computes. Conditions: those of each law. -/
namespace Go.Proofs.Ytfkabibbaajfhaa
open Go Go.Proofs.Ytfkabibbaajfhaa.Ev
set_option linter.unusedVariables false
set_option linter.unusedSimpArgs false
set_option maxRecDepth 100000
set_option maxHeartbeats 4000000
end Go.Proofs.Ytfkabibbaajfhaa
/- What Sum of package mix computes. Conditions: those of each law. -/
namespace Go.Proofs.Ytfkabibbaajfhaa
open Go Go.Proofs.Ytfkabibbaajfhaa.Ev
set_option linter.unusedVariables false
set_option linter.unusedSimpArgs false
set_option maxRecDepth 100000
set_option maxHeartbeats 4000000
/-- The sum of liquids. -/
def sumL (xs : List (Int × Int)) : Int × Int := ((xs.map (·.1)).sum, (xs.map (·.2)).sum)
theorem sumL_take {xs : List (Int × Int)} {i : Nat} {x : Int × Int} (h : xs[i]? = some x) : sumL (xs.take (i + 1)) = ((sumL (xs.take i)).1 + x.1, (sumL (xs.take i)).2 + x.2) := by
  obtain ⟨hi, rfl⟩ := List.getElem?_eq_some_iff.1 h
  rw [← List.take_append_getElem hi]
  unfold sumL
  simp only [List.map_append, List.map_cons, List.map_nil, List.sum_append, List.sum_cons, List.sum_nil, Int.add_zero]
theorem wr0_c2 {sl : List Slot} {id : Nat} {x : Int × Int} {y : Int} (h : sl[id]? = some (c2 x)) : H.wrs (hL sl) (.hp id 2 0) [.int .i64 y] = some (hL (sl.set id (c2 (y, x.2)))) := by
  rw [wrs_own (g := 2) h rfl (by simp)]; rfl
theorem wr1_c2 {sl : List Slot} {id : Nat} {x : Int × Int} {y : Int} (h : sl[id]? = some (c2 x)) : H.wrs (hL sl) (.hp id 2 1) [.int .i64 y] = some (hL (sl.set id (c2 (x.1, y)))) := by
  rw [wrs_own (g := 2) h rfl (by simp)]; rfl
end Go.Proofs.Ytfkabibbaajfhaa
/- What package density computes: the fault at a place, the check of a table. Conditions: those of each law. -/
namespace Go.Proofs.Ytfkabibbaajfhaa
open Go Go.Proofs.Ytfkabibbaajfhaa.Ev
set_option linter.unusedVariables false
set_option linter.unusedSimpArgs false
set_option maxRecDepth 100000
set_option maxHeartbeats 4000000
/-- An entry of a table. -/
def q2 (xs : List (Int × Int)) (i : Nat) : Int × Int := xs[i]?.getD (0, 0)
theorem q2_some {xs : List (Int × Int)} {i : Nat} (h : i < xs.length) : xs[i]? = some (q2 xs i) := by
  unfold q2
  rw [List.getElem?_eq_getElem h]
  rfl
def okPt (x : Int × Int) : Bool := decide (0 ≤ x.1 ∧ x.1 ≤ 10000 ∧ 50000 ≤ x.2 ∧ x.2 ≤ 120000)
def faultOf (xs : List (Int × Int)) (i : Nat) : Int :=
  if okPt (q2 xs i) = true then (if 0 < i ∧ (q2 xs i).1 ≤ (q2 xs (i - 1)).1 then 5 else if 0 < i ∧ (q2 xs (i - 1)).2 < (q2 xs i).2 then 18 else 0) else 2
theorem rd_q2 {f : Bool} {xs : List (Int × Int)} {i : Nat} {h : H} (hi : i < xs.length) : rdT (.leaf (.int .i64)) h (((rowSV f j2 xs).a.add (i * 2)).add 0) = some (q2 xs i).1 ∧ rdT (.leaf (.int .i64)) h (((rowSV f j2 xs).a.add (i * 2)).add 1) = some (q2 xs i).2 := by
  refine ⟨?_, ?_⟩ <;> (rw [add_add, rd_row (ls := j2) (w := 2) rfl (by omega), q2_some hi]; rfl)
theorem nn_q2 {f : Bool} {xs : List (Int × Int)} {i : Nat} (hi : i < xs.length) : V.nn ((rowSV f j2 xs).a.add (i * 2)) = true := nn_row (by omega) (by simp)
theorem bad_code {x1 x2 : Int} {h : H} : (bif !(decide (x1 < 0)) then (bif !(decide ((10000 : Int) < x1)) then (bif !(decide (x2 < 50000)) then some (decide ((120000 : Int) < x2), h) else some (true, h)) else some (true, h)) else some (true, h) : Option (Bool × H)) = some (!okPt (x1, x2), h) := by
  unfold okPt
  by_cases h1 : x1 < 0
  · rw [decide_eq_true h1, decide_eq_false (p := _ ∧ _) (by simp only; omega)]; rfl
  · rw [decide_eq_false h1]
    by_cases h2 : (10000 : Int) < x1
    · rw [decide_eq_true h2, decide_eq_false (p := _ ∧ _) (by simp only; omega)]; rfl
    · rw [decide_eq_false h2]
      by_cases h3 : x2 < 50000
      · rw [decide_eq_true h3, decide_eq_false (p := _ ∧ _) (by simp only; omega)]; rfl
      · rw [decide_eq_false h3]
        by_cases h4 : (120000 : Int) < x2
        · rw [decide_eq_true h4, decide_eq_false (p := _ ∧ _) (by simp only; omega)]; rfl
        · rw [decide_eq_false h4, decide_eq_true (p := _ ∧ _) (by simp only; omega)]; rfl
theorem fault_ok {xs : List (Int × Int)} {i : Nat} (hi : i < xs.length) (hl : xs.length < 2 ^ 62) : density_faultP xs (i : Int) = some (faultOf xs i) := by
  unfold density_faultP density_fault faultOf
  have hg : 0 ≤ (i : Int) ∧ (i : Int) < (xs.length : Int) := by omega
  have e0 : [c2 (q2 xs i)][0]? = some (c2 (q2 xs i)) := rfl
  have r0 := rd_c2 e0
  have n0 := new_c2 (sl := []) (x := q2 xs i)
  simp only [c2, List.nil_append, List.length_nil] at r0 n0
  try simp -implicitDefEqProofs only [rowSV_len, Int.toNat_natCast, guardO_pos hg, hL_empty, hL_next, hL_new, List.nil_append, List.length_nil]
  rw [rds_rowF (ls := j2) (w := 2) rfl (by omega) rfl, q2_some hi]
  try simp -implicitDefEqProofs only [evs, reduceIte, rdRes, rdTT, rdTy, rdLT, Res.un, TT.un, Ty.un, LT.un, Leaf.un, Leaf.plain, LT.plain]
  rw [n0]
  try simp -implicitDefEqProofs only [evs, reduceIte, rdRes, rdTT, rdTy, rdLT, Res.un, TT.un, Ty.un, LT.un, Leaf.un, Leaf.plain, LT.plain, r0.1, r0.2, reserve0]
  rw [bad_code]
  try simp -implicitDefEqProofs only [evs, reduceIte, rdRes, rdTT, rdTy, rdLT, Res.un, TT.un, Ty.un, LT.un, Leaf.un, Leaf.plain, LT.plain]
  cases hok : okPt (q2 xs i) with
  | false => simp -implicitDefEqProofs only [evs, reduceIte, rdRes, rdTT, rdTy, rdLT, Res.un, TT.un, Ty.un, LT.un, Leaf.un, Leaf.plain, LT.plain, Bool.false_eq_true]
  | true =>
    try simp -implicitDefEqProofs only [evs, reduceIte, rdRes, rdTT, rdTy, rdLT, Res.un, TT.un, Ty.un, LT.un, Leaf.un, Leaf.plain, LT.plain]
    by_cases h0 : 0 < i
    · have hi1 : (i : Int) - 1 = ((i - 1 : Nat) : Int) := by omega
      have hg1 : 0 ≤ ((i - 1 : Nat) : Int) ∧ ((i - 1 : Nat) : Int) < (xs.length : Int) := by omega
      have hn := nn_q2 (f := false) (xs := xs) (i := i - 1) (by omega)
      rw [decide_eq_true (show (0 : Int) < (i : Int) by omega), hi1, i64_nat (by omega)]
      try simp -implicitDefEqProofs only [evs, reduceIte, rdRes, rdTT, rdTy, rdLT, Res.un, TT.un, Ty.un, LT.un, Leaf.un, Leaf.plain, LT.plain, r0.1, r0.2, guardO_pos hg1, Int.toNat_natCast, guardO_pos hn, (rd_q2 (f := false) (xs := xs) (i := i - 1) (h := hL [.own [.int .i64 (q2 xs i).1, .int .i64 (q2 xs i).2] 2]) (by omega)).1]
      by_cases h1 : (q2 xs i).1 ≤ (q2 xs (i - 1)).1
      · rw [decide_eq_true h1, if_pos ⟨h0, h1⟩]
        try simp -implicitDefEqProofs only [evs, reduceIte, rdRes, rdTT, rdTy, rdLT, Res.un, TT.un, Ty.un, LT.un, Leaf.un, Leaf.plain, LT.plain]
      · rw [decide_eq_false h1, if_neg (by omega)]
        try simp -implicitDefEqProofs only [evs, reduceIte, rdRes, rdTT, rdTy, rdLT, Res.un, TT.un, Ty.un, LT.un, Leaf.un, Leaf.plain, LT.plain, r0.1, r0.2, guardO_pos hg1, Int.toNat_natCast, guardO_pos hn, (rd_q2 (f := false) (xs := xs) (i := i - 1) (h := hL [.own [.int .i64 (q2 xs i).1, .int .i64 (q2 xs i).2] 2]) (by omega)).2]
        by_cases h2 : (q2 xs (i - 1)).2 < (q2 xs i).2
        · rw [decide_eq_true h2, if_pos ⟨h0, h2⟩]
          try simp -implicitDefEqProofs only [evs, reduceIte, rdRes, rdTT, rdTy, rdLT, Res.un, TT.un, Ty.un, LT.un, Leaf.un, Leaf.plain, LT.plain]
        · rw [decide_eq_false h2, if_neg (by omega)]
          try simp -implicitDefEqProofs only [evs, reduceIte, rdRes, rdTT, rdTy, rdLT, Res.un, TT.un, Ty.un, LT.un, Leaf.un, Leaf.plain, LT.plain]
    · rw [decide_eq_false (show ¬ (0 : Int) < (i : Int) by omega), if_neg (by omega), if_neg (by omega)]
      try simp -implicitDefEqProofs only [evs, reduceIte, rdRes, rdTT, rdTy, rdLT, Res.un, TT.un, Ty.un, LT.un, Leaf.un, Leaf.plain, LT.plain]
end Go.Proofs.Ytfkabibbaajfhaa
/- What density.Check computes. Conditions: those of each law. -/
namespace Go.Proofs.Ytfkabibbaajfhaa
open Go Go.Proofs.Ytfkabibbaajfhaa.Ev
set_option linter.unusedVariables false
set_option linter.unusedSimpArgs false
set_option maxRecDepth 100000
set_option maxHeartbeats 4000000
def firstBad (xs : List (Int × Int)) : Option Nat := (List.range xs.length).find? fun i => !decide (faultOf xs i = 0)
def checkOf (xs : List (Int × Int)) : Int × Int :=
  if 128 < xs.length then (-1, 8) else if xs.length < 2 then (-1, 9) else
    match firstBad xs with
    | some i => ((i : Int), faultOf xs i)
    | none => if (q2 xs 0).1 ≠ 0 then (0, 10) else if (q2 xs (xs.length - 1)).1 ≠ 10000 then (((xs.length - 1 : Nat) : Int), 10) else (-1, 0)
theorem check_loop {xs : List (Int × Int)} (hl : xs.length ≤ 128) : iter FUEL (density_Check.loop1 (rowSV false j2 xs)) (0, H.empty) = some (match firstBad xs with | some i => (.ret ((i : Int), faultOf xs i), H.empty) | none => (.ex0 (), H.empty)) := by
  have hs := iter_scan (f := density_Check.loop1 (rowSV false j2 xs)) (y := (.ex0 (), H.empty))
    (fun i => if faultOf xs i = 0 then none else some (.ret ((i : Int), faultOf xs i), H.empty)) xs.length (fun i => ((i : Int), H.empty)) FUEL (fun i hi => ?_) ?_ (fuel_gt (by omega))
  · have hz : ((0 : Nat) : Int) = 0 := rfl
    simp only [hz] at hs
    rw [hs]
    unfold firstBad
    have key : ∀ (l : List Nat), (l.findSome? fun i => if faultOf xs i = 0 then none else some ((.ret ((i : Int), faultOf xs i), H.empty) : Flow Unit (Int × Int) × H)) = (l.find? fun i => !decide (faultOf xs i = 0)).map fun i => (.ret ((i : Int), faultOf xs i), H.empty) := fun l => by
      induction l with
      | nil => rfl
      | cons a l ih =>
        rw [List.findSome?_cons, List.find?_cons]
        by_cases h : faultOf xs a = 0
        · rw [if_pos h, decide_eq_true h]
          exact ih
        · rw [if_neg h, decide_eq_false h]
          rfl
    rw [key]
    cases (List.range xs.length).find? fun i => !decide (faultOf xs i = 0) <;> rfl
  · unfold density_Check.loop1
    try simp -implicitDefEqProofs only [rowSV_len, rdRow_args]
    rw [decide_eq_true (show (i : Int) < (xs.length : Int) by omega), cond_true]
    try simp -implicitDefEqProofs only [evs, reduceIte, rdRes, rdTT, rdTy, rdLT, Res.un, TT.un, Ty.un, LT.un, Leaf.un, Leaf.plain, LT.plain]
    rw [fault_ok hi (by omega)]
    try simp -implicitDefEqProofs only [evs, reduceIte, rdRes, rdTT, rdTy, rdLT, Res.un, TT.un, Ty.un, LT.un, Leaf.un, Leaf.plain, LT.plain]
    by_cases h : faultOf xs i = 0
    · rw [decide_eq_true h, if_pos h]
      try simp -implicitDefEqProofs only [evs, reduceIte, rdRes, rdTT, rdTy, rdLT, Res.un, TT.un, Ty.un, LT.un, Leaf.un, Leaf.plain, LT.plain]
      rw [i64_succ (by omega)]
    · rw [decide_eq_false h, if_neg h]
      try simp -implicitDefEqProofs only [evs, reduceIte, rdRes, rdTT, rdTy, rdLT, Res.un, TT.un, Ty.un, LT.un, Leaf.un, Leaf.plain, LT.plain]
  · unfold density_Check.loop1
    try simp -implicitDefEqProofs only [rowSV_len]
    rw [decide_eq_false (by omega), cond_false]
theorem DCheck_ok (xs : List (Int × Int)) : density_CheckP xs = some (checkOf xs) := by
  unfold density_CheckP density_Check checkOf
  try simp -implicitDefEqProofs only [evs, reduceIte, rdRes, rdTT, rdTy, rdLT, Res.un, TT.un, Ty.un, LT.un, Leaf.un, Leaf.plain, LT.plain]
  by_cases h1 : 128 < xs.length
  · rw [if_pos h1, decide_eq_true (show (128 : Int) < (xs.length : Int) by omega)]
    try simp -implicitDefEqProofs only [evs, reduceIte, rdRes, rdTT, rdTy, rdLT, Res.un, TT.un, Ty.un, LT.un, Leaf.un, Leaf.plain, LT.plain]
  · rw [if_neg h1, decide_eq_false (show ¬ (128 : Int) < (xs.length : Int) by omega)]
    try simp -implicitDefEqProofs only [evs, reduceIte, rdRes, rdTT, rdTy, rdLT, Res.un, TT.un, Ty.un, LT.un, Leaf.un, Leaf.plain, LT.plain]
    by_cases h2 : xs.length < 2
    · rw [if_pos h2, decide_eq_true (show (xs.length : Int) < 2 by omega)]
      try simp -implicitDefEqProofs only [evs, reduceIte, rdRes, rdTT, rdTy, rdLT, Res.un, TT.un, Ty.un, LT.un, Leaf.un, Leaf.plain, LT.plain]
    · rw [if_neg h2, decide_eq_false (show ¬ (xs.length : Int) < 2 by omega)]
      try simp -implicitDefEqProofs only [evs, reduceIte, rdRes, rdTT, rdTy, rdLT, Res.un, TT.un, Ty.un, LT.un, Leaf.un, Leaf.plain, LT.plain]
      rw [check_loop (by omega)]
      cases firstBad xs with
      | some i => simp -implicitDefEqProofs only [evs, reduceIte, rdRes, rdTT, rdTy, rdLT, Res.un, TT.un, Ty.un, LT.un, Leaf.un, Leaf.plain, LT.plain]
      | none =>
        have hz : 0 ≤ (0 : Int) ∧ (0 : Int) < (xs.length : Int) := by omega
        have hi1 : (xs.length : Int) - 1 = ((xs.length - 1 : Nat) : Int) := by omega
        have hg1 : 0 ≤ ((xs.length - 1 : Nat) : Int) ∧ ((xs.length - 1 : Nat) : Int) < (xs.length : Int) := by omega
        have hn0 := nn_q2 (f := false) (xs := xs) (i := 0) (by omega)
        have hr0 := (rd_q2 (f := false) (xs := xs) (i := 0) (h := H.empty) (by omega)).1
        have hn1 := nn_q2 (f := false) (xs := xs) (i := xs.length - 1) (by omega)
        have hr1 := (rd_q2 (f := false) (xs := xs) (i := xs.length - 1) (h := H.empty) (by omega)).1
        rw [Nat.zero_mul] at hn0 hr0
        try simp -implicitDefEqProofs only [evs, reduceIte, rdRes, rdTT, rdTy, rdLT, Res.un, TT.un, Ty.un, LT.un, Leaf.un, Leaf.plain, LT.plain]
        rw [guardO_pos hz, guardO_pos hn0, hr0]
        try simp -implicitDefEqProofs only [evs, reduceIte, rdRes, rdTT, rdTy, rdLT, Res.un, TT.un, Ty.un, LT.un, Leaf.un, Leaf.plain, LT.plain]
        by_cases h3 : (q2 xs 0).1 = 0
        · rw [decide_eq_true h3, if_neg (by omega)]
          try simp -implicitDefEqProofs only [evs, reduceIte, rdRes, rdTT, rdTy, rdLT, Res.un, TT.un, Ty.un, LT.un, Leaf.un, Leaf.plain, LT.plain]
          rw [hi1, i64_nat (by omega)]
          try simp -implicitDefEqProofs only [Int.toNat_natCast]
          rw [guardO_pos hg1, guardO_pos hn1, hr1]
          try simp -implicitDefEqProofs only [evs, reduceIte, rdRes, rdTT, rdTy, rdLT, Res.un, TT.un, Ty.un, LT.un, Leaf.un, Leaf.plain, LT.plain]
          by_cases h4 : (q2 xs (xs.length - 1)).1 = 10000
          · rw [decide_eq_true h4, if_neg (by omega)]
            try simp -implicitDefEqProofs only [evs, reduceIte, rdRes, rdTT, rdTy, rdLT, Res.un, TT.un, Ty.un, LT.un, Leaf.un, Leaf.plain, LT.plain]
          · rw [decide_eq_false h4, if_pos h4]
            try simp -implicitDefEqProofs only [evs, reduceIte, rdRes, rdTT, rdTy, rdLT, Res.un, TT.un, Ty.un, LT.un, Leaf.un, Leaf.plain, LT.plain]
        · rw [decide_eq_false h3, if_pos h3]
          try simp -implicitDefEqProofs only [evs, reduceIte, rdRes, rdTT, rdTy, rdLT, Res.un, TT.un, Ty.un, LT.un, Leaf.un, Leaf.plain, LT.plain]
/-- A right table. -/
structure Table2 (xs : List (Int × Int)) : Prop where
  two : 2 ≤ xs.length
  most : xs.length ≤ 128
  ok : ∀ i, i < xs.length → okPt (q2 xs i) = true
  up : ∀ i, i + 1 < xs.length → (q2 xs i).1 < (q2 xs (i + 1)).1
  down : ∀ i, i + 1 < xs.length → (q2 xs (i + 1)).2 ≤ (q2 xs i).2
  first : (q2 xs 0).1 = 0
  last : (q2 xs (xs.length - 1)).1 = 10000
theorem check_table {xs : List (Int × Int)} (h : (checkOf xs).2 = 0) : Table2 xs := by
  unfold checkOf at h
  by_cases h1 : 128 < xs.length
  · rw [if_pos h1] at h; simp at h
  · rw [if_neg h1] at h
    by_cases h2 : xs.length < 2
    · rw [if_pos h2] at h; simp at h
    · rw [if_neg h2] at h
      cases hf : firstBad xs with
      | some i =>
        rw [hf] at h
        have := List.find?_some hf
        simp only at h
        rw [h] at this
        simp at this
      | none =>
        rw [hf] at h
        have hno : ∀ i, i < xs.length → faultOf xs i = 0 := fun i hi => by
          have := List.find?_eq_none.1 hf i (List.mem_range.2 hi)
          simpa using this
        have hok : ∀ i, i < xs.length → okPt (q2 xs i) = true := fun i hi => by
          have := hno i hi
          unfold faultOf at this
          cases hp : okPt (q2 xs i) with
          | true => rfl
          | false => rw [hp] at this; simp at this
        have hstep : ∀ i, i + 1 < xs.length → (q2 xs i).1 < (q2 xs (i + 1)).1 ∧ (q2 xs (i + 1)).2 ≤ (q2 xs i).2 := fun i hi => by
          have := hno (i + 1) hi
          unfold faultOf at this
          rw [if_pos (hok _ hi), Nat.add_sub_cancel] at this
          by_cases c1 : 0 < i + 1 ∧ (q2 xs (i + 1)).1 ≤ (q2 xs i).1
          · rw [if_pos c1] at this; simp at this
          · rw [if_neg c1] at this
            by_cases c2 : 0 < i + 1 ∧ (q2 xs i).2 < (q2 xs (i + 1)).2
            · rw [if_pos c2] at this; simp at this
            · omega
        simp only at h
        by_cases h3 : (q2 xs 0).1 ≠ 0
        · rw [if_pos h3] at h; simp at h
        · rw [if_neg h3] at h
          by_cases h4 : (q2 xs (xs.length - 1)).1 ≠ 10000
          · rw [if_pos h4] at h; simp at h
          · exact ⟨by omega, by omega, hok, fun i hi => (hstep i hi).1, fun i hi => (hstep i hi).2, by omega, by omega⟩
end Go.Proofs.Ytfkabibbaajfhaa
/- What package interpolate computes: a table's density at a grade. Conditions: those of each law. -/
namespace Go.Proofs.Ytfkabibbaajfhaa
open Go Go.Proofs.Ytfkabibbaajfhaa.Ev
set_option linter.unusedVariables false
set_option linter.unusedSimpArgs false
set_option maxRecDepth 100000
set_option maxHeartbeats 4000000
/-- Between two entries, rounded. -/
def lineOf (x y : Int × Int) (t : Int) : Int := (2 * (x.2 * (y.1 - t) + y.2 * (t - x.1)) + (y.1 - x.1)) / (2 * (y.1 - x.1))
theorem okPt_iff {x : Int × Int} : okPt x = true ↔ 0 ≤ x.1 ∧ x.1 ≤ 10000 ∧ 50000 ≤ x.2 ∧ x.2 ≤ 120000 := by simp [okPt]
theorem line_num {x y : Int × Int} {t : Int} (hx : okPt x = true) (hy : okPt y = true) (h0 : x.1 ≤ t) (h1 : t ≤ y.1) :
    0 ≤ x.2 * (y.1 - t) ∧ x.2 * (y.1 - t) ≤ 120000 * 10000 ∧ 0 ≤ y.2 * (t - x.1) ∧ y.2 * (t - x.1) ≤ 120000 * 10000 := by
  rw [okPt_iff] at hx hy
  exact ⟨Int.mul_nonneg (by omega) (by omega), Int.mul_le_mul (by omega) (by omega) (by omega) (by omega), Int.mul_nonneg (by omega) (by omega), Int.mul_le_mul (by omega) (by omega) (by omega) (by omega)⟩
theorem between_ok {x y : Int × Int} {t : Int} (hx : okPt x = true) (hy : okPt y = true) (hlt : x.1 < y.1) (h0 : x.1 ≤ t) (h1 : t ≤ y.1) : interpolate_betweenP x y t = some (lineOf x y t) := by
  have hb := line_num hx hy h0 h1
  rw [okPt_iff] at hx hy
  obtain ⟨x1, x2⟩ := x
  obtain ⟨y1, y2⟩ := y
  simp only at hx hy hlt h0 h1 hb
  unfold interpolate_betweenP interpolate_between lineOf
  try simp -implicitDefEqProofs only [evs, reduceIte, rdRes, rdTT, rdTy, rdLT, Res.un, TT.un, Ty.un, LT.un, Leaf.un, Leaf.plain, LT.plain, evh, List.replicate, splice, LT.pack, Leaf.pack, Nat.reduceAdd, Nat.reduceSub, Nat.reduceLeDiff, Nat.reduceLT, Nat.reduceEqDiff, LT.lo, Leaf.lo]
  rw [i64_in (y1 - x1) (by omega), i64_in (y1 - t) (by omega), i64_in (t - x1) (by omega), i64_in (x2 * (y1 - t)) (by omega), i64_in (y2 * (t - x1)) (by omega), i64_in (x2 * (y1 - t) + y2 * (t - x1)) (by omega), i64_in (2 * (y1 - x1)) (by omega),
    i64_in (2 * (x2 * (y1 - t) + y2 * (t - x1))) (by omega), i64_in (2 * (x2 * (y1 - t) + y2 * (t - x1)) + (y1 - x1)) (by omega), guardO_pos (by omega)]
  rw [Int.tdiv_eq_ediv_of_nonneg (by omega)]
  have k1 : 0 ≤ (2 * (x2 * (y1 - t) + y2 * (t - x1)) + (y1 - x1)) / (2 * (y1 - x1)) := Int.ediv_nonneg (by omega) (by omega)
  have k2 : (2 * (x2 * (y1 - t) + y2 * (t - x1)) + (y1 - x1)) / (2 * (y1 - x1)) ≤ 2 * (x2 * (y1 - t) + y2 * (t - x1)) + (y1 - x1) := Int.ediv_le_self _ (by omega)
  rw [i64_in _ (by omega)]
  try simp -implicitDefEqProofs only [evs, reduceIte, rdRes, rdTT, rdTy, rdLT, Res.un, TT.un, Ty.un, LT.un, Leaf.un, Leaf.plain, LT.plain]
/-- Both ends bound the line, and it does not rise. -/
theorem line_bound {x y : Int × Int} {t : Int} (hlt : x.1 < y.1) (hd : y.2 ≤ x.2) (h0 : x.1 ≤ t) (h1 : t ≤ y.1) : y.2 ≤ lineOf x y t ∧ lineOf x y t ≤ x.2 := by
  obtain ⟨x1, x2⟩ := x
  obtain ⟨y1, y2⟩ := y
  simp only at *
  unfold lineOf
  simp only
  have a1 : y2 * (y1 - t) ≤ x2 * (y1 - t) := Int.mul_le_mul_of_nonneg_right hd (by omega)
  have a2 : y2 * (t - x1) ≤ x2 * (t - x1) := Int.mul_le_mul_of_nonneg_right hd (by omega)
  have e1 : y2 * (y1 - t) + y2 * (t - x1) = y2 * (y1 - x1) := by rw [← Int.mul_add]; congr 1; omega
  have e2 : x2 * (y1 - t) + x2 * (t - x1) = x2 * (y1 - x1) := by rw [← Int.mul_add]; congr 1; omega
  have e3 : y2 * (2 * (y1 - x1)) = 2 * (y2 * (y1 - x1)) := Int.mul_left_comm ..
  have e4 : x2 * (2 * (y1 - x1)) = 2 * (x2 * (y1 - x1)) := Int.mul_left_comm ..
  constructor
  · rw [Int.le_ediv_iff_mul_le (by omega)]
    omega
  · have : (2 * (x2 * (y1 - t) + y2 * (t - x1)) + (y1 - x1)) / (2 * (y1 - x1)) < x2 + 1 := by
      rw [Int.ediv_lt_iff_lt_mul (by omega), Int.add_mul]
      omega
    omega
theorem line_down {x y : Int × Int} {s t : Int} (hlt : x.1 < y.1) (hd : y.2 ≤ x.2) (h : s ≤ t) : lineOf x y t ≤ lineOf x y s := by
  obtain ⟨x1, x2⟩ := x
  obtain ⟨y1, y2⟩ := y
  simp only at *
  unfold lineOf
  simp only
  refine Int.ediv_le_ediv (by omega) ?_
  have a1 : y2 * (t - s) ≤ x2 * (t - s) := Int.mul_le_mul_of_nonneg_right hd (by omega)
  have e1 : x2 * (y1 - s) = x2 * (y1 - t) + x2 * (t - s) := by rw [← Int.mul_add]; congr 1; omega
  have e2 : y2 * (t - x1) = y2 * (s - x1) + y2 * (t - s) := by rw [← Int.mul_add]; congr 1; omega
  omega
/-- The first place of a table that is not below a grade. -/
def place (xs : List (Int × Int)) (t : Int) : Nat := (List.range xs.length).findIdx fun k => decide (t ≤ (q2 xs k).1)
theorem up_le {xs : List (Int × Int)} (h : Table2 xs) : ∀ (j i : Nat), i ≤ j → j < xs.length → (q2 xs i).1 ≤ (q2 xs j).1
  | 0, i, hi, hj => by have : i = 0 := by omega
                       subst this; exact Int.le_refl _
  | j + 1, i, hi, hj => by
    by_cases e : i = j + 1
    · subst e; exact Int.le_refl _
    · have := up_le h j i (by omega) (by omega)
      have := h.up j hj
      omega
theorem down_le {xs : List (Int × Int)} (h : Table2 xs) : ∀ (j i : Nat), i ≤ j → j < xs.length → (q2 xs j).2 ≤ (q2 xs i).2
  | 0, i, hi, hj => by have : i = 0 := by omega
                       subst this; exact Int.le_refl _
  | j + 1, i, hi, hj => by
    by_cases e : i = j + 1
    · subst e; exact Int.le_refl _
    · have := down_le h j i (by omega) (by omega)
      have := h.down j hj
      omega
def valOf (xs : List (Int × Int)) (k : Nat) (t : Int) : Int := if (q2 xs k).1 = t then (q2 xs k).2 else lineOf (q2 xs (k - 1)) (q2 xs k) t
theorem at1_ok {xs : List (Int × Int)} {t : Int} {k : Nat} (hk : k < xs.length) :
    interpolate_at_1 (k : Int) (.hp 0 1 0) (.hp 1 1 0) (hL [.own [.slice (rowSV false j2 xs).a xs.length xs.length true] 1, .own [.int .i64 t] 1]) = some (decide (t ≤ (q2 xs k).1), hL [.own [.slice (rowSV false j2 xs).a xs.length xs.length true] 1, .own [.int .i64 t] 1]) := by
  have r0 : rdT (.leaf .slice) (hL [.own [.slice (rowSV false j2 xs).a xs.length xs.length true] 1, .own [.int .i64 t] 1]) (.hp 0 1 0) = some (rowSV false j2 xs) := by
    rw [rd_own (g := 1) (id := 0) rfl rfl]; rfl
  have r1 : rdT (.leaf (.int .i64)) (hL [.own [.slice (rowSV false j2 xs).a xs.length xs.length true] 1, .own [.int .i64 t] 1]) (.hp 1 1 0) = some t := by
    rw [rd_own (g := 1) (id := 1) rfl rfl]; rfl
  have hg : 0 ≤ (k : Int) ∧ (k : Int) < (xs.length : Int) := by omega
  have hn := nn_q2 (f := false) hk
  unfold interpolate_at_1
  try simp -implicitDefEqProofs only [reserve0]
  rw [r0]
  try simp -implicitDefEqProofs only [evs, reduceIte, rdRes, rdTT, rdTy, rdLT, Res.un, TT.un, Ty.un, LT.un, Leaf.un, Leaf.plain, LT.plain, Int.toNat_natCast, rowSV_len, guardO_pos hg, guardO_pos hn, (rd_q2 (f := false) hk).1, r1]
theorem at_ok {xs : List (Int × Int)} {t : Int} (h : Table2 xs) (h0 : 0 ≤ t) (h1 : t ≤ 10000) :
    ∃ k, k < xs.length ∧ (∀ q, q < k → (q2 xs q).1 < t) ∧ t ≤ (q2 xs k).1 ∧ interpolate_atP xs t = some (valOf xs k t) := by
  have hlen := h.most
  have htwo := h.two
  obtain ⟨m, s1, s2, s3, s4⟩ := Search_ok (T := interpolate_at.tb) (v := .func 104 [.hp 0 1 0, .hp 1 1 0]) (h := hL [.own [.slice (rowSV false j2 xs).a xs.length xs.length true] 1, .own [.int .i64 t] 1]) (n := xs.length) (fun k => decide (t ≤ (q2 xs k).1)) (by omega) (fun a b hab hb ha => by
      have := up_le h b a hab hb
      have ha' := of_decide_eq_true ha
      exact decide_eq_true (by omega)) (fun k hk R K => by
      show (interpolate_at_1 (k : Int) (.hp 0 1 0) (.hp 1 1 0) _).bind (fun p => K (.bool p.1) p.2) = _
      rw [at1_ok hk]
      rfl)
  have hm : m < xs.length := by
    rcases Nat.lt_or_ge m xs.length with h' | h'
    · exact h'
    · have := s3 (xs.length - 1) (by omega)
      simp only [decide_eq_false_iff_not] at this
      rw [h.last] at this
      omega
  have hge : t ≤ (q2 xs m).1 := of_decide_eq_true (s4 m (Nat.le_refl _) hm)
  have hlow : ∀ q, q < m → (q2 xs q).1 < t := fun q hq => by
    have := s3 q hq
    simp only [decide_eq_false_iff_not] at this
    omega
  refine ⟨m, hm, hlow, hge, ?_⟩
  have r0 : rdT (.leaf .slice) (hL [.own [.slice (rowSV false j2 xs).a xs.length xs.length true] 1, .own [.int .i64 t] 1]) (.hp 0 1 0) = some (rowSV false j2 xs) := by
    rw [rd_own (g := 1) (id := 0) rfl rfl]; rfl
  have r1 : rdT (.leaf (.int .i64)) (hL [.own [.slice (rowSV false j2 xs).a xs.length xs.length true] 1, .own [.int .i64 t] 1]) (.hp 1 1 0) = some t := by
    rw [rd_own (g := 1) (id := 1) rfl rfl]; rfl
  have hg : 0 ≤ (m : Int) ∧ (m : Int) < (xs.length : Int) := by omega
  have hn := nn_q2 (f := false) hm
  unfold interpolate_atP interpolate_at valOf
  try simp -implicitDefEqProofs only [evs, reduceIte, rdRes, rdTT, rdTy, rdLT, Res.un, TT.un, Ty.un, LT.un, Leaf.un, Leaf.plain, LT.plain, hL_empty, hL_new, hL_next, List.length_nil, List.length_cons, List.nil_append, List.cons_append, Nat.zero_add]
  rw [r0]
  try simp -implicitDefEqProofs only [evs, reduceIte, rdRes, rdTT, rdTy, rdLT, Res.un, TT.un, Ty.un, LT.un, Leaf.un, Leaf.plain, LT.plain]
  rw [s1]
  try simp -implicitDefEqProofs only [evs, reduceIte, rdRes, rdTT, rdTy, rdLT, Res.un, TT.un, Ty.un, LT.un, Leaf.un, Leaf.plain, LT.plain, Int.toNat_natCast, r0, r1, guardO_pos hg, guardO_pos hn, (rd_q2 (f := false) hm).1, (rd_q2 (f := false) hm).2]
  by_cases he : (q2 xs m).1 = t
  · rw [decide_eq_true he, if_pos he]
    try simp -implicitDefEqProofs only [evs, reduceIte, rdRes, rdTT, rdTy, rdLT, Res.un, TT.un, Ty.un, LT.un, Leaf.un, Leaf.plain, LT.plain]
  · rw [decide_eq_false he, if_neg he]
    have hm0 : 0 < m := by
      rcases Nat.eq_zero_or_pos m with h' | h'
      · subst h'
        have := h.first
        omega
      · exact h'
    have hi1 : (m : Int) - 1 = ((m - 1 : Nat) : Int) := by omega
    have hg1 : 0 ≤ ((m - 1 : Nat) : Int) ∧ ((m - 1 : Nat) : Int) < (xs.length : Int) := by omega
    try simp -implicitDefEqProofs only [evs, reduceIte, rdRes, rdTT, rdTy, rdLT, Res.un, TT.un, Ty.un, LT.un, Leaf.un, Leaf.plain, LT.plain]
    rw [hi1, i64_nat (by omega)]
    try simp -implicitDefEqProofs only [Int.toNat_natCast]
    rw [guardO_pos hg1, rds_rowF (ls := j2) (w := 2) rfl (by omega) rfl, q2_some (i := m - 1) (by omega)]
    try simp -implicitDefEqProofs only [evs, reduceIte, rdRes, rdTT, rdTy, rdLT, Res.un, TT.un, Ty.un, LT.un, Leaf.un, Leaf.plain, LT.plain]
    rw [rds_rowF (ls := j2) (w := 2) rfl (by omega) rfl, q2_some hm]
    try simp -implicitDefEqProofs only [evs, reduceIte, rdRes, rdTT, rdTy, rdLT, Res.un, TT.un, Ty.un, LT.un, Leaf.un, Leaf.plain, LT.plain]
    have hup := h.up (m - 1) (by omega)
    rw [Nat.sub_add_cancel hm0] at hup
    rw [between_ok (x := q2 xs (m - 1)) (y := q2 xs m) (h.ok _ (by omega)) (h.ok _ hm) hup (by have := hlow (m - 1) (by omega); omega) hge]
    try simp -implicitDefEqProofs only [evs, reduceIte, rdRes, rdTT, rdTy, rdLT, Res.un, TT.un, Ty.un, LT.un, Leaf.un, Leaf.plain, LT.plain]
/-- The density of a right table at a grade. -/
noncomputable def dens (xs : List (Int × Int)) (t : Int) : Int := (interpolate_atP xs t).getD 0
theorem dens_ok {xs : List (Int × Int)} {t : Int} (h : Table2 xs) (h0 : 0 ≤ t) (h1 : t ≤ 10000) : interpolate_atP xs t = some (dens xs t) ∧ ∃ k, k < xs.length ∧ (∀ q, q < k → (q2 xs q).1 < t) ∧ t ≤ (q2 xs k).1 ∧ dens xs t = valOf xs k t := by
  obtain ⟨k, k1, k2, k3, k4⟩ := at_ok h h0 h1
  have : dens xs t = valOf xs k t := by unfold dens; rw [k4]; rfl
  exact ⟨by rw [this]; exact k4, k, k1, k2, k3, this⟩
theorem val_bound {xs : List (Int × Int)} {t : Int} {k : Nat} (h : Table2 xs) (h0 : 0 ≤ t) (hk : k < xs.length) (hl : ∀ q, q < k → (q2 xs q).1 < t) (hu : t ≤ (q2 xs k).1) : (q2 xs k).2 ≤ valOf xs k t ∧ valOf xs k t ≤ (q2 xs (k - 1)).2 ∧ ((q2 xs k).1 ≠ t → 0 < k ∧ (q2 xs (k - 1)).1 < (q2 xs k).1 ∧ (q2 xs k).2 ≤ (q2 xs (k - 1)).2) := by
  unfold valOf
  by_cases he : (q2 xs k).1 = t
  · rw [if_pos he]
    exact ⟨Int.le_refl _, down_le h k (k - 1) (by omega) hk, fun hn => absurd he hn⟩
  · rw [if_neg he]
    have hk0 : 0 < k := by
      rcases Nat.eq_zero_or_pos k with h' | h'
      · subst h'
        have := h.first
        omega
      · exact h'
    have hup := h.up (k - 1) (by omega)
    have hdn := h.down (k - 1) (by omega)
    rw [Nat.sub_add_cancel hk0] at hup hdn
    have := hl (k - 1) (by omega)
    have hb := line_bound hup hdn (t := t) (by omega) hu
    exact ⟨hb.1, hb.2, fun _ => ⟨hk0, hup, hdn⟩⟩
theorem dens_bound {xs : List (Int × Int)} {t : Int} (h : Table2 xs) (h0 : 0 ≤ t) (h1 : t ≤ 10000) : 50000 ≤ dens xs t ∧ dens xs t ≤ 120000 := by
  obtain ⟨_, k, k1, k2, k3, k4⟩ := dens_ok h h0 h1
  have hb := val_bound h h0 k1 k2 k3
  have o1 := okPt_iff.1 (h.ok k k1)
  have o2 := okPt_iff.1 (h.ok (k - 1) (by omega))
  omega
theorem dens_down {xs : List (Int × Int)} {s t : Int} (h : Table2 xs) (h0 : 0 ≤ s) (hst : s ≤ t) (h1 : t ≤ 10000) : dens xs t ≤ dens xs s := by
  obtain ⟨_, k, k1, k2, k3, k4⟩ := dens_ok h h0 (show s ≤ 10000 by omega)
  obtain ⟨_, j, j1, j2', j3, j4⟩ := dens_ok h (show 0 ≤ t by omega) h1
  have bk := val_bound h h0 k1 k2 k3
  have bj := val_bound h (show 0 ≤ t by omega) j1 j2' j3
  have hkj : k ≤ j := by
    rcases Nat.lt_or_ge j k with h' | h'
    · have := k2 j h'
      omega
    · exact h'
  rw [k4, j4]
  by_cases e : k = j
  · subst e
    unfold valOf
    by_cases e1 : (q2 xs k).1 = t
    · rw [if_pos e1]
      by_cases e2 : (q2 xs k).1 = s
      · rw [if_pos e2]; exact Int.le_refl _
      · rw [if_neg e2]
        have := bk.1
        unfold valOf at this
        rw [if_neg e2] at this
        exact this
    · rw [if_neg e1, if_neg (by omega)]
      exact line_down (bj.2.2 e1).2.1 (bj.2.2 e1).2.2 hst
  · have := down_le h (j - 1) k (by omega) (by omega)
    omega
theorem Density_ok (xs : List (Int × Int)) (t : Int) : interpolate_DensityP xs t = some (if (checkOf xs).2 = 0 then (if 0 ≤ t ∧ t ≤ 10000 then (dens xs t, 0) else (0, 2)) else (0, 1)) := by
  have hr : interpolate_rightP xs = some (decide ((checkOf xs).2 = 0)) := by
    unfold interpolate_rightP interpolate_right
    try simp -implicitDefEqProofs only [evs, reduceIte, rdRes, rdTT, rdTy, rdLT, Res.un, TT.un, Ty.un, LT.un, Leaf.un, Leaf.plain, LT.plain, DCheck_ok]
  unfold interpolate_DensityP interpolate_Density
  try simp -implicitDefEqProofs only [evs, reduceIte, rdRes, rdTT, rdTy, rdLT, Res.un, TT.un, Ty.un, LT.un, Leaf.un, Leaf.plain, LT.plain, hr]
  by_cases hc : (checkOf xs).2 = 0
  · rw [decide_eq_true hc, if_pos hc]
    have ht := check_table hc
    try simp -implicitDefEqProofs only [evs, reduceIte, rdRes, rdTT, rdTy, rdLT, Res.un, TT.un, Ty.un, LT.un, Leaf.un, Leaf.plain, LT.plain]
    by_cases h0 : t < 0
    · rw [decide_eq_true h0, if_neg (by omega)]
      try simp -implicitDefEqProofs only [evs, reduceIte, rdRes, rdTT, rdTy, rdLT, Res.un, TT.un, Ty.un, LT.un, Leaf.un, Leaf.plain, LT.plain]
    · rw [decide_eq_false h0]
      try simp -implicitDefEqProofs only [evs, reduceIte, rdRes, rdTT, rdTy, rdLT, Res.un, TT.un, Ty.un, LT.un, Leaf.un, Leaf.plain, LT.plain]
      by_cases h1 : (10000 : Int) < t
      · rw [decide_eq_true h1, if_neg (by omega)]
        try simp -implicitDefEqProofs only [evs, reduceIte, rdRes, rdTT, rdTy, rdLT, Res.un, TT.un, Ty.un, LT.un, Leaf.un, Leaf.plain, LT.plain]
      · rw [decide_eq_false h1, if_pos (by omega)]
        try simp -implicitDefEqProofs only [evs, reduceIte, rdRes, rdTT, rdTy, rdLT, Res.un, TT.un, Ty.un, LT.un, Leaf.un, Leaf.plain, LT.plain]
        rw [(dens_ok ht (by omega) (by omega)).1]
        try simp -implicitDefEqProofs only [evs, reduceIte, rdRes, rdTT, rdTy, rdLT, Res.un, TT.un, Ty.un, LT.un, Leaf.un, Leaf.plain, LT.plain]
  · rw [decide_eq_false hc, if_neg hc]
    try simp -implicitDefEqProofs only [evs, reduceIte, rdRes, rdTT, rdTy, rdLT, Res.un, TT.un, Ty.un, LT.un, Leaf.un, Leaf.plain, LT.plain]
end Go.Proofs.Ytfkabibbaajfhaa
/- What package alcohol computes: Check, Strength. Conditions: those of each law. -/
namespace Go.Proofs.Ytfkabibbaajfhaa
open Go Go.Proofs.Ytfkabibbaajfhaa.Ev
set_option linter.unusedVariables false
set_option linter.unusedSimpArgs false
set_option maxRecDepth 100000
set_option maxHeartbeats 4000000
theorem alcof_ok {xs : List (Int × Int)} {t : Int} (hc : (checkOf xs).2 = 0) (h0 : 0 ≤ t) (h1 : t ≤ 10000) : alcohol_ofP xs t = some (dens xs t) := by
  unfold alcohol_ofP alcohol_of
  try simp -implicitDefEqProofs only [evs, reduceIte, rdRes, rdTT, rdTy, rdLT, Res.un, TT.un, Ty.un, LT.un, Leaf.un, Leaf.plain, LT.plain, Density_ok]
  rw [if_pos hc, if_pos ⟨h0, h1⟩]
def inA (x : Int × Int) : Bool := decide (0 ≤ x.1 ∧ x.1 ≤ 10737418240000 ∧ 0 ≤ x.2 ∧ x.2 ≤ 128849018880000)
theorem inA_iff {x : Int × Int} : inA x = true ↔ 0 ≤ x.1 ∧ x.1 ≤ 10737418240000 ∧ 0 ≤ x.2 ∧ x.2 ≤ 128849018880000 := by simp [inA]
noncomputable def acheckOf (xs : List (Int × Int)) (x : Int × Int) : Int :=
  if (checkOf xs).2 = 0 then (if inA x = true then (if x.2 * 10000 < x.1 * dens xs 10000 then 10 else 0) else 2) else 1
theorem badA_code {x1 x2 : Int} {h : H} : (bif !(decide (x1 < 0)) then (bif !(decide ((10737418240000 : Int) < x1)) then (bif !(decide (x2 < 0)) then some (decide ((128849018880000 : Int) < x2), h) else some (true, h)) else some (true, h)) else some (true, h) : Option (Bool × H)) = some (!inA (x1, x2), h) := by
  unfold inA
  by_cases h1 : x1 < 0
  · rw [decide_eq_true h1, decide_eq_false (p := _ ∧ _) (by simp only; omega)]; rfl
  · rw [decide_eq_false h1]
    by_cases h2 : (10737418240000 : Int) < x1
    · rw [decide_eq_true h2, decide_eq_false (p := _ ∧ _) (by simp only; omega)]; rfl
    · rw [decide_eq_false h2]
      by_cases h3 : x2 < 0
      · rw [decide_eq_true h3, decide_eq_false (p := _ ∧ _) (by simp only; omega)]; rfl
      · rw [decide_eq_false h3]
        by_cases h4 : (128849018880000 : Int) < x2
        · rw [decide_eq_true h4, decide_eq_false (p := _ ∧ _) (by simp only; omega)]; rfl
        · rw [decide_eq_false h4, decide_eq_true (p := _ ∧ _) (by simp only; omega)]; rfl
theorem mul_small {a d : Int} (ha : 0 ≤ a ∧ a ≤ 10737418240000) (hd : 50000 ≤ d ∧ d ≤ 120000) : 0 ≤ a * d ∧ a * d ≤ 10737418240000 * 120000 := ⟨Int.mul_nonneg ha.1 (by omega), Int.mul_le_mul ha.2 hd.2 (by omega) (by omega)⟩
theorem ACheck_ok (xs : List (Int × Int)) (a v : Int) : alcohol_CheckP xs (a, v) = some (acheckOf xs (a, v)) := by
  unfold alcohol_CheckP alcohol_Check acheckOf
  try simp -implicitDefEqProofs only [evs, reduceIte, rdRes, rdTT, rdTy, rdLT, Res.un, TT.un, Ty.un, LT.un, Leaf.un, Leaf.plain, LT.plain, evh, List.replicate, splice, LT.pack, Leaf.pack, Nat.reduceAdd, Nat.reduceSub, Nat.reduceLeDiff, Nat.reduceLT, Nat.reduceEqDiff, LT.lo, Leaf.lo, DCheck_ok]
  by_cases hc : (checkOf xs).2 = 0
  · have ht := check_table hc
    rw [decide_eq_true hc, if_pos hc]
    try simp -implicitDefEqProofs only [evs, reduceIte, rdRes, rdTT, rdTy, rdLT, Res.un, TT.un, Ty.un, LT.un, Leaf.un, Leaf.plain, LT.plain, evh, List.replicate, splice, LT.pack, Leaf.pack, Nat.reduceAdd, Nat.reduceSub, Nat.reduceLeDiff, Nat.reduceLT, Nat.reduceEqDiff, LT.lo, Leaf.lo]
    rw [badA_code]
    try simp -implicitDefEqProofs only [evs, reduceIte, rdRes, rdTT, rdTy, rdLT, Res.un, TT.un, Ty.un, LT.un, Leaf.un, Leaf.plain, LT.plain, evh, List.replicate, splice, LT.pack, Leaf.pack, Nat.reduceAdd, Nat.reduceSub, Nat.reduceLeDiff, Nat.reduceLT, Nat.reduceEqDiff, LT.lo, Leaf.lo]
    cases hin : inA (a, v) with
    | false => simp -implicitDefEqProofs only [evs, reduceIte, rdRes, rdTT, rdTy, rdLT, Res.un, TT.un, Ty.un, LT.un, Leaf.un, Leaf.plain, LT.plain, evh, List.replicate, splice, LT.pack, Leaf.pack, Nat.reduceAdd, Nat.reduceSub, Nat.reduceLeDiff, Nat.reduceLT, Nat.reduceEqDiff, LT.lo, Leaf.lo, Bool.false_eq_true]
    | true =>
      have hi := inA_iff.1 hin
      simp only at hi
      have hd := dens_bound ht (show (0 : Int) ≤ 10000 by omega) (Int.le_refl _)
      have hm := mul_small (a := a) (d := dens xs 10000) (by omega) hd
      try simp -implicitDefEqProofs only [evs, reduceIte, rdRes, rdTT, rdTy, rdLT, Res.un, TT.un, Ty.un, LT.un, Leaf.un, Leaf.plain, LT.plain, evh, List.replicate, splice, LT.pack, Leaf.pack, Nat.reduceAdd, Nat.reduceSub, Nat.reduceLeDiff, Nat.reduceLT, Nat.reduceEqDiff, LT.lo, Leaf.lo, reserve0]
      rw [alcof_ok hc (by omega) (by omega)]
      try simp -implicitDefEqProofs only [evs, reduceIte, rdRes, rdTT, rdTy, rdLT, Res.un, TT.un, Ty.un, LT.un, Leaf.un, Leaf.plain, LT.plain, evh, List.replicate, splice, LT.pack, Leaf.pack, Nat.reduceAdd, Nat.reduceSub, Nat.reduceLeDiff, Nat.reduceLT, Nat.reduceEqDiff, LT.lo, Leaf.lo]
      rw [i64_in (v * 10000) (by omega), i64_in (a * dens xs 10000) (by omega)]
      by_cases hlt : v * 10000 < a * dens xs 10000
      · rw [decide_eq_true hlt, if_pos hlt]
        try simp -implicitDefEqProofs only [evs, reduceIte, rdRes, rdTT, rdTy, rdLT, Res.un, TT.un, Ty.un, LT.un, Leaf.un, Leaf.plain, LT.plain, evh, List.replicate, splice, LT.pack, Leaf.pack, Nat.reduceAdd, Nat.reduceSub, Nat.reduceLeDiff, Nat.reduceLT, Nat.reduceEqDiff, LT.lo, Leaf.lo]
      · rw [decide_eq_false hlt, if_neg hlt]
        try simp -implicitDefEqProofs only [evs, reduceIte, rdRes, rdTT, rdTy, rdLT, Res.un, TT.un, Ty.un, LT.un, Leaf.un, Leaf.plain, LT.plain, evh, List.replicate, splice, LT.pack, Leaf.pack, Nat.reduceAdd, Nat.reduceSub, Nat.reduceLeDiff, Nat.reduceLT, Nat.reduceEqDiff, LT.lo, Leaf.lo]
  · rw [decide_eq_false hc, if_neg hc]
    try simp -implicitDefEqProofs only [evs, reduceIte, rdRes, rdTT, rdTy, rdLT, Res.un, TT.un, Ty.un, LT.un, Leaf.un, Leaf.plain, LT.plain, evh, List.replicate, splice, LT.pack, Leaf.pack, Nat.reduceAdd, Nat.reduceSub, Nat.reduceLeDiff, Nat.reduceLT, Nat.reduceEqDiff, LT.lo, Leaf.lo]
/-- Is a grade above a liquid's? -/
noncomputable def above (xs : List (Int × Int)) (x : Int × Int) (k : Nat) : Bool := decide (x.1 * dens xs k < x.2 * k)
theorem above_up {xs : List (Int × Int)} {x : Int × Int} (ht : Table2 xs) (hi : inA x = true) (j k : Nat) (hjk : j ≤ k) (hk : k < 10001) (h : above xs x j = true) : above xs x k = true := by
  have hi := inA_iff.1 hi
  have h := of_decide_eq_true h
  have hd := dens_down (s := j) (t := k) ht (by omega) (by omega) (by omega)
  have k1 : x.1 * dens xs k ≤ x.1 * dens xs j := Int.mul_le_mul_of_nonneg_left hd hi.1
  have k2 : x.2 * (j : Int) ≤ x.2 * (k : Int) := Int.mul_le_mul_of_nonneg_left (by omega) hi.2.2.1
  exact decide_eq_true (by omega)
abbrev sH (xs : List (Int × Int)) (x : Int × Int) : H := hL [.own [.slice (rowSV false j2 xs).a xs.length xs.length true] 1, c2 x]
theorem strength1_ok {xs : List (Int × Int)} {x : Int × Int} {k : Nat} (hc : (checkOf xs).2 = 0) (hi : inA x = true) (hk : k < 10001) : alcohol_Strength_1 (k : Int) (.hp 1 2 0) (.hp 0 1 0) (sH xs x) = some (above xs x k, sH xs x) := by
  have ht := check_table hc
  have r0 : rdT (.leaf .slice) (sH xs x) (.hp 0 1 0) = some (rowSV false j2 xs) := by
    unfold sH
    rw [rd_own (g := 1) (id := 0) rfl rfl]; rfl
  have e1 : [.own [.slice (rowSV false j2 xs).a xs.length xs.length true] 1, c2 x][1]? = some (c2 x) := rfl
  have r1 : rdT (.leaf (.int .i64)) (sH xs x) (.hp 1 2 0) = some x.1 ∧ rdT (.leaf (.int .i64)) (sH xs x) (.hp 1 2 1) = some x.2 := rd_c2 e1
  have hi := inA_iff.1 hi
  have hd := dens_bound (t := k) ht (by omega) (by omega)
  have hm := mul_small (a := x.1) (d := dens xs k) (by omega) hd
  have hv : 0 ≤ x.2 * (k : Int) ∧ x.2 * (k : Int) ≤ 128849018880000 * 10000 := ⟨Int.mul_nonneg (by omega) (by omega), Int.mul_le_mul (by omega) (by omega) (by omega) (by omega)⟩
  unfold alcohol_Strength_1
  try simp -implicitDefEqProofs only [reserve0]
  rw [guardO_pos (p := V.nn _ = true) (by rfl)]
  show ((rdT (.leaf (.int .i64)) (sH xs x) (.hp 1 2 0)).bind _) = _
  rw [r1.1]
  try simp -implicitDefEqProofs only [evs, reduceIte, rdRes, rdTT, rdTy, rdLT, Res.un, TT.un, Ty.un, LT.un, Leaf.un, Leaf.plain, LT.plain]
  rw [r0]
  try simp -implicitDefEqProofs only [evs, reduceIte, rdRes, rdTT, rdTy, rdLT, Res.un, TT.un, Ty.un, LT.un, Leaf.un, Leaf.plain, LT.plain]
  rw [alcof_ok hc (by omega) (by omega)]
  try simp -implicitDefEqProofs only [evs, reduceIte, rdRes, rdTT, rdTy, rdLT, Res.un, TT.un, Ty.un, LT.un, Leaf.un, Leaf.plain, LT.plain]
  rw [guardO_pos (p := V.nn _ = true) (by rfl)]
  show ((rdT (.leaf (.int .i64)) (sH xs x) (.hp 1 2 1)).bind _) = _
  rw [r1.2]
  try simp -implicitDefEqProofs only [evs, reduceIte, rdRes, rdTT, rdTy, rdLT, Res.un, TT.un, Ty.un, LT.un, Leaf.un, Leaf.plain, LT.plain]
  rw [i64_in (x.1 * dens xs k) (by omega), i64_in (x.2 * (k : Int)) (by omega)]
  rfl
/-- A liquid's strength: one below the first grade above it. -/
theorem Strength_ok (xs : List (Int × Int)) (a v : Int) : ∃ r, alcohol_StrengthP xs (a, v) = some r ∧
    ((acheckOf xs (a, v) ≠ 0 ∧ r = (0, 1)) ∨ (acheckOf xs (a, v) = 0 ∧ a = 0 ∧ v = 0 ∧ r = (0, 0)) ∨
      (acheckOf xs (a, v) = 0 ∧ ¬(a = 0 ∧ v = 0) ∧ ∃ m : Nat, m ≤ 10001 ∧ r = ((m : Int) - 1, 0) ∧ (∀ q, q < m → above xs (a, v) q = false) ∧ ∀ q, m ≤ q → q < 10001 → above xs (a, v) q = true)) := by
  have r0 : rdT (.leaf .slice) (sH xs (a, v)) (.hp 0 1 0) = some (rowSV false j2 xs) := by
    unfold sH
    rw [rd_own (g := 1) (id := 0) rfl rfl]; rfl
  have e1 : [.own [.slice (rowSV false j2 xs).a xs.length xs.length true] 1, c2 (a, v)][1]? = some (c2 (a, v)) := rfl
  have s1 : rdT (.agg j2) (sH xs (a, v)) (.hp 1 2 0) = some (a, v) := rds_c2 e1
  unfold alcohol_StrengthP alcohol_Strength
  try simp -implicitDefEqProofs only [evs, reduceIte, rdRes, rdTT, rdTy, rdLT, Res.un, TT.un, Ty.un, LT.un, Leaf.un, Leaf.plain, LT.plain, hL_empty, hL_new, hL_next, List.length_nil, List.length_cons, List.nil_append, List.cons_append, Nat.zero_add]
  simp only [sH, c2] at r0 s1
  rw [r0]
  try simp -implicitDefEqProofs only [evs, reduceIte, rdRes, rdTT, rdTy, rdLT, Res.un, TT.un, Ty.un, LT.un, Leaf.un, Leaf.plain, LT.plain]
  rw [s1]
  try simp -implicitDefEqProofs only [evs, reduceIte, rdRes, rdTT, rdTy, rdLT, Res.un, TT.un, Ty.un, LT.un, Leaf.un, Leaf.plain, LT.plain]
  rw [ACheck_ok]
  try simp -implicitDefEqProofs only [evs, reduceIte, rdRes, rdTT, rdTy, rdLT, Res.un, TT.un, Ty.un, LT.un, Leaf.un, Leaf.plain, LT.plain]
  by_cases hc : acheckOf xs (a, v) = 0
  · rw [decide_eq_true hc]
    try simp -implicitDefEqProofs only [evs, reduceIte, rdRes, rdTT, rdTy, rdLT, Res.un, TT.un, Ty.un, LT.un, Leaf.un, Leaf.plain, LT.plain]
    by_cases hz : a = 0 ∧ v = 0
    · rw [decide_eq_true hz.1, decide_eq_true hz.2]
      try simp -implicitDefEqProofs only [evs, reduceIte, rdRes, rdTT, rdTy, rdLT, Res.un, TT.un, Ty.un, LT.un, Leaf.un, Leaf.plain, LT.plain]
      exact ⟨_, rfl, .inr (.inl ⟨hc, hz.1, hz.2, rfl⟩)⟩
    · have hfalse : (decide (a = 0) && decide (v = 0)) = false := by
        rw [← Bool.decide_and]
        exact decide_eq_false hz
      rw [hfalse]
      try simp -implicitDefEqProofs only [evs, reduceIte, rdRes, rdTT, rdTy, rdLT, Res.un, TT.un, Ty.un, LT.un, Leaf.un, Leaf.plain, LT.plain]
      have hck : (checkOf xs).2 = 0 := by
        refine Classical.byContradiction fun h => ?_
        unfold acheckOf at hc
        rw [if_neg h] at hc
        simp at hc
      have hin : inA (a, v) = true := by
        unfold acheckOf at hc
        rw [if_pos hck] at hc
        cases h : inA (a, v) with
        | true => rfl
        | false => rw [h] at hc; simp at hc
      obtain ⟨m, q1, q2', q3, q4⟩ := Search_ok (T := alcohol_Strength.tb) (v := .func 65 [.hp 1 2 0, .hp 0 1 0]) (h := sH xs (a, v)) (n := 10001) (above xs (a, v)) (by omega) (fun j k hjk hk hj => above_up (check_table hck) hin j k hjk hk hj) (fun k hk R K => by
        show (alcohol_Strength_1 (k : Int) (.hp 1 2 0) (.hp 0 1 0) _).bind (fun p => K (.bool p.1) p.2) = _
        rw [strength1_ok hck hin hk]
        rfl)
      have hn : ((10001 : Nat) : Int) = 10001 := rfl
      simp only [sH, c2, hn] at q1
      rw [q1]
      try simp -implicitDefEqProofs only [evs, reduceIte, rdRes, rdTT, rdTy, rdLT, Res.un, TT.un, Ty.un, LT.un, Leaf.un, Leaf.plain, LT.plain]
      rw [i64_in _ (by omega)]
      exact ⟨_, rfl, .inr (.inr ⟨hc, hz, m, q2', rfl, q3, q4⟩)⟩
  · rw [decide_eq_false hc]
    try simp -implicitDefEqProofs only [evs, reduceIte, rdRes, rdTT, rdTy, rdLT, Res.un, TT.un, Ty.un, LT.un, Leaf.un, Leaf.plain, LT.plain]
    exact ⟨_, rfl, .inl ⟨hc, rfl⟩⟩
end Go.Proofs.Ytfkabibbaajfhaa
/- What alcohol.Volume and mix.mixture compute. Conditions: those of each law. -/
namespace Go.Proofs.Ytfkabibbaajfhaa
open Go Go.Proofs.Ytfkabibbaajfhaa.Ev
set_option linter.unusedVariables false
set_option linter.unusedSimpArgs false
set_option maxRecDepth 100000
set_option maxHeartbeats 4000000
theorem acheck_zero {xs : List (Int × Int)} {x : Int × Int} (h : acheckOf xs x = 0) : (checkOf xs).2 = 0 ∧ inA x = true ∧ x.1 * dens xs 10000 ≤ x.2 * 10000 := by
  unfold acheckOf at h
  by_cases h1 : (checkOf xs).2 = 0
  · rw [if_pos h1] at h
    by_cases h2 : inA x = true
    · rw [if_pos h2] at h
      by_cases h3 : x.2 * 10000 < x.1 * dens xs 10000
      · rw [if_pos h3] at h; simp at h
      · exact ⟨h1, h2, by omega⟩
    · rw [if_neg h2] at h; simp at h
  · rw [if_neg h1] at h; simp at h
noncomputable def strengthOf (xs : List (Int × Int)) (x : Int × Int) : Int × Int := (alcohol_StrengthP xs x).getD (0, 1)
/-- A strength, and what is known of it. -/
theorem strengthOf_ok (xs : List (Int × Int)) (x : Int × Int) : alcohol_StrengthP xs x = some (strengthOf xs x) ∧
    ((acheckOf xs x ≠ 0 ∧ strengthOf xs x = (0, 1)) ∨ (acheckOf xs x = 0 ∧ (strengthOf xs x).2 = 0 ∧ 0 ≤ (strengthOf xs x).1 ∧ (strengthOf xs x).1 ≤ 10000)) := by
  obtain ⟨a, v⟩ := x
  obtain ⟨r, er, hcase⟩ := Strength_ok xs a v
  have hs : strengthOf xs (a, v) = r := by unfold strengthOf; rw [er]; rfl
  rw [hs]
  refine ⟨er, ?_⟩
  rcases hcase with ⟨h1, rfl⟩ | ⟨h1, _, _, rfl⟩ | ⟨h1, hn, m, m1, rfl, m3, m4⟩
  · exact .inl ⟨h1, rfl⟩
  · exact .inr ⟨h1, rfl, by simp, by simp⟩
  · obtain ⟨ck, hin, hmax⟩ := acheck_zero h1
    have ht := check_table ck
    have hin' := inA_iff.1 hin
    have hm0 : 0 < m := by
      rcases Nat.eq_zero_or_pos m with h | h
      · have h0 := of_decide_eq_true (m4 0 (by omega) (by omega))
        simp only [Int.natCast_zero, Int.mul_zero] at h0
        have hd := dens_bound (t := 0) ht (by omega) (by omega)
        have := Int.mul_nonneg (show 0 ≤ (a, v).1 from hin'.1) (show 0 ≤ dens xs 0 by omega)
        simp only at this
        omega
      · exact h
    exact .inr ⟨h1, rfl, by simp only; omega, by simp only; omega⟩
end Go.Proofs.Ytfkabibbaajfhaa
/- What mix.mixture computes. Conditions: those of each law. -/
namespace Go.Proofs.Ytfkabibbaajfhaa
open Go Go.Proofs.Ytfkabibbaajfhaa.Ev
set_option linter.unusedVariables false
set_option linter.unusedSimpArgs false
set_option maxRecDepth 100000
set_option maxHeartbeats 4000000
theorem IndexFunc_grow {T : Table} {v : V} {B : List Slot} {xs : List (Int × Int)} {f : Bool} (p : Int × Int → Bool) (hn : xs.length < 2 ^ 63)
    (hc : ∀ x ∈ xs, ∀ (J : List Slot) {R : Type} (k : V → H → Option R), callV T.dy v [.agg [.int .i64 x.1, .int .i64 x.2]] (hL (B ++ J)) k = k (.bool (p x)) (hL (B ++ (J ++ [c2 x])))) :
    ∃ J, slices_IndexFunc_api_Liquid_api_Liquid T (rowSV f [.int .i64, .int .i64] xs) v (hL B) = some (idxOf p xs, hL (B ++ J)) := by
  have hstep : ∀ (i : Nat) (x : Int × Int), xs[i]? = some x → slices_IndexFunc_api_Liquid_api_Liquid.loop1 T (rowSV f j2 xs) v ((i : Int), hL (B ++ (xs.take i).map c2)) = some (bif p x then .done (.ret (i : Int), hL (B ++ (xs.take (i + 1)).map c2)) else .more (((i + 1 : Nat) : Int), hL (B ++ (xs.take (i + 1)).map c2))) := fun i x hx => by
    obtain ⟨hlt, hx'⟩ := List.getElem?_eq_some_iff.1 hx
    have ht : (xs.take (i + 1)).map c2 = (xs.take i).map c2 ++ [c2 x] := by
      rw [← List.take_append_getElem hlt, List.map_append, hx']
      rfl
    unfold slices_IndexFunc_api_Liquid_api_Liquid.loop1
    try simp -implicitDefEqProofs only [rowSV_len, Int.toNat_natCast]
    rw [decide_eq_true (by omega), cond_true, guardO_pos (by omega), rds_rowF (ls := j2) (w := 2) rfl (by omega) rfl, hx]
    try simp -implicitDefEqProofs only [Option.bind_some]
    rw [hc x (by rw [← hx']; exact List.getElem_mem hlt), ← ht]
    try simp -implicitDefEqProofs only [Res.pack, Ty.pack, Leaf.pack, Option.bind_some]
    rw [i64_succ (by omega)]
    cases p x <;> rfl
  unfold slices_IndexFunc_api_Liquid_api_Liquid idxOf
  cases hf : xs.findIdx? p with
  | some m =>
    obtain ⟨hm, hbad, hgood⟩ := List.findIdx?_eq_some_iff_getElem.1 hf
    have := iter_run (f := slices_IndexFunc_api_Liquid_api_Liquid.loop1 T (rowSV f j2 xs) v) (x := (.ret (m : Int), hL (B ++ (xs.take (m + 1)).map c2))) (fun i => ((i : Int), hL (B ++ (xs.take i).map c2))) m FUEL (fun i hi => by
      rw [hstep i _ (List.getElem?_eq_getElem (by omega))]
      have := hgood i hi
      cases hpi : p xs[i] with
      | true => exact absurd hpi this
      | false => rfl) (by
      rw [hstep m _ (List.getElem?_eq_getElem hm), hbad]
      rfl) (fuel_gt (by omega))
    have hz : (((0 : Nat) : Int)) = 0 := rfl
    simp only [hz, List.take_zero, List.map_nil, List.append_nil] at this
    rw [this]
    exact ⟨_, rfl⟩
  | none =>
    have hno := List.findIdx?_eq_none_iff.1 hf
    have := iter_run (f := slices_IndexFunc_api_Liquid_api_Liquid.loop1 T (rowSV f j2 xs) v) (x := (.ex0 (), hL (B ++ xs.map c2))) (fun i => ((i : Int), hL (B ++ (xs.take i).map c2))) xs.length FUEL (fun i hi => by
      rw [hstep i _ (List.getElem?_eq_getElem hi), hno _ (List.getElem_mem hi)]
      rfl) (by
      unfold slices_IndexFunc_api_Liquid_api_Liquid.loop1
      try simp -implicitDefEqProofs only [rowSV_len]
      rw [decide_eq_false (by omega), cond_false, List.take_length]) (fuel_gt (by omega))
    have hz : (((0 : Nat) : Int)) = 0 := rfl
    simp only [hz, List.take_zero, List.map_nil, List.append_nil] at this
    rw [this]
    exact ⟨_, rfl⟩
theorem ContainsFunc_grow {T : Table} {v : V} {B : List Slot} {xs : List (Int × Int)} {f : Bool} (p : Int × Int → Bool) (hn : xs.length < 2 ^ 63)
    (hc : ∀ x ∈ xs, ∀ (J : List Slot) {R : Type} (k : V → H → Option R), callV T.dy v [.agg [.int .i64 x.1, .int .i64 x.2]] (hL (B ++ J)) k = k (.bool (p x)) (hL (B ++ (J ++ [c2 x])))) :
    ∃ J, slices_ContainsFunc_api_Liquid_api_Liquid T (rowSV f [.int .i64, .int .i64] xs) v (hL B) = some (xs.any p, hL (B ++ J)) := by
  obtain ⟨J, h⟩ := IndexFunc_grow (T := slices_ContainsFunc_api_Liquid_api_Liquid.tb T) (f := f) p hn hc
  refine ⟨J, ?_⟩
  unfold slices_ContainsFunc_api_Liquid_api_Liquid
  rw [h]
  simp only [Option.bind_some, idxOf_nonneg]
end Go.Proofs.Ytfkabibbaajfhaa
/- What mix.Between computes. Conditions: those of each law. -/
namespace Go.Proofs.Ytfkabibbaajfhaa
open Go Go.Proofs.Ytfkabibbaajfhaa.Ev
set_option linter.unusedVariables false
set_option linter.unusedSimpArgs false
set_option maxRecDepth 100000
set_option maxHeartbeats 4000000
end Go.Proofs.Ytfkabibbaajfhaa
/- The strength of a sum lies in the band of strengths. Conditions: those of each law. -/
namespace Go.Proofs.Ytfkabibbaajfhaa
open Go Go.Proofs.Ytfkabibbaajfhaa.Ev
set_option linter.unusedVariables false
set_option linter.unusedSimpArgs false
set_option maxRecDepth 100000
set_option maxHeartbeats 4000000
theorem strength_above {xs : List (Int × Int)} {x : Int × Int} (h : acheckOf xs x = 0) (hn : ¬(x.1 = 0 ∧ x.2 = 0)) :
    (∀ q : Nat, (q : Int) ≤ (strengthOf xs x).1 → above xs x q = false) ∧ ∀ q : Nat, (strengthOf xs x).1 < q → q < 10001 → above xs x q = true := by
  obtain ⟨a, v⟩ := x
  obtain ⟨r, er, hcase⟩ := Strength_ok xs a v
  have hs : strengthOf xs (a, v) = r := by unfold strengthOf; rw [er]; rfl
  rw [hs]
  rcases hcase with ⟨h1, _⟩ | ⟨_, ha, hv, _⟩ | ⟨_, _, m, m1, rfl, m3, m4⟩
  · exact absurd h h1
  · exact absurd ⟨ha, hv⟩ hn
  · exact ⟨fun q hq => m3 q (by simp only at hq; omega), fun q hq hq2 => m4 q (by simp only at hq; omega) hq2⟩
theorem sumL_cons (x : Int × Int) (ls : List (Int × Int)) : sumL (x :: ls) = (x.1 + (sumL ls).1, x.2 + (sumL ls).2) := by simp [sumL]
end Go.Proofs.Ytfkabibbaajfhaa
/- What Check of the reference of density computes. Conditions: those of each law. -/
namespace Go.Proofs.Ytfkabibbaajfhaa
open Go Go.Proofs.Ytfkabibbaajfhaa.Ev
set_option linter.unusedVariables false
set_option linter.unusedSimpArgs false
set_option maxRecDepth 100000
set_option maxHeartbeats 4000000
end Go.Proofs.Ytfkabibbaajfhaa
/- What the reference of interpolate computes. Conditions: those of each law. -/
namespace Go.Proofs.Ytfkabibbaajfhaa
open Go Go.Proofs.Ytfkabibbaajfhaa.Ev
set_option linter.unusedVariables false
set_option linter.unusedSimpArgs false
set_option maxRecDepth 100000
set_option maxHeartbeats 4000000
end Go.Proofs.Ytfkabibbaajfhaa
/- What the reference of interpolate computes: the last place not above a grade. Conditions: those of each law. -/
namespace Go.Proofs.Ytfkabibbaajfhaa
open Go Go.Proofs.Ytfkabibbaajfhaa.Ev
set_option linter.unusedVariables false
set_option linter.unusedSimpArgs false
set_option maxRecDepth 100000
set_option maxHeartbeats 4000000
end Go.Proofs.Ytfkabibbaajfhaa
/- What the reference of interpolate computes: the density at a grade. Conditions: those of each law. -/
namespace Go.Proofs.Ytfkabibbaajfhaa
open Go Go.Proofs.Ytfkabibbaajfhaa.Ev
set_option linter.unusedVariables false
set_option linter.unusedSimpArgs false
set_option maxRecDepth 100000
set_option maxHeartbeats 4000000
end Go.Proofs.Ytfkabibbaajfhaa
/- What Check of the reference of alcohol computes. Conditions: those of each law. -/
namespace Go.Proofs.Ytfkabibbaajfhaa
open Go Go.Proofs.Ytfkabibbaajfhaa.Ev
set_option linter.unusedVariables false
set_option linter.unusedSimpArgs false
set_option maxRecDepth 100000
set_option maxHeartbeats 4000000
end Go.Proofs.Ytfkabibbaajfhaa
/- What Grade of the reference of alcohol computes. Conditions: those of each law. -/
namespace Go.Proofs.Ytfkabibbaajfhaa
open Go Go.Proofs.Ytfkabibbaajfhaa.Ev
set_option linter.unusedVariables false
set_option linter.unusedSimpArgs false
set_option maxRecDepth 100000
set_option maxHeartbeats 4000000
end Go.Proofs.Ytfkabibbaajfhaa
/- Orders of package blend: sums, costs and blends of units. Conditions: those of each law. -/
namespace Go.Proofs.Ytfkabibbaajfhaa
open Go Go.Proofs.Ytfkabibbaajfhaa.Ev
set_option linter.unusedVariables false
set_option linter.unusedSimpArgs false
set_option maxRecDepth 100000
set_option maxHeartbeats 4000000
/-- An order: liquids, units, costs, the least and the greatest strength, the least sum. -/
abbrev OrdT := List (Int × Int) × List Int × List Int × Int × Int × Int
abbrev j1 : List Leaf := [.int .i64]
abbrev oS (o : OrdT) : Slot := .own [.slice (rowSV false j2 o.1).a o.1.length o.1.length true, .slice (rowSV false j1 o.2.1).a o.2.1.length o.2.1.length true, .slice (rowSV false j1 o.2.2.1).a o.2.2.1.length o.2.2.1.length true, .int .i64 o.2.2.2.1, .int .i64 o.2.2.2.2.1, .int .i64 o.2.2.2.2.2] 6
theorem rd_oS {sl : List Slot} {id : Nat} {o : OrdT} (h : sl[id]? = some (oS o)) : rdT (.leaf .slice) (hL sl) (.hp id 6 0) = some (rowSV false j2 o.1) ∧ rdT (.leaf .slice) (hL sl) (.hp id 6 1) = some (rowSV false j1 o.2.1) ∧ rdT (.leaf .slice) (hL sl) (.hp id 6 2) = some (rowSV false j1 o.2.2.1) ∧
    rdT (.leaf (.int .i64)) (hL sl) (.hp id 6 3) = some o.2.2.2.1 ∧ rdT (.leaf (.int .i64)) (hL sl) (.hp id 6 4) = some o.2.2.2.2.1 ∧ rdT (.leaf (.int .i64)) (hL sl) (.hp id 6 5) = some o.2.2.2.2.2 := by
  refine ⟨?_, ?_, ?_, ?_, ?_, ?_⟩ <;> (rw [rd_own (g := 6) h rfl]; rfl)
theorem rds_oS {sl : List Slot} {id : Nat} {o : OrdT} (h : sl[id]? = some (oS o)) : rdT (.agg [.slice, .slice, .slice, .int .i64, .int .i64, .int .i64]) (hL sl) (.hp id 6 0) = some (rowSV false j2 o.1, rowSV false j1 o.2.1, rowSV false j1 o.2.2.1, o.2.2.2.1, o.2.2.2.2.1, o.2.2.2.2.2) := by
  rw [rds_hp (by simp), hL_m, h]; rfl
/-- Small numbers. -/
def Sm (u : List Int) : Prop := u.length ≤ 8 ∧ ∀ x ∈ u, 0 ≤ x ∧ x ≤ 64
theorem sum_le : ∀ {u : List Int} {B : Int}, (∀ x ∈ u, 0 ≤ x ∧ x ≤ B) → 0 ≤ u.sum ∧ u.sum ≤ u.length * B
  | [], _, _ => by simp
  | x :: u, B, h => by
    have h1 := sum_le (u := u) (B := B) fun y hy => h y (by simp [hy])
    have h2 := h x (by simp)
    simp only [List.sum_cons, List.length_cons, Int.natCast_add, Int.natCast_one, Int.add_mul, Int.one_mul]
    omega
theorem sum_take_b {u : List Int} {B : Int} (hB : 0 ≤ B) (h : ∀ x ∈ u, 0 ≤ x ∧ x ≤ B) (hl : u.length ≤ 8) (i : Nat) : 0 ≤ (u.take i).sum ∧ (u.take i).sum ≤ 8 * B := by
  have h1 := sum_le (u := u.take i) (B := B) fun y hy => h y (List.mem_of_mem_take hy)
  have h2 : ((u.take i).length : Int) * B ≤ 8 * B := Int.mul_le_mul_of_nonneg_right (by rw [List.length_take]; omega) hB
  omega
theorem bsum_ok {u : List Int} (h : Sm u) : blend_sumP u = some u.sum ∧ spileref29_totalP u = some u.sum := by
  obtain ⟨hl, h⟩ := h
  have hl' : u.length ≤ 8 := hl
  have hb := sum_take_b (B := 64) (by omega) h hl
  refine ⟨?_, ?_⟩
  · unfold blend_sumP blend_sum
    rw [iter_from (s0 := (((0 : Int), (0 : Int)), H.empty)) (f := blend_sum.loop1 (rowSV false j1 u)) (x := (.ex0 u.sum, H.empty)) (fun i => (((u.take i).sum, (i : Int)), H.empty)) rfl u.length FUEL (fun i hi => by
      have hg1 : 0 ≤ (i : Int) ∧ (i : Int) < (u.length : Int) := by omega
      have h1 := hb (i + 1)
      rw [sum_take_succ hi] at h1
      unfold blend_sum.loop1
      try simp -implicitDefEqProofs only [evs, reduceIte, rdRes, rdTT, rdTy, rdLT, Res.un, TT.un, Ty.un, LT.un, Leaf.un, Leaf.plain, LT.plain, Int.toNat_natCast, guardO_pos hg1]
      rw [decide_eq_true hg1.2, cond_true, rd_rowI, List.getElem?_eq_getElem hi]
      try simp -implicitDefEqProofs only [evs, reduceIte, rdRes, rdTT, rdTy, rdLT, Res.un, TT.un, Ty.un, LT.un, Leaf.un, Leaf.plain, LT.plain]
      rw [i64_in _ (by omega), i64_succ (by omega), sum_take_succ hi]) (by
      unfold blend_sum.loop1
      try simp -implicitDefEqProofs only [rowSV_len]
      rw [decide_eq_false (by omega), cond_false, List.take_length]) (fuel_gt (by omega))]
    try simp -implicitDefEqProofs only [evs, reduceIte, rdRes, rdTT, rdTy, rdLT, Res.un, TT.un, Ty.un, LT.un, Leaf.un, Leaf.plain, LT.plain]
  · unfold spileref29_totalP spileref29_total
    rw [iter_from (s0 := (((0 : Int), (0 : Int)), H.empty)) (f := spileref29_total.loop1 (rowSV false j1 u)) (x := (.ex0 u.sum, H.empty)) (fun i => (((u.take i).sum, (i : Int)), H.empty)) rfl u.length FUEL (fun i hi => by
      have hg1 : 0 ≤ (i : Int) ∧ (i : Int) < (u.length : Int) := by omega
      have h1 := hb (i + 1)
      rw [sum_take_succ hi] at h1
      unfold spileref29_total.loop1
      try simp -implicitDefEqProofs only [evs, reduceIte, rdRes, rdTT, rdTy, rdLT, Res.un, TT.un, Ty.un, LT.un, Leaf.un, Leaf.plain, LT.plain, Int.toNat_natCast, guardO_pos hg1]
      rw [decide_eq_true hg1.2, cond_true, rd_rowI, List.getElem?_eq_getElem hi]
      try simp -implicitDefEqProofs only [evs, reduceIte, rdRes, rdTT, rdTy, rdLT, Res.un, TT.un, Ty.un, LT.un, Leaf.un, Leaf.plain, LT.plain]
      rw [i64_in _ (by omega), i64_succ (by omega), sum_take_succ hi]) (by
      unfold spileref29_total.loop1
      try simp -implicitDefEqProofs only [rowSV_len]
      rw [decide_eq_false (by omega), cond_false, List.take_length]) (fuel_gt (by omega))]
    try simp -implicitDefEqProofs only [evs, reduceIte, rdRes, rdTT, rdTy, rdLT, Res.un, TT.un, Ty.un, LT.un, Leaf.un, Leaf.plain, LT.plain]
/-- What units cost, one by one. -/
def costs (c u : List Int) : List Int := (u.zip c).map fun p => p.1 * p.2
theorem costs_len {c u : List Int} (h : u.length = c.length) : (costs c u).length = u.length := by simp [costs]; omega
theorem costs_get {c u : List Int} {i : Nat} (h1 : i < u.length) (h2 : i < c.length) : ∃ h : i < (costs c u).length, (costs c u)[i] = u[i] * c[i] := ⟨by simp [costs]; omega, by simp [costs]⟩
/-- Small costs. -/
def Sc (c : List Int) : Prop := ∀ x ∈ c, 0 ≤ x ∧ x ≤ 1000000
theorem mul_b {x y A B : Int} (h1 : 0 ≤ x ∧ x ≤ A) (h2 : 0 ≤ y ∧ y ≤ B) : 0 ≤ x * y ∧ x * y ≤ A * B :=
  ⟨Int.mul_nonneg h1.1 h2.1, Int.mul_le_mul h1.2 h2.2 h2.1 (by omega)⟩
theorem costs_b {c u : List Int} (hu : Sm u) (hc : Sc c) : ∀ x ∈ costs c u, 0 ≤ x ∧ x ≤ 64 * 1000000 := fun x hx => by
  obtain ⟨p, hp, rfl⟩ := List.mem_map.1 hx
  have := List.of_mem_zip hp
  exact mul_b (hu.2 _ this.1) (hc _ this.2)
theorem bcost_ok {o : OrdT} {u : List Int} (hu : Sm u) (hc : Sc o.2.2.1) (hl : u.length = o.2.2.1.length) : blend_costP o u = some (costs o.2.2.1 u).sum ∧ spileref29_costP o u = some (costs o.2.2.1 u).sum := by
  have hlen := costs_len hl
  have hu1 := hu.1
  have hb := sum_take_b (B := 64 * 1000000) (by omega) (costs_b hu hc) (by rw [hlen]; exact hu.1)
  have r0 := rd_oS (sl := [oS o]) (id := 0) (o := o) rfl
  have step : ∀ i (hi : i < u.length), ∃ hi' : i < o.2.2.1.length, 0 ≤ u[i] * o.2.2.1[i] ∧ u[i] * o.2.2.1[i] ≤ 64000000 ∧ 0 ≤ ((costs o.2.2.1 u).take i).sum ∧ ((costs o.2.2.1 u).take i).sum ≤ 512000000 ∧ ((costs o.2.2.1 u).take (i + 1)).sum = ((costs o.2.2.1 u).take i).sum + u[i] * o.2.2.1[i] := fun i hi => by
    have hi2 : i < o.2.2.1.length := by omega
    obtain ⟨h1, h2⟩ := costs_get (c := o.2.2.1) hi hi2
    have h3 := hb i
    have h4 := sum_take_succ h1
    have h5 := mul_b (hu.2 _ (List.getElem_mem hi)) (hc _ (List.getElem_mem hi2))
    rw [h2] at h4
    exact ⟨hi2, h5.1, by omega, h3.1, by omega, h4⟩
  refine ⟨?_, ?_⟩
  · unfold blend_costP blend_cost
    try simp -implicitDefEqProofs only [evs, reduceIte, rdRes, rdTT, rdTy, rdLT, Res.un, TT.un, Ty.un, LT.un, Leaf.un, Leaf.plain, LT.plain, hL_empty, hL_new, hL_next, List.nil_append, List.length_nil]
    rw [iter_from (s0 := (((0 : Int), (0 : Int)), hL [oS o])) (f := blend_cost.loop1 (hL []) (rowSV false j1 u)) (x := (.ex0 (costs o.2.2.1 u).sum, hL [oS o])) (fun i => ((((costs o.2.2.1 u).take i).sum, (i : Int)), hL [oS o])) rfl u.length FUEL (fun i hi => by
      obtain ⟨hi2, h1, h2, h3, h4, h5⟩ := step i hi
      have hg1 : 0 ≤ (i : Int) ∧ (i : Int) < (u.length : Int) := by omega
      have hg2 : 0 ≤ (i : Int) ∧ (i : Int) < (o.2.2.1.length : Int) := by omega
      unfold blend_cost.loop1
      try simp -implicitDefEqProofs only [evs, reduceIte, rdRes, rdTT, rdTy, rdLT, Res.un, TT.un, Ty.un, LT.un, Leaf.un, Leaf.plain, LT.plain, Int.toNat_natCast, guardO_pos hg1, hL_next, List.length_nil, r0.2.2.1]
      rw [decide_eq_true hg1.2, cond_true, rd_rowI, List.getElem?_eq_getElem hi]
      try simp -implicitDefEqProofs only [evs, reduceIte, rdRes, rdTT, rdTy, rdLT, Res.un, TT.un, Ty.un, LT.un, Leaf.un, Leaf.plain, LT.plain, guardO_pos hg2]
      rw [rd_rowI, List.getElem?_eq_getElem hi2]
      try simp -implicitDefEqProofs only [evs, reduceIte, rdRes, rdTT, rdTy, rdLT, Res.un, TT.un, Ty.un, LT.un, Leaf.un, Leaf.plain, LT.plain]
      rw [i64_in (u[i] * o.2.2.1[i]) (by omega), i64_in _ (by omega), i64_succ (by omega), h5]) (by
      unfold blend_cost.loop1
      try simp -implicitDefEqProofs only [rowSV_len]
      rw [decide_eq_false (by omega), cond_false, ← hlen, List.take_length]) (fuel_gt (by have := hu.1; omega))]
    try simp -implicitDefEqProofs only [evs, reduceIte, rdRes, rdTT, rdTy, rdLT, Res.un, TT.un, Ty.un, LT.un, Leaf.un, Leaf.plain, LT.plain]
  · unfold spileref29_costP spileref29_cost
    try simp -implicitDefEqProofs only [evs, reduceIte, rdRes, rdTT, rdTy, rdLT, Res.un, TT.un, Ty.un, LT.un, Leaf.un, Leaf.plain, LT.plain, hL_empty, hL_new, hL_next, List.nil_append, List.length_nil]
    rw [iter_from (s0 := (((0 : Int), (0 : Int)), hL [oS o])) (f := spileref29_cost.loop1 (hL []) (rowSV false j1 u)) (x := (.ex0 (costs o.2.2.1 u).sum, hL [oS o])) (fun i => ((((costs o.2.2.1 u).take i).sum, (i : Int)), hL [oS o])) rfl u.length FUEL (fun i hi => by
      obtain ⟨hi2, h1, h2, h3, h4, h5⟩ := step i hi
      have hg1 : 0 ≤ (i : Int) ∧ (i : Int) < (u.length : Int) := by omega
      have hg2 : 0 ≤ (i : Int) ∧ (i : Int) < (o.2.2.1.length : Int) := by omega
      unfold spileref29_cost.loop1
      try simp -implicitDefEqProofs only [evs, reduceIte, rdRes, rdTT, rdTy, rdLT, Res.un, TT.un, Ty.un, LT.un, Leaf.un, Leaf.plain, LT.plain, Int.toNat_natCast, guardO_pos hg1, hL_next, List.length_nil, r0.2.2.1]
      rw [decide_eq_true hg1.2, cond_true, rd_rowI, List.getElem?_eq_getElem hi]
      try simp -implicitDefEqProofs only [evs, reduceIte, rdRes, rdTT, rdTy, rdLT, Res.un, TT.un, Ty.un, LT.un, Leaf.un, Leaf.plain, LT.plain, guardO_pos hg2]
      rw [rd_rowI, List.getElem?_eq_getElem hi2]
      try simp -implicitDefEqProofs only [evs, reduceIte, rdRes, rdTT, rdTy, rdLT, Res.un, TT.un, Ty.un, LT.un, Leaf.un, Leaf.plain, LT.plain]
      rw [i64_in (u[i] * o.2.2.1[i]) (by omega), i64_in _ (by omega), i64_succ (by omega), h5]) (by
      unfold spileref29_cost.loop1
      try simp -implicitDefEqProofs only [rowSV_len]
      rw [decide_eq_false (by omega), cond_false, ← hlen, List.take_length]) (fuel_gt (by have := hu.1; omega))]
    try simp -implicitDefEqProofs only [evs, reduceIte, rdRes, rdTT, rdTy, rdLT, Res.un, TT.un, Ty.un, LT.un, Leaf.un, Leaf.plain, LT.plain]
end Go.Proofs.Ytfkabibbaajfhaa
/- Blends of units. Conditions: those of each law. -/
namespace Go.Proofs.Ytfkabibbaajfhaa
open Go Go.Proofs.Ytfkabibbaajfhaa.Ev
set_option linter.unusedVariables false
set_option linter.unusedSimpArgs false
set_option maxRecDepth 100000
set_option maxHeartbeats 4000000
/-- Liquids, each so often. -/
def parts (ls : List (Int × Int)) (u : List Int) : List (Int × Int) := (u.zip ls).map fun p => (p.1 * p.2.1, p.1 * p.2.2)
theorem parts_len {ls : List (Int × Int)} {u : List Int} (h : u.length = ls.length) : (parts ls u).length = u.length := by simp [parts]; omega
theorem parts_get {ls : List (Int × Int)} {u : List Int} {i : Nat} (h1 : i < u.length) (h2 : i < ls.length) : (parts ls u)[i]? = some (u[i] * (q2 ls i).1, u[i] * (q2 ls i).2) := by
  have h3 := q2_some h2
  rw [List.getElem?_eq_getElem h2] at h3
  have h4 : ls[i] = q2 ls i := Option.some.inj h3
  rw [← h4]
  unfold parts
  rw [List.getElem?_eq_getElem (by simp; omega)]
  simp
/-- Liquids that are not too great. -/
def Sq (ls : List (Int × Int)) : Prop := ∀ x ∈ ls, 0 ≤ x.1 ∧ x.1 ≤ 10737418240000 ∧ 0 ≤ x.2 ∧ x.2 ≤ 1000000000
theorem sumL_le {A B : Int} : ∀ {xs : List (Int × Int)}, (∀ x ∈ xs, 0 ≤ x.1 ∧ x.1 ≤ A ∧ 0 ≤ x.2 ∧ x.2 ≤ B) → 0 ≤ (sumL xs).1 ∧ (sumL xs).1 ≤ xs.length * A ∧ 0 ≤ (sumL xs).2 ∧ (sumL xs).2 ≤ xs.length * B
  | [], _ => by simp [sumL]
  | x :: xs, h => by
    have h1 := sumL_le (A := A) (B := B) (xs := xs) fun y hy => h y (by simp [hy])
    have h2 := h x (by simp)
    simp only [sumL, List.map_cons, List.sum_cons, List.length_cons, Int.natCast_add, Int.natCast_one, Int.add_mul, Int.one_mul] at h1 ⊢
    omega
theorem parts_b {ls : List (Int × Int)} {u : List Int} (hu : Sm u) (hs : Sq ls) : ∀ x ∈ parts ls u, 0 ≤ x.1 ∧ x.1 ≤ 64 * 10737418240000 ∧ 0 ≤ x.2 ∧ x.2 ≤ 64 * 1000000000 := fun x hx => by
  obtain ⟨p, hp, rfl⟩ := List.mem_map.1 hx
  have hm := List.of_mem_zip hp
  have hq := hs _ hm.2
  have h1 := mul_b (hu.2 _ hm.1) ⟨hq.1, hq.2.1⟩
  have h2 := mul_b (hu.2 _ hm.1) ⟨hq.2.2.1, hq.2.2.2⟩
  exact ⟨h1.1, h1.2, h2.1, h2.2⟩
theorem parts_sum_b {ls : List (Int × Int)} {u : List Int} (hu : Sm u) (hs : Sq ls) (hl : u.length = ls.length) (i : Nat) : 0 ≤ (sumL ((parts ls u).take i)).1 ∧ (sumL ((parts ls u).take i)).1 ≤ 8 * (64 * 10737418240000) ∧ 0 ≤ (sumL ((parts ls u).take i)).2 ∧ (sumL ((parts ls u).take i)).2 ≤ 8 * (64 * 1000000000) := by
  have h1 := sumL_le (xs := (parts ls u).take i) fun x hx => parts_b hu hs x (List.mem_of_mem_take hx)
  have h2 : ((parts ls u).take i).length ≤ 8 := by have := hu.1; rw [List.length_take, parts_len hl]; omega
  have h3 : (((parts ls u).take i).length : Int) * (64 * 10737418240000) ≤ 8 * (64 * 10737418240000) := Int.mul_le_mul_of_nonneg_right (by omega) (by omega)
  have h4 : (((parts ls u).take i).length : Int) * (64 * 1000000000) ≤ 8 * (64 * 1000000000) := Int.mul_le_mul_of_nonneg_right (by omega) (by omega)
  omega
theorem parts_step {ls : List (Int × Int)} {u : List Int} (hu : Sm u) (hs : Sq ls) (hl : u.length = ls.length) {i : Nat} (hi : i < u.length) :
    ∃ h2 : i < ls.length, 0 ≤ u[i] * (q2 ls i).1 ∧ u[i] * (q2 ls i).1 ≤ 687194767360000 ∧ 0 ≤ u[i] * (q2 ls i).2 ∧ u[i] * (q2 ls i).2 ≤ 64000000000 ∧
      sumL ((parts ls u).take (i + 1)) = ((sumL ((parts ls u).take i)).1 + u[i] * (q2 ls i).1, (sumL ((parts ls u).take i)).2 + u[i] * (q2 ls i).2) := by
  have h2 : i < ls.length := by omega
  have hg := parts_get hi h2
  have hb := parts_b hu hs _ (List.mem_of_getElem? hg)
  exact ⟨h2, hb.1, by have := hb.2.1; omega, hb.2.2.1, by have := hb.2.2.2; omega, sumL_take hg⟩
def slotsM (o : OrdT) (u : List Int) (i : Nat) : List Slot := oS o :: c2 (0, 0) :: c2 (sumL ((parts o.1 u).take i)) :: (o.1.take i).map c2
theorem slotsM_succ {o : OrdT} {u : List Int} {i : Nat} {x : Int × Int} (h : o.1[i]? = some x) : (slotsM o u i ++ [c2 x]).set 2 (c2 (sumL ((parts o.1 u).take (i + 1)))) = slotsM o u (i + 1) := by
  unfold slotsM
  obtain ⟨hi, rfl⟩ := List.getElem?_eq_some_iff.1 h
  rw [← List.take_append_getElem hi, List.map_append]
  rfl
theorem mixed_ok {o : OrdT} {u : List Int} (hu : Sm u) (hs : Sq o.1) (hl : u.length = o.1.length) : blend_mixedP o u = some (sumL (parts o.1 u)) := by
  have hu1 := hu.1
  have h0 : ([oS o, c2 (0, 0), c2 (0, 0)])[2]? = some (c2 (0, 0)) := rfl
  have w0 := wrs_c2 (y := (0, 0)) h0
  have r0 := rd_oS (sl := [oS o, c2 (0, 0), c2 (0, 0)]) (id := 0) (o := o) rfl
  simp only [c2, oS, List.set_cons_succ, List.set_cons_zero] at w0 r0
  unfold blend_mixedP blend_mixed
  try simp -implicitDefEqProofs only [evs, reduceIte, rdRes, rdTT, rdTy, rdLT, Res.un, TT.un, Ty.un, LT.un, Leaf.un, Leaf.plain, LT.plain, hL_empty, hL_new, hL_next, List.nil_append, List.length_nil, List.length_cons, List.cons_append, Nat.zero_add, Nat.reduceAdd]
  rw [w0]
  try simp -implicitDefEqProofs only [evs, reduceIte, rdRes, rdTT, rdTy, rdLT, Res.un, TT.un, Ty.un, LT.un, Leaf.un, Leaf.plain, LT.plain]
  rw [r0.1]
  try simp -implicitDefEqProofs only [evs, reduceIte, rdRes, rdTT, rdTy, rdLT, Res.un, TT.un, Ty.un, LT.un, Leaf.un, Leaf.plain, LT.plain]
  have hloop : iter FUEL (blend_mixed.loop1 (rowSV false j1 u) (hL [oS o, c2 (0, 0)]) (rowSV false j2 o.1)) (0, hL [oS o, c2 (0, 0), c2 (0, 0)]) = some (.ex0 (), hL (slotsM o u u.length)) := by
    refine (iter_from (fun i => ((i : Int), hL (slotsM o u i))) rfl u.length FUEL (fun i hi => ?_) ?_ (fuel_gt (by omega)))
    · obtain ⟨hi2, p1, p2, p3, p4, p5⟩ := parts_step hu hs hl hi
      have hb := parts_sum_b hu hs hl i
      have hget := q2_some hi2
      have hlen : (slotsM o u i).length = i + 3 := by simp [slotsM]; omega
      have hrow : (slotsM o u i ++ [c2 (q2 o.1 i)])[(slotsM o u i).length]? = some (c2 (q2 o.1 i)) := by simp
      have htot : (slotsM o u i ++ [c2 (q2 o.1 i)])[2]? = some (c2 (sumL ((parts o.1 u).take i))) := rfl
      have r1 := rd_c2 hrow
      have t1 := rd_c2 htot
      have nw := new_c2 (sl := slotsM o u i) (x := q2 o.1 i)
      have w1 := wr0_c2 (y := (sumL ((parts o.1 u).take i)).1 + u[i] * (q2 o.1 i).1) htot
      have htot2 : ((slotsM o u i ++ [c2 (q2 o.1 i)]).set 2 (c2 ((sumL ((parts o.1 u).take i)).1 + u[i] * (q2 o.1 i).1, (sumL ((parts o.1 u).take i)).2)))[2]? = some (c2 ((sumL ((parts o.1 u).take i)).1 + u[i] * (q2 o.1 i).1, (sumL ((parts o.1 u).take i)).2)) := rfl
      have w2 := wr1_c2 (y := (sumL ((parts o.1 u).take i)).2 + u[i] * (q2 o.1 i).2) htot2
      rw [List.set_set] at w2
      simp only [] at w2
      rw [← p5, slotsM_succ hget] at w2
      have hg1 : 0 ≤ (i : Int) ∧ (i : Int) < (o.1.length : Int) := by omega
      have hg2 : 0 ≤ (i : Int) ∧ (i : Int) < (u.length : Int) := by omega
      unfold blend_mixed.loop1
      try simp -implicitDefEqProofs only [Int.toNat_natCast, rowSV_len, reserve0, guardO_pos hg1, guardO_pos hg2]
      rw [decide_eq_true hg1.2, cond_true, rds_rowF (ls := j2) (w := 2) rfl (by omega) rfl, hget]
      try simp -implicitDefEqProofs only [Option.bind_some, hL_new, hL_next, List.length_cons, List.length_nil, Nat.zero_add, Nat.reduceAdd]
      rw [nw]
      try simp -implicitDefEqProofs only [Option.bind_some, r1.1, r1.2, t1.1, t1.2]
      rw [rd_rowI, List.getElem?_eq_getElem hi]
      try simp -implicitDefEqProofs only [Option.bind_some]
      rw [i64_in (u[i] * (q2 o.1 i).1) (by omega), i64_in (u[i] * (q2 o.1 i).2) (by omega), i64_in _ (by omega), i64_in _ (by omega), w1]
      try simp -implicitDefEqProofs only [Option.bind_some]
      rw [w2]
      try simp -implicitDefEqProofs only [Option.bind_some]
      rw [guardO_pos (p := apartA _ _ = true) rfl, guardO_pos (p := apartA _ _ = true) (by rw [hlen]; rfl), i64_succ (by omega)]
    · unfold blend_mixed.loop1
      try simp -implicitDefEqProofs only [rowSV_len]
      rw [decide_eq_false (by omega), cond_false]
  simp only [c2, oS] at hloop
  rw [hloop]
  have e1 : (slotsM o u u.length)[1]? = some (c2 (0, 0)) := rfl
  have e2 : (slotsM o u u.length)[2]? = some (c2 (sumL (parts o.1 u))) := by rw [slotsM, ← parts_len hl, List.take_length]; rfl
  have w3 := wrs_c2 (y := sumL (parts o.1 u)) e1
  have e3 : ((slotsM o u u.length).set 1 (c2 (sumL (parts o.1 u))))[1]? = some (c2 (sumL (parts o.1 u))) := rfl
  try simp -implicitDefEqProofs only [Option.bind_some]
  rw [rds_c2 e2]
  try simp -implicitDefEqProofs only [Option.bind_some]
  rw [w3]
  try simp -implicitDefEqProofs only [Option.bind_some]
  rw [rds_c2 e3]
  try simp -implicitDefEqProofs only [evs, reduceIte, rdRes, rdTT, rdTy, rdLT, Res.un, TT.un, Ty.un, LT.un, Leaf.un, Leaf.plain, LT.plain]
end Go.Proofs.Ytfkabibbaajfhaa
/- blend.Of and that of the reference. Conditions: those of each law. -/
namespace Go.Proofs.Ytfkabibbaajfhaa
open Go Go.Proofs.Ytfkabibbaajfhaa.Ev
set_option linter.unusedVariables false
set_option linter.unusedSimpArgs false
set_option maxRecDepth 100000
set_option maxHeartbeats 4000000
theorem any_not {α : Type} (p : α → Bool) : ∀ (l : List α), l.any (fun x => !p x) = !l.all p
  | [] => rfl
  | x :: l => by rw [List.any_cons, List.all_cons, any_not p l, Bool.not_and]
def fewB (w u : List Int) : Bool := (u.zip w).all fun p => decide (0 ≤ p.1 ∧ p.1 ≤ p.2)
theorem few_code {x y : Int} {h : H} : (bif !(decide (x < 0)) then some ((decide (y < x)), h) else some (true, h) : Option (Bool × H)) = some (!decide (0 ≤ x ∧ x ≤ y), h) := by
  by_cases h1 : x < 0
  · rw [decide_eq_true h1, decide_eq_false (p := _ ∧ _) (by omega)]; rfl
  · rw [decide_eq_false h1]
    by_cases h2 : y < x
    · rw [decide_eq_true h2, decide_eq_false (p := _ ∧ _) (by omega)]; rfl
    · rw [decide_eq_false h2, decide_eq_true (p := _ ∧ _) (by omega)]; rfl
/-- A number from 0 to a limit. -/
def inB (m n : Int) : Bool := decide (0 ≤ n ∧ n ≤ m)
theorem outside1_ok (m n : Int) (h : H) : blend_outside_1 n (.lp true [.int .i64 m] 0) h = some (!inB m n, h) := by
  unfold blend_outside_1 inB
  have : rdT (.leaf (.int .i64)) h (.lp true [.int .i64 m] 0) = some m := rfl
  rw [this]
  try simp -implicitDefEqProofs only [evs, reduceIte, rdRes, rdTT, rdTy, rdLT, Res.un, TT.un, Ty.un, LT.un, Leaf.un, Leaf.plain, LT.plain]
  rw [few_code]
  try simp -implicitDefEqProofs only [evs, reduceIte, rdRes, rdTT, rdTy, rdLT, Res.un, TT.un, Ty.un, LT.un, Leaf.un, Leaf.plain, LT.plain]
theorem ord_eta (o : OrdT) : (o.1, o.2.1, o.2.2.1, o.2.2.2.1, o.2.2.2.2.1, o.2.2.2.2.2) = o := rfl
theorem mis_code {p q : Prop} [Decidable p] [Decidable q] {h : H} : (bif !(!(decide p)) then some ((!(decide q)), h) else some (true, h) : Option (Bool × H)) = some (!decide (p ∧ q), h) := by
  by_cases h1 : p
  · rw [decide_eq_true h1]
    by_cases h2 : q
    · rw [decide_eq_true h2, decide_eq_true (p := _ ∧ _) ⟨h1, h2⟩]; rfl
    · rw [decide_eq_false h2, decide_eq_false (p := _ ∧ _) (fun h => h2 h.2)]; rfl
  · rw [decide_eq_false h1, decide_eq_false (p := _ ∧ _) (fun h => h1 h.1)]; rfl
end Go.Proofs.Ytfkabibbaajfhaa
/- Of of the reference of package blend. Conditions: those of each law. -/
namespace Go.Proofs.Ytfkabibbaajfhaa
open Go Go.Proofs.Ytfkabibbaajfhaa.Ev
set_option linter.unusedVariables false
set_option linter.unusedSimpArgs false
set_option maxRecDepth 100000
set_option maxHeartbeats 4000000
end Go.Proofs.Ytfkabibbaajfhaa
/- Check of package blend. Conditions: those of each law. -/
namespace Go.Proofs.Ytfkabibbaajfhaa
open Go Go.Proofs.Ytfkabibbaajfhaa.Ev
set_option linter.unusedVariables false
set_option linter.unusedSimpArgs false
set_option maxRecDepth 100000
set_option maxHeartbeats 4000000
/-- A liquid of an order. -/
noncomputable def okL (xs : List (Int × Int)) (x : Int × Int) : Bool := decide (acheckOf xs x = 0) && decide (1 ≤ x.2 ∧ x.2 ≤ 1000000000)
def okR (o : OrdT) : Bool := decide (0 ≤ o.2.2.2.1 ∧ o.2.2.2.2.1 ≤ 10000 ∧ o.2.2.2.1 ≤ o.2.2.2.2.1 ∧ 1 ≤ o.2.2.2.2.2 ∧ o.2.2.2.2.2 ≤ 256)
/-- How many plans there are. -/
def prodU (us : List Int) : Int := us.foldl (fun n x => n * (x + 1)) 1
noncomputable def bfaultOf (xs : List (Int × Int)) (o : OrdT) : Int :=
  if o.1.length = 0 then 9 else if 4 < o.1.length then 8 else
  if o.2.1.length = o.1.length ∧ o.2.2.1.length = o.1.length then
    (if o.1.all (okL xs) = true then (if (o.2.1.all (inB 64) && o.2.2.1.all (inB 1000000)) = true then (if okR o = true then (if 4096 < prodU o.2.1 then 8 else 0) else 2) else 2) else 1)
  else 10
noncomputable def bcheckOf (xs : List (Int × Int)) (o : OrdT) : Int := if (checkOf xs).2 = 0 then bfaultOf xs o else 1
abbrev tS (xs : List (Int × Int)) : Slot := .own [.slice (rowSV false j2 xs).a xs.length xs.length true] 1
theorem okL_code {c y : Int} {h : H} : (bif !(!(decide (c = 0))) then (bif !(decide (y < 1)) then some ((decide ((1000000000 : Int) < y)), h) else some (true, h)) else some (true, h) : Option (Bool × H)) = some (!(decide (c = 0) && decide (1 ≤ y ∧ y ≤ 1000000000)), h) := by
  by_cases h1 : c = 0
  · rw [decide_eq_true h1]
    by_cases h2 : y < 1
    · rw [decide_eq_true h2, decide_eq_false (p := _ ∧ _) (by omega)]; rfl
    · rw [decide_eq_false h2]
      by_cases h3 : (1000000000 : Int) < y
      · rw [decide_eq_true h3, decide_eq_false (p := _ ∧ _) (by omega)]; rfl
      · rw [decide_eq_false h3, decide_eq_true (p := _ ∧ _) (by omega)]; rfl
  · rw [decide_eq_false h1]; rfl
theorem fault1_ok {xs : List (Int × Int)} {sl : List Slot} {x : Int × Int} : blend_fault_1 x (.hp 0 1 0) (hL (tS xs :: sl)) = some (!okL xs x, hL (tS xs :: (sl ++ [c2 x]))) := by
  have r0 : rdT (.leaf .slice) (hL (tS xs :: (sl ++ [c2 x]))) (.hp 0 1 0) = some (rowSV false j2 xs) := by
    rw [rd_own (g := 1) (id := 0) rfl rfl]; rfl
  have e1 : (tS xs :: (sl ++ [c2 x]))[sl.length + 1]? = some (c2 x) := by simp
  have r1 := rds_c2 e1
  have r2 := rd_c2 e1
  obtain ⟨a, v⟩ := x
  unfold blend_fault_1
  try simp -implicitDefEqProofs only [hL_new, hL_next, List.length_cons, List.cons_append]
  simp only [c2, tS] at r0 r1 r2
  rw [r0]
  try simp -implicitDefEqProofs only [evs, reduceIte, rdRes, rdTT, rdTy, rdLT, Res.un, TT.un, Ty.un, LT.un, Leaf.un, Leaf.plain, LT.plain]
  rw [r1]
  try simp -implicitDefEqProofs only [evs, reduceIte, rdRes, rdTT, rdTy, rdLT, Res.un, TT.un, Ty.un, LT.un, Leaf.un, Leaf.plain, LT.plain]
  rw [ACheck_ok, r2.2]
  try simp -implicitDefEqProofs only [evs, reduceIte, rdRes, rdTT, rdTy, rdLT, Res.un, TT.un, Ty.un, LT.un, Leaf.un, Leaf.plain, LT.plain]
  rw [okL_code]
  rfl
theorem or_code {a b : Bool} {h : H} {α : Type} {k : Bool × H → Option α} : ((bif !(!a) then some (!b, h) else some (true, h) : Option (Bool × H)).bind k) = k (!(a && b), h) := by cases a <;> rfl
theorem prodU_snoc (us : List Int) (x : Int) : prodU (us ++ [x]) = prodU us * (x + 1) := by simp [prodU]
theorem pow_le {B : Int} (hB : 1 ≤ B) : ∀ (us : List Int), (∀ x ∈ us, 0 ≤ x ∧ x + 1 ≤ B) → ∀ (n : Int), 1 ≤ n → 1 ≤ us.foldl (fun n x => n * (x + 1)) n ∧ us.foldl (fun n x => n * (x + 1)) n ≤ n * B ^ us.length
  | [], _, n, hn => by simp [hn]
  | x :: us, h, n, hn => by
    have h1 := h x (by simp)
    have h2 : 1 ≤ n * (x + 1) := by
      have := Int.mul_le_mul hn (show (1 : Int) ≤ x + 1 by omega) (by omega) (by omega)
      omega
    have ih := pow_le hB us (fun y hy => h y (by simp [hy])) (n * (x + 1)) h2
    refine ⟨ih.1, Int.le_trans ih.2 ?_⟩
    have h3 : n * (x + 1) ≤ n * B := Int.mul_le_mul_of_nonneg_left h1.2 (by omega)
    have h4 : 0 ≤ B ^ us.length := by
      have : ∀ n : Nat, 0 ≤ B ^ n := fun n => by
        induction n with
        | zero => simp
        | succ n ih => rw [Int.pow_succ]; exact Int.mul_nonneg ih (by omega)
      exact this _
    have h5 := Int.mul_le_mul_of_nonneg_right h3 h4
    rw [List.length_cons, Int.pow_succ]
    have : n * B * B ^ us.length = n * (B ^ us.length * B) := by rw [Int.mul_assoc, Int.mul_comm B]
    omega
theorem prodU_b {us : List Int} (h : us.all (inB 64) = true) (hl : us.length ≤ 8) : 1 ≤ prodU us ∧ prodU us ≤ 318644812890625 := by
  have h1 := pow_le (B := 65) (by omega) us (fun x hx => by
    have := List.all_eq_true.1 h x hx
    simp only [inB, decide_eq_true_eq] at this
    omega) 1 (by omega)
  have h2 : (65 : Int) ^ us.length ≤ 65 ^ 8 := by
    have : us.length = 0 ∨ us.length = 1 ∨ us.length = 2 ∨ us.length = 3 ∨ us.length = 4 ∨ us.length = 5 ∨ us.length = 6 ∨ us.length = 7 ∨ us.length = 8 := by omega
    rcases this with h | h | h | h | h | h | h | h | h <;> rw [h] <;> decide
  have e8 : (65 : Int) ^ 8 = 318644812890625 := by decide
  rw [e8] at h2
  unfold prodU
  omega
theorem all_take {p : Int → Bool} {us : List Int} (h : us.all p = true) (i : Nat) : (us.take i).all p = true := List.all_eq_true.2 fun x hx => List.all_eq_true.1 h x (List.mem_of_mem_take hx)
theorem prodU_step {us : List Int} (h : us.all (inB 64) = true) (hl : us.length ≤ 8) {i : Nat} (hi : i < us.length) : IntKind.wrap .i64 (prodU (us.take i) * IntKind.wrap .i64 (us[i] + 1)) = prodU (us.take (i + 1)) := by
  have h1 : us.take (i + 1) = us.take i ++ [us[i]] := (List.take_append_getElem hi).symm
  have h2 := List.all_eq_true.1 h us[i] (List.getElem_mem hi)
  simp only [inB, decide_eq_true_eq] at h2
  have h3 := prodU_b (all_take h (i + 1)) (by rw [List.length_take]; omega)
  rw [h1, prodU_snoc] at h3 ⊢
  rw [i64_in (us[i] + 1) (by omega), i64_in _ (by omega)]
theorem prod_loop {us : List Int} {h : H} (ha : us.all (inB 64) = true) (hl : us.length ≤ 8) : iter FUEL (blend_fault.loop1 (rowSV false j1 us)) (((1 : Int), (0 : Int)), h) = some (.ex0 (prodU us), h) := by
  refine iter_from (fun i => ((prodU (us.take i), (i : Int)), h)) rfl us.length FUEL (fun i hi => ?_) ?_ (fuel_gt (by omega))
  · have hg1 : 0 ≤ (i : Int) ∧ (i : Int) < (us.length : Int) := by omega
    unfold blend_fault.loop1
    try simp -implicitDefEqProofs only [evs, reduceIte, rdRes, rdTT, rdTy, rdLT, Res.un, TT.un, Ty.un, LT.un, Leaf.un, Leaf.plain, LT.plain, Int.toNat_natCast, guardO_pos hg1]
    rw [decide_eq_true hg1.2, cond_true, rd_rowI, List.getElem?_eq_getElem hi]
    try simp -implicitDefEqProofs only [evs, reduceIte, rdRes, rdTT, rdTy, rdLT, Res.un, TT.un, Ty.un, LT.un, Leaf.un, Leaf.plain, LT.plain]
    rw [prodU_step ha hl hi, i64_succ (by omega)]
  · unfold blend_fault.loop1
    try simp -implicitDefEqProofs only [rowSV_len]
    rw [decide_eq_false (by omega), cond_false, List.take_length]
theorem outs_ok {T : Table} {m : Int} {xs : List Int} {h : H} {f : Bool} (hT : T.dy.fn 77 = blend_outside_1.e) (hn : xs.length < 2 ^ 63) : slices_ContainsFunc_int_int T (rowSV f j1 xs) (.func 77 [.lp true [.int .i64 m] 0]) h = some (!xs.all (inB m), h) := by
  rw [← any_not]
  refine ContainsFunc_int (fun x => !inB m x) hn (fun x hx R k => ?_)
  show (T.dy.fn 77).cps ([.int .i64 x] ++ [.lp true [.int .i64 m] 0]) h k = _
  rw [hT]
  show (blend_outside_1 x (.lp true [.int .i64 m] 0) _).bind (fun p => k (.bool p.1) p.2) = _
  rw [outside1_ok]; rfl
theorem contains_tail {T : Table} {a v : V} {n c : Nat} {t : Bool} {h : H} : slices_ContainsFunc_int_int T ⟨a, n, c, t⟩ v h = slices_ContainsFunc_int_int T ⟨a, n, c, true⟩ v h := rfl
theorem outs2_ok {T : Table} {m a b : Int} {h : H} (hT : T.dy.fn 77 = blend_outside_1.e) : slices_ContainsFunc_int_int T ⟨.lp true [.int .i64 a, .int .i64 b] 0, 2, 2, false⟩ (.func 77 [.lp true [.int .i64 m] 0]) h = some (!([a, b] : List Int).all (inB m), h) := by
  rw [contains_tail]
  exact outs_ok (xs := [a, b]) (f := true) hT (by simp)
theorem okR_code {l hi a : Int} {h : H} : (bif !(!([l, hi] : List Int).all (inB 10000)) then (bif !(decide (hi < l)) then (bif !(decide (a < 1)) then some ((decide ((256 : Int) < a)), h) else some (true, h)) else some (true, h)) else some (true, h) : Option (Bool × H)) = some (!decide (0 ≤ l ∧ hi ≤ 10000 ∧ l ≤ hi ∧ 1 ≤ a ∧ a ≤ 256), h) := by
  simp only [List.all_cons, List.all_nil, Bool.and_true, inB]
  by_cases h1 : 0 ≤ l ∧ l ≤ 10000
  · rw [decide_eq_true h1]
    by_cases h2 : 0 ≤ hi ∧ hi ≤ 10000
    · rw [decide_eq_true h2]
      by_cases h3 : hi < l
      · rw [decide_eq_true h3, decide_eq_false (p := _ ∧ _) (by omega)]; rfl
      · rw [decide_eq_false h3]
        by_cases h4 : a < 1
        · rw [decide_eq_true h4, decide_eq_false (p := _ ∧ _) (by omega)]; rfl
        · rw [decide_eq_false h4]
          by_cases h5 : (256 : Int) < a
          · rw [decide_eq_true h5, decide_eq_false (p := _ ∧ _) (by omega)]; rfl
          · rw [decide_eq_false h5, decide_eq_true (p := _ ∧ _) (by omega)]; rfl
    · rw [decide_eq_false h2, decide_eq_false (p := 0 ≤ l ∧ hi ≤ 10000 ∧ l ≤ hi ∧ 1 ≤ a ∧ a ≤ 256) (by omega)]; rfl
  · rw [decide_eq_false h1, decide_eq_false (p := 0 ≤ l ∧ hi ≤ 10000 ∧ l ≤ hi ∧ 1 ≤ a ∧ a ≤ 256) (by omega)]; rfl
theorem fault_all_ok (xs : List (Int × Int)) (o : OrdT) : blend_faultP xs o = some (bfaultOf xs o) := by
  have r0 : ∀ J : List Slot, _ := fun J => rd_oS (sl := [tS xs, oS o] ++ J) (id := 1) (o := o) rfl
  have r1 := r0 []
  simp only [List.append_nil] at r1
  simp only [tS, oS] at r0 r1
  unfold blend_faultP blend_fault bfaultOf
  try simp -implicitDefEqProofs only [evs, reduceIte, rdRes, rdTT, rdTy, rdLT, Res.un, TT.un, Ty.un, LT.un, Leaf.un, Leaf.plain, LT.plain, hL_empty, hL_new, hL_next, List.nil_append, List.length_nil, List.length_cons, List.cons_append, Nat.zero_add, Nat.reduceAdd]
  try simp -implicitDefEqProofs only [r1.1, r1.2.1, r1.2.2.1]
  try simp -implicitDefEqProofs only [evs, reduceIte, rdRes, rdTT, rdTy, rdLT, Res.un, TT.un, Ty.un, LT.un, Leaf.un, Leaf.plain, LT.plain]
  by_cases h0 : o.1.length = 0
  · rw [if_pos h0, decide_eq_true (show (o.1.length : Int) = 0 by omega)]
    try simp -implicitDefEqProofs only [evs, reduceIte, rdRes, rdTT, rdTy, rdLT, Res.un, TT.un, Ty.un, LT.un, Leaf.un, Leaf.plain, LT.plain]
  · rw [if_neg h0, decide_eq_false (show ¬ (o.1.length : Int) = 0 by omega)]
    try simp -implicitDefEqProofs only [evs, reduceIte, rdRes, rdTT, rdTy, rdLT, Res.un, TT.un, Ty.un, LT.un, Leaf.un, Leaf.plain, LT.plain]
    by_cases h4 : 4 < o.1.length
    · rw [if_pos h4, decide_eq_true (show (4 : Int) < (o.1.length : Int) by omega)]
      try simp -implicitDefEqProofs only [evs, reduceIte, rdRes, rdTT, rdTy, rdLT, Res.un, TT.un, Ty.un, LT.un, Leaf.un, Leaf.plain, LT.plain]
    · rw [if_neg h4, decide_eq_false (show ¬ (4 : Int) < (o.1.length : Int) by omega)]
      try simp -implicitDefEqProofs only [evs, reduceIte, rdRes, rdTT, rdTy, rdLT, Res.un, TT.un, Ty.un, LT.un, Leaf.un, Leaf.plain, LT.plain]
      rw [mis_code]
      try simp -implicitDefEqProofs only [evs, reduceIte, rdRes, rdTT, rdTy, rdLT, Res.un, TT.un, Ty.un, LT.un, Leaf.un, Leaf.plain, LT.plain, Int.ofNat_inj]
      by_cases hm : o.2.1.length = o.1.length ∧ o.2.2.1.length = o.1.length
      · rw [if_pos hm, decide_eq_true hm]
        try simp -implicitDefEqProofs only [evs, reduceIte, rdRes, rdTT, rdTy, rdLT, Res.un, TT.un, Ty.un, LT.un, Leaf.un, Leaf.plain, LT.plain, r1.1]
        obtain ⟨J, hJ⟩ := ContainsFunc_grow (T := blend_fault.tb) (v := .func 71 [.hp 0 1 0]) (B := [tS xs, oS o]) (xs := o.1) (f := false) (fun x => !okL xs x) (by omega) (fun x hx J R k => by
          show (blend_fault_1 x (.hp 0 1 0) _).bind (fun p => k (.bool p.1) p.2) = _
          have := fault1_ok (xs := xs) (sl := oS o :: J) (x := x)
          simp only [List.cons_append, List.nil_append] at this ⊢
          rw [this]
          rfl)
        rw [any_not] at hJ
        simp only [tS, oS] at hJ
        rw [hJ]
        try simp -implicitDefEqProofs only [evs, reduceIte, rdRes, rdTT, rdTy, rdLT, Res.un, TT.un, Ty.un, LT.un, Leaf.un, Leaf.plain, LT.plain]
        cases hq : o.1.all (okL xs) with
        | false => simp -implicitDefEqProofs only [evs, reduceIte, rdRes, rdTT, rdTy, rdLT, Res.un, TT.un, Ty.un, LT.un, Leaf.un, Leaf.plain, LT.plain, Bool.false_eq_true]
        | true =>
          try simp -implicitDefEqProofs only [evs, reduceIte, rdRes, rdTT, rdTy, rdLT, Res.un, TT.un, Ty.un, LT.un, Leaf.un, Leaf.plain, LT.plain, eq_self]
          have rj := r0 J
          try simp -implicitDefEqProofs only [rj.2.1, rj.2.2.1, rj.2.2.2.1, rj.2.2.2.2.1, rj.2.2.2.2.2]
          try simp -implicitDefEqProofs only [evs, reduceIte, rdRes, rdTT, rdTy, rdLT, Res.un, TT.un, Ty.un, LT.un, Leaf.un, Leaf.plain, LT.plain]
          have q1 : blend_outside.q 64 = some (.func 77 [.lp true [.int .i64 64] 0]) := rfl
          have q2' : blend_outside.q 1000000 = some (.func 77 [.lp true [.int .i64 1000000] 0]) := rfl
          have q3 : blend_outside.q 10000 = some (.func 77 [.lp true [.int .i64 10000] 0]) := rfl
          have hT : blend_fault.tb.dy.fn 77 = blend_outside_1.e := rfl
          rw [q1, q2', q3]
          try simp -implicitDefEqProofs only [evs, reduceIte, rdRes, rdTT, rdTy, rdLT, Res.un, TT.un, Ty.un, LT.un, Leaf.un, Leaf.plain, LT.plain]
          simp only [outs_ok hT (show o.2.1.length < 2 ^ 63 by omega)]
          try simp -implicitDefEqProofs only [evs, reduceIte, rdRes, rdTT, rdTy, rdLT, Res.un, TT.un, Ty.un, LT.un, Leaf.un, Leaf.plain, LT.plain, rj.2.2.1]
          try simp -implicitDefEqProofs only [evs, reduceIte, rdRes, rdTT, rdTy, rdLT, Res.un, TT.un, Ty.un, LT.un, Leaf.un, Leaf.plain, LT.plain]
          simp only [outs_ok hT (show o.2.2.1.length < 2 ^ 63 by omega)]
          try simp -implicitDefEqProofs only [evs, reduceIte, rdRes, rdTT, rdTy, rdLT, Res.un, TT.un, Ty.un, LT.un, Leaf.un, Leaf.plain, LT.plain]
          rw [or_code]
          cases hu : o.2.1.all (inB 64) && o.2.2.1.all (inB 1000000) with
          | false => simp -implicitDefEqProofs only [evs, reduceIte, rdRes, rdTT, rdTy, rdLT, Res.un, TT.un, Ty.un, LT.un, Leaf.un, Leaf.plain, LT.plain, Bool.false_eq_true]
          | true =>
            have hau := (Bool.and_eq_true_iff.1 hu).1
            try simp -implicitDefEqProofs only [evs, reduceIte, rdRes, rdTT, rdTy, rdLT, Res.un, TT.un, Ty.un, LT.un, Leaf.un, Leaf.plain, LT.plain, eq_self, rj.2.2.2.1, rj.2.2.2.2.1]
            try simp -implicitDefEqProofs only [evs, reduceIte, rdRes, rdTT, rdTy, rdLT, Res.un, TT.un, Ty.un, LT.un, Leaf.un, Leaf.plain, LT.plain]
            simp only [outs2_ok hT]
            try simp -implicitDefEqProofs only [evs, reduceIte, rdRes, rdTT, rdTy, rdLT, Res.un, TT.un, Ty.un, LT.un, Leaf.un, Leaf.plain, LT.plain, rj.2.2.2.1, rj.2.2.2.2.1, rj.2.2.2.2.2]
            try simp -implicitDefEqProofs only [evs, reduceIte, rdRes, rdTT, rdTy, rdLT, Res.un, TT.un, Ty.un, LT.un, Leaf.un, Leaf.plain, LT.plain]
            rw [okR_code]
            try simp -implicitDefEqProofs only [evs, reduceIte, rdRes, rdTT, rdTy, rdLT, Res.un, TT.un, Ty.un, LT.un, Leaf.un, Leaf.plain, LT.plain]
            have eR : decide (0 ≤ o.2.2.2.1 ∧ o.2.2.2.2.1 ≤ 10000 ∧ o.2.2.2.1 ≤ o.2.2.2.2.1 ∧ 1 ≤ o.2.2.2.2.2 ∧ o.2.2.2.2.2 ≤ 256) = okR o := rfl
            rw [eR]
            cases okR o with
            | false => simp -implicitDefEqProofs only [evs, reduceIte, rdRes, rdTT, rdTy, rdLT, Res.un, TT.un, Ty.un, LT.un, Leaf.un, Leaf.plain, LT.plain, Bool.false_eq_true]
            | true =>
              try simp -implicitDefEqProofs only [evs, reduceIte, rdRes, rdTT, rdTy, rdLT, Res.un, TT.un, Ty.un, LT.un, Leaf.un, Leaf.plain, LT.plain, eq_self]
              try simp -implicitDefEqProofs only [rj.2.1]
              try simp -implicitDefEqProofs only [evs, reduceIte, rdRes, rdTT, rdTy, rdLT, Res.un, TT.un, Ty.un, LT.un, Leaf.un, Leaf.plain, LT.plain]
              rw [prod_loop hau (by omega)]
              try simp -implicitDefEqProofs only [evs, reduceIte, rdRes, rdTT, rdTy, rdLT, Res.un, TT.un, Ty.un, LT.un, Leaf.un, Leaf.plain, LT.plain]
              by_cases hp : 4096 < prodU o.2.1
              · rw [decide_eq_true hp, if_pos hp]
                try simp -implicitDefEqProofs only [evs, reduceIte, rdRes, rdTT, rdTy, rdLT, Res.un, TT.un, Ty.un, LT.un, Leaf.un, Leaf.plain, LT.plain]
              · rw [decide_eq_false hp, if_neg hp]
                try simp -implicitDefEqProofs only [evs, reduceIte, rdRes, rdTT, rdTy, rdLT, Res.un, TT.un, Ty.un, LT.un, Leaf.un, Leaf.plain, LT.plain]
      · rw [if_neg hm, decide_eq_false hm]
        try simp -implicitDefEqProofs only [evs, reduceIte, rdRes, rdTT, rdTy, rdLT, Res.un, TT.un, Ty.un, LT.un, Leaf.un, Leaf.plain, LT.plain]
theorem BCheck_ok (xs : List (Int × Int)) (o : OrdT) : blend_CheckP xs o = some (bcheckOf xs o) := by
  have q1 := rds_oS (sl := [oS o]) (id := 0) (o := o) rfl
  simp only [oS] at q1
  unfold blend_CheckP blend_Check bcheckOf
  try simp -implicitDefEqProofs only [evs, reduceIte, rdRes, rdTT, rdTy, rdLT, Res.un, TT.un, Ty.un, LT.un, Leaf.un, Leaf.plain, LT.plain, hL_empty, hL_new, hL_next, List.nil_append, List.length_nil, DCheck_ok]
  by_cases hc : (checkOf xs).2 = 0
  · rw [decide_eq_true hc, if_pos hc]
    try simp -implicitDefEqProofs only [evs, reduceIte, rdRes, rdTT, rdTy, rdLT, Res.un, TT.un, Ty.un, LT.un, Leaf.un, Leaf.plain, LT.plain, q1]
    try simp -implicitDefEqProofs only [evs, reduceIte, rdRes, rdTT, rdTy, rdLT, Res.un, TT.un, Ty.un, LT.un, Leaf.un, Leaf.plain, LT.plain, ord_eta, fault_all_ok]
  · rw [decide_eq_false hc, if_neg hc]
    try simp -implicitDefEqProofs only [evs, reduceIte, rdRes, rdTT, rdTy, rdLT, Res.un, TT.un, Ty.un, LT.un, Leaf.un, Leaf.plain, LT.plain]
end Go.Proofs.Ytfkabibbaajfhaa
/- Check of the reference of package blend. Conditions: those of each law. -/
namespace Go.Proofs.Ytfkabibbaajfhaa
open Go Go.Proofs.Ytfkabibbaajfhaa.Ev
set_option linter.unusedVariables false
set_option linter.unusedSimpArgs false
set_option maxRecDepth 100000
set_option maxHeartbeats 4000000
end Go.Proofs.Ytfkabibbaajfhaa
/- Which units carry out an order. Conditions: those of each law. -/
namespace Go.Proofs.Ytfkabibbaajfhaa
open Go Go.Proofs.Ytfkabibbaajfhaa.Ev
set_option linter.unusedVariables false
set_option linter.unusedSimpArgs false
set_option maxRecDepth 100000
set_option maxHeartbeats 4000000
/-- What a right order is. -/
structure OkO (xs : List (Int × Int)) (o : OrdT) : Prop where
  ck : (checkOf xs).2 = 0
  l0 : 0 < o.1.length
  l4 : o.1.length ≤ 4
  lu : o.2.1.length = o.1.length
  lc : o.2.2.1.length = o.1.length
  liq : o.1.all (okL xs) = true
  un : o.2.1.all (inB 64) = true
  co : o.2.2.1.all (inB 1000000) = true
  low : 0 ≤ o.2.2.2.1
  lh : o.2.2.2.1 ≤ o.2.2.2.2.1
  high : o.2.2.2.2.1 ≤ 10000
  a1 : 1 ≤ o.2.2.2.2.2
  a2 : o.2.2.2.2.2 ≤ 256
  pr : prodU o.2.1 ≤ 4096
theorem bcheck_iff {xs : List (Int × Int)} {o : OrdT} : bcheckOf xs o = 0 ↔ OkO xs o := by
  unfold bcheckOf bfaultOf
  constructor
  · intro h
    by_cases hc : (checkOf xs).2 = 0
    · rw [if_pos hc] at h
      by_cases h0 : o.1.length = 0
      · rw [if_pos h0] at h; simp at h
      · rw [if_neg h0] at h
        by_cases h4 : 4 < o.1.length
        · rw [if_pos h4] at h; simp at h
        · rw [if_neg h4] at h
          by_cases hm : o.2.1.length = o.1.length ∧ o.2.2.1.length = o.1.length
          · rw [if_pos hm] at h
            by_cases hq : o.1.all (okL xs) = true
            · rw [if_pos hq] at h
              by_cases hu : (o.2.1.all (inB 64) && o.2.2.1.all (inB 1000000)) = true
              · rw [if_pos hu] at h
                by_cases hr : okR o = true
                · rw [if_pos hr] at h
                  by_cases hp : 4096 < prodU o.2.1
                  · rw [if_pos hp] at h; simp at h
                  · have hr' := of_decide_eq_true hr
                    have hu' := Bool.and_eq_true_iff.1 hu
                    exact ⟨hc, by omega, by omega, hm.1, hm.2, hq, hu'.1, hu'.2, hr'.1, hr'.2.2.1, hr'.2.1, hr'.2.2.2.1, hr'.2.2.2.2, by omega⟩
                · rw [if_neg hr] at h; simp at h
              · rw [if_neg hu] at h; simp at h
            · rw [if_neg hq] at h; simp at h
          · rw [if_neg hm] at h; simp at h
    · rw [if_neg hc] at h; simp at h
  · intro h
    have hr : okR o = true := decide_eq_true ⟨h.low, h.high, h.lh, h.a1, h.a2⟩
    rw [if_pos h.ck, if_neg (by have := h.l0; omega), if_neg (by have := h.l4; omega), if_pos ⟨h.lu, h.lc⟩, if_pos h.liq, if_pos (by rw [h.un, h.co]; rfl), if_pos hr, if_neg (by have := h.pr; omega)]
noncomputable def edgeOf (xs : List (Int × Int)) (o : OrdT) : Int × Int := (dens xs o.2.2.2.1, if o.2.2.2.2.1 + 1 ≤ 10000 then dens xs (o.2.2.2.2.1 + 1) else 0)
theorem edge_ok {xs : List (Int × Int)} {o : OrdT} (h : OkO xs o) : blend_edgeP xs o = some (edgeOf xs o) := by
  have b1 := h.low
  have b2 := h.lh
  have b3 := h.high
  have e2 : ([oS o, c2 (0, 0), c2 (0, 0)])[2]? = some (c2 (0, 0)) := rfl
  have r0 := rd_oS (sl := [oS o, c2 (0, 0), c2 (0, 0)]) (id := 0) (o := o) rfl
  have w1 := wr0_c2 (y := dens xs o.2.2.2.1) e2
  have r1 := rd_oS (sl := [oS o, c2 (0, 0), c2 (dens xs o.2.2.2.1, 0)]) (id := 0) (o := o) rfl
  have e3 : ([oS o, c2 (0, 0), c2 (dens xs o.2.2.2.1, 0)])[2]? = some (c2 (dens xs o.2.2.2.1, 0)) := rfl
  have w2 : ∀ y, _ := fun y => wr1_c2 (y := y) e3
  have g2 : ∀ y, rdT (.agg [.int .i64, .int .i64]) (hL [oS o, c2 (0, 0), c2 (dens xs o.2.2.2.1, y)]) (.hp 2 2 0) = some (dens xs o.2.2.2.1, y) := fun y => rds_c2 rfl
  have w3 : ∀ y, H.wrs (hL [oS o, c2 (0, 0), c2 (dens xs o.2.2.2.1, y)]) (.hp 1 2 0) [.int .i64 (dens xs o.2.2.2.1), .int .i64 y] = some (hL [oS o, c2 (dens xs o.2.2.2.1, y), c2 (dens xs o.2.2.2.1, y)]) := fun y => wrs_c2 (x := (0, 0)) (y := (dens xs o.2.2.2.1, y)) rfl
  have g3 : ∀ y, rdT (.agg [.int .i64, .int .i64]) (hL [oS o, c2 (dens xs o.2.2.2.1, y), c2 (dens xs o.2.2.2.1, y)]) (.hp 1 2 0) = some (dens xs o.2.2.2.1, y) := fun y => rds_c2 rfl
  simp only [oS, c2, List.set_cons_succ, List.set_cons_zero] at r0 w1 r1 w2 g2 w3 g3
  unfold blend_edgeP blend_edge edgeOf
  try simp -implicitDefEqProofs only [evs, reduceIte, rdRes, rdTT, rdTy, rdLT, Res.un, TT.un, Ty.un, LT.un, Leaf.un, Leaf.plain, LT.plain, hL_empty, hL_new, hL_next, List.nil_append, List.length_nil, List.length_cons, List.cons_append, Nat.zero_add, Nat.reduceAdd, Density_ok]
  try simp -implicitDefEqProofs only [r0.2.2.2.1]
  try simp -implicitDefEqProofs only [evs, reduceIte, rdRes, rdTT, rdTy, rdLT, Res.un, TT.un, Ty.un, LT.un, Leaf.un, Leaf.plain, LT.plain, if_pos h.ck]
  rw [if_pos (show 0 ≤ o.2.2.2.1 ∧ o.2.2.2.1 ≤ 10000 by omega)]
  try simp -implicitDefEqProofs only [evs, reduceIte, rdRes, rdTT, rdTy, rdLT, Res.un, TT.un, Ty.un, LT.un, Leaf.un, Leaf.plain, LT.plain]
  rw [w1]
  try simp -implicitDefEqProofs only [evs, reduceIte, rdRes, rdTT, rdTy, rdLT, Res.un, TT.un, Ty.un, LT.un, Leaf.un, Leaf.plain, LT.plain, r1.2.2.2.2.1]
  rw [i64_in (o.2.2.2.2.1 + 1) (by omega)]
  by_cases hh : o.2.2.2.2.1 + 1 ≤ 10000
  · rw [if_pos (show 0 ≤ o.2.2.2.2.1 + 1 ∧ o.2.2.2.2.1 + 1 ≤ 10000 by omega), if_pos hh]
    try simp -implicitDefEqProofs only [evs, reduceIte, rdRes, rdTT, rdTy, rdLT, Res.un, TT.un, Ty.un, LT.un, Leaf.un, Leaf.plain, LT.plain]
    rw [w2]
    try simp -implicitDefEqProofs only [evs, reduceIte, rdRes, rdTT, rdTy, rdLT, Res.un, TT.un, Ty.un, LT.un, Leaf.un, Leaf.plain, LT.plain]
    rw [g2]
    try simp -implicitDefEqProofs only [evs, reduceIte, rdRes, rdTT, rdTy, rdLT, Res.un, TT.un, Ty.un, LT.un, Leaf.un, Leaf.plain, LT.plain]
    rw [w3]
    try simp -implicitDefEqProofs only [evs, reduceIte, rdRes, rdTT, rdTy, rdLT, Res.un, TT.un, Ty.un, LT.un, Leaf.un, Leaf.plain, LT.plain]
    rw [g3]
    try simp -implicitDefEqProofs only [evs, reduceIte, rdRes, rdTT, rdTy, rdLT, Res.un, TT.un, Ty.un, LT.un, Leaf.un, Leaf.plain, LT.plain]
  · rw [if_neg (show ¬ (0 ≤ o.2.2.2.2.1 + 1 ∧ o.2.2.2.2.1 + 1 ≤ 10000) by omega), if_neg hh]
    try simp -implicitDefEqProofs only [evs, reduceIte, rdRes, rdTT, rdTy, rdLT, Res.un, TT.un, Ty.un, LT.un, Leaf.un, Leaf.plain, LT.plain]
    rw [w2]
    try simp -implicitDefEqProofs only [evs, reduceIte, rdRes, rdTT, rdTy, rdLT, Res.un, TT.un, Ty.un, LT.un, Leaf.un, Leaf.plain, LT.plain]
    rw [g2]
    try simp -implicitDefEqProofs only [evs, reduceIte, rdRes, rdTT, rdTy, rdLT, Res.un, TT.un, Ty.un, LT.un, Leaf.un, Leaf.plain, LT.plain]
    rw [w3]
    try simp -implicitDefEqProofs only [evs, reduceIte, rdRes, rdTT, rdTy, rdLT, Res.un, TT.un, Ty.un, LT.un, Leaf.un, Leaf.plain, LT.plain]
    rw [g3]
    try simp -implicitDefEqProofs only [evs, reduceIte, rdRes, rdTT, rdTy, rdLT, Res.un, TT.un, Ty.un, LT.un, Leaf.un, Leaf.plain, LT.plain]
/-- The blend. -/
def mixO (o : OrdT) (u : List Int) : Int × Int := sumL (parts o.1 u)
def carriesB (d : Int × Int) (o : OrdT) (u : List Int) : Bool :=
  decide (o.2.2.2.2.2 ≤ u.sum) && (decide ((mixO o u).2 * o.2.2.2.1 ≤ (mixO o u).1 * d.1) && (decide (o.2.2.2.2.1 = 10000) || decide ((mixO o u).1 * d.2 < (mixO o u).2 * (o.2.2.2.2.1 + 1))))
theorem carries_ok {d : Int × Int} {o : OrdT} {u : List Int} (hu : Sm u) (hs : Sq o.1) (hl : u.length = o.1.length) (hd1 : 0 ≤ d.1 ∧ d.1 ≤ 120000) (hd2 : 0 ≤ d.2 ∧ d.2 ≤ 120000) (hlow : 0 ≤ o.2.2.2.1 ∧ o.2.2.2.1 ≤ 10000) (hhi : 0 ≤ o.2.2.2.2.1 ∧ o.2.2.2.2.1 ≤ 10000)
    (hm1 : 0 ≤ (mixO o u).1 ∧ (mixO o u).1 ≤ 1000000000000) (hm2 : 0 ≤ (mixO o u).2 ∧ (mixO o u).2 ≤ 1000000000000) : blend_ends_carriesP d o u = some (carriesB d o u) := by
  have p1 := mul_b hm2 hlow
  have p2 := mul_b hm1 hd1
  have p3 := mul_b hm1 hd2
  have p4 := mul_b hm2 (show 0 ≤ o.2.2.2.2.1 + 1 ∧ o.2.2.2.2.1 + 1 ≤ 10001 by omega)
  obtain ⟨d1, d2⟩ := d
  have q1 := rds_oS (sl := [c2 (d1, d2), oS o]) (id := 1) (o := o) rfl
  have n1 : ∀ x : Int × Int, H.wrs (hL [c2 (d1, d2), oS o, c2 (0, 0)]) (.hp 2 2 0) [.int .i64 x.1, .int .i64 x.2] = some (hL [c2 (d1, d2), oS o, c2 x]) := fun x => wrs_c2 (x := (0, 0)) (y := x) rfl
  have r1 : ∀ x : Int × Int, _ := fun x => rd_oS (sl := [c2 (d1, d2), oS o, c2 x]) (id := 1) (o := o) rfl
  have r2 : ∀ x : Int × Int, _ := fun x => rd_c2 (sl := [c2 (d1, d2), oS o, c2 x]) (id := 2) (x := x) rfl
  have r3 : ∀ x : Int × Int, _ := fun x => rd_c2 (sl := [c2 (d1, d2), oS o, c2 x]) (id := 0) (x := (d1, d2)) rfl
  unfold blend_ends_carriesP blend_ends_carries carriesB
  unfold mixO at hm1 hm2 p1 p2 p3 p4 ⊢
  have hmix := mixed_ok hu hs hl
  have hsum := (bsum_ok hu).1
  generalize sumL (parts o.1 u) = m at *
  obtain ⟨m1, m2⟩ := m
  have n1 := n1 (m1, m2)
  have r1 := r1 (m1, m2)
  have r2 := r2 (m1, m2)
  have r3 := r3 (m1, m2)
  simp only [oS, c2] at q1 n1 r1 r2 r3
  simp only at p1 p2 p3 p4 hm1 hm2 hd1 hd2
  try simp -implicitDefEqProofs only [evs, reduceIte, rdRes, rdTT, rdTy, rdLT, Res.un, TT.un, Ty.un, LT.un, Leaf.un, Leaf.plain, LT.plain, hL_empty, hL_new, hL_next, List.nil_append, List.length_nil, List.length_cons, List.cons_append, Nat.zero_add, Nat.reduceAdd]
  try simp -implicitDefEqProofs only [q1]
  try simp -implicitDefEqProofs only [evs, reduceIte, rdRes, rdTT, rdTy, rdLT, Res.un, TT.un, Ty.un, LT.un, Leaf.un, Leaf.plain, LT.plain, ord_eta]
  rw [hmix]
  try simp -implicitDefEqProofs only [evs, reduceIte, rdRes, rdTT, rdTy, rdLT, Res.un, TT.un, Ty.un, LT.un, Leaf.un, Leaf.plain, LT.plain, hL_new, hL_next, List.nil_append, List.length_nil, List.length_cons, List.cons_append, Nat.zero_add, Nat.reduceAdd]
  rw [n1]
  try simp -implicitDefEqProofs only [evs, reduceIte, rdRes, rdTT, rdTy, rdLT, Res.un, TT.un, Ty.un, LT.un, Leaf.un, Leaf.plain, LT.plain]
  rw [hsum]
  try simp -implicitDefEqProofs only [evs, reduceIte, rdRes, rdTT, rdTy, rdLT, Res.un, TT.un, Ty.un, LT.un, Leaf.un, Leaf.plain, LT.plain, r1.2.2.2.1, r1.2.2.2.2.1, r1.2.2.2.2.2, r2.1, r2.2, r3.1, r3.2]
  rw [i64_in (o.2.2.2.2.1 + 1) (by omega), i64_in (m2 * o.2.2.2.1) (by omega), i64_in (m1 * d1) (by omega), i64_in (m1 * d2) (by omega), i64_in (m2 * (o.2.2.2.2.1 + 1)) (by omega)]
  by_cases c1 : o.2.2.2.2.2 ≤ u.sum
  · rw [decide_eq_true c1]
    try simp -implicitDefEqProofs only [evs, reduceIte, rdRes, rdTT, rdTy, rdLT, Res.un, TT.un, Ty.un, LT.un, Leaf.un, Leaf.plain, LT.plain]
    by_cases c2' : m2 * o.2.2.2.1 ≤ m1 * d1
    · rw [decide_eq_true c2']
      try simp -implicitDefEqProofs only [evs, reduceIte, rdRes, rdTT, rdTy, rdLT, Res.un, TT.un, Ty.un, LT.un, Leaf.un, Leaf.plain, LT.plain]
      by_cases c3 : o.2.2.2.2.1 = 10000
      · rw [decide_eq_true c3]
        try simp -implicitDefEqProofs only [evs, reduceIte, rdRes, rdTT, rdTy, rdLT, Res.un, TT.un, Ty.un, LT.un, Leaf.un, Leaf.plain, LT.plain]
      · rw [decide_eq_false c3]
        try simp -implicitDefEqProofs only [evs, reduceIte, rdRes, rdTT, rdTy, rdLT, Res.un, TT.un, Ty.un, LT.un, Leaf.un, Leaf.plain, LT.plain]
    · rw [decide_eq_false c2']
      try simp -implicitDefEqProofs only [evs, reduceIte, rdRes, rdTT, rdTy, rdLT, Res.un, TT.un, Ty.un, LT.un, Leaf.un, Leaf.plain, LT.plain, Bool.false_and]
  · rw [decide_eq_false c1]
    try simp -implicitDefEqProofs only [evs, reduceIte, rdRes, rdTT, rdTy, rdLT, Res.un, TT.un, Ty.un, LT.un, Leaf.un, Leaf.plain, LT.plain, Bool.false_and]
end Go.Proofs.Ytfkabibbaajfhaa
/- Keeps of package blend and of its reference. Conditions: those of each law. -/
namespace Go.Proofs.Ytfkabibbaajfhaa
open Go Go.Proofs.Ytfkabibbaajfhaa.Ev
set_option linter.unusedVariables false
set_option linter.unusedSimpArgs false
set_option maxRecDepth 100000
set_option maxHeartbeats 4000000
theorem okL_facts {xs : List (Int × Int)} {x : Int × Int} (h : okL xs x = true) : acheckOf xs x = 0 ∧ 1 ≤ x.2 ∧ x.2 ≤ 1000000000 ∧ 0 ≤ x.1 ∧ x.1 ≤ 200000000 ∧ x.1 * dens xs 10000 ≤ x.2 * 10000 := by
  unfold okL at h
  simp only [Bool.and_eq_true, decide_eq_true_eq] at h
  obtain ⟨h1, h2, h3⟩ := h
  obtain ⟨ck, hin, hm⟩ := acheck_zero h1
  have hin' := inA_iff.1 hin
  have hd := dens_bound (t := 10000) (check_table ck) (by omega) (by omega)
  have : x.1 * 50000 ≤ x.1 * dens xs 10000 := Int.mul_le_mul_of_nonneg_left hd.1 hin'.1
  exact ⟨h1, h2, h3, hin'.1, by omega, hm⟩
theorem parts_cons {x : Int × Int} {ls : List (Int × Int)} {n : Int} {u : List Int} : parts (x :: ls) (n :: u) = (n * x.1, n * x.2) :: parts ls u := rfl
theorem parts_law {xs : List (Int × Int)} : ∀ (ls : List (Int × Int)) (u : List Int), (∀ x ∈ ls, okL xs x = true) → (∀ n ∈ u, 0 ≤ n ∧ n ≤ 64) → u.length = ls.length →
    0 ≤ (sumL (parts ls u)).1 ∧ (sumL (parts ls u)).1 ≤ u.length * 12800000000 ∧ u.sum ≤ (sumL (parts ls u)).2 ∧ (sumL (parts ls u)).2 ≤ u.length * 64000000000 ∧ (sumL (parts ls u)).1 * dens xs 10000 ≤ (sumL (parts ls u)).2 * 10000
  | [], [], _, _, _ => by simp [parts, sumL]
  | [], n :: u, _, _, h => by simp at h
  | x :: ls, [], _, _, h => by simp at h
  | x :: ls, n :: u, h1, h2, h3 => by
    have ih := parts_law (xs := xs) ls u (fun y hy => h1 y (by simp [hy])) (fun y hy => h2 y (by simp [hy])) (by simpa using h3)
    have hx := okL_facts (h1 x (by simp))
    have hn := h2 n (by simp)
    rw [parts_cons, sumL_cons]
    have k1 := mul_b hn (show 0 ≤ x.1 ∧ x.1 ≤ 200000000 by omega)
    have k2 := mul_b hn (show 0 ≤ x.2 ∧ x.2 ≤ 1000000000 by omega)
    have k3 : n * 1 ≤ n * x.2 := Int.mul_le_mul_of_nonneg_left hx.2.1 hn.1
    have k4 := Int.mul_le_mul_of_nonneg_left hx.2.2.2.2.2 hn.1
    have k5 : n * (x.1 * dens xs 10000) = n * x.1 * dens xs 10000 := (Int.mul_assoc _ _ _).symm
    have k6 : n * (x.2 * 10000) = n * x.2 * 10000 := (Int.mul_assoc _ _ _).symm
    simp only [List.sum_cons, List.length_cons, Int.natCast_add, Int.natCast_one, Int.add_mul, Int.one_mul]
    generalize sumL (parts ls u) = m at *
    generalize n * x.1 * dens xs 10000 = t1 at *
    omega
/-- Units that an order has. -/
structure OkU (o : OrdT) (u : List Int) : Prop where
  len : u.length = o.1.length
  few : fewB o.2.1 u = true
theorem OkU.sm {xs : List (Int × Int)} {o : OrdT} {u : List Int} (h : OkO xs o) (hu : OkU o u) : Sm u := by
  refine ⟨by have := hu.len; have := h.l4; omega, fun x hx => ?_⟩
  obtain ⟨i, hi, rfl⟩ := List.getElem_of_mem hx
  have hi2 : i < o.2.1.length := by rw [h.lu, ← hu.len]; exact hi
  have h1 := List.all_eq_true.1 hu.few (u[i], o.2.1[i]) (List.mem_iff_getElem.2 ⟨i, by rw [List.length_zip]; omega, by simp⟩)
  have h2 := List.all_eq_true.1 h.un o.2.1[i] (List.getElem_mem hi2)
  simp only [inB, decide_eq_true_eq] at h1 h2
  omega
theorem OkO.sq {xs : List (Int × Int)} {o : OrdT} (h : OkO xs o) : Sq o.1 := fun x hx => by
  have := okL_facts (List.all_eq_true.1 h.liq x hx)
  omega
theorem mixO_facts {xs : List (Int × Int)} {o : OrdT} {u : List Int} (h : OkO xs o) (hu : OkU o u) : 0 ≤ (mixO o u).1 ∧ (mixO o u).1 ≤ 51200000000 ∧ u.sum ≤ (mixO o u).2 ∧ (mixO o u).2 ≤ 256000000000 ∧ (mixO o u).1 * dens xs 10000 ≤ (mixO o u).2 * 10000 ∧ 0 ≤ u.sum := by
  have hs := hu.sm h
  have h1 := parts_law (xs := xs) o.1 u (fun x hx => List.all_eq_true.1 h.liq x hx) hs.2 hu.len
  have h2 := hu.len
  have h3 := h.l4
  have h4 := sum_nonneg (xs := u) fun x hx => (hs.2 x hx).1
  unfold mixO
  have h5 : (u.length : Int) * 12800000000 ≤ 4 * 12800000000 := Int.mul_le_mul_of_nonneg_right (by omega) (by omega)
  have h6 : (u.length : Int) * 64000000000 ≤ 4 * 64000000000 := Int.mul_le_mul_of_nonneg_right (by omega) (by omega)
  omega
theorem edge_b {xs : List (Int × Int)} {o : OrdT} (h : OkO xs o) : (0 ≤ (edgeOf xs o).1 ∧ (edgeOf xs o).1 ≤ 120000) ∧ 0 ≤ (edgeOf xs o).2 ∧ (edgeOf xs o).2 ≤ 120000 := by
  have h1 := h.low
  have h2 := h.lh
  have h3 := h.high
  have d1 := dens_bound (t := o.2.2.2.1) (check_table h.ck) (by omega) (by omega)
  unfold edgeOf
  refine ⟨by simp only; omega, ?_⟩
  simp only
  by_cases hh : o.2.2.2.2.1 + 1 ≤ 10000
  · have d2 := dens_bound (t := o.2.2.2.2.1 + 1) (check_table h.ck) (by omega) (by omega)
    rw [if_pos hh]; omega
  · rw [if_neg hh]; omega
noncomputable def keepsB (xs : List (Int × Int)) (o : OrdT) (u : List Int) : Bool := carriesB (edgeOf xs o) o u
theorem carriesO_ok {xs : List (Int × Int)} {o : OrdT} {u : List Int} (h : OkO xs o) (hu : OkU o u) : blend_ends_carriesP (edgeOf xs o) o u = some (keepsB xs o u) := by
  have h1 := h.low
  have h2 := h.lh
  have h3 := h.high
  have h4 := mixO_facts h hu
  have h5 := edge_b h
  exact carries_ok (hu.sm h) h.sq hu.len h5.1 h5.2 (by omega) (by omega) (by omega) (by omega)
/-- Whether units carry out an order, by the strength of their blend. -/
theorem keeps_strength {xs : List (Int × Int)} {o : OrdT} {u : List Int} (h : OkO xs o) (hu : OkU o u) (hs : o.2.2.2.2.2 ≤ u.sum) :
    acheckOf xs (mixO o u) = 0 ∧ (mixO o u).2 ≠ 0 ∧ keepsB xs o u = (decide (o.2.2.2.1 ≤ (strengthOf xs (mixO o u)).1) && decide ((strengthOf xs (mixO o u)).1 ≤ o.2.2.2.2.1)) := by
  have h1 := h.low
  have h2 := h.lh
  have h3 := h.high
  have h4 := mixO_facts h hu
  have ha := h.a1
  have hv : (mixO o u).2 ≠ 0 := by omega
  have hin : inA (mixO o u) = true := inA_iff.2 (by omega)
  have hac : acheckOf xs (mixO o u) = 0 := by
    unfold acheckOf
    rw [if_pos h.ck, if_pos hin, if_neg (by omega)]
  refine ⟨hac, hv, ?_⟩
  have hst := strength_above hac (fun hn => hv hn.2)
  have hsb : 0 ≤ (strengthOf xs (mixO o u)).1 ∧ (strengthOf xs (mixO o u)).1 ≤ 10000 := by
    rcases (strengthOf_ok xs (mixO o u)).2 with ⟨k1, _⟩ | ⟨_, _, s0, s1⟩
    · exact absurd hac k1
    · exact ⟨s0, s1⟩
  obtain ⟨lo, hlo⟩ : ∃ n : Nat, o.2.2.2.1 = (n : Int) := ⟨o.2.2.2.1.toNat, by omega⟩
  obtain ⟨hi, hhi⟩ : ∃ n : Nat, o.2.2.2.2.1 = (n : Int) := ⟨o.2.2.2.2.1.toNat, by omega⟩
  have e1 : decide ((mixO o u).2 * o.2.2.2.1 ≤ (mixO o u).1 * (edgeOf xs o).1) = decide (o.2.2.2.1 ≤ (strengthOf xs (mixO o u)).1) := by
    unfold edgeOf
    rw [hlo]
    simp only
    by_cases hq : (lo : Int) ≤ (strengthOf xs (mixO o u)).1
    · have := hst.1 lo hq
      unfold above at this
      have := of_decide_eq_false this
      rw [decide_eq_true hq, decide_eq_true (by omega)]
    · have := hst.2 lo (by omega) (by omega)
      unfold above at this
      have := of_decide_eq_true this
      rw [decide_eq_false hq, decide_eq_false (by omega)]
  have e2 : (decide (o.2.2.2.2.1 = 10000) || decide ((mixO o u).1 * (edgeOf xs o).2 < (mixO o u).2 * (o.2.2.2.2.1 + 1))) = decide ((strengthOf xs (mixO o u)).1 ≤ o.2.2.2.2.1) := by
    by_cases h10 : o.2.2.2.2.1 = 10000
    · rw [decide_eq_true h10, decide_eq_true (show (strengthOf xs (mixO o u)).1 ≤ o.2.2.2.2.1 by omega)]; rfl
    · rw [decide_eq_false h10, Bool.false_or]
      unfold edgeOf
      simp only
      rw [if_pos (by omega), hhi, show (hi : Int) + 1 = ((hi + 1 : Nat) : Int) by omega]
      by_cases hq : (strengthOf xs (mixO o u)).1 ≤ (hi : Int)
      · have := hst.2 (hi + 1) (by omega) (by omega)
        unfold above at this
        have := of_decide_eq_true this
        rw [decide_eq_true hq, decide_eq_true this]
      · have := hst.1 (hi + 1) (by omega)
        unfold above at this
        have := of_decide_eq_false this
        rw [decide_eq_false hq, decide_eq_false this]
  unfold keepsB carriesB
  rw [decide_eq_true hs, Bool.true_and, e1, e2]
end Go.Proofs.Ytfkabibbaajfhaa
/- Plans: all units from none to those of an order, number by number; the first best one of a list. Conditions: those of each law. -/
namespace Go.Proofs.Ytfkabibbaajfhaa
open Go Go.Proofs.Ytfkabibbaajfhaa.Ev
set_option linter.unusedVariables false
set_option linter.unusedSimpArgs false
set_option maxRecDepth 100000
set_option maxHeartbeats 4000000
/-- The units behind some. -/
def succU : List Int → List Int → Option (List Int)
  | w :: ws, u :: us => match succU ws us with
    | some v => some (u :: v)
    | none => if u < w then some ((u + 1) :: List.replicate us.length 0) else none
  | _, _ => none
/-- All plans. -/
def plansL : List Int → List (List Int)
  | [] => [[]]
  | w :: ws => (List.range (w.toNat + 1)).flatMap fun i : Nat => (plansL ws).map fun v => (i : Int) :: v
/-- Each one's next is the one behind it; the last one's is e. -/
def Run {α : Type} (f : α → Option α) (e : Option α) : List α → Prop
  | [] => True
  | x :: l => f x = l.head?.or e ∧ Run f e l
theorem Run.append {α : Type} {f : α → Option α} {e : Option α} {l2 : List α} : ∀ {l1 : List α}, Run f (l2.head?.or e) l1 → Run f e l2 → Run f e (l1 ++ l2)
  | [], _, h => h
  | x :: l, h1, h2 => ⟨by show f x = (l ++ l2).head?.or e; rw [List.head?_append, Option.or_assoc]; exact h1.1, Run.append h1.2 h2⟩
theorem Run.map {α β : Type} {f : α → Option α} {f' : β → Option β} {e' : Option β} {g : α → β} : ∀ {l : List α}, (∀ x ∈ l, f' (g x) = ((f x).map g).or e') → Run f none l → Run f' e' (l.map g)
  | [], _, _ => trivial
  | x :: l, h, hr => ⟨by
      rw [h x (by simp), hr.1, List.head?_map]
      simp, Run.map (fun y hy => h y (by simp [hy])) hr.2⟩
theorem Run.get {α : Type} {f : α → Option α} {e : Option α} : ∀ {l : List α} {k : Nat} (h : k < l.length), Run f e l → f l[k] = (l[k + 1]?).or e
  | [], _, h, _ => by simp at h
  | x :: l, 0, _, hr => by
    rw [List.getElem_cons_zero, hr.1, List.getElem?_cons_succ, List.head?_eq_getElem?]
  | x :: l, k + 1, h, hr => by
    rw [List.getElem_cons_succ, List.getElem?_cons_succ]
    exact Run.get (by simpa using h) hr.2
theorem plans_len : ∀ (ws : List Int), ∀ u ∈ plansL ws, u.length = ws.length
  | [], u, h => by simp [plansL] at h; simp [h]
  | w :: ws, u, h => by
    simp only [plansL, List.mem_flatMap, List.mem_map] at h
    obtain ⟨i, _, v, hv, rfl⟩ := h
    simp [plans_len ws v hv]
theorem plans_run : ∀ (ws : List Int), (∀ w ∈ ws, 0 ≤ w) → Run (succU ws) none (plansL ws) ∧ (plansL ws).head? = some (List.replicate ws.length 0)
  | [], _ => ⟨⟨rfl, trivial⟩, rfl⟩
  | w :: ws, hw => by
    obtain ⟨h1, h2⟩ := plans_run ws fun x hx => hw x (by simp [hx])
    have h0 := hw w (by simp)
    have hhead : ∀ n : Nat, ((plansL ws).map fun v => (n : Int) :: v).head? = some ((n : Int) :: List.replicate ws.length 0) := fun n => by rw [List.head?_map, h2]; rfl
    have claim : ∀ n : Nat, (n : Int) ≤ w + 1 → Run (succU (w :: ws)) (if (n : Int) ≤ w then some ((n : Int) :: List.replicate ws.length 0) else none) ((List.range n).flatMap fun i : Nat => (plansL ws).map fun v => (i : Int) :: v) := fun n => by
      induction n with
      | zero => intro _; trivial
      | succ n ih =>
        intro hn
        have ih := ih (by omega)
        rw [if_pos (by omega)] at ih
        rw [List.range_succ, List.flatMap_append, List.flatMap_singleton]
        refine Run.append (by rw [hhead n]; exact ih) (Run.map (fun v hv => ?_) h1)
        have hlen := plans_len ws v hv
        simp only [succU]
        cases succU ws v with
        | some z => rfl
        | none =>
          simp only [Option.map_none, Option.none_or, hlen]
          by_cases h : (n : Int) < w
          · rw [if_pos h, if_pos (by omega)]
            simp
          · rw [if_neg h, if_neg (by omega)]
    have hc := claim (w.toNat + 1) (by omega)
    rw [if_neg (by omega)] at hc
    refine ⟨hc, ?_⟩
    simp only [plansL]
    rw [List.range_succ_eq_map, List.flatMap_cons, List.head?_append, hhead 0]
    simp [List.replicate_succ]
theorem mem_plans : ∀ (ws : List Int), (∀ w ∈ ws, 0 ≤ w) → ∀ u, u ∈ plansL ws ↔ u.length = ws.length ∧ fewB ws u = true
  | [], _, u => by
    simp only [plansL, List.mem_singleton, List.length_nil]
    constructor
    · rintro rfl; exact ⟨rfl, rfl⟩
    · intro h; exact List.eq_nil_of_length_eq_zero h.1
  | w :: ws, hw, [] => by
    simp [plansL]
  | w :: ws, hw, x :: u => by
    have h0 := hw w (by simp)
    have ih := mem_plans ws (fun x hx => hw x (by simp [hx])) u
    simp only [plansL, List.mem_flatMap, List.mem_map, List.mem_range, List.length_cons, fewB, List.zip_cons_cons, List.all_cons, Bool.and_eq_true, decide_eq_true_eq, Nat.add_right_cancel_iff]
    simp only [fewB] at ih
    constructor
    · rintro ⟨i, hi, v, hv, he⟩
      cases he
      have := ih.1 hv
      exact ⟨this.1, ⟨by omega, by omega⟩, this.2⟩
    · rintro ⟨h1, h2, h3⟩
      refine ⟨x.toNat, by omega, u, ih.2 ⟨h1, h3⟩, ?_⟩
      rw [show ((x.toNat : Nat) : Int) = x by omega]
/-- An order of lists. -/
def cmpL : List Int → List Int → Int
  | [], [] => 0
  | [], _ :: _ => -1
  | _ :: _, [] => 1
  | x :: xs, y :: ys => if x < y then -1 else if y < x then 1 else cmpL xs ys
theorem cmpL_self : ∀ (u : List Int), cmpL u u = 0
  | [] => rfl
  | x :: u => by simp only [cmpL]; rw [if_neg (by omega), if_neg (by omega), cmpL_self u]
theorem plans_sorted : ∀ (ws : List Int), (plansL ws).Pairwise fun a b => cmpL a b = -1
  | [] => by simp [plansL]
  | w :: ws => by
    simp only [plansL]
    rw [List.pairwise_flatMap]
    refine ⟨fun i _ => ?_, ?_⟩
    · rw [List.pairwise_map]
      refine (plans_sorted ws).imp fun {a b} h => ?_
      simp only [cmpL]
      rw [if_neg (by omega), if_neg (by omega)]
      exact h
    · refine List.pairwise_lt_range.imp fun {i j} h => ?_
      intro x hx y hy
      obtain ⟨a, _, rfl⟩ := List.mem_map.1 hx
      obtain ⟨b, _, rfl⟩ := List.mem_map.1 hy
      simp only [cmpL]
      rw [if_pos (by omega)]
def lessB (m : List Int → Int) (b : Option (List Int)) (u : List Int) : Bool := match b with | none => true | some c => decide (m u < m c)
theorem lessB_none {m : List Int → Int} {u : List Int} : lessB m none u = true := rfl
theorem lessB_some {m : List Int → Int} {u c : List Int} : lessB m (some c) u = decide (m u < m c) := rfl
/-- What a step does: one that is right and better than the best one so far. -/
def better (m : List Int → Int) (ok : List Int → Bool) (b : Option (List Int)) (u : List Int) : Option (List Int) :=
  bif ok u && lessB m b u then some u else b
def bestL (m : List Int → Int) (ok : List Int → Bool) (L : List (List Int)) : Option (List Int) := L.foldl (better m ok) none
theorem bestL_snoc {m : List Int → Int} {ok : List Int → Bool} {L : List (List Int)} {u : List Int} : bestL m ok (L ++ [u]) = better m ok (bestL m ok L) u := by simp [bestL]
theorem list_snoc {α : Type} {P : List α → Prop} (h0 : P []) (hs : ∀ l x, P l → P (l ++ [x])) (l : List α) : P l := by
  have : ∀ n, P (l.take n) := fun n => by
    induction n with
    | zero => exact h0
    | succ n ih =>
      by_cases h : n < l.length
      · rw [← List.take_append_getElem h]; exact hs _ _ ih
      · rw [List.take_of_length_le (by omega)] at ih ⊢; exact ih
  have h := this l.length
  rwa [List.take_length] at h
theorem bestL_law {m : List Int → Int} {ok : List Int → Bool} (L : List (List Int)) : (L.Pairwise fun a b => cmpL a b = -1) →
    (bestL m ok L = none ∧ ∀ u ∈ L, ok u = false) ∨ ∃ a, bestL m ok L = some a ∧ a ∈ L ∧ ok a = true ∧ ∀ u ∈ L, ok u = true → m a < m u ∨ m a = m u ∧ cmpL a u ≤ 0 := by
  refine list_snoc (P := fun L => (L.Pairwise fun a b => cmpL a b = -1) → (bestL m ok L = none ∧ ∀ u ∈ L, ok u = false) ∨ ∃ a, bestL m ok L = some a ∧ a ∈ L ∧ ok a = true ∧ ∀ u ∈ L, ok u = true → m a < m u ∨ m a = m u ∧ cmpL a u ≤ 0) (fun _ => .inl ⟨rfl, fun u hu => by simp at hu⟩) (fun l x ih hp => ?_) L
  rw [List.pairwise_append] at hp
  obtain ⟨p1, _, p3⟩ := hp
  rw [bestL_snoc]
  have ih := ih p1
  cases hx : ok x with
  | false =>
    have he : better m ok (bestL m ok l) x = bestL m ok l := by unfold better; rw [hx]; rfl
    rw [he]
    rcases ih with ⟨h1, h2⟩ | ⟨a, h1, h2, h3, h4⟩
    · refine .inl ⟨h1, fun u hu => ?_⟩
      rcases List.mem_append.1 hu with hu | hu
      · exact h2 u hu
      · rw [List.mem_singleton.1 hu]; exact hx
    · refine .inr ⟨a, h1, by simp [h2], h3, fun u hu ho => ?_⟩
      rcases List.mem_append.1 hu with hu | hu
      · exact h4 u hu ho
      · rw [List.mem_singleton.1 hu, hx] at ho; cases ho
  | true =>
    right
    rcases ih with ⟨h1, h2⟩ | ⟨a, h1, h2, h3, h4⟩
    · refine ⟨x, by unfold better; rw [h1, hx, lessB_none]; rfl, by simp, hx, fun u hu ho => ?_⟩
      rcases List.mem_append.1 hu with hu | hu
      · rw [h2 u hu] at ho; cases ho
      · rw [List.mem_singleton.1 hu, cmpL_self]; exact .inr ⟨rfl, Int.le_refl _⟩
    · by_cases hlt : m x < m a
      · refine ⟨x, by unfold better; rw [h1, hx, lessB_some, decide_eq_true hlt]; rfl, by simp, hx, fun u hu ho => ?_⟩
        rcases List.mem_append.1 hu with hu | hu
        · have := h4 u hu ho; left; omega
        · rw [List.mem_singleton.1 hu, cmpL_self]; exact .inr ⟨rfl, Int.le_refl _⟩
      · refine ⟨a, by unfold better; rw [h1, hx, lessB_some, decide_eq_false hlt]; rfl, by simp [h2], h3, fun u hu ho => ?_⟩
        rcases List.mem_append.1 hu with hu | hu
        · exact h4 u hu ho
        · rw [List.mem_singleton.1 hu]
          have := p3 a h2 x (by simp)
          omega
/-- The next units, by the last place that is not full. -/
theorem succU_full : ∀ (w : List Int), succU w w = none
  | [] => rfl
  | x :: w => by simp only [succU, succU_full w]; rw [if_neg (by omega)]
theorem succU_at : ∀ (w u : List Int) (p : Nat), u.length = w.length → ∀ (h : p < u.length) (h' : p < w.length), u.drop (p + 1) = w.drop (p + 1) → u[p] < w[p] → succU w u = some (u.take p ++ (u[p] + 1) :: List.replicate (u.length - p - 1) 0)
  | [], u, p, _, _, h', _, _ => by simp at h'
  | w :: ws, [], p, _, h, _, _, _ => by simp at h
  | w :: ws, u :: us, 0, hl, h, h', hd, hlt => by
    simp only [List.drop_succ_cons, List.drop_zero] at hd
    subst hd
    simp only [List.getElem_cons_zero] at hlt ⊢
    simp only [succU, succU_full]
    rw [if_pos hlt]
    simp
  | w :: ws, u :: us, p + 1, hl, h, h', hd, hlt => by
    simp only [List.length_cons] at h h' hl
    simp only [List.getElem_cons_succ] at hlt ⊢
    have ih := succU_at ws us p (by omega) (by omega) (by omega) (by simpa using hd) hlt
    simp only [succU, ih]
    simp
end Go.Proofs.Ytfkabibbaajfhaa
/- The reference's next units; its Best and Most. Conditions: those of each law. -/
namespace Go.Proofs.Ytfkabibbaajfhaa
open Go Go.Proofs.Ytfkabibbaajfhaa.Ev
set_option linter.unusedVariables false
set_option linter.unusedSimpArgs false
set_option maxRecDepth 100000
set_option maxHeartbeats 4000000
/-- A row of numbers of the call's own. -/
abbrev uS (u : List Int) : Slot := .own (cellsL j1 u) 1
theorem rd_u {sl : List Slot} {id n i : Nat} {u : List Int} (hs : sl[id]? = some (uS u)) (hn : u.length = n) (hi : i < n) : rdT (.leaf (.int .i64)) (hL sl) (.hp id (n * 1) (i * 1)) = u[i]? := by
  rw [rd_ownL0 (ls := j1) (w := 1) (xs := u) hs (by simp [hn]) rfl (by omega), List.getElem?_eq_getElem (by omega)]
  rfl
theorem wr_u {sl : List Slot} {id n i : Nat} {u : List Int} {x : Int} (hs : sl[id]? = some (uS u)) (hn : u.length = n) (hi : i < n) : H.wrs (hL sl) (.hp id (n * 1) (i * 1)) [.int .i64 x] = some (hL (sl.set id (uS (u.set i x)))) :=
  wrs_ownL (ls := j1) (xs := u) (x := x) hs (by simp [hn]) rfl (by omega) rfl
theorem row_u {lp : Bool} {sl : List Slot} {id n c : Nat} {t : Bool} {u : List Int} (hs : sl[id]? = some (uS u)) (hn : u.length = n) : rdRow lp (hL sl) j1 ⟨.hp id (n * 1) 0, n, c, t⟩ = some u := by
  subst hn
  exact rdRow_own (ls := j1) (xs := u) (c := c) (t := t) hs rfl rfl
theorem zeros_u (n : Nat) : repeatCells [.int .i64 0] n = cellsL j1 (List.replicate n (0 : Int)) := by
  induction n with
  | zero => rfl
  | succ n ih => rw [List.replicate_succ]; simp only [repeatCells, ih]; rfl
theorem few_get {w u : List Int} (h : fewB w u = true) {i : Nat} (h1 : i < u.length) (h2 : i < w.length) : 0 ≤ u[i] ∧ u[i] ≤ w[i] := by
  have := List.all_eq_true.1 h (u[i], w[i]) (List.mem_iff_getElem.2 ⟨i, by rw [List.length_zip]; omega, by simp⟩)
  simpa using this
theorem take_set {u : List Int} {p n : Nat} {x : Int} (hp : p < u.length) (hn : u.length = n) : (u.take (p + 1) ++ List.replicate (n - (p + 1)) (0 : Int)).set p x = u.take p ++ x :: List.replicate (n - p - 1) 0 := by
  have h1 : (u.take p).length = p := by rw [List.length_take]; omega
  rw [← List.take_append_getElem hp, List.append_assoc, List.set_append_right _ _ (by omega), h1, Nat.sub_self, show n - (p + 1) = n - p - 1 by omega]
  rfl
end Go.Proofs.Ytfkabibbaajfhaa
/- Best and Most of the reference of package blend. Conditions: those of each law. -/
namespace Go.Proofs.Ytfkabibbaajfhaa
open Go Go.Proofs.Ytfkabibbaajfhaa.Ev
set_option linter.unusedVariables false
set_option linter.unusedSimpArgs false
set_option maxRecDepth 100000
set_option maxHeartbeats 4000000
def costO (o : OrdT) (u : List Int) : Int := (costs o.2.2.1 u).sum
noncomputable def bestO (xs : List (Int × Int)) (o : OrdT) : Option (List Int) := bestL (costO o) (keepsB xs o) (plansL o.2.1)
noncomputable def bestOf (xs : List (Int × Int)) (o : OrdT) : List Int × Int × Int := if bcheckOf xs o = 0 then (match bestO xs o with | some a => (a, costO o a, 0) | none => ([], 0, 20)) else ([], 0, 1)
theorem OkO.sc {xs : List (Int × Int)} {o : OrdT} (h : OkO xs o) : Sc o.2.2.1 := fun x hx => by
  have := List.all_eq_true.1 h.co x hx
  simpa [inB] using this
theorem OkO.w0 {xs : List (Int × Int)} {o : OrdT} (h : OkO xs o) : ∀ w ∈ o.2.1, 0 ≤ w := fun x hx => by
  have := List.all_eq_true.1 h.un x hx
  simp only [inB, decide_eq_true_eq] at this
  omega
theorem OkO.w64 {xs : List (Int × Int)} {o : OrdT} (h : OkO xs o) : ∀ w ∈ o.2.1, w ≤ 64 := fun x hx => by
  have := List.all_eq_true.1 h.un x hx
  simp only [inB, decide_eq_true_eq] at this
  omega
theorem plan_ok {xs : List (Int × Int)} {o : OrdT} {u : List Int} (h : OkO xs o) (hu : u ∈ plansL o.2.1) : OkU o u := by
  have := (mem_plans o.2.1 h.w0 u).1 hu
  exact ⟨by rw [this.1, h.lu], this.2⟩
theorem costP_ok {xs : List (Int × Int)} {o : OrdT} {u : List Int} (h : OkO xs o) (hu : OkU o u) : blend_costP o u = some (costO o u) ∧ spileref29_costP o u = some (costO o u) := bcost_ok (hu.sm h) h.sc (by rw [hu.len, h.lc])
theorem plan_next {xs : List (Int × Int)} {o : OrdT} (h : OkO xs o) {i : Nat} {u : List Int} (hi : (plansL o.2.1)[i]? = some u) : succU o.2.1 u = (plansL o.2.1)[i + 1]? := by
  obtain ⟨hlt, rfl⟩ := List.getElem?_eq_some_iff.1 hi
  have := Run.get hlt (plans_run o.2.1 h.w0).1
  rw [this, Option.or_none]
theorem foldl_prod : ∀ (us : List Int) (n : Int), us.foldl (fun n x => n * (x + 1)) n = n * prodU us
  | [], n => by simp [prodU]
  | x :: us, n => by
    have h1 := foldl_prod us (n * (x + 1))
    have h2 := foldl_prod us (1 * (x + 1))
    simp only [prodU, List.foldl_cons] at h1 h2 ⊢
    rw [h1, h2, Int.one_mul, Int.mul_assoc]
theorem plans_count : ∀ (ws : List Int), (∀ w ∈ ws, 0 ≤ w) → ((plansL ws).length : Int) = prodU ws
  | [], _ => rfl
  | w :: ws, h => by
    have ih := plans_count ws fun x hx => h x (by simp [hx])
    have h0 := h w (by simp)
    have hc : ∀ n : Nat, ((((List.range n).flatMap fun i : Nat => (plansL ws).map fun v => (i : Int) :: v)).length : Int) = n * (plansL ws).length := fun n => by
      induction n with
      | zero => simp
      | succ n ih2 =>
        rw [List.range_succ, List.flatMap_append, List.length_append, Int.natCast_add, ih2, List.flatMap_singleton, List.length_map, Int.natCast_add, Int.natCast_one, Int.add_mul, Int.one_mul]
    simp only [plansL]
    rw [hc, ih]
    have h2 := foldl_prod ws (1 * (w + 1))
    simp only [prodU, List.foldl_cons] at h2 ⊢
    rw [h2, Int.one_mul, show ((w.toNat + 1 : Nat) : Int) = w + 1 by omega]
theorem plans_few {xs : List (Int × Int)} {o : OrdT} (h : OkO xs o) : (plansL o.2.1).length ≤ 4096 ∧ 0 < (plansL o.2.1).length := by
  have h1 := plans_count o.2.1 h.w0
  have h2 := h.pr
  refine ⟨by omega, ?_⟩
  have hrun := (plans_run o.2.1 h.w0).2
  cases hp : plansL o.2.1 with
  | nil => rw [hp] at hrun; simp at hrun
  | cons a l => simp
theorem take_snoc {α : Type} {L : List α} {i : Nat} {u : α} (h : L[i]? = some u) : L.take (i + 1) = L.take i ++ [u] := by
  obtain ⟨hlt, rfl⟩ := List.getElem?_eq_some_iff.1 h
  exact (List.take_append_getElem hlt).symm
theorem keeps_sum {xs : List (Int × Int)} {o : OrdT} {u : List Int} (h : OkO xs o) (hk : keepsB xs o u = true) : 1 ≤ u.sum ∧ o.2.2.2.2.2 ≤ u.sum := by
  unfold keepsB carriesB at hk
  have := of_decide_eq_true (Bool.and_eq_true_iff.1 hk).1
  have := h.a1
  omega
end Go.Proofs.Ytfkabibbaajfhaa
/- blend.first: a range over all plans. Conditions: those of each law. -/
namespace Go.Proofs.Ytfkabibbaajfhaa
open Go Go.Proofs.Ytfkabibbaajfhaa.Ev
set_option linter.unusedVariables false
set_option linter.unusedSimpArgs false
set_option maxRecDepth 100000
set_option maxHeartbeats 4000000
abbrev outV : Option (List Int) → V
  | none => .slice .nil 0 0 false
  | some a => .slice (rowSV true j1 a).a a.length a.length true
def outSV : Option (List Int) → SV
  | none => ⟨.nil, 0, 0, false⟩
  | some a => rowSV true j1 a
abbrev oneS (v : V) : Slot := .own [v] 1
/-- What lies in the heap while the plans are gone through. -/
abbrev PHs (o : OrdT) (fv : V) (d : Int × Int) (b : Option (List Int)) (st : LoopState) (u : List Int) : List Slot := [oS o, oS o, oneS fv, c2 d, oneS (outV b), oS o, .loop st, uS u]
theorem rd_dyn {sl : List Slot} {id : Nat} {v : V} (h : sl[id]? = some (oneS v)) : rdT (.leaf .dyn) (hL sl) (.hp id 1 0) = some v := by
  rw [rd_own (g := 1) h rfl]; rfl
theorem rd_out {sl : List Slot} {id : Nat} {b : Option (List Int)} (h : sl[id]? = some (oneS (outV b))) : rdT (.leaf .slice) (hL sl) (.hp id 1 0) = some (outSV b) := by
  rw [rd_own (g := 1) h rfl]
  cases b <;> rfl
theorem wr_one {sl : List Slot} {id : Nat} {v w : V} (h : sl[id]? = some (oneS v)) : H.wrs (hL sl) (.hp id 1 0) [w] = some (hL (sl.set id (oneS w))) := by
  rw [wrs_own (g := 1) h rfl (by simp)]; rfl
theorem begin_hL {sl : List Slot} {id : Nat} (h : sl[id]? = some (.loop .ready)) : H.begin (hL sl) id = some (hL (sl.set id (.loop .busy))) := by
  simp only [H.begin, hL_m, h, Option.getD_some]
  rw [hL_put (List.getElem?_eq_some_iff.1 h).1]
theorem endR_hL {sl : List Slot} {id : Nat} (h : sl[id]? = some (.loop .busy)) : H.endR (hL sl) id = some (hL (sl.set id (.loop .ready))) := by
  simp only [H.endR, hL_m, h, Option.getD_some]
  rw [hL_put (List.getElem?_eq_some_iff.1 h).1]
theorem endL_hL {sl : List Slot} {id : Nat} (h : sl[id]? = some (.loop .ready)) : H.endL (hL sl) id = some (hL (sl.set id (.loop .exhausted))) := by
  simp only [H.endL, hL_m, h, Option.getD_some]
  rw [hL_put (List.getElem?_eq_some_iff.1 h).1]
theorem hL_newS {l : List Slot} {s : Slot} : H.newS (hL l) s = hL (l ++ [s]) := by
  refine H.ext' (by simp [H.newS, hL]) fun i => ?_
  simp only [H.newS, hL]
  by_cases hi : i = l.length
  · subst hi
    simp
  · rw [beq_ne hi, cond_false]
    rcases Nat.lt_or_ge i l.length with h | h
    · rw [List.getElem?_append_left h]
    · rw [List.getElem?_eq_none h, List.getElem?_eq_none (by simp; omega)]
/-- A function that a number of units is taken by. -/
def ByOK (T : Table) (fv : V) (m : List Int → Int) (o : OrdT) : Prop := ∀ (sl : List Slot), sl[0]? = some (oS o) → ∀ (sv : SV) (u : List Int), OkU o u → rdRow true (hL sl) j1 sv = some u → ∀ {R : Type} (k : V → H → Option R), callQ T.dy fv [.slice sv.a sv.len sv.cap sv.tail] (hL sl) k = k (.int .i64 (m u)) (hL sl)
theorem round_ok {T : Table} {xs : List (Int × Int)} {o : OrdT} {fv : V} {m : List Int → Int} {h h1 h2 h16 h20 : H} {b : Option (List Int)} {u : List Int} (ok : OkO xs o) (hb : ByOK T fv m o) (e1 : h.next = 1) (e2 : h1.next = 2) (e3 : h2.next = 3) (e4 : h16.next = 4) (e5 : h20.next = 6) (hu : OkU o u) (hbo : ∀ a, b = some a → OkU o a) :
    blend_first.round1 T h h1 h2 h16 h20 ⟨.hp 7 (o.1.length * 1) 0, o.1.length, o.1.length, true⟩ (hL (PHs o fv (edgeOf xs o) b .ready u)) = some (hL (PHs o fv (edgeOf xs o) (better m (keepsB xs o) b u) .ready u)) := by
  have b1 := begin_hL (sl := PHs o fv (edgeOf xs o) b .ready u) (id := 6) rfl
  have q3 := rds_c2 (sl := PHs o fv (edgeOf xs o) b .busy u) (id := 3) (x := edgeOf xs o) rfl
  have q1 := rds_oS (sl := PHs o fv (edgeOf xs o) b .busy u) (id := 1) (o := o) rfl
  have qu := row_u (lp := true) (sl := PHs o fv (edgeOf xs o) b .busy u) (id := 7) (c := o.1.length) (t := true) rfl hu.len
  have qo := rd_out (sl := PHs o fv (edgeOf xs o) b .busy u) (id := 4) (b := b) rfl
  have qd := rd_dyn (sl := PHs o fv (edgeOf xs o) b .busy u) (id := 2) (v := fv) rfl
  have qw := wr_one (sl := PHs o fv (edgeOf xs o) b .busy u) (id := 4) (v := outV b) (w := outV (some u)) rfl
  have qe := fun b => endR_hL (sl := PHs o fv (edgeOf xs o) b .busy u) (id := 6) rfl
  have hk := carriesO_ok ok hu
  have hl4 := ok.l4
  have hl0 := ok.l0
  have hcall := fun (R : Type) (k : V → H → Option R) => hb (PHs o fv (edgeOf xs o) b .busy u) rfl ⟨.hp 7 (o.1.length * 1) 0, o.1.length, o.1.length, true⟩ u hu qu k
  have hcl : cloneP 8 u = some u := clone_len (by have := hu.len; omega) (by omega)
  simp only [List.set_cons_succ, List.set_cons_zero] at b1 qw qe
  unfold blend_first.round1
  try simp -implicitDefEqProofs only [e1, e2, e3, e4, e5]
  rw [b1]
  try simp -implicitDefEqProofs only [evs, reduceIte, rdRes, rdTT, rdTy, rdLT, Res.un, TT.un, Ty.un, LT.un, Leaf.un, Leaf.plain, LT.plain]
  rw [q3]
  try simp -implicitDefEqProofs only [evs, reduceIte, rdRes, rdTT, rdTy, rdLT, Res.un, TT.un, Ty.un, LT.un, Leaf.un, Leaf.plain, LT.plain, q1]
  try simp -implicitDefEqProofs only [evs, reduceIte, rdRes, rdTT, rdTy, rdLT, Res.un, TT.un, Ty.un, LT.un, Leaf.un, Leaf.plain, LT.plain, ord_eta, qu]
  rw [show ((edgeOf xs o).1, (edgeOf xs o).2) = edgeOf xs o from rfl, hk]
  try simp -implicitDefEqProofs only [evs, reduceIte, rdRes, rdTT, rdTy, rdLT, Res.un, TT.un, Ty.un, LT.un, Leaf.un, Leaf.plain, LT.plain]
  unfold better
  cases hkb : keepsB xs o u with
  | false =>
    try simp -implicitDefEqProofs only [evs, reduceIte, rdRes, rdTT, rdTy, rdLT, Res.un, TT.un, Ty.un, LT.un, Leaf.un, Leaf.plain, LT.plain, Bool.false_and]
    exact qe b
  | true =>
    try simp -implicitDefEqProofs only [evs, reduceIte, rdRes, rdTT, rdTy, rdLT, Res.un, TT.un, Ty.un, LT.un, Leaf.un, Leaf.plain, LT.plain]
    rw [qo]
    cases b with
    | none =>
      try simp -implicitDefEqProofs only [evs, reduceIte, rdRes, rdTT, rdTy, rdLT, Res.un, TT.un, Ty.un, LT.un, Leaf.un, Leaf.plain, LT.plain, outSV, V.mayNil, V.nn, lessB_none]
      rw [qu]
      try simp -implicitDefEqProofs only [evs, reduceIte, rdRes, rdTT, rdTy, rdLT, Res.un, TT.un, Ty.un, LT.un, Leaf.un, Leaf.plain, LT.plain, hcl]
      rw [qw]
      try simp -implicitDefEqProofs only [evs, reduceIte, rdRes, rdTT, rdTy, rdLT, Res.un, TT.un, Ty.un, LT.un, Leaf.un, Leaf.plain, LT.plain]
      exact qe (some u)
    | some a =>
      have hao := hbo a rfl
      have hacall := fun (R : Type) (k : V → H → Option R) => hb (PHs o fv (edgeOf xs o) (some a) .busy u) rfl (rowSV true j1 a) a hao (rdRow_res (ls := j1) rfl) k
      have hne : (cellsL j1 a).isEmpty = false := by
        have : (cellsL j1 a).length = a.length * 1 := flat_length (ls := j1) a
        cases hca : cellsL j1 a with
        | nil => rw [hca] at this; have := hao.len; simp at *; omega
        | cons _ _ => rfl
      have m1 : V.mayNil (rowSV true j1 a).a = false := hne
      have m2 : V.nn (rowSV true j1 a).a = true := by
        show (!(cellsL j1 a).isEmpty) = true
        rw [hne]; rfl
      try simp -implicitDefEqProofs only [evs, reduceIte, rdRes, rdTT, rdTy, rdLT, Res.un, TT.un, Ty.un, LT.un, Leaf.un, Leaf.plain, LT.plain, outSV, m1, m2, lessB_some]
      rw [qd]
      try simp -implicitDefEqProofs only [evs, reduceIte, rdRes, rdTT, rdTy, rdLT, Res.un, TT.un, Ty.un, LT.un, Leaf.un, Leaf.plain, LT.plain]
      rw [hcall]
      try simp -implicitDefEqProofs only [evs, reduceIte, rdRes, rdTT, rdTy, rdLT, Res.un, TT.un, Ty.un, LT.un, Leaf.un, Leaf.plain, LT.plain, Res.pack, Ty.pack, Leaf.pack, eq_self]
      rw [qd]
      try simp -implicitDefEqProofs only [evs, reduceIte, rdRes, rdTT, rdTy, rdLT, Res.un, TT.un, Ty.un, LT.un, Leaf.un, Leaf.plain, LT.plain]
      rw [qo]
      try simp -implicitDefEqProofs only [evs, reduceIte, rdRes, rdTT, rdTy, rdLT, Res.un, TT.un, Ty.un, LT.un, Leaf.un, Leaf.plain, LT.plain, outSV]
      have hacall' := hacall
      simp only [rowSV_len, rowSV_cap, rowSV_tail] at hacall'
      rw [hacall']
      try simp -implicitDefEqProofs only [evs, reduceIte, rdRes, rdTT, rdTy, rdLT, Res.un, TT.un, Ty.un, LT.un, Leaf.un, Leaf.plain, LT.plain, Res.pack, Ty.pack, Leaf.pack, eq_self]
      cases hlt : decide (m u < m a) with
      | true =>
        try simp -implicitDefEqProofs only [evs, reduceIte, rdRes, rdTT, rdTy, rdLT, Res.un, TT.un, Ty.un, LT.un, Leaf.un, Leaf.plain, LT.plain]
        rw [qu]
        try simp -implicitDefEqProofs only [evs, reduceIte, rdRes, rdTT, rdTy, rdLT, Res.un, TT.un, Ty.un, LT.un, Leaf.un, Leaf.plain, LT.plain, hcl]
        rw [qw]
        try simp -implicitDefEqProofs only [evs, reduceIte, rdRes, rdTT, rdTy, rdLT, Res.un, TT.un, Ty.un, LT.un, Leaf.un, Leaf.plain, LT.plain]
        exact qe (some u)
      | false =>
        try simp -implicitDefEqProofs only [evs, reduceIte, rdRes, rdTT, rdTy, rdLT, Res.un, TT.un, Ty.un, LT.un, Leaf.un, Leaf.plain, LT.plain]
        exact qe (some a)
end Go.Proofs.Ytfkabibbaajfhaa
/- blend.plans and blend.first; Best and Most. Conditions: those of each law. -/
namespace Go.Proofs.Ytfkabibbaajfhaa
open Go Go.Proofs.Ytfkabibbaajfhaa.Ev
set_option linter.unusedVariables false
set_option linter.unusedSimpArgs false
set_option maxRecDepth 100000
set_option maxHeartbeats 4000000
/-- What the inner loop leaves: the next units, but for the last step. -/
def Carried (n : Nat) (y : Int) (z : List Int) : Option (List Int) → Prop
  | none => y = -1
  | some v => ∃ q : Nat, y = (q : Int) ∧ q < n ∧ z.length = n ∧ ∃ c, z[q]? = some c ∧ 0 ≤ c ∧ c < 64 ∧ z.set q (c + 1) = v
theorem carry_loop {T : Table} {o : OrdT} {fv : V} {d : Int × Int} {b : Option (List Int)} {h : H} {u : List Int} {n : Nat} (e7 : h.next = 7) (hn : u.length = n) (hw : o.2.1.length = n) (hf : fewB o.2.1 u = true) (hb : ∀ x ∈ o.2.1, x ≤ 64) (h62 : n < 2 ^ 62) : ∀ (p : Nat), p ≤ n → u.drop p = o.2.1.drop p → ∀ (fuel : Nat), p < fuel →
    ∃ y z, iter fuel (blend_plans_1.loop1 T h (.hp 5 6 0) (rowSV false j1 o.2.1)) (((p : Int) - 1), hL (PHs o fv d b .ready (u.take p ++ List.replicate (n - p) 0))) = some (.ex0 y, hL (PHs o fv d b .ready z)) ∧ Carried n y z (succU o.2.1 u)
  | 0, _, hd, fuel + 1, hfu => by
    have hu : u = o.2.1 := by simpa using hd
    refine ⟨-1, List.replicate n 0, ?_, ?_⟩
    · rw [iter]
      have e : blend_plans_1.loop1 T h (.hp 5 6 0) (rowSV false j1 o.2.1) ((((0 : Nat) : Int) - 1), hL (PHs o fv d b .ready (u.take 0 ++ List.replicate (n - 0) 0))) = some (.done (.ex0 (-1), hL (PHs o fv d b .ready (List.replicate n 0)))) := by
        unfold blend_plans_1.loop1
        simp only
        rw [decide_eq_false (by omega), cond_false]
        rfl
      rw [e]
      rfl
    · rw [hu, succU_full]
      exact rfl
  | p + 1, hp, hd, fuel + 1, hfu => by
    have hpu : p < u.length := by omega
    have hpw : p < o.2.1.length := by omega
    have hr := rd_oS (sl := PHs o fv d b .ready (u.take (p + 1) ++ List.replicate (n - (p + 1)) 0)) (id := 5) (o := o) rfl
    have hlen : (u.take (p + 1) ++ List.replicate (n - (p + 1)) (0 : Int)).length = n := by simp; omega
    have hgu : (u.take (p + 1) ++ List.replicate (n - (p + 1)) (0 : Int))[p]? = some u[p] := by
      rw [List.getElem?_append_left (by rw [List.length_take]; omega), List.getElem?_take, if_pos (by omega), List.getElem?_eq_getElem hpu]
    have hru := rd_u (sl := PHs o fv d b .ready (u.take (p + 1) ++ List.replicate (n - (p + 1)) 0)) (id := 7) (i := p) rfl hlen (by omega)
    have hwu := wr_u (sl := PHs o fv d b .ready (u.take (p + 1) ++ List.replicate (n - (p + 1)) 0)) (id := 7) (i := p) (x := 0) rfl hlen (by omega)
    rw [take_set hpu hn] at hwu
    simp only [List.set_cons_succ, List.set_cons_zero] at hwu
    rw [hgu] at hru
    have hg1 : 0 ≤ (p : Int) ∧ (p : Int) < (n : Int) := by omega
    have hg2 : 0 ≤ (p : Int) ∧ (p : Int) < (o.2.1.length : Int) := by omega
    have hfg := few_get hf hpu hpw
    have hb' := hb o.2.1[p] (List.getElem_mem hpw)
    have ep : ((p + 1 : Nat) : Int) - 1 = (p : Int) := by omega
    have enn : V.nn (V.hp 5 6 0) = true := rfl
    have e51 : V.add (V.hp 5 6 0) 1 = V.hp 5 6 1 := rfl
    rw [iter]
    by_cases hlt : u[p] < o.2.1[p]
    · have hs := succU_at o.2.1 u p (by omega) hpu hpw hd hlt
      have e : blend_plans_1.loop1 T h (.hp 5 6 0) (rowSV false j1 o.2.1) ((((p + 1 : Nat) : Int) - 1), hL (PHs o fv d b .ready (u.take (p + 1) ++ List.replicate (n - (p + 1)) 0))) = some (.done (.ex0 (p : Int), hL (PHs o fv d b .ready (u.take (p + 1) ++ List.replicate (n - (p + 1)) 0)))) := by
        unfold blend_plans_1.loop1
        try simp -implicitDefEqProofs only [ep, reserve0, rowSV_len, hw, e7, Int.toNat_natCast, Nat.zero_add, e51]
        rw [decide_eq_true hg1.1, cond_true, guardO_pos hg1, hru]
        try simp -implicitDefEqProofs only [evs, reduceIte, rdRes, rdTT, rdTy, rdLT, Res.un, TT.un, Ty.un, LT.un, Leaf.un, Leaf.plain, LT.plain, guardO_pos enn, hr.2.1, hw, guardO_pos hg1]
        rw [rd_rowI, List.getElem?_eq_getElem hpw]
        try simp -implicitDefEqProofs only [evs, reduceIte, rdRes, rdTT, rdTy, rdLT, Res.un, TT.un, Ty.un, LT.un, Leaf.un, Leaf.plain, LT.plain]
        rw [decide_eq_false (show ¬ u[p] = o.2.1[p] by omega)]
        try simp -implicitDefEqProofs only [evs, reduceIte, rdRes, rdTT, rdTy, rdLT, Res.un, TT.un, Ty.un, LT.un, Leaf.un, Leaf.plain, LT.plain]
      rw [e]
      refine ⟨_, _, rfl, ?_⟩
      rw [hs]
      exact ⟨p, rfl, by omega, hlen, u[p], hgu, hfg.1, by omega, by rw [take_set hpu hn, hn]⟩
    · have he : u[p] = o.2.1[p] := by omega
      have hd' : u.drop p = o.2.1.drop p := by
        rw [List.drop_eq_getElem_cons hpu, List.drop_eq_getElem_cons hpw, hd, he]
      have hz : u.take p ++ (0 : Int) :: List.replicate (n - p - 1) 0 = u.take p ++ List.replicate (n - p) 0 := by
        rw [show n - p = (n - p - 1) + 1 by omega, List.replicate_succ]
        simp
      have e : blend_plans_1.loop1 T h (.hp 5 6 0) (rowSV false j1 o.2.1) ((((p + 1 : Nat) : Int) - 1), hL (PHs o fv d b .ready (u.take (p + 1) ++ List.replicate (n - (p + 1)) 0))) = some (.more (((p : Int) - 1), hL (PHs o fv d b .ready (u.take p ++ List.replicate (n - p) 0)))) := by
        unfold blend_plans_1.loop1
        try simp -implicitDefEqProofs only [ep, reserve0, rowSV_len, hw, e7, Int.toNat_natCast, Nat.zero_add, e51]
        rw [decide_eq_true hg1.1, cond_true, guardO_pos hg1, hru]
        try simp -implicitDefEqProofs only [evs, reduceIte, rdRes, rdTT, rdTy, rdLT, Res.un, TT.un, Ty.un, LT.un, Leaf.un, Leaf.plain, LT.plain, guardO_pos enn, hr.2.1, hw, guardO_pos hg1]
        rw [rd_rowI, List.getElem?_eq_getElem hpw]
        try simp -implicitDefEqProofs only [evs, reduceIte, rdRes, rdTT, rdTy, rdLT, Res.un, TT.un, Ty.un, LT.un, Leaf.un, Leaf.plain, LT.plain]
        rw [decide_eq_true he]
        try simp -implicitDefEqProofs only [evs, reduceIte, rdRes, rdTT, rdTy, rdLT, Res.un, TT.un, Ty.un, LT.un, Leaf.un, Leaf.plain, LT.plain, guardO_pos hg1]
        rw [hwu]
        try simp -implicitDefEqProofs only [evs, reduceIte, rdRes, rdTT, rdTy, rdLT, Res.un, TT.un, Ty.un, LT.un, Leaf.un, Leaf.plain, LT.plain]
        rw [i64_in _ (by omega), hz]
      rw [e]
      exact carry_loop e7 hn hw hf hb h62 p (by omega) hd' fuel (by omega)
theorem yield1 {N : Nat} {f : TT [.leaf .slice] → H → Option H} {s : SV} {h : H} {R : Type} {k : V → H → Option R} :
    callV (withY Table.nil (mkY [.leaf .slice] N f)).dy (.yld N) [.slice s.a s.len s.cap s.tail] h k = (f s h).bind fun h' => k (.bool true) h' := by
  have : Nat.beq N N = true := Nat.beq_refl N
  simp [callV, withY, mkY, this, TT.pack, Ty.pack, Leaf.pack]
theorem plans_call {T : Table} {Y : Entry} {N a : Nat} {h : H} : callIt (blend_first.tb T).dy Y (.func 84 [.hp a 6 0]) [.yld N] h = (blend_plans_1 (withY Table.nil Y) (.yld N) (.hp a 6 0) h).bind fun p => some p.2 := by
  have : (blend_first.tb T).dy.it 84 Y = blend_plans_1.it Y := rfl
  simp only [callIt, this, blend_plans_1.it, mkX]
  simp [TT.pack, Ty.pack, Leaf.pack]
theorem better_ok {xs : List (Int × Int)} {o : OrdT} {m : List Int → Int} (ok : OkO xs o) {L : List (List Int)} (hL : ∀ u ∈ L, OkU o u) : ∀ a, bestL m (keepsB xs o) L = some a → OkU o a := by
  refine list_snoc (P := fun L => (∀ u ∈ L, OkU o u) → ∀ a, bestL m (keepsB xs o) L = some a → OkU o a) (fun _ a h => by cases h) (fun l x ih hl a ha => ?_) L hL
  rw [bestL_snoc] at ha
  unfold better at ha
  cases hc : keepsB xs o x && lessB m (bestL m (keepsB xs o) l) x with
  | true => rw [hc] at ha; cases ha; exact hl _ (by simp)
  | false => rw [hc] at ha; exact ih (fun u hu => hl u (by simp [hu])) a ha
/-- The range over all plans. -/
theorem plans_loop {T : Table} {xs : List (Int × Int)} {o : OrdT} {fv : V} {m : List Int → Int} {h h1 h2 h16 h20 hh : H} (ok : OkO xs o) (hb : ByOK T fv m o) (e1 : h.next = 1) (e2 : h1.next = 2) (e3 : h2.next = 3) (e4 : h16.next = 4) (e5 : h20.next = 6) (e7 : hh.next = 7) :
    ∃ z, iter FUEL (blend_plans_1.loop2 (withY Table.nil (mkY [.leaf .slice] 6 (blend_first.round1 T h h1 h2 h16 h20))) hh (.yld 6) (.hp 5 6 0) (rowSV false j1 o.2.1)) ((), hL (PHs o fv (edgeOf xs o) none .ready (List.replicate o.1.length 0))) = some (.ret (), hL (PHs o fv (edgeOf xs o) (bestL m (keepsB xs o) (plansL o.2.1)) .ready z)) := by
  have hrun := plans_run o.2.1 ok.w0
  have hfew := plans_few ok
  have h4 := ok.l4
  have hlu := ok.lu
  -- one round
  have step : ∀ (i : Nat) (u : List Int), (plansL o.2.1)[i]? = some u → ∃ r, blend_plans_1.loop2 (withY Table.nil (mkY [.leaf .slice] 6 (blend_first.round1 T h h1 h2 h16 h20))) hh (.yld 6) (.hp 5 6 0) (rowSV false j1 o.2.1) ((), hL (PHs o fv (edgeOf xs o) (bestL m (keepsB xs o) ((plansL o.2.1).take i)) .ready u)) = some r ∧
      (match (plansL o.2.1)[i + 1]? with
        | some v => r = .more ((), hL (PHs o fv (edgeOf xs o) (bestL m (keepsB xs o) ((plansL o.2.1).take (i + 1))) .ready v))
        | none => ∃ z, r = .done (.ret (), hL (PHs o fv (edgeOf xs o) (bestL m (keepsB xs o) ((plansL o.2.1).take (i + 1))) .ready z))) := fun i u hu => by
    have hU := plan_ok ok (List.mem_of_getElem? hu)
    have hbo := better_ok (m := m) ok (L := (plansL o.2.1).take i) (fun u hu => plan_ok ok (List.mem_of_mem_take hu))
    have hround := round_ok (h := h) (h1 := h1) (h2 := h2) (h16 := h16) (h20 := h20) (b := bestL m (keepsB xs o) ((plansL o.2.1).take i)) (u := u) ok hb e1 e2 e3 e4 e5 hU hbo
    rw [← bestL_snoc, ← take_snoc hu] at hround
    obtain ⟨y, z, hc1, hc2⟩ := carry_loop (T := withY Table.nil (mkY [.leaf .slice] 6 (blend_first.round1 T h h1 h2 h16 h20))) (o := o) (fv := fv) (d := edgeOf xs o) (b := bestL m (keepsB xs o) ((plansL o.2.1).take (i + 1))) (h := hh) (u := u) (n := o.1.length) e7 hU.len ok.lu hU.few ok.w64 (by omega) o.1.length (Nat.le_refl _) (by rw [← hU.len, List.drop_length, hU.len, ← ok.lu, List.drop_length]) FUEL (fuel_gt (by omega))
    rw [show u.take o.1.length = u by rw [← hU.len, List.take_length], Nat.sub_self, List.replicate_zero, List.append_nil] at hc1
    rw [plan_next ok hu] at hc2
    have hy := fun (R : Type) (k : V → H → Option R) => yield1 (N := 6) (f := blend_first.round1 T h h1 h2 h16 h20) (s := ⟨.hp 7 (o.1.length * 1) 0, o.1.length, o.1.length, true⟩) (h := hL (PHs o fv (edgeOf xs o) (bestL m (keepsB xs o) ((plansL o.2.1).take i)) .ready u)) (k := k)
    simp only at hy
    unfold blend_plans_1.loop2
    try simp -implicitDefEqProofs only [rowSV_len, hlu, e7, Int.toNat_natCast, Nat.zero_add]
    rw [hy, hround]
    try simp -implicitDefEqProofs only [evs, reduceIte, rdRes, rdTT, rdTy, rdLT, Res.un, TT.un, Ty.un, LT.un, Leaf.un, Leaf.plain, LT.plain, Res.pack, Ty.pack, Leaf.pack]
    rw [i64_in _ (by omega), hc1]
    cases hv : (plansL o.2.1)[i + 1]? with
    | none =>
      rw [hv] at hc2
      have hc2 : y = -1 := hc2
      subst hc2
      try simp -implicitDefEqProofs only [evs, reduceIte, rdRes, rdTT, rdTy, rdLT, Res.un, TT.un, Ty.un, LT.un, Leaf.un, Leaf.plain, LT.plain, decide_eq_true (show (-1 : Int) < 0 by omega)]
      exact ⟨_, rfl, z, rfl⟩
    | some v =>
      rw [hv] at hc2
      obtain ⟨q, rfl, hq, hzl, c, hzc, hc0, hc64, hset⟩ := hc2
      have hg : 0 ≤ (q : Int) ∧ (q : Int) < (o.1.length : Int) := by omega
      have hrd := rd_u (sl := PHs o fv (edgeOf xs o) (bestL m (keepsB xs o) ((plansL o.2.1).take (i + 1))) .ready z) (id := 7) (i := q) rfl hzl hq
      have hwr := wr_u (sl := PHs o fv (edgeOf xs o) (bestL m (keepsB xs o) ((plansL o.2.1).take (i + 1))) .ready z) (id := 7) (i := q) (x := c + 1) rfl hzl hq
      rw [hset] at hwr
      rw [hzc] at hrd
      simp only [List.set_cons_succ, List.set_cons_zero] at hwr
      try simp -implicitDefEqProofs only [evs, reduceIte, rdRes, rdTT, rdTy, rdLT, Res.un, TT.un, Ty.un, LT.un, Leaf.un, Leaf.plain, LT.plain, decide_eq_false (show ¬ (q : Int) < 0 by omega), guardO_pos hg, Int.toNat_natCast, Nat.zero_add]
      rw [hrd]
      try simp -implicitDefEqProofs only [evs, reduceIte, rdRes, rdTT, rdTy, rdLT, Res.un, TT.un, Ty.un, LT.un, Leaf.un, Leaf.plain, LT.plain]
      rw [i64_in (c + 1) (by omega), hwr]
      try simp -implicitDefEqProofs only [evs, reduceIte, rdRes, rdTT, rdTy, rdLT, Res.un, TT.un, Ty.un, LT.un, Leaf.un, Leaf.plain, LT.plain]
      exact ⟨_, rfl, rfl⟩
  obtain ⟨N, hN⟩ : ∃ N, (plansL o.2.1).length = N + 1 := ⟨(plansL o.2.1).length - 1, by omega⟩
  have hlast : (plansL o.2.1)[N]? = some (plansL o.2.1)[N] := List.getElem?_eq_getElem (by omega)
  obtain ⟨r, hr1, hr2⟩ := step N _ hlast
  rw [List.getElem?_eq_none (by omega)] at hr2
  obtain ⟨z, rfl⟩ := hr2
  rw [← hN, List.take_length] at hr1
  refine ⟨z, iter_from (fun i => ((), hL (PHs o fv (edgeOf xs o) (bestL m (keepsB xs o) ((plansL o.2.1).take i)) .ready ((plansL o.2.1)[i]?.getD [])))) ?_ N FUEL (fun i hi => ?_) ?_ (fuel_gt (by omega))⟩
  · have h0 := hrun.2
    rw [List.head?_eq_getElem?] at h0
    simp only [h0, Option.getD_some, hlu]
    rfl
  · have hi1 : (plansL o.2.1)[i]? = some (plansL o.2.1)[i] := List.getElem?_eq_getElem (by omega)
    have hi2 : (plansL o.2.1)[i + 1]? = some (plansL o.2.1)[i + 1] := List.getElem?_eq_getElem (by omega)
    obtain ⟨r, hr1, hr2⟩ := step i _ hi1
    rw [hi2] at hr2
    simp only at hr2
    subst hr2
    simp only [hi1, hi2, Option.getD_some]
    exact hr1
  · simp only [hlast, Option.getD_some]
    exact hr1
end Go.Proofs.Ytfkabibbaajfhaa
/- blend.first; blend.Best and blend.Most. Conditions: those of each law. -/
namespace Go.Proofs.Ytfkabibbaajfhaa
open Go Go.Proofs.Ytfkabibbaajfhaa.Ev
set_option linter.unusedVariables false
set_option linter.unusedSimpArgs false
set_option maxRecDepth 100000
set_option maxHeartbeats 4000000
def firstR (m : List Int → Int) : Option (List Int) → SV × Int × Int
  | none => (⟨.nil, 0, 0, false⟩, 0, 20)
  | some a => (rowSV true j1 a, m a, 0)
theorem first_ok {T : Table} {xs : List (Int × Int)} {o : OrdT} {fv : V} {m : List Int → Int} (hb : OkO xs o → ByOK T fv m o) (hfv : V.isCell fv = true) :
    ∃ sl, blend_first T (rowSV false j2 xs) (rowSV false j2 o.1, rowSV false j1 o.2.1, rowSV false j1 o.2.2.1, o.2.2.2.1, o.2.2.2.2.1, o.2.2.2.2.2) fv (hL [oS o]) = some (if bcheckOf xs o = 0 then firstR m (bestL m (keepsB xs o) (plansL o.2.1)) else (⟨.nil, 0, 0, false⟩, 0, 1), hL sl) := by
  have q1 := rds_oS (sl := [oS o, oS o, oneS fv]) (id := 1) (o := o) rfl
  have w3 := wrs_c2 (sl := [oS o, oS o, oneS fv, c2 (0, 0)]) (id := 3) (x := (0, 0)) (y := edgeOf xs o) rfl
  have q1' := rds_oS (sl := [oS o, oS o, oneS fv, c2 (edgeOf xs o), oneS (outV none)]) (id := 1) (o := o) rfl
  have q5 := rd_oS (sl := [oS o, oS o, oneS fv, c2 (edgeOf xs o), oneS (outV none), oS o, .loop .ready]) (id := 5) (o := o) rfl
  simp only [oS, oneS, c2, outV, List.set_cons_succ, List.set_cons_zero] at q1 w3 q1' q5
  unfold blend_first
  try simp -implicitDefEqProofs only [evs, reduceIte, rdRes, rdTT, rdTy, rdLT, Res.un, TT.un, Ty.un, LT.un, Leaf.un, Leaf.plain, LT.plain, guardO_pos hfv, hL_new, hL_next, List.cons_append, List.nil_append, List.length_nil, List.length_cons, Nat.zero_add, Nat.reduceAdd, q1]
  try simp -implicitDefEqProofs only [evs, reduceIte, rdRes, rdTT, rdTy, rdLT, Res.un, TT.un, Ty.un, LT.un, Leaf.un, Leaf.plain, LT.plain, ord_eta, BCheck_ok]
  by_cases hc : bcheckOf xs o = 0
  · have h := bcheck_iff.1 hc
    have hb := hb h
    have h4 := h.l4
    have hlu := h.lu
    rw [decide_eq_true hc, if_pos hc]
    try simp -implicitDefEqProofs only [evs, reduceIte, rdRes, rdTT, rdTy, rdLT, Res.un, TT.un, Ty.un, LT.un, Leaf.un, Leaf.plain, LT.plain, q1]
    try simp -implicitDefEqProofs only [evs, reduceIte, rdRes, rdTT, rdTy, rdLT, Res.un, TT.un, Ty.un, LT.un, Leaf.un, Leaf.plain, LT.plain, ord_eta]
    rw [edge_ok h]
    try simp -implicitDefEqProofs only [evs, reduceIte, rdRes, rdTT, rdTy, rdLT, Res.un, TT.un, Ty.un, LT.un, Leaf.un, Leaf.plain, LT.plain, guardO_pos hfv, hL_new, hL_next, List.cons_append, List.nil_append, List.length_nil, List.length_cons, Nat.zero_add, Nat.reduceAdd]
    rw [w3]
    try simp -implicitDefEqProofs only [evs, reduceIte, rdRes, rdTT, rdTy, rdLT, Res.un, TT.un, Ty.un, LT.un, Leaf.un, Leaf.plain, LT.plain, hL_new, hL_next, List.cons_append, List.nil_append, List.length_nil, List.length_cons, Nat.zero_add, Nat.reduceAdd, q1']
    unfold blend_plans
    try simp -implicitDefEqProofs only [evs, reduceIte, rdRes, rdTT, rdTy, rdLT, Res.un, TT.un, Ty.un, LT.un, Leaf.un, Leaf.plain, LT.plain, hL_new, hL_newS, hL_next, List.cons_append, List.nil_append, List.length_nil, List.length_cons, Nat.zero_add, Nat.reduceAdd]
    rw [plans_call]
    unfold blend_plans_1
    have enn : V.nn (V.hp 5 6 0) = true := rfl
    have e51 : V.add (V.hp 5 6 0) 1 = V.hp 5 6 1 := rfl
    try simp -implicitDefEqProofs only [guardO_pos enn, e51, q5.2.1, Option.bind_some, rowSV_len, Int.toNat_natCast, zeros_u, hL_new, hL_next, List.cons_append, List.nil_append]
    rw [guardO_pos ⟨by omega, by omega, by unfold roomCells; omega, by omega, trivial⟩]
    obtain ⟨z, hz⟩ := plans_loop (T := T) (xs := xs) (o := o) (fv := fv) (m := m) (h := hL [oS o]) (h1 := hL [oS o, oS o]) (h2 := hL [oS o, oS o, oneS fv]) (h16 := hL [oS o, oS o, oneS fv, c2 (edgeOf xs o)]) (h20 := hL [oS o, oS o, oneS fv, c2 (edgeOf xs o), oneS (outV none), oS o]) (hh := hL [oS o, oS o, oneS fv, c2 (edgeOf xs o), oneS (outV none), oS o, .loop .ready]) h hb rfl rfl rfl rfl rfl rfl
    rw [← hlu] at hz
    generalize hbest : bestL m (keepsB xs o) (plansL o.2.1) = best at hz ⊢
    have hend := endL_hL (sl := PHs o fv (edgeOf xs o) best .ready z) (id := 6) rfl
    have qo := rd_out (sl := PHs o fv (edgeOf xs o) best .exhausted z) (id := 4) (b := best) rfl
    have qd := rd_dyn (sl := PHs o fv (edgeOf xs o) best .exhausted z) (id := 2) (v := fv) rfl
    simp only [oS, oneS, c2, uS, outV, List.set_cons_succ, List.set_cons_zero] at hz hend qo qd
    rw [hz]
    try simp -implicitDefEqProofs only [evs, reduceIte, rdRes, rdTT, rdTy, rdLT, Res.un, TT.un, Ty.un, LT.un, Leaf.un, Leaf.plain, LT.plain]
    rw [hend]
    try simp -implicitDefEqProofs only [evs, reduceIte, rdRes, rdTT, rdTy, rdLT, Res.un, TT.un, Ty.un, LT.un, Leaf.un, Leaf.plain, LT.plain]
    rw [qo]
    cases best with
    | none =>
      try simp -implicitDefEqProofs only [evs, reduceIte, rdRes, rdTT, rdTy, rdLT, Res.un, TT.un, Ty.un, LT.un, Leaf.un, Leaf.plain, LT.plain, outSV, V.mayNil, V.nn]
      exact ⟨_, rfl⟩
    | some a =>
      have hao := better_ok (m := m) h (L := plansL o.2.1) (fun u hu => plan_ok h hu) a hbest
      have hacall := fun (R : Type) (k : V → H → Option R) => hb (PHs o fv (edgeOf xs o) (some a) .exhausted z) rfl (rowSV true j1 a) a hao (rdRow_res (ls := j1) rfl) k
      simp only [rowSV_len, rowSV_cap, rowSV_tail, oS, oneS, c2, uS, outV] at hacall
      have hne : (cellsL j1 a).isEmpty = false := by
        have : (cellsL j1 a).length = a.length * 1 := flat_length (ls := j1) a
        cases hca : cellsL j1 a with
        | nil => rw [hca] at this; have := hao.len; have := h.l0; simp at *; omega
        | cons _ _ => rfl
      have m1 : V.mayNil (rowSV true j1 a).a = false := hne
      have m2 : V.nn (rowSV true j1 a).a = true := by
        show (!(cellsL j1 a).isEmpty) = true
        rw [hne]; rfl
      try simp -implicitDefEqProofs only [evs, reduceIte, rdRes, rdTT, rdTy, rdLT, Res.un, TT.un, Ty.un, LT.un, Leaf.un, Leaf.plain, LT.plain, outSV, m1, m2]
      rw [qd]
      try simp -implicitDefEqProofs only [evs, reduceIte, rdRes, rdTT, rdTy, rdLT, Res.un, TT.un, Ty.un, LT.un, Leaf.un, Leaf.plain, LT.plain]
      rw [hacall]
      try simp -implicitDefEqProofs only [evs, reduceIte, rdRes, rdTT, rdTy, rdLT, Res.un, TT.un, Ty.un, LT.un, Leaf.un, Leaf.plain, LT.plain, Res.pack, Ty.pack, Leaf.pack, eq_self]
      exact ⟨_, rfl⟩
  · rw [decide_eq_false hc, if_neg hc]
    try simp -implicitDefEqProofs only [evs, reduceIte, rdRes, rdTT, rdTy, rdLT, Res.un, TT.un, Ty.un, LT.un, Leaf.un, Leaf.plain, LT.plain]
    exact ⟨_, rfl⟩
theorem byBest {xs : List (Int × Int)} {o : OrdT} (h : OkO xs o) : ByOK blend_Best.tb (.func 34 [.hp 0 6 0]) (costO o) o := fun sl hs sv u hu hr R k => by
  have e : callQ blend_Best.tb.dy (.func 34 [.hp 0 6 0]) [.slice sv.a sv.len sv.cap sv.tail] (hL sl) k = (blend_Best_1.r sv (.hp 0 6 0) (hL sl)).bind fun p => k (.int .i64 p) (hL sl) := rfl
  rw [e]
  unfold blend_Best_1.r blend_Best_1
  try simp -implicitDefEqProofs only [rds_oS hs]
  try simp -implicitDefEqProofs only [evs, reduceIte, rdRes, rdTT, rdTy, rdLT, Res.un, TT.un, Ty.un, LT.un, Leaf.un, Leaf.plain, LT.plain, ord_eta, hr]
  rw [(costP_ok h hu).1]
  try simp -implicitDefEqProofs only [evs, reduceIte, rdRes, rdTT, rdTy, rdLT, Res.un, TT.un, Ty.un, LT.un, Leaf.un, Leaf.plain, LT.plain]
theorem Best_ok (xs : List (Int × Int)) (o : OrdT) : blend_BestP xs o = some (bestOf xs o) := by
  obtain ⟨sl, hf⟩ := first_ok (T := blend_Best.tb) (xs := xs) (o := o) (fv := .func 34 [.hp 0 6 0]) (m := costO o) byBest rfl
  have q1 := rds_oS (sl := [oS o]) (id := 0) (o := o) rfl
  simp only [oS] at q1 hf
  unfold blend_BestP blend_Best
  try simp -implicitDefEqProofs only [evs, reduceIte, rdRes, rdTT, rdTy, rdLT, Res.un, TT.un, Ty.un, LT.un, Leaf.un, Leaf.plain, LT.plain, hL_empty, hL_new, hL_next, List.nil_append, List.length_nil, q1]
  rw [hf]
  unfold bestOf bestO
  by_cases hc : bcheckOf xs o = 0
  · rw [if_pos hc, if_pos hc]
    cases bestL (costO o) (keepsB xs o) (plansL o.2.1) with
    | none => simp -implicitDefEqProofs only [evs, reduceIte, rdRes, rdTT, rdTy, rdLT, Res.un, TT.un, Ty.un, LT.un, Leaf.un, Leaf.plain, LT.plain, firstR]
    | some a =>
      have hrr : rdRow false (hL sl) j1 ⟨(rowSV true j1 a).a, a.length, a.length, true⟩ = some a := rdRow_res (ls := j1) rfl
      try simp -implicitDefEqProofs only [evs, reduceIte, rdRes, rdTT, rdTy, rdLT, Res.un, TT.un, Ty.un, LT.un, Leaf.un, Leaf.plain, LT.plain, firstR, hrr]
  · rw [if_neg hc, if_neg hc]
    try simp -implicitDefEqProofs only [evs, reduceIte, rdRes, rdTT, rdTy, rdLT, Res.un, TT.un, Ty.un, LT.un, Leaf.un, Leaf.plain, LT.plain]
end Go.Proofs.Ytfkabibbaajfhaa
/- The cheapest units of a sum: what a bound is. Conditions: those of each law. -/
namespace Go.Proofs.Ytfkabibbaajfhaa
open Go Go.Proofs.Ytfkabibbaajfhaa.Ev
set_option linter.unusedVariables false
set_option linter.unusedSimpArgs false
set_option maxRecDepth 100000
set_option maxHeartbeats 4000000
end Go.Proofs.Ytfkabibbaajfhaa
/- A block of pairs that is sorted: the small steps. Conditions: those of each law. -/
namespace Go.Proofs.Ytfkabibbaajfhaa
open Go Go.Proofs.Ytfkabibbaajfhaa.Ev
set_option linter.unusedVariables false
set_option linter.unusedSimpArgs false
set_option maxRecDepth 100000
set_option maxHeartbeats 4000000
section steps
variable {sl : List Slot} {id e N : Nat} (hid : id < sl.length)
include hid
end steps
end Go.Proofs.Ytfkabibbaajfhaa
/- Insertion sort of pairs. Conditions: those of each law. -/
namespace Go.Proofs.Ytfkabibbaajfhaa
open Go Go.Proofs.Ytfkabibbaajfhaa.Ev
set_option linter.unusedVariables false
set_option linter.unusedSimpArgs false
set_option maxRecDepth 100000
set_option maxHeartbeats 4000000
section sort
variable {T : Table} {v : V} {sl : List Slot} {id e N n cp : Nat} {t : Bool} {D : Int × Int → Prop} {c : Int × Int → Int × Int → Int} {lt : Int × Int → Int × Int → Prop}
end sort
end Go.Proofs.Ytfkabibbaajfhaa
/- Bound of package blend and of its reference. Conditions: those of each law. -/
namespace Go.Proofs.Ytfkabibbaajfhaa
open Go Go.Proofs.Ytfkabibbaajfhaa.Ev
set_option linter.unusedVariables false
set_option linter.unusedSimpArgs false
set_option maxRecDepth 100000
set_option maxHeartbeats 4000000
end Go.Proofs.Ytfkabibbaajfhaa
/- Bound of package blend. Conditions: those of each law. -/
namespace Go.Proofs.Ytfkabibbaajfhaa
open Go Go.Proofs.Ytfkabibbaajfhaa.Ev
set_option linter.unusedVariables false
set_option linter.unusedSimpArgs false
set_option maxRecDepth 100000
set_option maxHeartbeats 4000000
end Go.Proofs.Ytfkabibbaajfhaa
/- Bound of the reference of package blend. Conditions: those of each law. -/
namespace Go.Proofs.Ytfkabibbaajfhaa
open Go Go.Proofs.Ytfkabibbaajfhaa.Ev
set_option linter.unusedVariables false
set_option linter.unusedSimpArgs false
set_option maxRecDepth 100000
set_option maxHeartbeats 4000000
end Go.Proofs.Ytfkabibbaajfhaa
/- The laws BlendKeeps and BlendPlans in plain numbers. Conditions: none. -/
namespace Go.Proofs.Ytfkabibbaajfhaa
open Go Go.Proofs.Ytfkabibbaajfhaa.Ev
set_option linter.unusedVariables false
set_option linter.unusedSimpArgs false
set_option maxRecDepth 100000
set_option maxHeartbeats 4000000
theorem awake29 : spilelaw29_awakeP = some true := by kernel_rfl
theorem Few16_ok (xs : List (Int × Int)) : ∃ b, spileref16_FewP xs = some b := by
  unfold spileref16_FewP spileref16_Few
  try simp -implicitDefEqProofs only [evs, reduceIte, rdRes, rdTT, rdTy, rdLT, Res.un, TT.un, Ty.un, LT.un, Leaf.un, Leaf.plain, LT.plain]
  cases decide ((xs.length : Int) ≤ 20) with
  | true => exact ⟨_, rfl⟩
  | false =>
    cases decide ((128 : Int) < (xs.length : Int)) with
    | true => exact ⟨_, rfl⟩
    | false => exact ⟨_, rfl⟩
theorem rFew_loop {o : OrdT} (hl : o.2.1.length ≤ 8) : ∃ x, iter FUEL (spileref29_Few.loop1 (hL [])) (((1 : Int), (0 : Int)), hL [oS o]) = some x ∧ (x = (.ret true, hL [oS o]) ∨ ∃ n, x = (.ex0 n, hL [oS o])) := by
  have r1 := rd_oS (sl := [oS o]) (id := 0) (o := o) rfl
  exact iter_inv (f := spileref29_Few.loop1 (hL [])) (Inv := fun s => ∃ i : Nat, s = ((prodU (o.2.1.take i), (i : Int)), hL [oS o]) ∧ i ≤ o.2.1.length ∧ (o.2.1.take i).all (inB 64) = true)
    (Post := fun x => x = (.ret true, hL [oS o]) ∨ ∃ n, x = (.ex0 n, hL [oS o])) (fun s => o.2.1.length - s.1.2.toNat) (fun s inv => by
      obtain ⟨i, rfl, hi, ha⟩ := inv
      by_cases hlt : i < o.2.1.length
      · have hg : 0 ≤ (i : Int) ∧ (i : Int) < (o.2.1.length : Int) := by omega
        have two : ∀ (x : Int) (h : H), (bif !(decide (x < 0)) then some ((decide ((64 : Int) < x)), h) else some (true, h) : Option (Bool × H)) = some (!inB 64 x, h) := fun x h => by
          unfold inB
          by_cases h1 : x < 0
          · rw [decide_eq_true h1, decide_eq_false (p := _ ∧ _) (by omega)]; rfl
          · rw [decide_eq_false h1]
            by_cases h2 : (64 : Int) < x
            · rw [decide_eq_true h2, decide_eq_false (p := _ ∧ _) (by omega)]; rfl
            · rw [decide_eq_false h2, decide_eq_true (p := _ ∧ _) (by omega)]; rfl
        have hrd := rd_rowI (f := false) (h := hL [oS o]) (k := .i64) (xs := o.2.1) (i := i)
        rw [List.getElem?_eq_getElem hlt] at hrd
        cases hb : inB 64 o.2.1[i] with
        | false =>
          right
          refine ⟨(.ret true, hL [oS o]), ?_, .inl rfl⟩
          unfold spileref29_Few.loop1
          try simp -implicitDefEqProofs only [evs, reduceIte, rdRes, rdTT, rdTy, rdLT, Res.un, TT.un, Ty.un, LT.un, Leaf.un, Leaf.plain, LT.plain, hL_next, List.length_nil, Int.toNat_natCast, r1.2.1, guardO_pos hg]
          rw [decide_eq_true hg.2, cond_true, hrd]
          try simp -implicitDefEqProofs only [evs, reduceIte, rdRes, rdTT, rdTy, rdLT, Res.un, TT.un, Ty.un, LT.un, Leaf.un, Leaf.plain, LT.plain]
          rw [two, hb]
          try simp -implicitDefEqProofs only [evs, reduceIte, rdRes, rdTT, rdTy, rdLT, Res.un, TT.un, Ty.un, LT.un, Leaf.un, Leaf.plain, LT.plain]
        | true =>
          have hall : (o.2.1.take (i + 1)).all (inB 64) = true := by
            rw [← List.take_append_getElem hlt, List.all_append, ha]
            simp [hb]
          have hst := prodU_step hall (by rw [List.length_take]; omega) (i := i) (by rw [List.length_take]; omega)
          rw [List.take_take, Nat.min_eq_left (by omega), List.take_take, Nat.min_self, List.getElem_take] at hst
          by_cases hbig : 4096 < prodU (o.2.1.take (i + 1))
          · right
            refine ⟨(.ret true, hL [oS o]), ?_, .inl rfl⟩
            unfold spileref29_Few.loop1
            try simp -implicitDefEqProofs only [evs, reduceIte, rdRes, rdTT, rdTy, rdLT, Res.un, TT.un, Ty.un, LT.un, Leaf.un, Leaf.plain, LT.plain, hL_next, List.length_nil, Int.toNat_natCast, r1.2.1, guardO_pos hg]
            rw [decide_eq_true hg.2, cond_true, hrd]
            try simp -implicitDefEqProofs only [evs, reduceIte, rdRes, rdTT, rdTy, rdLT, Res.un, TT.un, Ty.un, LT.un, Leaf.un, Leaf.plain, LT.plain]
            rw [two, hb]
            try simp -implicitDefEqProofs only [evs, reduceIte, rdRes, rdTT, rdTy, rdLT, Res.un, TT.un, Ty.un, LT.un, Leaf.un, Leaf.plain, LT.plain, r1.2.1, guardO_pos hg]
            rw [hrd]
            try simp -implicitDefEqProofs only [evs, reduceIte, rdRes, rdTT, rdTy, rdLT, Res.un, TT.un, Ty.un, LT.un, Leaf.un, Leaf.plain, LT.plain]
            rw [hst, decide_eq_true hbig]
            try simp -implicitDefEqProofs only [evs, reduceIte, rdRes, rdTT, rdTy, rdLT, Res.un, TT.un, Ty.un, LT.un, Leaf.un, Leaf.plain, LT.plain]
          · left
            refine ⟨((prodU (o.2.1.take (i + 1)), ((i + 1 : Nat) : Int)), hL [oS o]), ?_, ⟨i + 1, rfl, by omega, hall⟩, by simp only [Int.toNat_natCast]; omega⟩
            unfold spileref29_Few.loop1
            try simp -implicitDefEqProofs only [evs, reduceIte, rdRes, rdTT, rdTy, rdLT, Res.un, TT.un, Ty.un, LT.un, Leaf.un, Leaf.plain, LT.plain, hL_next, List.length_nil, Int.toNat_natCast, r1.2.1, guardO_pos hg]
            rw [decide_eq_true hg.2, cond_true, hrd]
            try simp -implicitDefEqProofs only [evs, reduceIte, rdRes, rdTT, rdTy, rdLT, Res.un, TT.un, Ty.un, LT.un, Leaf.un, Leaf.plain, LT.plain]
            rw [two, hb]
            try simp -implicitDefEqProofs only [evs, reduceIte, rdRes, rdTT, rdTy, rdLT, Res.un, TT.un, Ty.un, LT.un, Leaf.un, Leaf.plain, LT.plain, r1.2.1, guardO_pos hg]
            rw [hrd]
            try simp -implicitDefEqProofs only [evs, reduceIte, rdRes, rdTT, rdTy, rdLT, Res.un, TT.un, Ty.un, LT.un, Leaf.un, Leaf.plain, LT.plain]
            rw [hst, decide_eq_false hbig]
            try simp -implicitDefEqProofs only [evs, reduceIte, rdRes, rdTT, rdTy, rdLT, Res.un, TT.un, Ty.un, LT.un, Leaf.un, Leaf.plain, LT.plain]
            rw [i64_succ (by omega)]
      · right
        refine ⟨(.ex0 (prodU (o.2.1.take i)), hL [oS o]), ?_, .inr ⟨_, rfl⟩⟩
        unfold spileref29_Few.loop1
        try simp -implicitDefEqProofs only [evs, reduceIte, rdRes, rdTT, rdTy, rdLT, Res.un, TT.un, Ty.un, LT.un, Leaf.un, Leaf.plain, LT.plain, hL_next, List.length_nil, Int.toNat_natCast, r1.2.1]
        rw [decide_eq_false (by omega), cond_false]) FUEL _ ⟨0, rfl, Nat.zero_le _, rfl⟩ (by
      have := fuel_gt (n := o.2.1.length - (0 : Int).toNat) (by omega)
      exact this)
theorem rFew_ok (o : OrdT) : ∃ b, spileref29_FewP o = some b := by
  have r1 := rd_oS (sl := [oS o]) (id := 0) (o := o) rfl
  have three : ∀ (a b c : Nat) (h : H), (bif !(decide ((8 : Int) < (a : Int))) then (bif !(decide ((8 : Int) < (b : Int))) then some ((decide ((8 : Int) < (c : Int))), h) else some (true, h)) else some (true, h) : Option (Bool × H)) = some (!decide (a ≤ 8 ∧ b ≤ 8 ∧ c ≤ 8), h) := fun a b c h => by
    by_cases h1 : (8 : Int) < (a : Int)
    · rw [decide_eq_true h1, decide_eq_false (p := _ ∧ _) (by omega)]; rfl
    · rw [decide_eq_false h1]
      by_cases h2 : (8 : Int) < (b : Int)
      · rw [decide_eq_true h2, decide_eq_false (p := _ ∧ _) (by omega)]; rfl
      · rw [decide_eq_false h2]
        by_cases h3 : (8 : Int) < (c : Int)
        · rw [decide_eq_true h3, decide_eq_false (p := _ ∧ _) (by omega)]; rfl
        · rw [decide_eq_false h3, decide_eq_true (p := _ ∧ _) (by omega)]; rfl
  simp only [oS] at r1
  unfold spileref29_FewP spileref29_Few
  try simp -implicitDefEqProofs only [evs, reduceIte, rdRes, rdTT, rdTy, rdLT, Res.un, TT.un, Ty.un, LT.un, Leaf.un, Leaf.plain, LT.plain, hL_empty, hL_new, hL_next, List.nil_append, List.length_nil, r1.1, r1.2.1, r1.2.2.1]
  rw [three]
  try simp -implicitDefEqProofs only [evs, reduceIte, rdRes, rdTT, rdTy, rdLT, Res.un, TT.un, Ty.un, LT.un, Leaf.un, Leaf.plain, LT.plain]
  by_cases h8 : o.1.length ≤ 8 ∧ o.2.1.length ≤ 8 ∧ o.2.2.1.length ≤ 8
  · obtain ⟨x, l1, hx⟩ := rFew_loop h8.2.1
    simp only [oS] at l1 hx
    rw [decide_eq_true h8]
    try simp -implicitDefEqProofs only [evs, reduceIte, rdRes, rdTT, rdTy, rdLT, Res.un, TT.un, Ty.un, LT.un, Leaf.un, Leaf.plain, LT.plain]
    rw [l1]
    rcases hx with rfl | ⟨n, rfl⟩
    · simp -implicitDefEqProofs only [evs, reduceIte, rdRes, rdTT, rdTy, rdLT, Res.un, TT.un, Ty.un, LT.un, Leaf.un, Leaf.plain, LT.plain]
      exact ⟨_, rfl⟩
    · simp -implicitDefEqProofs only [evs, reduceIte, rdRes, rdTT, rdTy, rdLT, Res.un, TT.un, Ty.un, LT.un, Leaf.un, Leaf.plain, LT.plain]
      exact ⟨_, rfl⟩
  · rw [decide_eq_false h8]
    try simp -implicitDefEqProofs only [evs, reduceIte, rdRes, rdTT, rdTy, rdLT, Res.un, TT.un, Ty.un, LT.un, Leaf.un, Leaf.plain, LT.plain]
    exact ⟨_, rfl⟩
end Go.Proofs.Ytfkabibbaajfhaa
/- The law BlendSums in plain numbers. Conditions: none. -/
namespace Go.Proofs.Ytfkabibbaajfhaa
open Go Go.Proofs.Ytfkabibbaajfhaa.Ev
set_option linter.unusedVariables false
set_option linter.unusedSimpArgs false
set_option maxRecDepth 100000
set_option maxHeartbeats 4000000
end Go.Proofs.Ytfkabibbaajfhaa
/- The laws BlendBest and BlendMost in plain numbers. Conditions: none. -/
namespace Go.Proofs.Ytfkabibbaajfhaa
open Go Go.Proofs.Ytfkabibbaajfhaa.Ev
set_option linter.unusedVariables false
set_option linter.unusedSimpArgs false
set_option maxRecDepth 100000
set_option maxHeartbeats 4000000
/-- What is known of the best ones. -/
theorem best_facts {xs : List (Int × Int)} {o : OrdT} (h : OkO xs o) :
    (bestO xs o = none ∧ ∀ u, OkU o u → keepsB xs o u = false) ∨ ∃ a, bestO xs o = some a ∧ OkU o a ∧ keepsB xs o a = true ∧ ∀ u, OkU o u → keepsB xs o u = true → costO o a < costO o u ∨ costO o a = costO o u ∧ cmpL a u ≤ 0 := by
  have hm : ∀ u, OkU o u → u ∈ plansL o.2.1 := fun u hu => (mem_plans o.2.1 h.w0 u).2 ⟨by rw [hu.len, h.lu], hu.few⟩
  rcases bestL_law (m := costO o) (ok := keepsB xs o) (plansL o.2.1) (plans_sorted o.2.1) with ⟨h1, h2⟩ | ⟨a, h1, h2, h3, h4⟩
  · exact .inl ⟨h1, fun u hu => h2 u (hm u hu)⟩
  · exact .inr ⟨a, h1, plan_ok h h2, h3, fun u hu hk => h4 u (hm u hu) hk⟩
end Go.Proofs.Ytfkabibbaajfhaa
/- The law BlendWider in plain numbers. Conditions: none. -/
namespace Go.Proofs.Ytfkabibbaajfhaa
open Go Go.Proofs.Ytfkabibbaajfhaa.Ev
set_option linter.unusedVariables false
set_option linter.unusedSimpArgs false
set_option maxRecDepth 100000
set_option maxHeartbeats 4000000
theorem bind_next2 {α β γ : Type} {r : Option α} {k : α → Option β} {k2 : β → Option γ} {y : Option γ} (P : α → Prop) (h1 : ∃ a, r = some a ∧ P a) (h2 : ∀ a, P a → (k a).bind k2 = y) : (r.bind k).bind k2 = y := by
  obtain ⟨a, rfl, hp⟩ := h1
  exact h2 a hp
/-- An order whose slices lie in any rows. -/
abbrev oG (s1 s2 s3 : SV) (l hi a : Int) : Slot := .own [.slice s1.a s1.len s1.cap s1.tail, .slice s2.a s2.len s2.cap s2.tail, .slice s3.a s3.len s3.cap s3.tail, .int .i64 l, .int .i64 hi, .int .i64 a] 6
theorem wr_oG {sl : List Slot} {id : Nat} {s1 s2 s3 t1 t2 t3 : SV} {l hi a l' hi' a' : Int} (h : sl[id]? = some (oG s1 s2 s3 l hi a)) : H.wrs (hL sl) (.hp id 6 0) [.slice t1.a t1.len t1.cap t1.tail, .slice t2.a t2.len t2.cap t2.tail, .slice t3.a t3.len t3.cap t3.tail, .int .i64 l', .int .i64 hi', .int .i64 a'] = some (hL (sl.set id (oG t1 t2 t3 l' hi' a'))) := by
  rw [wrs_own (g := 6) h rfl (by simp)]; rfl
theorem wr_oG1 {sl : List Slot} {id : Nat} {s1 s2 s3 t : SV} {l hi a : Int} (h : sl[id]? = some (oG s1 s2 s3 l hi a)) : H.wrs (hL sl) (.hp id 6 1) [.slice t.a t.len t.cap t.tail] = some (hL (sl.set id (oG s1 t s3 l hi a))) := by
  rw [wrs_own (g := 6) h rfl (by simp)]; rfl
theorem wr_oG3 {sl : List Slot} {id : Nat} {s1 s2 s3 : SV} {l hi a v : Int} (h : sl[id]? = some (oG s1 s2 s3 l hi a)) : H.wrs (hL sl) (.hp id 6 3) [.int .i64 v] = some (hL (sl.set id (oG s1 s2 s3 v hi a))) := by
  rw [wrs_own (g := 6) h rfl (by simp)]; rfl
theorem wr_oG4 {sl : List Slot} {id : Nat} {s1 s2 s3 : SV} {l hi a v : Int} (h : sl[id]? = some (oG s1 s2 s3 l hi a)) : H.wrs (hL sl) (.hp id 6 4) [.int .i64 v] = some (hL (sl.set id (oG s1 s2 s3 l v a))) := by
  rw [wrs_own (g := 6) h rfl (by simp)]; rfl
theorem wr_oG5 {sl : List Slot} {id : Nat} {s1 s2 s3 : SV} {l hi a v : Int} (h : sl[id]? = some (oG s1 s2 s3 l hi a)) : H.wrs (hL sl) (.hp id 6 5) [.int .i64 v] = some (hL (sl.set id (oG s1 s2 s3 l hi v))) := by
  rw [wrs_own (g := 6) h rfl (by simp)]; rfl
theorem rd_oG {sl : List Slot} {id : Nat} {s1 s2 s3 : SV} {l hi a : Int} (h : sl[id]? = some (oG s1 s2 s3 l hi a)) : rdT (.agg [.slice, .slice, .slice, .int .i64, .int .i64, .int .i64]) (hL sl) (.hp id 6 0) = some (s1, s2, s3, l, hi, a) := by
  rw [rds_hp (by simp), hL_m, h]; rfl
theorem rd_oG1 {sl : List Slot} {id : Nat} {s1 s2 s3 : SV} {l hi a : Int} (h : sl[id]? = some (oG s1 s2 s3 l hi a)) : rdT (.leaf .slice) (hL sl) (.hp id 6 1) = some s2 ∧ rdT (.leaf (.int .i64)) (hL sl) (.hp id 6 5) = some a := by
  refine ⟨?_, ?_⟩ <;> (rw [rd_own (g := 6) h rfl]; rfl)
/-- The order with other ends. -/
def ordL (o : OrdT) (l hi : Int) : OrdT := (o.1, o.2.1, o.2.2.1, l, hi, o.2.2.2.2.2)
def ordA (o : OrdT) (a : Int) : OrdT := (o.1, o.2.1, o.2.2.1, o.2.2.2.1, o.2.2.2.2.1, a)
def ordU (o : OrdT) (w : List Int) : OrdT := (o.1, w, o.2.2.1, o.2.2.2.1, o.2.2.2.2.1, o.2.2.2.2.2)
theorem okL_wide {xs : List (Int × Int)} {o : OrdT} (h : OkO xs o) {w : Int} (hw : 0 ≤ w) : OkO xs (ordL o (max 0 (o.2.2.2.1 - w)) (min 10000 (o.2.2.2.2.1 + w))) := by
  obtain ⟨h1, h2, h3, h4, h5, h6, h7, h8, h9, h10, h11, h12, h13, h14⟩ := h
  exact ⟨h1, h2, h3, h4, h5, h6, h7, h8, by simp only [ordL]; omega, by simp only [ordL]; omega, by simp only [ordL]; omega, h12, h13, h14⟩
theorem okA_less {xs : List (Int × Int)} {o : OrdT} (h : OkO xs o) (ha : 1 < o.2.2.2.2.2) : OkO xs (ordA o (o.2.2.2.2.2 - 1)) := by
  obtain ⟨h1, h2, h3, h4, h5, h6, h7, h8, h9, h10, h11, h12, h13, h14⟩ := h
  exact ⟨h1, h2, h3, h4, h5, h6, h7, h8, h9, h10, h11, by simp only [ordA]; omega, by simp only [ordA]; omega, h14⟩
/-- The best ones of an order cost no more than units that carry it out. -/
theorem best_of_keeps {xs : List (Int × Int)} {o : OrdT} {a : List Int} (h : OkO xs o) (ha : OkU o a) (hk : keepsB xs o a = true) : (bestOf xs o).2.2 = 0 ∧ (bestOf xs o).2.1 ≤ costO o a := by
  unfold bestOf
  rw [if_pos (bcheck_iff.2 h)]
  rcases best_facts h with ⟨k1, k2⟩ | ⟨b, k1, k2, k3, k4⟩
  · rw [k2 a ha] at hk; cases hk
  · rw [k1]
    have := k4 a ha hk
    exact ⟨rfl, by simp only; omega⟩
theorem wide_ok {xs : List (Int × Int)} {o : OrdT} {a : List Int} (h : OkO xs o) (ha : OkU o a) (hk : keepsB xs o a = true) {w : Int} (hw : 0 ≤ w) : (bestOf xs (ordL o (max 0 (o.2.2.2.1 - w)) (min 10000 (o.2.2.2.2.1 + w)))).2.2 = 0 ∧ (bestOf xs (ordL o (max 0 (o.2.2.2.1 - w)) (min 10000 (o.2.2.2.2.1 + w)))).2.1 ≤ costO o a := by
  have h' := okL_wide h hw
  have ha' : OkU (ordL o (max 0 (o.2.2.2.1 - w)) (min 10000 (o.2.2.2.2.1 + w))) a := ⟨ha.len, ha.few⟩
  refine best_of_keeps h' ha' ?_
  have hs := (keeps_sum h hk).2
  have k1 := (keeps_strength h ha hs).2.2
  have k2 := (keeps_strength h' ha' hs).2.2
  rw [hk] at k1
  rw [k2]
  have k3 := Bool.and_eq_true_iff.1 k1.symm
  have k4 := of_decide_eq_true k3.1
  have k5 := of_decide_eq_true k3.2
  have hin : 0 ≤ (strengthOf xs (mixO o a)).1 ∧ (strengthOf xs (mixO o a)).1 ≤ 10000 := by
    have := h.low
    have := h.high
    omega
  have e : mixO (ordL o (max 0 (o.2.2.2.1 - w)) (min 10000 (o.2.2.2.2.1 + w))) a = mixO o a := rfl
  rw [e, Bool.and_eq_true]
  exact ⟨decide_eq_true (by simp only [ordL]; omega), decide_eq_true (by simp only [ordL]; omega)⟩
theorem less_ok {xs : List (Int × Int)} {o : OrdT} {a : List Int} (h : OkO xs o) (ha : OkU o a) (hk : keepsB xs o a = true) (h1 : 1 < o.2.2.2.2.2) : (bestOf xs (ordA o (o.2.2.2.2.2 - 1))).2.2 = 0 ∧ (bestOf xs (ordA o (o.2.2.2.2.2 - 1))).2.1 ≤ costO o a := by
  have h' := okA_less h h1
  have ha' : OkU (ordA o (o.2.2.2.2.2 - 1)) a := ⟨ha.len, ha.few⟩
  refine best_of_keeps h' ha' ?_
  have hs := (keeps_sum h hk).2
  have k1 := (keeps_strength h ha hs).2.2
  have k2 := (keeps_strength h' ha' (by simp only [ordA]; omega)).2.2
  rw [hk] at k1
  rw [k2]
  exact k1.symm
theorem more_ok {xs : List (Int × Int)} {o : OrdT} {a w : List Int} (h : OkO xs o) (ha : OkU o a) (hk : keepsB xs o a = true) (h' : OkO xs (ordU o w)) (hw : fewB w a = true) : (bestOf xs (ordU o w)).2.2 = 0 ∧ (bestOf xs (ordU o w)).2.1 ≤ costO o a :=
  best_of_keeps h' ⟨ha.len, hw⟩ hk
theorem few_more : ∀ (w a : List Int) (k : Nat), fewB w a = true → fewB (w.set k (g w k + 1)) a = true
  | [], a, k, h => by simpa using h
  | w :: ws, [], k, h => by cases k <;> simp [fewB]
  | w :: ws, x :: a, 0, h => by
    simp only [fewB, List.zip_cons_cons, List.all_cons, Bool.and_eq_true, decide_eq_true_eq, List.set_cons_zero] at h ⊢
    have : g (w :: ws) 0 = w := rfl
    rw [this]
    exact ⟨⟨h.1.1, by omega⟩, h.2⟩
  | w :: ws, x :: a, k + 1, h => by
    have ih := few_more ws a k
    have e : g (w :: ws) (k + 1) = g ws k := by simp [g]
    simp only [fewB, List.zip_cons_cons, List.all_cons, Bool.and_eq_true, List.set_cons_succ, e] at h ih ⊢
    exact ⟨h.1, ih h.2⟩
theorem get_last {α : Type} {sl : List α} {a : α} : (sl ++ [a])[sl.length]? = some a := by simp
theorem get_last2 {α : Type} {sl : List α} {a b : α} : (sl ++ [a] ++ [b])[sl.length]? = some a := by
  rw [List.getElem?_append_left (by simp), get_last]
theorem get_last3 {α : Type} {sl : List α} {a b : α} : (sl ++ [a] ++ [b])[sl.length + 1]? = some b := by
  rw [show sl.length + 1 = (sl ++ [a]).length by simp, get_last]
theorem set_last {α : Type} {sl : List α} {a b : α} : (sl ++ [a]).set sl.length b = sl ++ [b] := by
  rw [List.set_append_right _ _ (Nat.le_refl _), Nat.sub_self]; rfl
theorem set_last2 {α : Type} {sl : List α} {a b c : α} : (sl ++ [a] ++ [c]).set sl.length b = sl ++ [b] ++ [c] := by
  rw [List.set_append_left _ _ (by simp), set_last]
theorem set_last3 {α : Type} {sl : List α} {a b c : α} : (sl ++ [a] ++ [c]).set (sl.length + 1) b = sl ++ [a] ++ [b] := by
  rw [show sl.length + 1 = (sl ++ [a]).length by simp, set_last]
theorem BlendWider_plain (xs : List (Int × Int)) (o : OrdT) (w c : Int) (hw : 0 ≤ w ∧ w ≤ 255) (hc : 0 ≤ c ∧ c ≤ 255) : spilelaw29_BlendWiderP xs o w c = some true := by
  obtain ⟨b, hb⟩ := Few16_ok xs
  obtain ⟨b', hb'⟩ := rFew_ok o
  have q1 := rds_oS (sl := [oS o]) (id := 0) (o := o) rfl
  have r1 := rd_oS (sl := [oS o]) (id := 0) (o := o) rfl
  simp only [oS] at q1 r1
  unfold spilelaw29_BlendWiderP spilelaw29_BlendWider
  try simp -implicitDefEqProofs only [awake29, evs, reduceIte, rdRes, rdTT, rdTy, rdLT, Res.un, TT.un, Ty.un, LT.un, Leaf.un, Leaf.plain, LT.plain, hL_empty, hL_new, hL_next, List.nil_append, List.length_nil, hb]
  cases b with
  | false => simp -implicitDefEqProofs only [evs, reduceIte, rdRes, rdTT, rdTy, rdLT, Res.un, TT.un, Ty.un, LT.un, Leaf.un, Leaf.plain, LT.plain]
  | true =>
    try simp -implicitDefEqProofs only [evs, reduceIte, rdRes, rdTT, rdTy, rdLT, Res.un, TT.un, Ty.un, LT.un, Leaf.un, Leaf.plain, LT.plain, q1]
    try simp -implicitDefEqProofs only [evs, reduceIte, rdRes, rdTT, rdTy, rdLT, Res.un, TT.un, Ty.un, LT.un, Leaf.un, Leaf.plain, LT.plain, ord_eta, hb', r1.2.1]
    cases b' with
    | false => simp -implicitDefEqProofs only [evs, reduceIte, rdRes, rdTT, rdTy, rdLT, Res.un, TT.un, Ty.un, LT.un, Leaf.un, Leaf.plain, LT.plain]
    | true =>
      try simp -implicitDefEqProofs only [evs, reduceIte, rdRes, rdTT, rdTy, rdLT, Res.un, TT.un, Ty.un, LT.un, Leaf.un, Leaf.plain, LT.plain, r1.2.1]
      by_cases h0 : o.2.1.length = 0
      · rw [decide_eq_true (show (o.2.1.length : Int) = 0 by omega)]
        try simp -implicitDefEqProofs only [evs, reduceIte, rdRes, rdTT, rdTy, rdLT, Res.un, TT.un, Ty.un, LT.un, Leaf.un, Leaf.plain, LT.plain]
      · rw [decide_eq_false (show ¬ (o.2.1.length : Int) = 0 by omega)]
        try simp -implicitDefEqProofs only [evs, reduceIte, rdRes, rdTT, rdTy, rdLT, Res.un, TT.un, Ty.un, LT.un, Leaf.un, Leaf.plain, LT.plain, q1]
        try simp -implicitDefEqProofs only [evs, reduceIte, rdRes, rdTT, rdTy, rdLT, Res.un, TT.un, Ty.un, LT.un, Leaf.un, Leaf.plain, LT.plain, ord_eta, Best_ok]
        by_cases hck : bcheckOf xs o = 0
        · have h := bcheck_iff.1 hck
          rcases best_facts h with ⟨k1, k2⟩ | ⟨a, k1, k2, k3, k4⟩
          · have hbo : bestOf xs o = ([], 0, 20) := by unfold bestOf; rw [if_pos hck, k1]
            rw [hbo]
            try simp -implicitDefEqProofs only [evs, reduceIte, rdRes, rdTT, rdTy, rdLT, Res.un, TT.un, Ty.un, LT.un, Leaf.un, Leaf.plain, LT.plain, decide_eq_false (show ¬ (20 : Int) = 0 by omega), eq_self, decide_true]
          · have hbo : bestOf xs o = (a, costO o a, 0) := by unfold bestOf; rw [if_pos hck, k1]
            rw [hbo]
            try simp -implicitDefEqProofs only [evs, reduceIte, rdRes, rdTT, rdTy, rdLT, Res.un, TT.un, Ty.un, LT.un, Leaf.un, Leaf.plain, LT.plain, eq_self, decide_true, q1]
            have hwd := wide_ok h k2 k3 hw.1
            have z := (⟨.nil, 0, 0, false⟩ : SV)
            have hlow := h.low
            have hhigh := h.high
            have hlh := h.lh
            have n0 := wr_oG (sl := [oS o, oG ⟨.nil, 0, 0, false⟩ ⟨.nil, 0, 0, false⟩ ⟨.nil, 0, 0, false⟩ 0 0 0]) (id := 1) (t1 := rowSV false j2 o.1) (t2 := rowSV false j1 o.2.1) (t3 := rowSV false j1 o.2.2.1) (l' := o.2.2.2.1) (hi' := o.2.2.2.2.1) (a' := o.2.2.2.2.2) rfl
            have n3 := wr_oG3 (sl := [oS o, oG (rowSV false j2 o.1) (rowSV false j1 o.2.1) (rowSV false j1 o.2.2.1) o.2.2.2.1 o.2.2.2.2.1 o.2.2.2.2.2]) (id := 1) (v := max 0 (o.2.2.2.1 - w)) rfl
            have n4 := wr_oG4 (sl := [oS o, oG (rowSV false j2 o.1) (rowSV false j1 o.2.1) (rowSV false j1 o.2.2.1) (max 0 (o.2.2.2.1 - w)) o.2.2.2.2.1 o.2.2.2.2.2]) (id := 1) (v := min 10000 (o.2.2.2.2.1 + w)) rfl
            have g1 := rd_oG (sl := [oS o, oG (rowSV false j2 o.1) (rowSV false j1 o.2.1) (rowSV false j1 o.2.2.1) (max 0 (o.2.2.2.1 - w)) (min 10000 (o.2.2.2.2.1 + w)) o.2.2.2.2.2]) (id := 1) rfl
            have r2 := rd_oS (sl := [oS o, oG (rowSV false j2 o.1) (rowSV false j1 o.2.1) (rowSV false j1 o.2.2.1) o.2.2.2.1 o.2.2.2.2.1 o.2.2.2.2.2]) (id := 0) (o := o) rfl
            have r3 := rd_oS (sl := [oS o, oG (rowSV false j2 o.1) (rowSV false j1 o.2.1) (rowSV false j1 o.2.2.1) (max 0 (o.2.2.2.1 - w)) (min 10000 (o.2.2.2.2.1 + w)) o.2.2.2.2.2]) (id := 0) (o := o) rfl
            simp only [oS, oG, rowSV_len, rowSV_cap, rowSV_tail, List.set_cons_succ, List.set_cons_zero] at n0 n3 n4 g1 r2 r3
            try simp -implicitDefEqProofs only [evs, reduceIte, rdRes, rdTT, rdTy, rdLT, Res.un, TT.un, Ty.un, LT.un, Leaf.un, Leaf.plain, LT.plain, hL_new, hL_next, List.cons_append, List.nil_append, List.length_nil, List.length_cons, Nat.zero_add, Nat.reduceAdd]
            rw [n0]
            try simp -implicitDefEqProofs only [evs, reduceIte, rdRes, rdTT, rdTy, rdLT, Res.un, TT.un, Ty.un, LT.un, Leaf.un, Leaf.plain, LT.plain, r2.2.2.2.1, r2.2.2.2.2.1]
            rw [i64_in w (by omega), i64_in (o.2.2.2.1 - w) (by omega), i64_in (o.2.2.2.2.1 + w) (by omega), maxI_eq, minI_eq, Int.max_comm (o.2.2.2.1 - w) 0, Int.min_comm (o.2.2.2.2.1 + w) 10000, n3]
            try simp -implicitDefEqProofs only [evs, reduceIte, rdRes, rdTT, rdTy, rdLT, Res.un, TT.un, Ty.un, LT.un, Leaf.un, Leaf.plain, LT.plain]
            rw [n4]
            try simp -implicitDefEqProofs only [evs, reduceIte, rdRes, rdTT, rdTy, rdLT, Res.un, TT.un, Ty.un, LT.un, Leaf.un, Leaf.plain, LT.plain]
            rw [guardO_pos (show apartA (.hp 0 6 4) (.hp 1 6 3) = true from rfl), g1]
            try simp -implicitDefEqProofs only [evs, reduceIte, rdRes, rdTT, rdTy, rdLT, Res.un, TT.un, Ty.un, LT.un, Leaf.un, Leaf.plain, LT.plain, Best_ok]
            simp only [ordL] at hwd
            generalize bestOf xs (o.1, o.2.1, o.2.2.1, max 0 (o.2.2.2.1 - w), min 10000 (o.2.2.2.2.1 + w), o.2.2.2.2.2) = B1 at hwd ⊢
            obtain ⟨b1, b2, b3⟩ := B1
            simp only at hwd
            obtain ⟨rfl, hwd2⟩ := hwd
            try simp -implicitDefEqProofs only [evs, reduceIte, rdRes, rdTT, rdTy, rdLT, Res.un, TT.un, Ty.un, LT.un, Leaf.un, Leaf.plain, LT.plain, eq_self, decide_true]
            rw [decide_eq_false (show ¬ costO o a < b2 by omega)]
            try simp -implicitDefEqProofs only [evs, reduceIte, rdRes, rdTT, rdTy, rdLT, Res.un, TT.un, Ty.un, LT.un, Leaf.un, Leaf.plain, LT.plain, r3.2.2.2.2.2]
            refine bind_next2 (fun a => ∃ sl, a = (.next (), hL sl) ∧ sl[0]? = some (oS o)) ?_ ?_
            · by_cases ha1 : 1 < o.2.2.2.2.2
              · have hld := less_ok h k2 k3 ha1
                have p0 := rds_oS (sl := [oS o, oG (rowSV false j2 o.1) (rowSV false j1 o.2.1) (rowSV false j1 o.2.2.1) (max 0 (o.2.2.2.1 - w)) (min 10000 (o.2.2.2.2.1 + w)) o.2.2.2.2.2]) (id := 0) (o := o) rfl
                have p1 := wr_oG (sl := [oS o, oG (rowSV false j2 o.1) (rowSV false j1 o.2.1) (rowSV false j1 o.2.2.1) (max 0 (o.2.2.2.1 - w)) (min 10000 (o.2.2.2.2.1 + w)) o.2.2.2.2.2, oG ⟨.nil, 0, 0, false⟩ ⟨.nil, 0, 0, false⟩ ⟨.nil, 0, 0, false⟩ 0 0 0]) (id := 2) (t1 := rowSV false j2 o.1) (t2 := rowSV false j1 o.2.1) (t3 := rowSV false j1 o.2.2.1) (l' := o.2.2.2.1) (hi' := o.2.2.2.2.1) (a' := o.2.2.2.2.2) rfl
                have p2 := rd_oG1 (sl := [oS o, oG (rowSV false j2 o.1) (rowSV false j1 o.2.1) (rowSV false j1 o.2.2.1) (max 0 (o.2.2.2.1 - w)) (min 10000 (o.2.2.2.2.1 + w)) o.2.2.2.2.2, oG (rowSV false j2 o.1) (rowSV false j1 o.2.1) (rowSV false j1 o.2.2.1) o.2.2.2.1 o.2.2.2.2.1 o.2.2.2.2.2]) (id := 2) rfl
                have p3 := wr_oG5 (sl := [oS o, oG (rowSV false j2 o.1) (rowSV false j1 o.2.1) (rowSV false j1 o.2.2.1) (max 0 (o.2.2.2.1 - w)) (min 10000 (o.2.2.2.2.1 + w)) o.2.2.2.2.2, oG (rowSV false j2 o.1) (rowSV false j1 o.2.1) (rowSV false j1 o.2.2.1) o.2.2.2.1 o.2.2.2.2.1 o.2.2.2.2.2]) (id := 2) (v := o.2.2.2.2.2 - 1) rfl
                have p4 := rd_oG (sl := [oS o, oG (rowSV false j2 o.1) (rowSV false j1 o.2.1) (rowSV false j1 o.2.2.1) (max 0 (o.2.2.2.1 - w)) (min 10000 (o.2.2.2.2.1 + w)) o.2.2.2.2.2, oG (rowSV false j2 o.1) (rowSV false j1 o.2.1) (rowSV false j1 o.2.2.1) o.2.2.2.1 o.2.2.2.2.1 (o.2.2.2.2.2 - 1)]) (id := 2) rfl
                have ha2 := h.a2
                simp only [oS, oG, rowSV_len, rowSV_cap, rowSV_tail, List.set_cons_succ, List.set_cons_zero] at p0 p1 p2 p3 p4
                rw [decide_eq_true ha1]
                try simp -implicitDefEqProofs only [evs, reduceIte, rdRes, rdTT, rdTy, rdLT, Res.un, TT.un, Ty.un, LT.un, Leaf.un, Leaf.plain, LT.plain]
                rw [p0]
                try simp -implicitDefEqProofs only [evs, reduceIte, rdRes, rdTT, rdTy, rdLT, Res.un, TT.un, Ty.un, LT.un, Leaf.un, Leaf.plain, LT.plain, hL_new, hL_next, List.cons_append, List.nil_append, List.length_nil, List.length_cons, Nat.zero_add, Nat.reduceAdd]
                rw [p1]
                try simp -implicitDefEqProofs only [evs, reduceIte, rdRes, rdTT, rdTy, rdLT, Res.un, TT.un, Ty.un, LT.un, Leaf.un, Leaf.plain, LT.plain]
                rw [p2.2]
                try simp -implicitDefEqProofs only [evs, reduceIte, rdRes, rdTT, rdTy, rdLT, Res.un, TT.un, Ty.un, LT.un, Leaf.un, Leaf.plain, LT.plain]
                rw [i64_in (o.2.2.2.2.2 - 1) (by omega), p3]
                try simp -implicitDefEqProofs only [evs, reduceIte, rdRes, rdTT, rdTy, rdLT, Res.un, TT.un, Ty.un, LT.un, Leaf.un, Leaf.plain, LT.plain]
                rw [p4]
                try simp -implicitDefEqProofs only [evs, reduceIte, rdRes, rdTT, rdTy, rdLT, Res.un, TT.un, Ty.un, LT.un, Leaf.un, Leaf.plain, LT.plain, Best_ok]
                simp only [ordA] at hld
                generalize bestOf xs (o.1, o.2.1, o.2.2.1, o.2.2.2.1, o.2.2.2.2.1, o.2.2.2.2.2 - 1) = B2 at hld ⊢
                obtain ⟨d1, d2, d3⟩ := B2
                simp only at hld
                obtain ⟨rfl, hld2⟩ := hld
                try simp -implicitDefEqProofs only [evs, reduceIte, rdRes, rdTT, rdTy, rdLT, Res.un, TT.un, Ty.un, LT.un, Leaf.un, Leaf.plain, LT.plain, eq_self, decide_true]
                rw [decide_eq_false (show ¬ costO o a < d2 by omega)]
                try simp -implicitDefEqProofs only [evs, reduceIte, rdRes, rdTT, rdTy, rdLT, Res.un, TT.un, Ty.un, LT.un, Leaf.un, Leaf.plain, LT.plain]
                exact ⟨_, rfl, _, rfl, rfl⟩
              · rw [decide_eq_false ha1]
                exact ⟨_, rfl, _, rfl, rfl⟩
            · rintro _ ⟨sl, rfl, hsl⟩
              have hlt := (List.getElem?_eq_some_iff.1 hsl).1
              have hlu := h.lu
              have hl4 := h.l4
              have s0 := rds_oS hsl
              have s1 := wr_oG (sl := sl ++ [oG ⟨.nil, 0, 0, false⟩ ⟨.nil, 0, 0, false⟩ ⟨.nil, 0, 0, false⟩ 0 0 0]) (id := sl.length) (t1 := rowSV false j2 o.1) (t2 := rowSV false j1 o.2.1) (t3 := rowSV false j1 o.2.2.1) (l' := o.2.2.2.1) (hi' := o.2.2.2.2.1) (a' := o.2.2.2.2.2) get_last
              rw [set_last] at s1
              have s2 := rd_oS (sl := sl ++ [oG (rowSV false j2 o.1) (rowSV false j1 o.2.1) (rowSV false j1 o.2.2.1) o.2.2.2.1 o.2.2.2.2.1 o.2.2.2.2.2]) (id := 0) (o := o) (by rw [List.getElem?_append_left hlt]; exact hsl)
              have s3 := cloneX_row (f := false) (ls := j1) (xs := o.2.1) (w := 1) (b := 8) (sl := sl ++ [oG (rowSV false j2 o.1) (rowSV false j1 o.2.1) (rowSV false j1 o.2.2.1) o.2.2.2.1 o.2.2.2.2.1 o.2.2.2.2.2]) rfl (by omega) rfl (by omega) (by omega)
              rw [if_neg h0, if_neg h0, List.length_append, List.length_cons, List.length_nil, Nat.zero_add] at s3
              have s4 := wr_oG1 (sl := sl ++ [oG (rowSV false j2 o.1) (rowSV false j1 o.2.1) (rowSV false j1 o.2.2.1) o.2.2.2.1 o.2.2.2.2.1 o.2.2.2.2.2] ++ [uS o.2.1]) (id := sl.length) (t := ownSV (sl.length + 1) j1 o.2.1.length) get_last2
              rw [set_last2] at s4
              have s5 := rd_oG1 (sl := sl ++ [oG (rowSV false j2 o.1) (ownSV (sl.length + 1) j1 o.2.1.length) (rowSV false j1 o.2.2.1) o.2.2.2.1 o.2.2.2.2.1 o.2.2.2.2.2] ++ [uS o.2.1]) (id := sl.length) get_last2
              obtain ⟨n, hn⟩ : ∃ n, o.2.1.length = n := ⟨_, rfl⟩
              obtain ⟨k, hk⟩ : ∃ k : Nat, Int.tmod c (n : Int) = (k : Int) ∧ k < n := ⟨(c % (n : Int)).toNat, by rw [Int.tmod_eq_emod_of_nonneg hc.1]; have := Int.emod_nonneg c (show (n : Int) ≠ 0 by omega); omega, by have := Int.emod_lt_of_pos c (show 0 < (n : Int) by omega); have := Int.emod_nonneg c (show (n : Int) ≠ 0 by omega); omega⟩
              have hgk : 0 ≤ (k : Int) ∧ (k : Int) < (n : Int) := by omega
              have s6 := rd_u (sl := sl ++ [oG (rowSV false j2 o.1) (ownSV (sl.length + 1) j1 o.2.1.length) (rowSV false j1 o.2.2.1) o.2.2.2.1 o.2.2.2.2.1 o.2.2.2.2.2] ++ [uS o.2.1]) (id := sl.length + 1) (i := k) (n := n) get_last3 hn (by omega)
              rw [g_some (by omega)] at s6
              have s7 := wr_u (sl := sl ++ [oG (rowSV false j2 o.1) (ownSV (sl.length + 1) j1 o.2.1.length) (rowSV false j1 o.2.2.1) o.2.2.2.1 o.2.2.2.2.1 o.2.2.2.2.2] ++ [uS o.2.1]) (id := sl.length + 1) (i := k) (n := n) (x := g o.2.1 k + 1) get_last3 hn (by omega)
              rw [set_last3] at s7
              have s8 := rd_oG (sl := sl ++ [oG (rowSV false j2 o.1) (ownSV (sl.length + 1) j1 o.2.1.length) (rowSV false j1 o.2.2.1) o.2.2.2.1 o.2.2.2.2.1 o.2.2.2.2.2] ++ [uS (o.2.1.set k (g o.2.1 k + 1))]) (id := sl.length) get_last2
              have s9 := row_u (lp := true) (sl := sl ++ [oG (rowSV false j2 o.1) (ownSV (sl.length + 1) j1 o.2.1.length) (rowSV false j1 o.2.2.1) o.2.2.2.1 o.2.2.2.2.1 o.2.2.2.2.2] ++ [uS (o.2.1.set k (g o.2.1 k + 1))]) (id := sl.length + 1) (n := n) (c := n) (t := true) (u := o.2.1.set k (g o.2.1 k + 1)) get_last3 (by simpa using hn)
              have hgb : 0 ≤ g o.2.1 k ∧ g o.2.1 k ≤ 64 := ⟨h.w0 _ (g_mem (by omega)), h.w64 _ (g_mem (by omega))⟩
              have es : ownSV (sl.length + 1) j1 n = ⟨.hp (sl.length + 1) (n * 1) 0, n, n, true⟩ := rfl
              have ea : V.add (V.hp (sl.length + 1) (n * 1) 0) (k * 1) = V.hp (sl.length + 1) (n * 1) (k * 1) := by simp [V.add]
              obtain ⟨b2, hb2⟩ := rFew_ok (ordU o (o.2.1.set k (g o.2.1 k + 1)))
              have hck2 := BCheck_ok xs (ordU o (o.2.1.set k (g o.2.1 k + 1)))
              have hmore : bcheckOf xs (ordU o (o.2.1.set k (g o.2.1 k + 1))) = 0 → _ := fun hz => more_ok h k2 k3 (bcheck_iff.1 hz) (few_more o.2.1 a k k2.few)
              generalize bcheckOf xs (ordU o (o.2.1.set k (g o.2.1 k + 1))) = c3 at hck2 hmore
              simp only [ordU] at hb2 hck2 hmore
              rw [hn, es] at s4 s5 s6 s7 s8 s9
              rw [hn, es] at s3
              simp only [oS, oG, uS, rowSV_len, rowSV_cap, rowSV_tail] at s0 s1 s2 s3 s4 s5 s6 s7 s8 s9
              simp only
              rw [s0]
              try simp -implicitDefEqProofs only [evs, reduceIte, rdRes, rdTT, rdTy, rdLT, Res.un, TT.un, Ty.un, LT.un, Leaf.un, Leaf.plain, LT.plain, hL_new, hL_next]
              rw [s1]
              try simp -implicitDefEqProofs only [evs, reduceIte, rdRes, rdTT, rdTy, rdLT, Res.un, TT.un, Ty.un, LT.un, Leaf.un, Leaf.plain, LT.plain]
              rw [s2.2.1]
              try simp -implicitDefEqProofs only [evs, reduceIte, rdRes, rdTT, rdTy, rdLT, Res.un, TT.un, Ty.un, LT.un, Leaf.un, Leaf.plain, LT.plain]
              rw [s3]
              try simp -implicitDefEqProofs only [evs, reduceIte, rdRes, rdTT, rdTy, rdLT, Res.un, TT.un, Ty.un, LT.un, Leaf.un, Leaf.plain, LT.plain]
              rw [s4]
              try simp -implicitDefEqProofs only [evs, reduceIte, rdRes, rdTT, rdTy, rdLT, Res.un, TT.un, Ty.un, LT.un, Leaf.un, Leaf.plain, LT.plain]
              rw [s5.1]
              try simp -implicitDefEqProofs only [evs, reduceIte, rdRes, rdTT, rdTy, rdLT, Res.un, TT.un, Ty.un, LT.un, Leaf.un, Leaf.plain, LT.plain]
              rw [i64_in c (by omega), hk.1, guardO_pos (show (n : Int) ≠ 0 by omega), guardO_pos hgk]
              try simp -implicitDefEqProofs only [evs, reduceIte, rdRes, rdTT, rdTy, rdLT, Res.un, TT.un, Ty.un, LT.un, Leaf.un, Leaf.plain, LT.plain, Int.toNat_natCast, ea]
              rw [s6]
              try simp -implicitDefEqProofs only [evs, reduceIte, rdRes, rdTT, rdTy, rdLT, Res.un, TT.un, Ty.un, LT.un, Leaf.un, Leaf.plain, LT.plain, guardO_pos hgk]
              rw [i64_in (g o.2.1 k + 1) (by omega), s7]
              try simp -implicitDefEqProofs only [evs, reduceIte, rdRes, rdTT, rdTy, rdLT, Res.un, TT.un, Ty.un, LT.un, Leaf.un, Leaf.plain, LT.plain]
              rw [s8]
              try simp -implicitDefEqProofs only [evs, reduceIte, rdRes, rdTT, rdTy, rdLT, Res.un, TT.un, Ty.un, LT.un, Leaf.un, Leaf.plain, LT.plain]
              rw [s9]
              try simp -implicitDefEqProofs only [evs, reduceIte, rdRes, rdTT, rdTy, rdLT, Res.un, TT.un, Ty.un, LT.un, Leaf.un, Leaf.plain, LT.plain]
              rw [hck2]
              try simp -implicitDefEqProofs only [evs, reduceIte, rdRes, rdTT, rdTy, rdLT, Res.un, TT.un, Ty.un, LT.un, Leaf.un, Leaf.plain, LT.plain]
              by_cases hz : c3 = 0
              · rw [decide_eq_true hz]
                try simp -implicitDefEqProofs only [evs, reduceIte, rdRes, rdTT, rdTy, rdLT, Res.un, TT.un, Ty.un, LT.un, Leaf.un, Leaf.plain, LT.plain]
                rw [hb2]
                try simp -implicitDefEqProofs only [evs, reduceIte, rdRes, rdTT, rdTy, rdLT, Res.un, TT.un, Ty.un, LT.un, Leaf.un, Leaf.plain, LT.plain]
                cases b2 with
                | false => simp -implicitDefEqProofs only [evs, reduceIte, rdRes, rdTT, rdTy, rdLT, Res.un, TT.un, Ty.un, LT.un, Leaf.un, Leaf.plain, LT.plain]
                | true =>
                  try simp -implicitDefEqProofs only [evs, reduceIte, rdRes, rdTT, rdTy, rdLT, Res.un, TT.un, Ty.un, LT.un, Leaf.un, Leaf.plain, LT.plain]
                  rw [s8]
                  try simp -implicitDefEqProofs only [evs, reduceIte, rdRes, rdTT, rdTy, rdLT, Res.un, TT.un, Ty.un, LT.un, Leaf.un, Leaf.plain, LT.plain]
                  rw [s9]
                  try simp -implicitDefEqProofs only [evs, reduceIte, rdRes, rdTT, rdTy, rdLT, Res.un, TT.un, Ty.un, LT.un, Leaf.un, Leaf.plain, LT.plain]
                  obtain ⟨m1, m2⟩ := hmore hz
                  rw [m1]
                  try simp -implicitDefEqProofs only [evs, reduceIte, rdRes, rdTT, rdTy, rdLT, Res.un, TT.un, Ty.un, LT.un, Leaf.un, Leaf.plain, LT.plain, eq_self, decide_true]
                  rw [decide_eq_true m2]
              · rw [decide_eq_false hz]
                try simp -implicitDefEqProofs only [evs, reduceIte, rdRes, rdTT, rdTy, rdLT, Res.un, TT.un, Ty.un, LT.un, Leaf.un, Leaf.plain, LT.plain]
        · have hbo : bestOf xs o = ([], 0, 1) := by unfold bestOf; rw [if_neg hck]
          rw [hbo]
          try simp -implicitDefEqProofs only [evs, reduceIte, rdRes, rdTT, rdTy, rdLT, Res.un, TT.un, Ty.un, LT.un, Leaf.un, Leaf.plain, LT.plain, decide_eq_false (show ¬ (1 : Int) = 0 by omega), eq_self, decide_true]
theorem BlendWider_ok (xs : List (Int × Int)) (o : OrdT) (w c : Int) (h : TT.ok [.leaf (.row [.int .i64, .int .i64]), .agg [.row [.int .i64, .int .i64], .row [.int .i64], .row [.int .i64], .int .i64, .int .i64, .int .i64], .leaf (.int .u8), .leaf (.int .u8)] (xs, o, w, c)) : spilelaw29_BlendWiderP xs o w c = some true := by
  have hk : (Lit.int .u8 w).wf = true := h.2.2.1
  have hk2 : (Lit.int .u8 c).wf = true := h.2.2.2
  simp only [Lit.wf, Bool.and_eq_true, decide_eq_true_eq] at hk hk2
  have k1 : IntKind.min .u8 = 0 := rfl
  have k2 : IntKind.max .u8 = 255 := rfl
  rw [k1, k2] at hk hk2
  exact BlendWider_plain xs o w c (by omega) (by omega)
end Go.Proofs.Ytfkabibbaajfhaa
