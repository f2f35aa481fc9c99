/- What the functions of this seat compute: some texts in one. Conditions: those of each law. -/
import Derived.Test.YtfkabibbaajfhaaEvSpec
import Derived.Test.YtfkabibbaajfhaaFn9
/- Lists of numbers; searches in them. Conditions: those of each law. -/
namespace Go.Proofs.Ytfkabibbaajfhaa
open Go Go.Proofs.Ytfkabibbaajfhaa.Ev
set_option linter.unusedVariables false
set_option linter.unusedSimpArgs false
set_option maxRecDepth 100000
set_option maxHeartbeats 1000000
theorem u64_nat {n : Nat} (h : n < 18446744073709551616) : IntKind.u64.wrap (n : Int) = (n : Int) := IntWalk.u64_in _ (by omega)
theorem IndexFunc_int {T : Table} {v : V} {h : H} {xs : List Int} {f : Bool} (p : Int → Bool) (hn : xs.length < 2 ^ 63) (hc : ∀ x ∈ xs, ∀ {R : Type} (k : V → H → Option R), callV T.dy v [.int .i64 x] h k = k (.bool (p x)) h) :
    slices_IndexFunc_int_int T (rowSV f [.int .i64] xs) v h = some (idxOf p xs, h) := by
  unfold slices_IndexFunc_int_int
  rw [iter_find xs p (fun i => (i : Int)) hn (fun i x hx => by
    obtain ⟨hlt, rfl⟩ := List.getElem?_eq_some_iff.1 hx
    unfold slices_IndexFunc_int_int.loop1
    simp only [rowSV_len, Int.toNat_natCast]
    rw [decide_eq_true (by omega), cond_true, guardO_pos (by omega), rd_rowI, hx]
    simp only [Option.bind_some]
    rw [hc _ (List.getElem_mem hlt)]
    simp only [Res.pack, Ty.pack, Leaf.pack, Option.bind_some]
    rw [i64_succ (by omega)]
    cases p xs[i] <;> rfl) (by
    unfold slices_IndexFunc_int_int.loop1
    simp only [rowSV_len]
    rw [decide_eq_false (by omega), cond_false])]
  unfold idxOf
  cases xs.findIdx? p <;> rfl
theorem ContainsFunc_int {T : Table} {v : V} {h : H} {xs : List Int} {f : Bool} (p : Int → Bool) (hn : xs.length < 2 ^ 63) (hc : ∀ x ∈ xs, ∀ {R : Type} (k : V → H → Option R), callV T.dy v [.int .i64 x] h k = k (.bool (p x)) h) :
    slices_ContainsFunc_int_int T (rowSV f [.int .i64] xs) v h = some (xs.any p, h) := by
  unfold slices_ContainsFunc_int_int
  rw [IndexFunc_int (T := slices_ContainsFunc_int_int.tb T) p hn hc]
  simp only [Option.bind_some, idxOf_nonneg]
def g (xs : List Int) (k : Nat) : Int := (xs[k]?).getD 0
end Go.Proofs.Ytfkabibbaajfhaa
/- What sort.Search computes. Conditions: those of each law. -/
namespace Go.Proofs.Ytfkabibbaajfhaa
open Go Go.Proofs.Ytfkabibbaajfhaa.Ev
set_option linter.unusedVariables false
set_option linter.unusedSimpArgs false
set_option maxRecDepth 100000
set_option maxHeartbeats 4000000
theorem mid_eq {lo hi : Nat} (h : lo + hi < 4611686018427387904) : IntKind.wrap .i64 (Int.fdiv (IntKind.wrap .u64 (IntKind.wrap .i64 ((lo : Int) + (hi : Int)))) (2 ^ (min (Int.toNat 1) (IntKind.bits .u64)))) = (((lo + hi) / 2 : Nat) : Int) := by
  rw [← Int.natCast_add, i64_nat (by omega), u64_nat (by omega), show ((2 : Int) ^ (min (Int.toNat 1) (IntKind.bits .u64))) = 2 from rfl, Int.fdiv_eq_ediv_of_nonneg _ (by omega)]
  rw [show (((lo + hi : Nat) : Int) / 2) = (((lo + hi) / 2 : Nat) : Int) by omega, i64_nat (by omega)]
theorem search_step {T : Table} {v : V} {h : H} {lo hi : Nat} (p : Nat → Bool) (hlt : lo < hi) (hh : hi < 2305843009213693952)
    (hc : ∀ {R : Type} (k : V → H → Option R), callV T.dy v [.int .i64 (((lo + hi) / 2 : Nat) : Int)] h k = k (.bool (p ((lo + hi) / 2))) h) :
    sort_Search.loop1 T v (((lo : Int), (hi : Int)), h) = some (.more (if p ((lo + hi) / 2) = true then ((lo : Int), (((lo + hi) / 2 : Nat) : Int)) else ((((lo + hi) / 2 + 1 : Nat) : Int), (hi : Int)), h)) := by
  unfold sort_Search.loop1
  simp only [mid_eq (lo := lo) (hi := hi) (by omega)]
  rw [decide_eq_true (show (lo : Int) < (hi : Int) by omega), cond_true, hc]
  try simp -implicitDefEqProofs only [Res.pack, Ty.pack, Leaf.pack, Option.bind_some]
  cases p ((lo + hi) / 2) with
  | true => simp -implicitDefEqProofs only [evs, reduceIte, rdRes, rdTT, rdTy, rdLT, Res.un, TT.un, Ty.un, LT.un, Leaf.un, Leaf.plain, LT.plain]
  | false =>
    try simp -implicitDefEqProofs only [evs, reduceIte, rdRes, rdTT, rdTy, rdLT, Res.un, TT.un, Ty.un, LT.un, Leaf.un, Leaf.plain, LT.plain, Bool.false_eq_true]
    rw [i64_succ (by omega)]
theorem search_loop {T : Table} {v : V} {h : H} {n : Nat} (p : Nat → Bool) (hn : n < 2305843009213693952)
    (hc : ∀ m, m < n → ∀ {R : Type} (k : V → H → Option R), callV T.dy v [.int .i64 (m : Int)] h k = k (.bool (p m)) h) :
    ∀ (fuel lo hi : Nat), hi - lo < fuel → lo ≤ hi → hi ≤ n → (lo = 0 ∨ p (lo - 1) = false) → (hi = n ∨ p hi = true) →
      ∃ m : Nat, iter fuel (sort_Search.loop1 T v) (((lo : Int), (hi : Int)), h) = some (.ex0 (m : Int), h) ∧ m ≤ n ∧ (m = 0 ∨ p (m - 1) = false) ∧ (m = n ∨ p m = true)
  | 0, lo, hi, hf, _, _, _, _ => by omega
  | fuel + 1, lo, hi, hf, hle, hhn, h1, h2 => by
    rw [iter]
    by_cases e : lo = hi
    · subst e
      refine ⟨lo, ?_, hhn, h1, h2⟩
      have hend : sort_Search.loop1 T v (((lo : Int), (lo : Int)), h) = some (.done (.ex0 (lo : Int), h)) := by
        unfold sort_Search.loop1
        simp only
        rw [decide_eq_false (show ¬ (lo : Int) < (lo : Int) by omega), cond_false]
      rw [hend]
      rfl
    · rw [search_step p (by omega) (by omega) (hc _ (by omega))]
      by_cases hp : p ((lo + hi) / 2) = true
      · rw [if_pos hp]
        exact search_loop p hn hc fuel lo ((lo + hi) / 2) (by omega) (by omega) (by omega) h1 (.inr hp)
      · rw [if_neg hp]
        exact search_loop p hn hc fuel ((lo + hi) / 2 + 1) hi (by omega) (by omega) hhn (.inr (by rw [Nat.add_sub_cancel]; simpa using hp)) h2
/-- The place that a search finds: all before say no, all from there on say yes. -/
theorem Search_ok {T : Table} {v : V} {h : H} {n : Nat} (p : Nat → Bool) (hn : n < 2305843009213693952) (hm : ∀ a b, a ≤ b → b < n → p a = true → p b = true)
    (hc : ∀ m, m < n → ∀ {R : Type} (k : V → H → Option R), callV T.dy v [.int .i64 (m : Int)] h k = k (.bool (p m)) h) :
    ∃ m : Nat, sort_Search T (n : Int) v h = some ((m : Int), h) ∧ m ≤ n ∧ (∀ q, q < m → p q = false) ∧ (∀ q, m ≤ q → q < n → p q = true) := by
  obtain ⟨m, h1, h2, h3, h4⟩ := search_loop p hn hc FUEL 0 n (by have := fuel_gt (n := n) (by omega); omega) (by omega) (by omega) (.inl rfl) (.inl rfl)
  refine ⟨m, ?_, h2, fun q hq => ?_, fun q hq hqn => ?_⟩
  · unfold sort_Search
    have hz : ((0 : Nat) : Int) = 0 := rfl
    rw [hz] at h1
    rw [h1]
    rfl
  · rcases h3 with h3 | h3
    · omega
    · cases hpq : p q with
      | false => rfl
      | true =>
        have := hm q (m - 1) (by omega) (by omega) hpq
        rw [h3] at this
        exact absurd this (by simp)
  · rcases h4 with h4 | h4
    · omega
    · exact hm m q hq hqn h4
end Go.Proofs.Ytfkabibbaajfhaa
/- Slots of two numbers. Conditions: those of each law. -/
namespace Go.Proofs.Ytfkabibbaajfhaa
open Go Go.Proofs.Ytfkabibbaajfhaa.Ev
set_option linter.unusedVariables false
set_option linter.unusedSimpArgs false
set_option maxRecDepth 100000
set_option maxHeartbeats 4000000
abbrev j2 : List Leaf := [.int .i64, .int .i64]
abbrev c2 (x : Int × Int) : Slot := .own [.int .i64 x.1, .int .i64 x.2] 2
theorem new_c2 {sl : List Slot} {x : Int × Int} : H.wrs (hL (sl ++ [Slot.own [V.int .i64 0, V.int .i64 0] 2])) (.hp sl.length 2 0) [.int .i64 x.1, .int .i64 x.2] = some (hL (sl ++ [c2 x])) := by
  rw [wrs_own (g := 2) (cs := [V.int .i64 0, V.int .i64 0]) (e := 2) (by simp) rfl (by simp)]
  simp [splice]
theorem rd_c2 {sl : List Slot} {id : Nat} {x : Int × Int} (h : sl[id]? = some (c2 x)) : rdT (.leaf (.int .i64)) (hL sl) (.hp id 2 0) = some x.1 ∧ rdT (.leaf (.int .i64)) (hL sl) (.hp id 2 1) = some x.2 := by
  refine ⟨?_, ?_⟩
  · rw [rd_own (g := 2) h rfl]; rfl
  · rw [rd_own (g := 2) h rfl]; rfl
theorem rds_c2 {sl : List Slot} {id : Nat} {x : Int × Int} (h : sl[id]? = some (c2 x)) : rdT (.agg [.int .i64, .int .i64]) (hL sl) (.hp id 2 0) = some x := by
  rw [rds_hp (by simp), hL_m, h]; rfl
theorem wrs_c2 {sl : List Slot} {id : Nat} {x y : Int × Int} (h : sl[id]? = some (c2 x)) : H.wrs (hL sl) (.hp id 2 0) [.int .i64 y.1, .int .i64 y.2] = some (hL (sl.set id (c2 y))) := by
  rw [wrs_own (g := 2) h rfl (by simp)]; rfl
end Go.Proofs.Ytfkabibbaajfhaa
/- What plain of package mix computes. Conditions: those of each law. -/
namespace Go.Proofs.Ytfkabibbaajfhaa
open Go Go.Proofs.Ytfkabibbaajfhaa.Ev
set_option linter.unusedVariables false
set_option linter.unusedSimpArgs false
set_option maxRecDepth 100000
set_option maxHeartbeats 4000000
/-- A liquid that can be: its alcohol and its volume in range, no alcohol in no volume. -/
def isPlain (x : Int × Int) : Bool := decide (0 ≤ x.1 ∧ x.1 ≤ 10737418240000 ∧ 0 ≤ x.2 ∧ x.2 ≤ 128849018880000 ∧ (0 < x.2 ∨ x.1 = 0))
theorem isPlain_iff {x : Int × Int} : isPlain x = true ↔ 0 ≤ x.1 ∧ x.1 ≤ 10737418240000 ∧ 0 ≤ x.2 ∧ x.2 ≤ 128849018880000 ∧ (0 < x.2 ∨ x.1 = 0) := by simp [isPlain]
theorem plain_ok (a v : Int) : mix_plainP (a, v) = some (isPlain (a, v)) := by
  unfold mix_plainP mix_plain isPlain
  try simp -implicitDefEqProofs only [evs, reduceIte, rdRes, rdTT, rdTy, rdLT, Res.un, TT.un, Ty.un, LT.un, Leaf.un, Leaf.plain, LT.plain, evh, List.replicate, splice, LT.pack, Leaf.pack, Nat.reduceAdd, Nat.reduceSub, Nat.reduceLeDiff, Nat.reduceLT, Nat.reduceEqDiff, LT.lo, Leaf.lo]
  by_cases h1 : 0 ≤ a
  · rw [decide_eq_true h1]
    try simp -implicitDefEqProofs only [evs, reduceIte, rdRes, rdTT, rdTy, rdLT, Res.un, TT.un, Ty.un, LT.un, Leaf.un, Leaf.plain, LT.plain, evh, List.replicate, splice, LT.pack, Leaf.pack, Nat.reduceAdd, Nat.reduceSub, Nat.reduceLeDiff, Nat.reduceLT, Nat.reduceEqDiff, LT.lo, Leaf.lo]
    by_cases h2 : a ≤ 10737418240000
    · rw [decide_eq_true h2]
      try simp -implicitDefEqProofs only [evs, reduceIte, rdRes, rdTT, rdTy, rdLT, Res.un, TT.un, Ty.un, LT.un, Leaf.un, Leaf.plain, LT.plain, evh, List.replicate, splice, LT.pack, Leaf.pack, Nat.reduceAdd, Nat.reduceSub, Nat.reduceLeDiff, Nat.reduceLT, Nat.reduceEqDiff, LT.lo, Leaf.lo]
      by_cases h3 : 0 ≤ v
      · rw [decide_eq_true h3]
        try simp -implicitDefEqProofs only [evs, reduceIte, rdRes, rdTT, rdTy, rdLT, Res.un, TT.un, Ty.un, LT.un, Leaf.un, Leaf.plain, LT.plain, evh, List.replicate, splice, LT.pack, Leaf.pack, Nat.reduceAdd, Nat.reduceSub, Nat.reduceLeDiff, Nat.reduceLT, Nat.reduceEqDiff, LT.lo, Leaf.lo]
        by_cases h4 : v ≤ 128849018880000
        · rw [decide_eq_true h4]
          try simp -implicitDefEqProofs only [evs, reduceIte, rdRes, rdTT, rdTy, rdLT, Res.un, TT.un, Ty.un, LT.un, Leaf.un, Leaf.plain, LT.plain, evh, List.replicate, splice, LT.pack, Leaf.pack, Nat.reduceAdd, Nat.reduceSub, Nat.reduceLeDiff, Nat.reduceLT, Nat.reduceEqDiff, LT.lo, Leaf.lo]
          by_cases h5 : 0 < v
          · rw [decide_eq_true h5]
            try simp -implicitDefEqProofs only [evs, reduceIte, rdRes, rdTT, rdTy, rdLT, Res.un, TT.un, Ty.un, LT.un, Leaf.un, Leaf.plain, LT.plain, evh, List.replicate, splice, LT.pack, Leaf.pack, Nat.reduceAdd, Nat.reduceSub, Nat.reduceLeDiff, Nat.reduceLT, Nat.reduceEqDiff, LT.lo, Leaf.lo]
            rw [decide_eq_true (by omega)]
          · rw [decide_eq_false h5]
            try simp -implicitDefEqProofs only [evs, reduceIte, rdRes, rdTT, rdTy, rdLT, Res.un, TT.un, Ty.un, LT.un, Leaf.un, Leaf.plain, LT.plain, evh, List.replicate, splice, LT.pack, Leaf.pack, Nat.reduceAdd, Nat.reduceSub, Nat.reduceLeDiff, Nat.reduceLT, Nat.reduceEqDiff, LT.lo, Leaf.lo]
            by_cases h6 : a = 0
            · rw [decide_eq_true h6, decide_eq_true (by omega)]
            · rw [decide_eq_false h6, decide_eq_false (by omega)]
        · rw [decide_eq_false h4, decide_eq_false (p := _ ∧ _) (by omega)]
          try simp -implicitDefEqProofs only [evs, reduceIte, rdRes, rdTT, rdTy, rdLT, Res.un, TT.un, Ty.un, LT.un, Leaf.un, Leaf.plain, LT.plain, evh, List.replicate, splice, LT.pack, Leaf.pack, Nat.reduceAdd, Nat.reduceSub, Nat.reduceLeDiff, Nat.reduceLT, Nat.reduceEqDiff, LT.lo, Leaf.lo]
      · rw [decide_eq_false h3, decide_eq_false (p := _ ∧ _) (by omega)]
        try simp -implicitDefEqProofs only [evs, reduceIte, rdRes, rdTT, rdTy, rdLT, Res.un, TT.un, Ty.un, LT.un, Leaf.un, Leaf.plain, LT.plain, evh, List.replicate, splice, LT.pack, Leaf.pack, Nat.reduceAdd, Nat.reduceSub, Nat.reduceLeDiff, Nat.reduceLT, Nat.reduceEqDiff, LT.lo, Leaf.lo]
    · rw [decide_eq_false h2, decide_eq_false (p := _ ∧ _) (by omega)]
      try simp -implicitDefEqProofs only [evs, reduceIte, rdRes, rdTT, rdTy, rdLT, Res.un, TT.un, Ty.un, LT.un, Leaf.un, Leaf.plain, LT.plain, evh, List.replicate, splice, LT.pack, Leaf.pack, Nat.reduceAdd, Nat.reduceSub, Nat.reduceLeDiff, Nat.reduceLT, Nat.reduceEqDiff, LT.lo, Leaf.lo]
  · rw [decide_eq_false h1, decide_eq_false (p := _ ∧ _) (by omega)]
    try simp -implicitDefEqProofs only [evs, reduceIte, rdRes, rdTT, rdTy, rdLT, Res.un, TT.un, Ty.un, LT.un, Leaf.un, Leaf.plain, LT.plain, evh, List.replicate, splice, LT.pack, Leaf.pack, Nat.reduceAdd, Nat.reduceSub, Nat.reduceLeDiff, Nat.reduceLT, Nat.reduceEqDiff, LT.lo, Leaf.lo]
end Go.Proofs.Ytfkabibbaajfhaa
/- What Sum of package mix computes. Conditions: those of each law. -/
namespace Go.Proofs.Ytfkabibbaajfhaa
open Go Go.Proofs.Ytfkabibbaajfhaa.Ev
set_option linter.unusedVariables false
set_option linter.unusedSimpArgs false
set_option maxRecDepth 100000
set_option maxHeartbeats 4000000
theorem IndexFunc_liq {T : Table} {v : V} {h : H} {xs : List (Int × Int)} {f : Bool} (p : Int × Int → Bool) (hn : xs.length < 2 ^ 63) (hc : ∀ x ∈ xs, ∀ {R : Type} (k : V → H → Option R), callV T.dy v [.agg [.int .i64 x.1, .int .i64 x.2]] h k = k (.bool (p x)) h) :
    slices_IndexFunc_api_Liquid_api_Liquid T (rowSV f [.int .i64, .int .i64] xs) v h = some (idxOf p xs, h) := by
  unfold slices_IndexFunc_api_Liquid_api_Liquid
  rw [iter_find xs p (fun i => (i : Int)) hn (fun i x hx => by
    obtain ⟨hlt, rfl⟩ := List.getElem?_eq_some_iff.1 hx
    unfold slices_IndexFunc_api_Liquid_api_Liquid.loop1
    simp only [rowSV_len, Int.toNat_natCast]
    rw [decide_eq_true (by omega), cond_true, guardO_pos (by omega), rds_rowF (ls := j2) (w := 2) rfl (by omega) rfl, hx]
    simp only [Option.bind_some]
    rw [hc _ (List.getElem_mem hlt)]
    simp only [Res.pack, Ty.pack, Leaf.pack, Option.bind_some]
    rw [i64_succ (by omega)]
    cases p xs[i] <;> rfl) (by
    unfold slices_IndexFunc_api_Liquid_api_Liquid.loop1
    simp only [rowSV_len]
    rw [decide_eq_false (by omega), cond_false])]
  unfold idxOf
  cases xs.findIdx? p <;> rfl
theorem ContainsFunc_liq {T : Table} {v : V} {h : H} {xs : List (Int × Int)} {f : Bool} (p : Int × Int → Bool) (hn : xs.length < 2 ^ 63) (hc : ∀ x ∈ xs, ∀ {R : Type} (k : V → H → Option R), callV T.dy v [.agg [.int .i64 x.1, .int .i64 x.2]] h k = k (.bool (p x)) h) :
    slices_ContainsFunc_api_Liquid_api_Liquid T (rowSV f [.int .i64, .int .i64] xs) v h = some (xs.any p, h) := by
  unfold slices_ContainsFunc_api_Liquid_api_Liquid
  rw [IndexFunc_liq (T := slices_ContainsFunc_api_Liquid_api_Liquid.tb T) p hn hc]
  simp only [Option.bind_some, idxOf_nonneg]
theorem sum1_ok (a v : Int) : mix_Sum_1P (a, v) = some (!isPlain (a, v)) := by
  unfold mix_Sum_1P mix_Sum_1
  try simp -implicitDefEqProofs only [evs, reduceIte, rdRes, rdTT, rdTy, rdLT, Res.un, TT.un, Ty.un, LT.un, Leaf.un, Leaf.plain, LT.plain, evh, List.replicate, splice, LT.pack, Leaf.pack, Nat.reduceAdd, Nat.reduceSub, Nat.reduceLeDiff, Nat.reduceLT, Nat.reduceEqDiff, LT.lo, Leaf.lo]
  rw [plain_ok]
  try simp -implicitDefEqProofs only [evs, reduceIte, rdRes, rdTT, rdTy, rdLT, Res.un, TT.un, Ty.un, LT.un, Leaf.un, Leaf.plain, LT.plain, evh, List.replicate, splice, LT.pack, Leaf.pack, Nat.reduceAdd, Nat.reduceSub, Nat.reduceLeDiff, Nat.reduceLT, Nat.reduceEqDiff, LT.lo, Leaf.lo]
/-- The sum of liquids. -/
def sumL (xs : List (Int × Int)) : Int × Int := ((xs.map (·.1)).sum, (xs.map (·.2)).sum)
theorem sumL_take {xs : List (Int × Int)} {i : Nat} {x : Int × Int} (h : xs[i]? = some x) : sumL (xs.take (i + 1)) = ((sumL (xs.take i)).1 + x.1, (sumL (xs.take i)).2 + x.2) := by
  obtain ⟨hi, rfl⟩ := List.getElem?_eq_some_iff.1 h
  rw [← List.take_append_getElem hi]
  unfold sumL
  simp only [List.map_append, List.map_cons, List.map_nil, List.sum_append, List.sum_cons, List.sum_nil, Int.add_zero]
theorem sumL_bound {xs : List (Int × Int)} (h : ∀ x ∈ xs, isPlain x = true) : 0 ≤ (sumL xs).1 ∧ (sumL xs).1 ≤ xs.length * 10737418240000 ∧ 0 ≤ (sumL xs).2 ∧ (sumL xs).2 ≤ xs.length * 128849018880000 := by
  induction xs with
  | nil => simp [sumL]
  | cons x xs ih =>
    have h1 := ih fun y hy => h y (by simp [hy])
    have h2 := isPlain_iff.1 (h x (by simp))
    simp only [sumL, List.map_cons, List.sum_cons, List.length_cons] at h1 ⊢
    omega
def slotsT (xs : List (Int × Int)) (i : Nat) : List Slot := c2 (0, 0) :: c2 (sumL (xs.take i)) :: (xs.take i).map c2
theorem slotsT_succ {xs : List (Int × Int)} {i : Nat} {x : Int × Int} (h : xs[i]? = some x) : (slotsT xs i ++ [c2 x]).set 1 (c2 ((sumL (xs.take i)).1 + x.1, (sumL (xs.take i)).2 + x.2)) = slotsT xs (i + 1) := by
  unfold slotsT
  rw [sumL_take h]
  obtain ⟨hi, rfl⟩ := List.getElem?_eq_some_iff.1 h
  rw [← List.take_append_getElem hi, List.map_append]
  rfl
theorem wr0_c2 {sl : List Slot} {id : Nat} {x : Int × Int} {y : Int} (h : sl[id]? = some (c2 x)) : H.wrs (hL sl) (.hp id 2 0) [.int .i64 y] = some (hL (sl.set id (c2 (y, x.2)))) := by
  rw [wrs_own (g := 2) h rfl (by simp)]; rfl
theorem wr1_c2 {sl : List Slot} {id : Nat} {x : Int × Int} {y : Int} (h : sl[id]? = some (c2 x)) : H.wrs (hL sl) (.hp id 2 1) [.int .i64 y] = some (hL (sl.set id (c2 (x.1, y)))) := by
  rw [wrs_own (g := 2) h rfl (by simp)]; rfl
theorem total_ok {xs : List (Int × Int)} (hl : xs.length ≤ 8) (h : ∀ x ∈ xs, isPlain x = true) : mix_totalP xs = some (sumL xs) := by
  unfold mix_totalP mix_total
  try simp -implicitDefEqProofs only [hL_empty, hL_new, hL_next, List.length_nil, List.nil_append, List.length_cons, Nat.zero_add, List.cons_append]
  have hloop : iter FUEL (mix_total.loop1 (rowSV false [.int .i64, .int .i64] xs) (hL [c2 (0, 0)])) (0, hL [c2 (0, 0), c2 (0, 0)]) = some (.ex0 (), hL (slotsT xs xs.length)) := by
    refine (iter_from (f := mix_total.loop1 (rowSV false [.int .i64, .int .i64] xs) (hL [c2 (0, 0)])) (fun i => ((i : Int), hL (slotsT xs i))) rfl xs.length FUEL (fun i hi => ?_) ?_ (fuel_gt (by omega)))
    · have hget := List.getElem?_eq_getElem hi
      have hb := sumL_bound (xs := xs.take i) (fun x hx => h x (List.mem_of_mem_take hx))
      have hx := isPlain_iff.1 (h _ (List.getElem_mem hi))
      rw [List.length_take, Nat.min_eq_left (by omega)] at hb
      generalize hxi : xs[i] = x at *
      have hlen : (slotsT xs i).length = i + 2 := by simp [slotsT]; omega
      have hrow : (slotsT xs i ++ [c2 x])[(slotsT xs i).length]? = some (c2 x) := by simp
      have htot : (slotsT xs i ++ [c2 x])[1]? = some (c2 (sumL (xs.take i))) := rfl
      have r1 := rd_c2 hrow
      have t1 := rd_c2 htot
      have nw := new_c2 (sl := slotsT xs i) (x := x)
      have w1 := wr0_c2 (y := (sumL (xs.take i)).1 + x.1) htot
      have htot2 : ((slotsT xs i ++ [c2 x]).set 1 (c2 ((sumL (xs.take i)).1 + x.1, (sumL (xs.take i)).2)))[1]? = some (c2 ((sumL (xs.take i)).1 + x.1, (sumL (xs.take i)).2)) := rfl
      have w2 := wr1_c2 (y := (sumL (xs.take i)).2 + x.2) htot2
      rw [List.set_set, slotsT_succ hget] at w2
      have hg1 : 0 ≤ (i : Int) ∧ (i : Int) < (xs.length : Int) := by omega
      unfold mix_total.loop1
      try simp -implicitDefEqProofs only [Int.toNat_natCast, rowSV_len, reserve0, guardO_pos hg1]
      rw [decide_eq_true hg1.2, cond_true, rds_rowF (ls := j2) (w := 2) rfl (by omega) rfl, hget]
      try simp -implicitDefEqProofs only [Option.bind_some, hL_new, hL_next, List.length_cons, List.length_nil, Nat.zero_add]
      rw [nw]
      try simp -implicitDefEqProofs only [Option.bind_some, r1.1, r1.2, t1.1, t1.2]
      rw [i64_in _ (by omega), i64_in _ (by omega), w1]
      try simp -implicitDefEqProofs only [Option.bind_some]
      rw [w2]
      try simp -implicitDefEqProofs only [Option.bind_some]
      rw [guardO_pos (p := apartA _ _ = true) (by rw [hlen]; rfl), i64_succ (by omega)]
    · unfold mix_total.loop1
      try simp -implicitDefEqProofs only [rowSV_len]
      rw [decide_eq_false (by omega), cond_false]
  simp only [c2] at hloop
  rw [hloop]
  have e0 : (slotsT xs xs.length)[0]? = some (c2 (0, 0)) := rfl
  have e1 : (slotsT xs xs.length)[1]? = some (c2 (sumL xs)) := by rw [slotsT, List.take_length]; rfl
  have w0 := wrs_c2 (y := sumL xs) e0
  have e2 : ((slotsT xs xs.length).set 0 (c2 (sumL xs)))[0]? = some (c2 (sumL xs)) := rfl
  try simp -implicitDefEqProofs only [Option.bind_some, (rd_c2 e1).1, (rd_c2 e1).2]
  rw [w0]
  try simp -implicitDefEqProofs only [Option.bind_some]
  rw [rds_c2 e2]
  try simp -implicitDefEqProofs only [evs, reduceIte, rdRes, rdTT, rdTy, rdLT, Res.un, TT.un, Ty.un, LT.un, Leaf.un, Leaf.plain, LT.plain]
def sumOf (xs : List (Int × Int)) : (Int × Int) × Int :=
  if 8 < xs.length then ((0, 0), 8) else if xs.any (fun x => !isPlain x) = true then ((0, 0), 1) else if isPlain (sumL xs) = true then (sumL xs, 0) else ((0, 0), 15)
theorem Sum_ok (xs : List (Int × Int)) (hl : xs.length < 2 ^ 63) : mix_SumP xs = some (sumOf xs) := by
  unfold mix_SumP mix_Sum sumOf
  try simp -implicitDefEqProofs only [evs, reduceIte, rdRes, rdTT, rdTy, rdLT, Res.un, TT.un, Ty.un, LT.un, Leaf.un, Leaf.plain, LT.plain, hL_empty, hL_new, hL_next, List.length_nil, List.nil_append, List.length_cons, Nat.zero_add, List.cons_append]
  have e0 : [c2 (0, 0)][0]? = some (c2 (0, 0)) := rfl
  have w0 := wrs_c2 (y := (0, 0)) e0
  have r0 := rds_c2 e0
  simp only [List.set_cons_zero, c2] at w0 r0
  by_cases h8 : 8 < xs.length
  · rw [if_pos h8, decide_eq_true (show (8 : Int) < (xs.length : Int) by omega)]
    try simp -implicitDefEqProofs only [evs, reduceIte, rdRes, rdTT, rdTy, rdLT, Res.un, TT.un, Ty.un, LT.un, Leaf.un, Leaf.plain, LT.plain]
    rw [w0]
    try simp -implicitDefEqProofs only [evs, reduceIte, rdRes, rdTT, rdTy, rdLT, Res.un, TT.un, Ty.un, LT.un, Leaf.un, Leaf.plain, LT.plain]
    rw [r0]
    try simp -implicitDefEqProofs only [evs, reduceIte, rdRes, rdTT, rdTy, rdLT, Res.un, TT.un, Ty.un, LT.un, Leaf.un, Leaf.plain, LT.plain]
  · rw [if_neg h8, decide_eq_false (show ¬ (8 : Int) < (xs.length : Int) by omega)]
    try simp -implicitDefEqProofs only [evs, reduceIte, rdRes, rdTT, rdTy, rdLT, Res.un, TT.un, Ty.un, LT.un, Leaf.un, Leaf.plain, LT.plain]
    rw [ContainsFunc_liq (fun x => !isPlain x) hl (fun x hx R k => by
      obtain ⟨a, v⟩ := x
      show (mix_Sum_1P (a, v)).bind (fun r => k ((Res.one (.leaf .bool)).lo true r) _) = _
      rw [sum1_ok]; rfl)]
    try simp -implicitDefEqProofs only [evs, reduceIte, rdRes, rdTT, rdTy, rdLT, Res.un, TT.un, Ty.un, LT.un, Leaf.un, Leaf.plain, LT.plain]
    cases hany : xs.any (fun x => !isPlain x) with
    | true =>
      try simp -implicitDefEqProofs only [evs, reduceIte, rdRes, rdTT, rdTy, rdLT, Res.un, TT.un, Ty.un, LT.un, Leaf.un, Leaf.plain, LT.plain]
      rw [w0]
      try simp -implicitDefEqProofs only [evs, reduceIte, rdRes, rdTT, rdTy, rdLT, Res.un, TT.un, Ty.un, LT.un, Leaf.un, Leaf.plain, LT.plain]
      rw [r0]
      try simp -implicitDefEqProofs only [evs, reduceIte, rdRes, rdTT, rdTy, rdLT, Res.un, TT.un, Ty.un, LT.un, Leaf.un, Leaf.plain, LT.plain]
    | false =>
      have hp : ∀ x ∈ xs, isPlain x = true := fun x hx => by
        have := List.any_eq_false.1 hany x hx
        simpa using this
      try simp -implicitDefEqProofs only [evs, reduceIte, rdRes, rdTT, rdTy, rdLT, Res.un, TT.un, Ty.un, LT.un, Leaf.un, Leaf.plain, LT.plain, Bool.false_eq_true]
      rw [total_ok (by omega) hp]
      generalize sumL xs = s
      obtain ⟨s1, s2⟩ := s
      try simp -implicitDefEqProofs only [evs, reduceIte, rdRes, rdTT, rdTy, rdLT, Res.un, TT.un, Ty.un, LT.un, Leaf.un, Leaf.plain, LT.plain, evh, List.replicate, splice, LT.pack, Leaf.pack, Nat.reduceAdd, Nat.reduceSub, Nat.reduceLeDiff, Nat.reduceLT, Nat.reduceEqDiff, LT.lo, Leaf.lo]
      rw [plain_ok]
      try simp -implicitDefEqProofs only [evs, reduceIte, rdRes, rdTT, rdTy, rdLT, Res.un, TT.un, Ty.un, LT.un, Leaf.un, Leaf.plain, LT.plain, evh, List.replicate, splice, LT.pack, Leaf.pack, Nat.reduceAdd, Nat.reduceSub, Nat.reduceLeDiff, Nat.reduceLT, Nat.reduceEqDiff, LT.lo, Leaf.lo]
      cases isPlain (s1, s2) with
      | true => simp -implicitDefEqProofs only [evs, reduceIte, rdRes, rdTT, rdTy, rdLT, Res.un, TT.un, Ty.un, LT.un, Leaf.un, Leaf.plain, LT.plain, evh, List.replicate, splice, LT.pack, Leaf.pack, Nat.reduceAdd, Nat.reduceSub, Nat.reduceLeDiff, Nat.reduceLT, Nat.reduceEqDiff, LT.lo, Leaf.lo]
      | false => simp -implicitDefEqProofs only [evs, reduceIte, rdRes, rdTT, rdTy, rdLT, Res.un, TT.un, Ty.un, LT.un, Leaf.un, Leaf.plain, LT.plain, evh, List.replicate, splice, LT.pack, Leaf.pack, Nat.reduceAdd, Nat.reduceSub, Nat.reduceLeDiff, Nat.reduceLT, Nat.reduceEqDiff, LT.lo, Leaf.lo]; rfl
end Go.Proofs.Ytfkabibbaajfhaa
/- What package density computes: the fault at a place, the check of a table. Conditions: those of each law. -/
namespace Go.Proofs.Ytfkabibbaajfhaa
open Go Go.Proofs.Ytfkabibbaajfhaa.Ev
set_option linter.unusedVariables false
set_option linter.unusedSimpArgs false
set_option maxRecDepth 100000
set_option maxHeartbeats 4000000
/-- An entry of a table. -/
def q2 (xs : List (Int × Int)) (i : Nat) : Int × Int := xs[i]?.getD (0, 0)
theorem q2_some {xs : List (Int × Int)} {i : Nat} (h : i < xs.length) : xs[i]? = some (q2 xs i) := by
  unfold q2
  rw [List.getElem?_eq_getElem h]
  rfl
def okPt (x : Int × Int) : Bool := decide (0 ≤ x.1 ∧ x.1 ≤ 10000 ∧ 50000 ≤ x.2 ∧ x.2 ≤ 120000)
def faultOf (xs : List (Int × Int)) (i : Nat) : Int :=
  if okPt (q2 xs i) = true then (if 0 < i ∧ (q2 xs i).1 ≤ (q2 xs (i - 1)).1 then 5 else if 0 < i ∧ (q2 xs (i - 1)).2 < (q2 xs i).2 then 18 else 0) else 2
theorem rd_q2 {f : Bool} {xs : List (Int × Int)} {i : Nat} {h : H} (hi : i < xs.length) : rdT (.leaf (.int .i64)) h (((rowSV f j2 xs).a.add (i * 2)).add 0) = some (q2 xs i).1 ∧ rdT (.leaf (.int .i64)) h (((rowSV f j2 xs).a.add (i * 2)).add 1) = some (q2 xs i).2 := by
  refine ⟨?_, ?_⟩ <;> (rw [add_add, rd_row (ls := j2) (w := 2) rfl (by omega), q2_some hi]; rfl)
theorem nn_q2 {f : Bool} {xs : List (Int × Int)} {i : Nat} (hi : i < xs.length) : V.nn ((rowSV f j2 xs).a.add (i * 2)) = true := nn_row (by omega) (by simp)
theorem bad_code {x1 x2 : Int} {h : H} : (bif !(decide (x1 < 0)) then (bif !(decide ((10000 : Int) < x1)) then (bif !(decide (x2 < 50000)) then some (decide ((120000 : Int) < x2), h) else some (true, h)) else some (true, h)) else some (true, h) : Option (Bool × H)) = some (!okPt (x1, x2), h) := by
  unfold okPt
  by_cases h1 : x1 < 0
  · rw [decide_eq_true h1, decide_eq_false (p := _ ∧ _) (by simp only; omega)]; rfl
  · rw [decide_eq_false h1]
    by_cases h2 : (10000 : Int) < x1
    · rw [decide_eq_true h2, decide_eq_false (p := _ ∧ _) (by simp only; omega)]; rfl
    · rw [decide_eq_false h2]
      by_cases h3 : x2 < 50000
      · rw [decide_eq_true h3, decide_eq_false (p := _ ∧ _) (by simp only; omega)]; rfl
      · rw [decide_eq_false h3]
        by_cases h4 : (120000 : Int) < x2
        · rw [decide_eq_true h4, decide_eq_false (p := _ ∧ _) (by simp only; omega)]; rfl
        · rw [decide_eq_false h4, decide_eq_true (p := _ ∧ _) (by simp only; omega)]; rfl
theorem fault_ok {xs : List (Int × Int)} {i : Nat} (hi : i < xs.length) (hl : xs.length < 2 ^ 62) : density_faultP xs (i : Int) = some (faultOf xs i) := by
  unfold density_faultP density_fault faultOf
  have hg : 0 ≤ (i : Int) ∧ (i : Int) < (xs.length : Int) := by omega
  have e0 : [c2 (q2 xs i)][0]? = some (c2 (q2 xs i)) := rfl
  have r0 := rd_c2 e0
  have n0 := new_c2 (sl := []) (x := q2 xs i)
  simp only [c2, List.nil_append, List.length_nil] at r0 n0
  try simp -implicitDefEqProofs only [rowSV_len, Int.toNat_natCast, guardO_pos hg, hL_empty, hL_next, hL_new, List.nil_append, List.length_nil]
  rw [rds_rowF (ls := j2) (w := 2) rfl (by omega) rfl, q2_some hi]
  try simp -implicitDefEqProofs only [evs, reduceIte, rdRes, rdTT, rdTy, rdLT, Res.un, TT.un, Ty.un, LT.un, Leaf.un, Leaf.plain, LT.plain]
  rw [n0]
  try simp -implicitDefEqProofs only [evs, reduceIte, rdRes, rdTT, rdTy, rdLT, Res.un, TT.un, Ty.un, LT.un, Leaf.un, Leaf.plain, LT.plain, r0.1, r0.2, reserve0]
  rw [bad_code]
  try simp -implicitDefEqProofs only [evs, reduceIte, rdRes, rdTT, rdTy, rdLT, Res.un, TT.un, Ty.un, LT.un, Leaf.un, Leaf.plain, LT.plain]
  cases hok : okPt (q2 xs i) with
  | false => simp -implicitDefEqProofs only [evs, reduceIte, rdRes, rdTT, rdTy, rdLT, Res.un, TT.un, Ty.un, LT.un, Leaf.un, Leaf.plain, LT.plain, Bool.false_eq_true]
  | true =>
    try simp -implicitDefEqProofs only [evs, reduceIte, rdRes, rdTT, rdTy, rdLT, Res.un, TT.un, Ty.un, LT.un, Leaf.un, Leaf.plain, LT.plain]
    by_cases h0 : 0 < i
    · have hi1 : (i : Int) - 1 = ((i - 1 : Nat) : Int) := by omega
      have hg1 : 0 ≤ ((i - 1 : Nat) : Int) ∧ ((i - 1 : Nat) : Int) < (xs.length : Int) := by omega
      have hn := nn_q2 (f := false) (xs := xs) (i := i - 1) (by omega)
      rw [decide_eq_true (show (0 : Int) < (i : Int) by omega), hi1, i64_nat (by omega)]
      try simp -implicitDefEqProofs only [evs, reduceIte, rdRes, rdTT, rdTy, rdLT, Res.un, TT.un, Ty.un, LT.un, Leaf.un, Leaf.plain, LT.plain, r0.1, r0.2, guardO_pos hg1, Int.toNat_natCast, guardO_pos hn, (rd_q2 (f := false) (xs := xs) (i := i - 1) (h := hL [.own [.int .i64 (q2 xs i).1, .int .i64 (q2 xs i).2] 2]) (by omega)).1]
      by_cases h1 : (q2 xs i).1 ≤ (q2 xs (i - 1)).1
      · rw [decide_eq_true h1, if_pos ⟨h0, h1⟩]
        try simp -implicitDefEqProofs only [evs, reduceIte, rdRes, rdTT, rdTy, rdLT, Res.un, TT.un, Ty.un, LT.un, Leaf.un, Leaf.plain, LT.plain]
      · rw [decide_eq_false h1, if_neg (by omega)]
        try simp -implicitDefEqProofs only [evs, reduceIte, rdRes, rdTT, rdTy, rdLT, Res.un, TT.un, Ty.un, LT.un, Leaf.un, Leaf.plain, LT.plain, r0.1, r0.2, guardO_pos hg1, Int.toNat_natCast, guardO_pos hn, (rd_q2 (f := false) (xs := xs) (i := i - 1) (h := hL [.own [.int .i64 (q2 xs i).1, .int .i64 (q2 xs i).2] 2]) (by omega)).2]
        by_cases h2 : (q2 xs (i - 1)).2 < (q2 xs i).2
        · rw [decide_eq_true h2, if_pos ⟨h0, h2⟩]
          try simp -implicitDefEqProofs only [evs, reduceIte, rdRes, rdTT, rdTy, rdLT, Res.un, TT.un, Ty.un, LT.un, Leaf.un, Leaf.plain, LT.plain]
        · rw [decide_eq_false h2, if_neg (by omega)]
          try simp -implicitDefEqProofs only [evs, reduceIte, rdRes, rdTT, rdTy, rdLT, Res.un, TT.un, Ty.un, LT.un, Leaf.un, Leaf.plain, LT.plain]
    · rw [decide_eq_false (show ¬ (0 : Int) < (i : Int) by omega), if_neg (by omega), if_neg (by omega)]
      try simp -implicitDefEqProofs only [evs, reduceIte, rdRes, rdTT, rdTy, rdLT, Res.un, TT.un, Ty.un, LT.un, Leaf.un, Leaf.plain, LT.plain]
end Go.Proofs.Ytfkabibbaajfhaa
/- What density.Check computes. Conditions: those of each law. -/
namespace Go.Proofs.Ytfkabibbaajfhaa
open Go Go.Proofs.Ytfkabibbaajfhaa.Ev
set_option linter.unusedVariables false
set_option linter.unusedSimpArgs false
set_option maxRecDepth 100000
set_option maxHeartbeats 4000000
def firstBad (xs : List (Int × Int)) : Option Nat := (List.range xs.length).find? fun i => !decide (faultOf xs i = 0)
def checkOf (xs : List (Int × Int)) : Int × Int :=
  if 128 < xs.length then (-1, 8) else if xs.length < 2 then (-1, 9) else
    match firstBad xs with
    | some i => ((i : Int), faultOf xs i)
    | none => if (q2 xs 0).1 ≠ 0 then (0, 10) else if (q2 xs (xs.length - 1)).1 ≠ 10000 then (((xs.length - 1 : Nat) : Int), 10) else (-1, 0)
theorem check_loop {xs : List (Int × Int)} (hl : xs.length ≤ 128) : iter FUEL (density_Check.loop1 (rowSV false j2 xs)) (0, H.empty) = some (match firstBad xs with | some i => (.ret ((i : Int), faultOf xs i), H.empty) | none => (.ex0 (), H.empty)) := by
  have hs := iter_scan (f := density_Check.loop1 (rowSV false j2 xs)) (y := (.ex0 (), H.empty))
    (fun i => if faultOf xs i = 0 then none else some (.ret ((i : Int), faultOf xs i), H.empty)) xs.length (fun i => ((i : Int), H.empty)) FUEL (fun i hi => ?_) ?_ (fuel_gt (by omega))
  · have hz : ((0 : Nat) : Int) = 0 := rfl
    simp only [hz] at hs
    rw [hs]
    unfold firstBad
    have key : ∀ (l : List Nat), (l.findSome? fun i => if faultOf xs i = 0 then none else some ((.ret ((i : Int), faultOf xs i), H.empty) : Flow Unit (Int × Int) × H)) = (l.find? fun i => !decide (faultOf xs i = 0)).map fun i => (.ret ((i : Int), faultOf xs i), H.empty) := fun l => by
      induction l with
      | nil => rfl
      | cons a l ih =>
        rw [List.findSome?_cons, List.find?_cons]
        by_cases h : faultOf xs a = 0
        · rw [if_pos h, decide_eq_true h]
          exact ih
        · rw [if_neg h, decide_eq_false h]
          rfl
    rw [key]
    cases (List.range xs.length).find? fun i => !decide (faultOf xs i = 0) <;> rfl
  · unfold density_Check.loop1
    try simp -implicitDefEqProofs only [rowSV_len, rdRow_args]
    rw [decide_eq_true (show (i : Int) < (xs.length : Int) by omega), cond_true]
    try simp -implicitDefEqProofs only [evs, reduceIte, rdRes, rdTT, rdTy, rdLT, Res.un, TT.un, Ty.un, LT.un, Leaf.un, Leaf.plain, LT.plain]
    rw [fault_ok hi (by omega)]
    try simp -implicitDefEqProofs only [evs, reduceIte, rdRes, rdTT, rdTy, rdLT, Res.un, TT.un, Ty.un, LT.un, Leaf.un, Leaf.plain, LT.plain]
    by_cases h : faultOf xs i = 0
    · rw [decide_eq_true h, if_pos h]
      try simp -implicitDefEqProofs only [evs, reduceIte, rdRes, rdTT, rdTy, rdLT, Res.un, TT.un, Ty.un, LT.un, Leaf.un, Leaf.plain, LT.plain]
      rw [i64_succ (by omega)]
    · rw [decide_eq_false h, if_neg h]
      try simp -implicitDefEqProofs only [evs, reduceIte, rdRes, rdTT, rdTy, rdLT, Res.un, TT.un, Ty.un, LT.un, Leaf.un, Leaf.plain, LT.plain]
  · unfold density_Check.loop1
    try simp -implicitDefEqProofs only [rowSV_len]
    rw [decide_eq_false (by omega), cond_false]
theorem DCheck_ok (xs : List (Int × Int)) : density_CheckP xs = some (checkOf xs) := by
  unfold density_CheckP density_Check checkOf
  try simp -implicitDefEqProofs only [evs, reduceIte, rdRes, rdTT, rdTy, rdLT, Res.un, TT.un, Ty.un, LT.un, Leaf.un, Leaf.plain, LT.plain]
  by_cases h1 : 128 < xs.length
  · rw [if_pos h1, decide_eq_true (show (128 : Int) < (xs.length : Int) by omega)]
    try simp -implicitDefEqProofs only [evs, reduceIte, rdRes, rdTT, rdTy, rdLT, Res.un, TT.un, Ty.un, LT.un, Leaf.un, Leaf.plain, LT.plain]
  · rw [if_neg h1, decide_eq_false (show ¬ (128 : Int) < (xs.length : Int) by omega)]
    try simp -implicitDefEqProofs only [evs, reduceIte, rdRes, rdTT, rdTy, rdLT, Res.un, TT.un, Ty.un, LT.un, Leaf.un, Leaf.plain, LT.plain]
    by_cases h2 : xs.length < 2
    · rw [if_pos h2, decide_eq_true (show (xs.length : Int) < 2 by omega)]
      try simp -implicitDefEqProofs only [evs, reduceIte, rdRes, rdTT, rdTy, rdLT, Res.un, TT.un, Ty.un, LT.un, Leaf.un, Leaf.plain, LT.plain]
    · rw [if_neg h2, decide_eq_false (show ¬ (xs.length : Int) < 2 by omega)]
      try simp -implicitDefEqProofs only [evs, reduceIte, rdRes, rdTT, rdTy, rdLT, Res.un, TT.un, Ty.un, LT.un, Leaf.un, Leaf.plain, LT.plain]
      rw [check_loop (by omega)]
      cases firstBad xs with
      | some i => simp -implicitDefEqProofs only [evs, reduceIte, rdRes, rdTT, rdTy, rdLT, Res.un, TT.un, Ty.un, LT.un, Leaf.un, Leaf.plain, LT.plain]
      | none =>
        have hz : 0 ≤ (0 : Int) ∧ (0 : Int) < (xs.length : Int) := by omega
        have hi1 : (xs.length : Int) - 1 = ((xs.length - 1 : Nat) : Int) := by omega
        have hg1 : 0 ≤ ((xs.length - 1 : Nat) : Int) ∧ ((xs.length - 1 : Nat) : Int) < (xs.length : Int) := by omega
        have hn0 := nn_q2 (f := false) (xs := xs) (i := 0) (by omega)
        have hr0 := (rd_q2 (f := false) (xs := xs) (i := 0) (h := H.empty) (by omega)).1
        have hn1 := nn_q2 (f := false) (xs := xs) (i := xs.length - 1) (by omega)
        have hr1 := (rd_q2 (f := false) (xs := xs) (i := xs.length - 1) (h := H.empty) (by omega)).1
        rw [Nat.zero_mul] at hn0 hr0
        try simp -implicitDefEqProofs only [evs, reduceIte, rdRes, rdTT, rdTy, rdLT, Res.un, TT.un, Ty.un, LT.un, Leaf.un, Leaf.plain, LT.plain]
        rw [guardO_pos hz, guardO_pos hn0, hr0]
        try simp -implicitDefEqProofs only [evs, reduceIte, rdRes, rdTT, rdTy, rdLT, Res.un, TT.un, Ty.un, LT.un, Leaf.un, Leaf.plain, LT.plain]
        by_cases h3 : (q2 xs 0).1 = 0
        · rw [decide_eq_true h3, if_neg (by omega)]
          try simp -implicitDefEqProofs only [evs, reduceIte, rdRes, rdTT, rdTy, rdLT, Res.un, TT.un, Ty.un, LT.un, Leaf.un, Leaf.plain, LT.plain]
          rw [hi1, i64_nat (by omega)]
          try simp -implicitDefEqProofs only [Int.toNat_natCast]
          rw [guardO_pos hg1, guardO_pos hn1, hr1]
          try simp -implicitDefEqProofs only [evs, reduceIte, rdRes, rdTT, rdTy, rdLT, Res.un, TT.un, Ty.un, LT.un, Leaf.un, Leaf.plain, LT.plain]
          by_cases h4 : (q2 xs (xs.length - 1)).1 = 10000
          · rw [decide_eq_true h4, if_neg (by omega)]
            try simp -implicitDefEqProofs only [evs, reduceIte, rdRes, rdTT, rdTy, rdLT, Res.un, TT.un, Ty.un, LT.un, Leaf.un, Leaf.plain, LT.plain]
          · rw [decide_eq_false h4, if_pos h4]
            try simp -implicitDefEqProofs only [evs, reduceIte, rdRes, rdTT, rdTy, rdLT, Res.un, TT.un, Ty.un, LT.un, Leaf.un, Leaf.plain, LT.plain]
        · rw [decide_eq_false h3, if_pos h3]
          try simp -implicitDefEqProofs only [evs, reduceIte, rdRes, rdTT, rdTy, rdLT, Res.un, TT.un, Ty.un, LT.un, Leaf.un, Leaf.plain, LT.plain]
/-- A right table. -/
structure Table2 (xs : List (Int × Int)) : Prop where
  two : 2 ≤ xs.length
  most : xs.length ≤ 128
  ok : ∀ i, i < xs.length → okPt (q2 xs i) = true
  up : ∀ i, i + 1 < xs.length → (q2 xs i).1 < (q2 xs (i + 1)).1
  down : ∀ i, i + 1 < xs.length → (q2 xs (i + 1)).2 ≤ (q2 xs i).2
  first : (q2 xs 0).1 = 0
  last : (q2 xs (xs.length - 1)).1 = 10000
theorem check_table {xs : List (Int × Int)} (h : (checkOf xs).2 = 0) : Table2 xs := by
  unfold checkOf at h
  by_cases h1 : 128 < xs.length
  · rw [if_pos h1] at h; simp at h
  · rw [if_neg h1] at h
    by_cases h2 : xs.length < 2
    · rw [if_pos h2] at h; simp at h
    · rw [if_neg h2] at h
      cases hf : firstBad xs with
      | some i =>
        rw [hf] at h
        have := List.find?_some hf
        simp only at h
        rw [h] at this
        simp at this
      | none =>
        rw [hf] at h
        have hno : ∀ i, i < xs.length → faultOf xs i = 0 := fun i hi => by
          have := List.find?_eq_none.1 hf i (List.mem_range.2 hi)
          simpa using this
        have hok : ∀ i, i < xs.length → okPt (q2 xs i) = true := fun i hi => by
          have := hno i hi
          unfold faultOf at this
          cases hp : okPt (q2 xs i) with
          | true => rfl
          | false => rw [hp] at this; simp at this
        have hstep : ∀ i, i + 1 < xs.length → (q2 xs i).1 < (q2 xs (i + 1)).1 ∧ (q2 xs (i + 1)).2 ≤ (q2 xs i).2 := fun i hi => by
          have := hno (i + 1) hi
          unfold faultOf at this
          rw [if_pos (hok _ hi), Nat.add_sub_cancel] at this
          by_cases c1 : 0 < i + 1 ∧ (q2 xs (i + 1)).1 ≤ (q2 xs i).1
          · rw [if_pos c1] at this; simp at this
          · rw [if_neg c1] at this
            by_cases c2 : 0 < i + 1 ∧ (q2 xs i).2 < (q2 xs (i + 1)).2
            · rw [if_pos c2] at this; simp at this
            · omega
        simp only at h
        by_cases h3 : (q2 xs 0).1 ≠ 0
        · rw [if_pos h3] at h; simp at h
        · rw [if_neg h3] at h
          by_cases h4 : (q2 xs (xs.length - 1)).1 ≠ 10000
          · rw [if_pos h4] at h; simp at h
          · exact ⟨by omega, by omega, hok, fun i hi => (hstep i hi).1, fun i hi => (hstep i hi).2, by omega, by omega⟩
end Go.Proofs.Ytfkabibbaajfhaa
/- What package interpolate computes: a table's density at a grade. Conditions: those of each law. -/
namespace Go.Proofs.Ytfkabibbaajfhaa
open Go Go.Proofs.Ytfkabibbaajfhaa.Ev
set_option linter.unusedVariables false
set_option linter.unusedSimpArgs false
set_option maxRecDepth 100000
set_option maxHeartbeats 4000000
/-- Between two entries, rounded. -/
def lineOf (x y : Int × Int) (t : Int) : Int := (2 * (x.2 * (y.1 - t) + y.2 * (t - x.1)) + (y.1 - x.1)) / (2 * (y.1 - x.1))
theorem okPt_iff {x : Int × Int} : okPt x = true ↔ 0 ≤ x.1 ∧ x.1 ≤ 10000 ∧ 50000 ≤ x.2 ∧ x.2 ≤ 120000 := by simp [okPt]
theorem line_num {x y : Int × Int} {t : Int} (hx : okPt x = true) (hy : okPt y = true) (h0 : x.1 ≤ t) (h1 : t ≤ y.1) :
    0 ≤ x.2 * (y.1 - t) ∧ x.2 * (y.1 - t) ≤ 120000 * 10000 ∧ 0 ≤ y.2 * (t - x.1) ∧ y.2 * (t - x.1) ≤ 120000 * 10000 := by
  rw [okPt_iff] at hx hy
  exact ⟨Int.mul_nonneg (by omega) (by omega), Int.mul_le_mul (by omega) (by omega) (by omega) (by omega), Int.mul_nonneg (by omega) (by omega), Int.mul_le_mul (by omega) (by omega) (by omega) (by omega)⟩
theorem between_ok {x y : Int × Int} {t : Int} (hx : okPt x = true) (hy : okPt y = true) (hlt : x.1 < y.1) (h0 : x.1 ≤ t) (h1 : t ≤ y.1) : interpolate_betweenP x y t = some (lineOf x y t) := by
  have hb := line_num hx hy h0 h1
  rw [okPt_iff] at hx hy
  obtain ⟨x1, x2⟩ := x
  obtain ⟨y1, y2⟩ := y
  simp only at hx hy hlt h0 h1 hb
  unfold interpolate_betweenP interpolate_between lineOf
  try simp -implicitDefEqProofs only [evs, reduceIte, rdRes, rdTT, rdTy, rdLT, Res.un, TT.un, Ty.un, LT.un, Leaf.un, Leaf.plain, LT.plain, evh, List.replicate, splice, LT.pack, Leaf.pack, Nat.reduceAdd, Nat.reduceSub, Nat.reduceLeDiff, Nat.reduceLT, Nat.reduceEqDiff, LT.lo, Leaf.lo]
  rw [i64_in (y1 - x1) (by omega), i64_in (y1 - t) (by omega), i64_in (t - x1) (by omega), i64_in (x2 * (y1 - t)) (by omega), i64_in (y2 * (t - x1)) (by omega), i64_in (x2 * (y1 - t) + y2 * (t - x1)) (by omega), i64_in (2 * (y1 - x1)) (by omega),
    i64_in (2 * (x2 * (y1 - t) + y2 * (t - x1))) (by omega), i64_in (2 * (x2 * (y1 - t) + y2 * (t - x1)) + (y1 - x1)) (by omega), guardO_pos (by omega)]
  rw [Int.tdiv_eq_ediv_of_nonneg (by omega)]
  have k1 : 0 ≤ (2 * (x2 * (y1 - t) + y2 * (t - x1)) + (y1 - x1)) / (2 * (y1 - x1)) := Int.ediv_nonneg (by omega) (by omega)
  have k2 : (2 * (x2 * (y1 - t) + y2 * (t - x1)) + (y1 - x1)) / (2 * (y1 - x1)) ≤ 2 * (x2 * (y1 - t) + y2 * (t - x1)) + (y1 - x1) := Int.ediv_le_self _ (by omega)
  rw [i64_in _ (by omega)]
  try simp -implicitDefEqProofs only [evs, reduceIte, rdRes, rdTT, rdTy, rdLT, Res.un, TT.un, Ty.un, LT.un, Leaf.un, Leaf.plain, LT.plain]
/-- Both ends bound the line, and it does not rise. -/
theorem line_bound {x y : Int × Int} {t : Int} (hlt : x.1 < y.1) (hd : y.2 ≤ x.2) (h0 : x.1 ≤ t) (h1 : t ≤ y.1) : y.2 ≤ lineOf x y t ∧ lineOf x y t ≤ x.2 := by
  obtain ⟨x1, x2⟩ := x
  obtain ⟨y1, y2⟩ := y
  simp only at *
  unfold lineOf
  simp only
  have a1 : y2 * (y1 - t) ≤ x2 * (y1 - t) := Int.mul_le_mul_of_nonneg_right hd (by omega)
  have a2 : y2 * (t - x1) ≤ x2 * (t - x1) := Int.mul_le_mul_of_nonneg_right hd (by omega)
  have e1 : y2 * (y1 - t) + y2 * (t - x1) = y2 * (y1 - x1) := by rw [← Int.mul_add]; congr 1; omega
  have e2 : x2 * (y1 - t) + x2 * (t - x1) = x2 * (y1 - x1) := by rw [← Int.mul_add]; congr 1; omega
  have e3 : y2 * (2 * (y1 - x1)) = 2 * (y2 * (y1 - x1)) := Int.mul_left_comm ..
  have e4 : x2 * (2 * (y1 - x1)) = 2 * (x2 * (y1 - x1)) := Int.mul_left_comm ..
  constructor
  · rw [Int.le_ediv_iff_mul_le (by omega)]
    omega
  · have : (2 * (x2 * (y1 - t) + y2 * (t - x1)) + (y1 - x1)) / (2 * (y1 - x1)) < x2 + 1 := by
      rw [Int.ediv_lt_iff_lt_mul (by omega), Int.add_mul]
      omega
    omega
theorem line_down {x y : Int × Int} {s t : Int} (hlt : x.1 < y.1) (hd : y.2 ≤ x.2) (h : s ≤ t) : lineOf x y t ≤ lineOf x y s := by
  obtain ⟨x1, x2⟩ := x
  obtain ⟨y1, y2⟩ := y
  simp only at *
  unfold lineOf
  simp only
  refine Int.ediv_le_ediv (by omega) ?_
  have a1 : y2 * (t - s) ≤ x2 * (t - s) := Int.mul_le_mul_of_nonneg_right hd (by omega)
  have e1 : x2 * (y1 - s) = x2 * (y1 - t) + x2 * (t - s) := by rw [← Int.mul_add]; congr 1; omega
  have e2 : y2 * (t - x1) = y2 * (s - x1) + y2 * (t - s) := by rw [← Int.mul_add]; congr 1; omega
  omega
/-- The first place of a table that is not below a grade. -/
def place (xs : List (Int × Int)) (t : Int) : Nat := (List.range xs.length).findIdx fun k => decide (t ≤ (q2 xs k).1)
theorem up_le {xs : List (Int × Int)} (h : Table2 xs) : ∀ (j i : Nat), i ≤ j → j < xs.length → (q2 xs i).1 ≤ (q2 xs j).1
  | 0, i, hi, hj => by have : i = 0 := by omega
                       subst this; exact Int.le_refl _
  | j + 1, i, hi, hj => by
    by_cases e : i = j + 1
    · subst e; exact Int.le_refl _
    · have := up_le h j i (by omega) (by omega)
      have := h.up j hj
      omega
theorem down_le {xs : List (Int × Int)} (h : Table2 xs) : ∀ (j i : Nat), i ≤ j → j < xs.length → (q2 xs j).2 ≤ (q2 xs i).2
  | 0, i, hi, hj => by have : i = 0 := by omega
                       subst this; exact Int.le_refl _
  | j + 1, i, hi, hj => by
    by_cases e : i = j + 1
    · subst e; exact Int.le_refl _
    · have := down_le h j i (by omega) (by omega)
      have := h.down j hj
      omega
def valOf (xs : List (Int × Int)) (k : Nat) (t : Int) : Int := if (q2 xs k).1 = t then (q2 xs k).2 else lineOf (q2 xs (k - 1)) (q2 xs k) t
theorem at1_ok {xs : List (Int × Int)} {t : Int} {k : Nat} (hk : k < xs.length) :
    interpolate_at_1 (k : Int) (.hp 0 1 0) (.hp 1 1 0) (hL [.own [.slice (rowSV false j2 xs).a xs.length xs.length true] 1, .own [.int .i64 t] 1]) = some (decide (t ≤ (q2 xs k).1), hL [.own [.slice (rowSV false j2 xs).a xs.length xs.length true] 1, .own [.int .i64 t] 1]) := by
  have r0 : rdT (.leaf .slice) (hL [.own [.slice (rowSV false j2 xs).a xs.length xs.length true] 1, .own [.int .i64 t] 1]) (.hp 0 1 0) = some (rowSV false j2 xs) := by
    rw [rd_own (g := 1) (id := 0) rfl rfl]; rfl
  have r1 : rdT (.leaf (.int .i64)) (hL [.own [.slice (rowSV false j2 xs).a xs.length xs.length true] 1, .own [.int .i64 t] 1]) (.hp 1 1 0) = some t := by
    rw [rd_own (g := 1) (id := 1) rfl rfl]; rfl
  have hg : 0 ≤ (k : Int) ∧ (k : Int) < (xs.length : Int) := by omega
  have hn := nn_q2 (f := false) hk
  unfold interpolate_at_1
  try simp -implicitDefEqProofs only [reserve0]
  rw [r0]
  try simp -implicitDefEqProofs only [evs, reduceIte, rdRes, rdTT, rdTy, rdLT, Res.un, TT.un, Ty.un, LT.un, Leaf.un, Leaf.plain, LT.plain, Int.toNat_natCast, rowSV_len, guardO_pos hg, guardO_pos hn, (rd_q2 (f := false) hk).1, r1]
theorem at_ok {xs : List (Int × Int)} {t : Int} (h : Table2 xs) (h0 : 0 ≤ t) (h1 : t ≤ 10000) :
    ∃ k, k < xs.length ∧ (∀ q, q < k → (q2 xs q).1 < t) ∧ t ≤ (q2 xs k).1 ∧ interpolate_atP xs t = some (valOf xs k t) := by
  have hlen := h.most
  have htwo := h.two
  obtain ⟨m, s1, s2, s3, s4⟩ := Search_ok (T := interpolate_at.tb) (v := .func 104 [.hp 0 1 0, .hp 1 1 0]) (h := hL [.own [.slice (rowSV false j2 xs).a xs.length xs.length true] 1, .own [.int .i64 t] 1]) (n := xs.length) (fun k => decide (t ≤ (q2 xs k).1)) (by omega) (fun a b hab hb ha => by
      have := up_le h b a hab hb
      have ha' := of_decide_eq_true ha
      exact decide_eq_true (by omega)) (fun k hk R K => by
      show (interpolate_at_1 (k : Int) (.hp 0 1 0) (.hp 1 1 0) _).bind (fun p => K (.bool p.1) p.2) = _
      rw [at1_ok hk]
      rfl)
  have hm : m < xs.length := by
    rcases Nat.lt_or_ge m xs.length with h' | h'
    · exact h'
    · have := s3 (xs.length - 1) (by omega)
      simp only [decide_eq_false_iff_not] at this
      rw [h.last] at this
      omega
  have hge : t ≤ (q2 xs m).1 := of_decide_eq_true (s4 m (Nat.le_refl _) hm)
  have hlow : ∀ q, q < m → (q2 xs q).1 < t := fun q hq => by
    have := s3 q hq
    simp only [decide_eq_false_iff_not] at this
    omega
  refine ⟨m, hm, hlow, hge, ?_⟩
  have r0 : rdT (.leaf .slice) (hL [.own [.slice (rowSV false j2 xs).a xs.length xs.length true] 1, .own [.int .i64 t] 1]) (.hp 0 1 0) = some (rowSV false j2 xs) := by
    rw [rd_own (g := 1) (id := 0) rfl rfl]; rfl
  have r1 : rdT (.leaf (.int .i64)) (hL [.own [.slice (rowSV false j2 xs).a xs.length xs.length true] 1, .own [.int .i64 t] 1]) (.hp 1 1 0) = some t := by
    rw [rd_own (g := 1) (id := 1) rfl rfl]; rfl
  have hg : 0 ≤ (m : Int) ∧ (m : Int) < (xs.length : Int) := by omega
  have hn := nn_q2 (f := false) hm
  unfold interpolate_atP interpolate_at valOf
  try simp -implicitDefEqProofs only [evs, reduceIte, rdRes, rdTT, rdTy, rdLT, Res.un, TT.un, Ty.un, LT.un, Leaf.un, Leaf.plain, LT.plain, hL_empty, hL_new, hL_next, List.length_nil, List.length_cons, List.nil_append, List.cons_append, Nat.zero_add]
  rw [r0]
  try simp -implicitDefEqProofs only [evs, reduceIte, rdRes, rdTT, rdTy, rdLT, Res.un, TT.un, Ty.un, LT.un, Leaf.un, Leaf.plain, LT.plain]
  rw [s1]
  try simp -implicitDefEqProofs only [evs, reduceIte, rdRes, rdTT, rdTy, rdLT, Res.un, TT.un, Ty.un, LT.un, Leaf.un, Leaf.plain, LT.plain, Int.toNat_natCast, r0, r1, guardO_pos hg, guardO_pos hn, (rd_q2 (f := false) hm).1, (rd_q2 (f := false) hm).2]
  by_cases he : (q2 xs m).1 = t
  · rw [decide_eq_true he, if_pos he]
    try simp -implicitDefEqProofs only [evs, reduceIte, rdRes, rdTT, rdTy, rdLT, Res.un, TT.un, Ty.un, LT.un, Leaf.un, Leaf.plain, LT.plain]
  · rw [decide_eq_false he, if_neg he]
    have hm0 : 0 < m := by
      rcases Nat.eq_zero_or_pos m with h' | h'
      · subst h'
        have := h.first
        omega
      · exact h'
    have hi1 : (m : Int) - 1 = ((m - 1 : Nat) : Int) := by omega
    have hg1 : 0 ≤ ((m - 1 : Nat) : Int) ∧ ((m - 1 : Nat) : Int) < (xs.length : Int) := by omega
    try simp -implicitDefEqProofs only [evs, reduceIte, rdRes, rdTT, rdTy, rdLT, Res.un, TT.un, Ty.un, LT.un, Leaf.un, Leaf.plain, LT.plain]
    rw [hi1, i64_nat (by omega)]
    try simp -implicitDefEqProofs only [Int.toNat_natCast]
    rw [guardO_pos hg1, rds_rowF (ls := j2) (w := 2) rfl (by omega) rfl, q2_some (i := m - 1) (by omega)]
    try simp -implicitDefEqProofs only [evs, reduceIte, rdRes, rdTT, rdTy, rdLT, Res.un, TT.un, Ty.un, LT.un, Leaf.un, Leaf.plain, LT.plain]
    rw [rds_rowF (ls := j2) (w := 2) rfl (by omega) rfl, q2_some hm]
    try simp -implicitDefEqProofs only [evs, reduceIte, rdRes, rdTT, rdTy, rdLT, Res.un, TT.un, Ty.un, LT.un, Leaf.un, Leaf.plain, LT.plain]
    have hup := h.up (m - 1) (by omega)
    rw [Nat.sub_add_cancel hm0] at hup
    rw [between_ok (x := q2 xs (m - 1)) (y := q2 xs m) (h.ok _ (by omega)) (h.ok _ hm) hup (by have := hlow (m - 1) (by omega); omega) hge]
    try simp -implicitDefEqProofs only [evs, reduceIte, rdRes, rdTT, rdTy, rdLT, Res.un, TT.un, Ty.un, LT.un, Leaf.un, Leaf.plain, LT.plain]
/-- The density of a right table at a grade. -/
noncomputable def dens (xs : List (Int × Int)) (t : Int) : Int := (interpolate_atP xs t).getD 0
theorem dens_ok {xs : List (Int × Int)} {t : Int} (h : Table2 xs) (h0 : 0 ≤ t) (h1 : t ≤ 10000) : interpolate_atP xs t = some (dens xs t) ∧ ∃ k, k < xs.length ∧ (∀ q, q < k → (q2 xs q).1 < t) ∧ t ≤ (q2 xs k).1 ∧ dens xs t = valOf xs k t := by
  obtain ⟨k, k1, k2, k3, k4⟩ := at_ok h h0 h1
  have : dens xs t = valOf xs k t := by unfold dens; rw [k4]; rfl
  exact ⟨by rw [this]; exact k4, k, k1, k2, k3, this⟩
theorem val_bound {xs : List (Int × Int)} {t : Int} {k : Nat} (h : Table2 xs) (h0 : 0 ≤ t) (hk : k < xs.length) (hl : ∀ q, q < k → (q2 xs q).1 < t) (hu : t ≤ (q2 xs k).1) : (q2 xs k).2 ≤ valOf xs k t ∧ valOf xs k t ≤ (q2 xs (k - 1)).2 ∧ ((q2 xs k).1 ≠ t → 0 < k ∧ (q2 xs (k - 1)).1 < (q2 xs k).1 ∧ (q2 xs k).2 ≤ (q2 xs (k - 1)).2) := by
  unfold valOf
  by_cases he : (q2 xs k).1 = t
  · rw [if_pos he]
    exact ⟨Int.le_refl _, down_le h k (k - 1) (by omega) hk, fun hn => absurd he hn⟩
  · rw [if_neg he]
    have hk0 : 0 < k := by
      rcases Nat.eq_zero_or_pos k with h' | h'
      · subst h'
        have := h.first
        omega
      · exact h'
    have hup := h.up (k - 1) (by omega)
    have hdn := h.down (k - 1) (by omega)
    rw [Nat.sub_add_cancel hk0] at hup hdn
    have := hl (k - 1) (by omega)
    have hb := line_bound hup hdn (t := t) (by omega) hu
    exact ⟨hb.1, hb.2, fun _ => ⟨hk0, hup, hdn⟩⟩
theorem dens_bound {xs : List (Int × Int)} {t : Int} (h : Table2 xs) (h0 : 0 ≤ t) (h1 : t ≤ 10000) : 50000 ≤ dens xs t ∧ dens xs t ≤ 120000 := by
  obtain ⟨_, k, k1, k2, k3, k4⟩ := dens_ok h h0 h1
  have hb := val_bound h h0 k1 k2 k3
  have o1 := okPt_iff.1 (h.ok k k1)
  have o2 := okPt_iff.1 (h.ok (k - 1) (by omega))
  omega
theorem dens_down {xs : List (Int × Int)} {s t : Int} (h : Table2 xs) (h0 : 0 ≤ s) (hst : s ≤ t) (h1 : t ≤ 10000) : dens xs t ≤ dens xs s := by
  obtain ⟨_, k, k1, k2, k3, k4⟩ := dens_ok h h0 (show s ≤ 10000 by omega)
  obtain ⟨_, j, j1, j2', j3, j4⟩ := dens_ok h (show 0 ≤ t by omega) h1
  have bk := val_bound h h0 k1 k2 k3
  have bj := val_bound h (show 0 ≤ t by omega) j1 j2' j3
  have hkj : k ≤ j := by
    rcases Nat.lt_or_ge j k with h' | h'
    · have := k2 j h'
      omega
    · exact h'
  rw [k4, j4]
  by_cases e : k = j
  · subst e
    unfold valOf
    by_cases e1 : (q2 xs k).1 = t
    · rw [if_pos e1]
      by_cases e2 : (q2 xs k).1 = s
      · rw [if_pos e2]; exact Int.le_refl _
      · rw [if_neg e2]
        have := bk.1
        unfold valOf at this
        rw [if_neg e2] at this
        exact this
    · rw [if_neg e1, if_neg (by omega)]
      exact line_down (bj.2.2 e1).2.1 (bj.2.2 e1).2.2 hst
  · have := down_le h (j - 1) k (by omega) (by omega)
    omega
theorem Density_ok (xs : List (Int × Int)) (t : Int) : interpolate_DensityP xs t = some (if (checkOf xs).2 = 0 then (if 0 ≤ t ∧ t ≤ 10000 then (dens xs t, 0) else (0, 2)) else (0, 1)) := by
  have hr : interpolate_rightP xs = some (decide ((checkOf xs).2 = 0)) := by
    unfold interpolate_rightP interpolate_right
    try simp -implicitDefEqProofs only [evs, reduceIte, rdRes, rdTT, rdTy, rdLT, Res.un, TT.un, Ty.un, LT.un, Leaf.un, Leaf.plain, LT.plain, DCheck_ok]
  unfold interpolate_DensityP interpolate_Density
  try simp -implicitDefEqProofs only [evs, reduceIte, rdRes, rdTT, rdTy, rdLT, Res.un, TT.un, Ty.un, LT.un, Leaf.un, Leaf.plain, LT.plain, hr]
  by_cases hc : (checkOf xs).2 = 0
  · rw [decide_eq_true hc, if_pos hc]
    have ht := check_table hc
    try simp -implicitDefEqProofs only [evs, reduceIte, rdRes, rdTT, rdTy, rdLT, Res.un, TT.un, Ty.un, LT.un, Leaf.un, Leaf.plain, LT.plain]
    by_cases h0 : t < 0
    · rw [decide_eq_true h0, if_neg (by omega)]
      try simp -implicitDefEqProofs only [evs, reduceIte, rdRes, rdTT, rdTy, rdLT, Res.un, TT.un, Ty.un, LT.un, Leaf.un, Leaf.plain, LT.plain]
    · rw [decide_eq_false h0]
      try simp -implicitDefEqProofs only [evs, reduceIte, rdRes, rdTT, rdTy, rdLT, Res.un, TT.un, Ty.un, LT.un, Leaf.un, Leaf.plain, LT.plain]
      by_cases h1 : (10000 : Int) < t
      · rw [decide_eq_true h1, if_neg (by omega)]
        try simp -implicitDefEqProofs only [evs, reduceIte, rdRes, rdTT, rdTy, rdLT, Res.un, TT.un, Ty.un, LT.un, Leaf.un, Leaf.plain, LT.plain]
      · rw [decide_eq_false h1, if_pos (by omega)]
        try simp -implicitDefEqProofs only [evs, reduceIte, rdRes, rdTT, rdTy, rdLT, Res.un, TT.un, Ty.un, LT.un, Leaf.un, Leaf.plain, LT.plain]
        rw [(dens_ok ht (by omega) (by omega)).1]
        try simp -implicitDefEqProofs only [evs, reduceIte, rdRes, rdTT, rdTy, rdLT, Res.un, TT.un, Ty.un, LT.un, Leaf.un, Leaf.plain, LT.plain]
  · rw [decide_eq_false hc, if_neg hc]
    try simp -implicitDefEqProofs only [evs, reduceIte, rdRes, rdTT, rdTy, rdLT, Res.un, TT.un, Ty.un, LT.un, Leaf.un, Leaf.plain, LT.plain]
end Go.Proofs.Ytfkabibbaajfhaa
/- What package alcohol computes: Check, Strength. Conditions: those of each law. -/
namespace Go.Proofs.Ytfkabibbaajfhaa
open Go Go.Proofs.Ytfkabibbaajfhaa.Ev
set_option linter.unusedVariables false
set_option linter.unusedSimpArgs false
set_option maxRecDepth 100000
set_option maxHeartbeats 4000000
theorem alcof_ok {xs : List (Int × Int)} {t : Int} (hc : (checkOf xs).2 = 0) (h0 : 0 ≤ t) (h1 : t ≤ 10000) : alcohol_ofP xs t = some (dens xs t) := by
  unfold alcohol_ofP alcohol_of
  try simp -implicitDefEqProofs only [evs, reduceIte, rdRes, rdTT, rdTy, rdLT, Res.un, TT.un, Ty.un, LT.un, Leaf.un, Leaf.plain, LT.plain, Density_ok]
  rw [if_pos hc, if_pos ⟨h0, h1⟩]
def inA (x : Int × Int) : Bool := decide (0 ≤ x.1 ∧ x.1 ≤ 10737418240000 ∧ 0 ≤ x.2 ∧ x.2 ≤ 128849018880000)
theorem inA_iff {x : Int × Int} : inA x = true ↔ 0 ≤ x.1 ∧ x.1 ≤ 10737418240000 ∧ 0 ≤ x.2 ∧ x.2 ≤ 128849018880000 := by simp [inA]
noncomputable def acheckOf (xs : List (Int × Int)) (x : Int × Int) : Int :=
  if (checkOf xs).2 = 0 then (if inA x = true then (if x.2 * 10000 < x.1 * dens xs 10000 then 10 else 0) else 2) else 1
theorem badA_code {x1 x2 : Int} {h : H} : (bif !(decide (x1 < 0)) then (bif !(decide ((10737418240000 : Int) < x1)) then (bif !(decide (x2 < 0)) then some (decide ((128849018880000 : Int) < x2), h) else some (true, h)) else some (true, h)) else some (true, h) : Option (Bool × H)) = some (!inA (x1, x2), h) := by
  unfold inA
  by_cases h1 : x1 < 0
  · rw [decide_eq_true h1, decide_eq_false (p := _ ∧ _) (by simp only; omega)]; rfl
  · rw [decide_eq_false h1]
    by_cases h2 : (10737418240000 : Int) < x1
    · rw [decide_eq_true h2, decide_eq_false (p := _ ∧ _) (by simp only; omega)]; rfl
    · rw [decide_eq_false h2]
      by_cases h3 : x2 < 0
      · rw [decide_eq_true h3, decide_eq_false (p := _ ∧ _) (by simp only; omega)]; rfl
      · rw [decide_eq_false h3]
        by_cases h4 : (128849018880000 : Int) < x2
        · rw [decide_eq_true h4, decide_eq_false (p := _ ∧ _) (by simp only; omega)]; rfl
        · rw [decide_eq_false h4, decide_eq_true (p := _ ∧ _) (by simp only; omega)]; rfl
theorem mul_small {a d : Int} (ha : 0 ≤ a ∧ a ≤ 10737418240000) (hd : 50000 ≤ d ∧ d ≤ 120000) : 0 ≤ a * d ∧ a * d ≤ 10737418240000 * 120000 := ⟨Int.mul_nonneg ha.1 (by omega), Int.mul_le_mul ha.2 hd.2 (by omega) (by omega)⟩
theorem ACheck_ok (xs : List (Int × Int)) (a v : Int) : alcohol_CheckP xs (a, v) = some (acheckOf xs (a, v)) := by
  unfold alcohol_CheckP alcohol_Check acheckOf
  try simp -implicitDefEqProofs only [evs, reduceIte, rdRes, rdTT, rdTy, rdLT, Res.un, TT.un, Ty.un, LT.un, Leaf.un, Leaf.plain, LT.plain, evh, List.replicate, splice, LT.pack, Leaf.pack, Nat.reduceAdd, Nat.reduceSub, Nat.reduceLeDiff, Nat.reduceLT, Nat.reduceEqDiff, LT.lo, Leaf.lo, DCheck_ok]
  by_cases hc : (checkOf xs).2 = 0
  · have ht := check_table hc
    rw [decide_eq_true hc, if_pos hc]
    try simp -implicitDefEqProofs only [evs, reduceIte, rdRes, rdTT, rdTy, rdLT, Res.un, TT.un, Ty.un, LT.un, Leaf.un, Leaf.plain, LT.plain, evh, List.replicate, splice, LT.pack, Leaf.pack, Nat.reduceAdd, Nat.reduceSub, Nat.reduceLeDiff, Nat.reduceLT, Nat.reduceEqDiff, LT.lo, Leaf.lo]
    rw [badA_code]
    try simp -implicitDefEqProofs only [evs, reduceIte, rdRes, rdTT, rdTy, rdLT, Res.un, TT.un, Ty.un, LT.un, Leaf.un, Leaf.plain, LT.plain, evh, List.replicate, splice, LT.pack, Leaf.pack, Nat.reduceAdd, Nat.reduceSub, Nat.reduceLeDiff, Nat.reduceLT, Nat.reduceEqDiff, LT.lo, Leaf.lo]
    cases hin : inA (a, v) with
    | false => simp -implicitDefEqProofs only [evs, reduceIte, rdRes, rdTT, rdTy, rdLT, Res.un, TT.un, Ty.un, LT.un, Leaf.un, Leaf.plain, LT.plain, evh, List.replicate, splice, LT.pack, Leaf.pack, Nat.reduceAdd, Nat.reduceSub, Nat.reduceLeDiff, Nat.reduceLT, Nat.reduceEqDiff, LT.lo, Leaf.lo, Bool.false_eq_true]
    | true =>
      have hi := inA_iff.1 hin
      simp only at hi
      have hd := dens_bound ht (show (0 : Int) ≤ 10000 by omega) (Int.le_refl _)
      have hm := mul_small (a := a) (d := dens xs 10000) (by omega) hd
      try simp -implicitDefEqProofs only [evs, reduceIte, rdRes, rdTT, rdTy, rdLT, Res.un, TT.un, Ty.un, LT.un, Leaf.un, Leaf.plain, LT.plain, evh, List.replicate, splice, LT.pack, Leaf.pack, Nat.reduceAdd, Nat.reduceSub, Nat.reduceLeDiff, Nat.reduceLT, Nat.reduceEqDiff, LT.lo, Leaf.lo, reserve0]
      rw [alcof_ok hc (by omega) (by omega)]
      try simp -implicitDefEqProofs only [evs, reduceIte, rdRes, rdTT, rdTy, rdLT, Res.un, TT.un, Ty.un, LT.un, Leaf.un, Leaf.plain, LT.plain, evh, List.replicate, splice, LT.pack, Leaf.pack, Nat.reduceAdd, Nat.reduceSub, Nat.reduceLeDiff, Nat.reduceLT, Nat.reduceEqDiff, LT.lo, Leaf.lo]
      rw [i64_in (v * 10000) (by omega), i64_in (a * dens xs 10000) (by omega)]
      by_cases hlt : v * 10000 < a * dens xs 10000
      · rw [decide_eq_true hlt, if_pos hlt]
        try simp -implicitDefEqProofs only [evs, reduceIte, rdRes, rdTT, rdTy, rdLT, Res.un, TT.un, Ty.un, LT.un, Leaf.un, Leaf.plain, LT.plain, evh, List.replicate, splice, LT.pack, Leaf.pack, Nat.reduceAdd, Nat.reduceSub, Nat.reduceLeDiff, Nat.reduceLT, Nat.reduceEqDiff, LT.lo, Leaf.lo]
      · rw [decide_eq_false hlt, if_neg hlt]
        try simp -implicitDefEqProofs only [evs, reduceIte, rdRes, rdTT, rdTy, rdLT, Res.un, TT.un, Ty.un, LT.un, Leaf.un, Leaf.plain, LT.plain, evh, List.replicate, splice, LT.pack, Leaf.pack, Nat.reduceAdd, Nat.reduceSub, Nat.reduceLeDiff, Nat.reduceLT, Nat.reduceEqDiff, LT.lo, Leaf.lo]
  · rw [decide_eq_false hc, if_neg hc]
    try simp -implicitDefEqProofs only [evs, reduceIte, rdRes, rdTT, rdTy, rdLT, Res.un, TT.un, Ty.un, LT.un, Leaf.un, Leaf.plain, LT.plain, evh, List.replicate, splice, LT.pack, Leaf.pack, Nat.reduceAdd, Nat.reduceSub, Nat.reduceLeDiff, Nat.reduceLT, Nat.reduceEqDiff, LT.lo, Leaf.lo]
/-- Is a grade above a liquid's? -/
noncomputable def above (xs : List (Int × Int)) (x : Int × Int) (k : Nat) : Bool := decide (x.1 * dens xs k < x.2 * k)
theorem above_up {xs : List (Int × Int)} {x : Int × Int} (ht : Table2 xs) (hi : inA x = true) (j k : Nat) (hjk : j ≤ k) (hk : k < 10001) (h : above xs x j = true) : above xs x k = true := by
  have hi := inA_iff.1 hi
  have h := of_decide_eq_true h
  have hd := dens_down (s := j) (t := k) ht (by omega) (by omega) (by omega)
  have k1 : x.1 * dens xs k ≤ x.1 * dens xs j := Int.mul_le_mul_of_nonneg_left hd hi.1
  have k2 : x.2 * (j : Int) ≤ x.2 * (k : Int) := Int.mul_le_mul_of_nonneg_left (by omega) hi.2.2.1
  exact decide_eq_true (by omega)
abbrev sH (xs : List (Int × Int)) (x : Int × Int) : H := hL [.own [.slice (rowSV false j2 xs).a xs.length xs.length true] 1, c2 x]
theorem strength1_ok {xs : List (Int × Int)} {x : Int × Int} {k : Nat} (hc : (checkOf xs).2 = 0) (hi : inA x = true) (hk : k < 10001) : alcohol_Strength_1 (k : Int) (.hp 1 2 0) (.hp 0 1 0) (sH xs x) = some (above xs x k, sH xs x) := by
  have ht := check_table hc
  have r0 : rdT (.leaf .slice) (sH xs x) (.hp 0 1 0) = some (rowSV false j2 xs) := by
    unfold sH
    rw [rd_own (g := 1) (id := 0) rfl rfl]; rfl
  have e1 : [.own [.slice (rowSV false j2 xs).a xs.length xs.length true] 1, c2 x][1]? = some (c2 x) := rfl
  have r1 : rdT (.leaf (.int .i64)) (sH xs x) (.hp 1 2 0) = some x.1 ∧ rdT (.leaf (.int .i64)) (sH xs x) (.hp 1 2 1) = some x.2 := rd_c2 e1
  have hi := inA_iff.1 hi
  have hd := dens_bound (t := k) ht (by omega) (by omega)
  have hm := mul_small (a := x.1) (d := dens xs k) (by omega) hd
  have hv : 0 ≤ x.2 * (k : Int) ∧ x.2 * (k : Int) ≤ 128849018880000 * 10000 := ⟨Int.mul_nonneg (by omega) (by omega), Int.mul_le_mul (by omega) (by omega) (by omega) (by omega)⟩
  unfold alcohol_Strength_1
  try simp -implicitDefEqProofs only [reserve0]
  rw [guardO_pos (p := V.nn _ = true) (by rfl)]
  show ((rdT (.leaf (.int .i64)) (sH xs x) (.hp 1 2 0)).bind _) = _
  rw [r1.1]
  try simp -implicitDefEqProofs only [evs, reduceIte, rdRes, rdTT, rdTy, rdLT, Res.un, TT.un, Ty.un, LT.un, Leaf.un, Leaf.plain, LT.plain]
  rw [r0]
  try simp -implicitDefEqProofs only [evs, reduceIte, rdRes, rdTT, rdTy, rdLT, Res.un, TT.un, Ty.un, LT.un, Leaf.un, Leaf.plain, LT.plain]
  rw [alcof_ok hc (by omega) (by omega)]
  try simp -implicitDefEqProofs only [evs, reduceIte, rdRes, rdTT, rdTy, rdLT, Res.un, TT.un, Ty.un, LT.un, Leaf.un, Leaf.plain, LT.plain]
  rw [guardO_pos (p := V.nn _ = true) (by rfl)]
  show ((rdT (.leaf (.int .i64)) (sH xs x) (.hp 1 2 1)).bind _) = _
  rw [r1.2]
  try simp -implicitDefEqProofs only [evs, reduceIte, rdRes, rdTT, rdTy, rdLT, Res.un, TT.un, Ty.un, LT.un, Leaf.un, Leaf.plain, LT.plain]
  rw [i64_in (x.1 * dens xs k) (by omega), i64_in (x.2 * (k : Int)) (by omega)]
  rfl
/-- A liquid's strength: one below the first grade above it. -/
theorem Strength_ok (xs : List (Int × Int)) (a v : Int) : ∃ r, alcohol_StrengthP xs (a, v) = some r ∧
    ((acheckOf xs (a, v) ≠ 0 ∧ r = (0, 1)) ∨ (acheckOf xs (a, v) = 0 ∧ a = 0 ∧ v = 0 ∧ r = (0, 0)) ∨
      (acheckOf xs (a, v) = 0 ∧ ¬(a = 0 ∧ v = 0) ∧ ∃ m : Nat, m ≤ 10001 ∧ r = ((m : Int) - 1, 0) ∧ (∀ q, q < m → above xs (a, v) q = false) ∧ ∀ q, m ≤ q → q < 10001 → above xs (a, v) q = true)) := by
  have r0 : rdT (.leaf .slice) (sH xs (a, v)) (.hp 0 1 0) = some (rowSV false j2 xs) := by
    unfold sH
    rw [rd_own (g := 1) (id := 0) rfl rfl]; rfl
  have e1 : [.own [.slice (rowSV false j2 xs).a xs.length xs.length true] 1, c2 (a, v)][1]? = some (c2 (a, v)) := rfl
  have s1 : rdT (.agg j2) (sH xs (a, v)) (.hp 1 2 0) = some (a, v) := rds_c2 e1
  unfold alcohol_StrengthP alcohol_Strength
  try simp -implicitDefEqProofs only [evs, reduceIte, rdRes, rdTT, rdTy, rdLT, Res.un, TT.un, Ty.un, LT.un, Leaf.un, Leaf.plain, LT.plain, hL_empty, hL_new, hL_next, List.length_nil, List.length_cons, List.nil_append, List.cons_append, Nat.zero_add]
  simp only [sH, c2] at r0 s1
  rw [r0]
  try simp -implicitDefEqProofs only [evs, reduceIte, rdRes, rdTT, rdTy, rdLT, Res.un, TT.un, Ty.un, LT.un, Leaf.un, Leaf.plain, LT.plain]
  rw [s1]
  try simp -implicitDefEqProofs only [evs, reduceIte, rdRes, rdTT, rdTy, rdLT, Res.un, TT.un, Ty.un, LT.un, Leaf.un, Leaf.plain, LT.plain]
  rw [ACheck_ok]
  try simp -implicitDefEqProofs only [evs, reduceIte, rdRes, rdTT, rdTy, rdLT, Res.un, TT.un, Ty.un, LT.un, Leaf.un, Leaf.plain, LT.plain]
  by_cases hc : acheckOf xs (a, v) = 0
  · rw [decide_eq_true hc]
    try simp -implicitDefEqProofs only [evs, reduceIte, rdRes, rdTT, rdTy, rdLT, Res.un, TT.un, Ty.un, LT.un, Leaf.un, Leaf.plain, LT.plain]
    by_cases hz : a = 0 ∧ v = 0
    · rw [decide_eq_true hz.1, decide_eq_true hz.2]
      try simp -implicitDefEqProofs only [evs, reduceIte, rdRes, rdTT, rdTy, rdLT, Res.un, TT.un, Ty.un, LT.un, Leaf.un, Leaf.plain, LT.plain]
      exact ⟨_, rfl, .inr (.inl ⟨hc, hz.1, hz.2, rfl⟩)⟩
    · have hfalse : (decide (a = 0) && decide (v = 0)) = false := by
        rw [← Bool.decide_and]
        exact decide_eq_false hz
      rw [hfalse]
      try simp -implicitDefEqProofs only [evs, reduceIte, rdRes, rdTT, rdTy, rdLT, Res.un, TT.un, Ty.un, LT.un, Leaf.un, Leaf.plain, LT.plain]
      have hck : (checkOf xs).2 = 0 := by
        refine Classical.byContradiction fun h => ?_
        unfold acheckOf at hc
        rw [if_neg h] at hc
        simp at hc
      have hin : inA (a, v) = true := by
        unfold acheckOf at hc
        rw [if_pos hck] at hc
        cases h : inA (a, v) with
        | true => rfl
        | false => rw [h] at hc; simp at hc
      obtain ⟨m, q1, q2', q3, q4⟩ := Search_ok (T := alcohol_Strength.tb) (v := .func 65 [.hp 1 2 0, .hp 0 1 0]) (h := sH xs (a, v)) (n := 10001) (above xs (a, v)) (by omega) (fun j k hjk hk hj => above_up (check_table hck) hin j k hjk hk hj) (fun k hk R K => by
        show (alcohol_Strength_1 (k : Int) (.hp 1 2 0) (.hp 0 1 0) _).bind (fun p => K (.bool p.1) p.2) = _
        rw [strength1_ok hck hin hk]
        rfl)
      have hn : ((10001 : Nat) : Int) = 10001 := rfl
      simp only [sH, c2, hn] at q1
      rw [q1]
      try simp -implicitDefEqProofs only [evs, reduceIte, rdRes, rdTT, rdTy, rdLT, Res.un, TT.un, Ty.un, LT.un, Leaf.un, Leaf.plain, LT.plain]
      rw [i64_in _ (by omega)]
      exact ⟨_, rfl, .inr (.inr ⟨hc, hz, m, q2', rfl, q3, q4⟩)⟩
  · rw [decide_eq_false hc]
    try simp -implicitDefEqProofs only [evs, reduceIte, rdRes, rdTT, rdTy, rdLT, Res.un, TT.un, Ty.un, LT.un, Leaf.un, Leaf.plain, LT.plain]
    exact ⟨_, rfl, .inl ⟨hc, rfl⟩⟩
end Go.Proofs.Ytfkabibbaajfhaa
/- What alcohol.Volume and mix.mixture compute. Conditions: those of each law. -/
namespace Go.Proofs.Ytfkabibbaajfhaa
open Go Go.Proofs.Ytfkabibbaajfhaa.Ev
set_option linter.unusedVariables false
set_option linter.unusedSimpArgs false
set_option maxRecDepth 100000
set_option maxHeartbeats 4000000
theorem acheck_zero {xs : List (Int × Int)} {x : Int × Int} (h : acheckOf xs x = 0) : (checkOf xs).2 = 0 ∧ inA x = true ∧ x.1 * dens xs 10000 ≤ x.2 * 10000 := by
  unfold acheckOf at h
  by_cases h1 : (checkOf xs).2 = 0
  · rw [if_pos h1] at h
    by_cases h2 : inA x = true
    · rw [if_pos h2] at h
      by_cases h3 : x.2 * 10000 < x.1 * dens xs 10000
      · rw [if_pos h3] at h; simp at h
      · exact ⟨h1, h2, by omega⟩
    · rw [if_neg h2] at h; simp at h
  · rw [if_neg h1] at h; simp at h
noncomputable def strengthOf (xs : List (Int × Int)) (x : Int × Int) : Int × Int := (alcohol_StrengthP xs x).getD (0, 1)
/-- A strength, and what is known of it. -/
theorem strengthOf_ok (xs : List (Int × Int)) (x : Int × Int) : alcohol_StrengthP xs x = some (strengthOf xs x) ∧
    ((acheckOf xs x ≠ 0 ∧ strengthOf xs x = (0, 1)) ∨ (acheckOf xs x = 0 ∧ (strengthOf xs x).2 = 0 ∧ 0 ≤ (strengthOf xs x).1 ∧ (strengthOf xs x).1 ≤ 10000)) := by
  obtain ⟨a, v⟩ := x
  obtain ⟨r, er, hcase⟩ := Strength_ok xs a v
  have hs : strengthOf xs (a, v) = r := by unfold strengthOf; rw [er]; rfl
  rw [hs]
  refine ⟨er, ?_⟩
  rcases hcase with ⟨h1, rfl⟩ | ⟨h1, _, _, rfl⟩ | ⟨h1, hn, m, m1, rfl, m3, m4⟩
  · exact .inl ⟨h1, rfl⟩
  · exact .inr ⟨h1, rfl, by simp, by simp⟩
  · obtain ⟨ck, hin, hmax⟩ := acheck_zero h1
    have ht := check_table ck
    have hin' := inA_iff.1 hin
    have hm0 : 0 < m := by
      rcases Nat.eq_zero_or_pos m with h | h
      · have h0 := of_decide_eq_true (m4 0 (by omega) (by omega))
        simp only [Int.natCast_zero, Int.mul_zero] at h0
        have hd := dens_bound (t := 0) ht (by omega) (by omega)
        have := Int.mul_nonneg (show 0 ≤ (a, v).1 from hin'.1) (show 0 ≤ dens xs 0 by omega)
        simp only at this
        omega
      · exact h
    exact .inr ⟨h1, rfl, by simp only; omega, by simp only; omega⟩
noncomputable def mixtureOf (xs ls : List (Int × Int)) : (Int × Int) × Int :=
  if 8 < ls.length then ((0, 0), 8) else if (checkOf xs).2 = 0 then (if ls.any (fun x => !decide (acheckOf xs x = 0)) = true then ((0, 0), 1) else sumOf ls) else ((0, 0), 1)
theorem mixture1_ok {xs : List (Int × Int)} {sl : List Slot} {x : Int × Int} : mix_mixture_1 x (.hp 0 1 0) (hL (.own [.slice (rowSV false j2 xs).a xs.length xs.length true] 1 :: sl)) = some (!decide (acheckOf xs x = 0), hL (.own [.slice (rowSV false j2 xs).a xs.length xs.length true] 1 :: (sl ++ [c2 x]))) := by
  have r0 : rdT (.leaf .slice) (hL (.own [.slice (rowSV false j2 xs).a xs.length xs.length true] 1 :: (sl ++ [c2 x]))) (.hp 0 1 0) = some (rowSV false j2 xs) := by
    rw [rd_own (g := 1) (id := 0) rfl rfl]; rfl
  have e1 : (.own [.slice (rowSV false j2 xs).a xs.length xs.length true] 1 :: (sl ++ [c2 x]))[sl.length + 1]? = some (c2 x) := by simp
  have r1 := rds_c2 e1
  obtain ⟨a, v⟩ := x
  unfold mix_mixture_1
  try simp -implicitDefEqProofs only [hL_new, hL_next, List.length_cons, List.cons_append]
  simp only [c2] at r0 r1
  rw [r0]
  try simp -implicitDefEqProofs only [evs, reduceIte, rdRes, rdTT, rdTy, rdLT, Res.un, TT.un, Ty.un, LT.un, Leaf.un, Leaf.plain, LT.plain]
  rw [r1]
  try simp -implicitDefEqProofs only [evs, reduceIte, rdRes, rdTT, rdTy, rdLT, Res.un, TT.un, Ty.un, LT.un, Leaf.un, Leaf.plain, LT.plain]
  rw [ACheck_ok]
  try simp -implicitDefEqProofs only [evs, reduceIte, rdRes, rdTT, rdTy, rdLT, Res.un, TT.un, Ty.un, LT.un, Leaf.un, Leaf.plain, LT.plain]
end Go.Proofs.Ytfkabibbaajfhaa
/- What mix.mixture computes. Conditions: those of each law. -/
namespace Go.Proofs.Ytfkabibbaajfhaa
open Go Go.Proofs.Ytfkabibbaajfhaa.Ev
set_option linter.unusedVariables false
set_option linter.unusedSimpArgs false
set_option maxRecDepth 100000
set_option maxHeartbeats 4000000
theorem IndexFunc_grow {T : Table} {v : V} {B : List Slot} {xs : List (Int × Int)} {f : Bool} (p : Int × Int → Bool) (hn : xs.length < 2 ^ 63)
    (hc : ∀ x ∈ xs, ∀ (J : List Slot) {R : Type} (k : V → H → Option R), callV T.dy v [.agg [.int .i64 x.1, .int .i64 x.2]] (hL (B ++ J)) k = k (.bool (p x)) (hL (B ++ (J ++ [c2 x])))) :
    ∃ J, slices_IndexFunc_api_Liquid_api_Liquid T (rowSV f [.int .i64, .int .i64] xs) v (hL B) = some (idxOf p xs, hL (B ++ J)) := by
  have hstep : ∀ (i : Nat) (x : Int × Int), xs[i]? = some x → slices_IndexFunc_api_Liquid_api_Liquid.loop1 T (rowSV f j2 xs) v ((i : Int), hL (B ++ (xs.take i).map c2)) = some (bif p x then .done (.ret (i : Int), hL (B ++ (xs.take (i + 1)).map c2)) else .more (((i + 1 : Nat) : Int), hL (B ++ (xs.take (i + 1)).map c2))) := fun i x hx => by
    obtain ⟨hlt, hx'⟩ := List.getElem?_eq_some_iff.1 hx
    have ht : (xs.take (i + 1)).map c2 = (xs.take i).map c2 ++ [c2 x] := by
      rw [← List.take_append_getElem hlt, List.map_append, hx']
      rfl
    unfold slices_IndexFunc_api_Liquid_api_Liquid.loop1
    try simp -implicitDefEqProofs only [rowSV_len, Int.toNat_natCast]
    rw [decide_eq_true (by omega), cond_true, guardO_pos (by omega), rds_rowF (ls := j2) (w := 2) rfl (by omega) rfl, hx]
    try simp -implicitDefEqProofs only [Option.bind_some]
    rw [hc x (by rw [← hx']; exact List.getElem_mem hlt), ← ht]
    try simp -implicitDefEqProofs only [Res.pack, Ty.pack, Leaf.pack, Option.bind_some]
    rw [i64_succ (by omega)]
    cases p x <;> rfl
  unfold slices_IndexFunc_api_Liquid_api_Liquid idxOf
  cases hf : xs.findIdx? p with
  | some m =>
    obtain ⟨hm, hbad, hgood⟩ := List.findIdx?_eq_some_iff_getElem.1 hf
    have := iter_run (f := slices_IndexFunc_api_Liquid_api_Liquid.loop1 T (rowSV f j2 xs) v) (x := (.ret (m : Int), hL (B ++ (xs.take (m + 1)).map c2))) (fun i => ((i : Int), hL (B ++ (xs.take i).map c2))) m FUEL (fun i hi => by
      rw [hstep i _ (List.getElem?_eq_getElem (by omega))]
      have := hgood i hi
      cases hpi : p xs[i] with
      | true => exact absurd hpi this
      | false => rfl) (by
      rw [hstep m _ (List.getElem?_eq_getElem hm), hbad]
      rfl) (fuel_gt (by omega))
    have hz : (((0 : Nat) : Int)) = 0 := rfl
    simp only [hz, List.take_zero, List.map_nil, List.append_nil] at this
    rw [this]
    exact ⟨_, rfl⟩
  | none =>
    have hno := List.findIdx?_eq_none_iff.1 hf
    have := iter_run (f := slices_IndexFunc_api_Liquid_api_Liquid.loop1 T (rowSV f j2 xs) v) (x := (.ex0 (), hL (B ++ xs.map c2))) (fun i => ((i : Int), hL (B ++ (xs.take i).map c2))) xs.length FUEL (fun i hi => by
      rw [hstep i _ (List.getElem?_eq_getElem hi), hno _ (List.getElem_mem hi)]
      rfl) (by
      unfold slices_IndexFunc_api_Liquid_api_Liquid.loop1
      try simp -implicitDefEqProofs only [rowSV_len]
      rw [decide_eq_false (by omega), cond_false, List.take_length]) (fuel_gt (by omega))
    have hz : (((0 : Nat) : Int)) = 0 := rfl
    simp only [hz, List.take_zero, List.map_nil, List.append_nil] at this
    rw [this]
    exact ⟨_, rfl⟩
theorem ContainsFunc_grow {T : Table} {v : V} {B : List Slot} {xs : List (Int × Int)} {f : Bool} (p : Int × Int → Bool) (hn : xs.length < 2 ^ 63)
    (hc : ∀ x ∈ xs, ∀ (J : List Slot) {R : Type} (k : V → H → Option R), callV T.dy v [.agg [.int .i64 x.1, .int .i64 x.2]] (hL (B ++ J)) k = k (.bool (p x)) (hL (B ++ (J ++ [c2 x])))) :
    ∃ J, slices_ContainsFunc_api_Liquid_api_Liquid T (rowSV f [.int .i64, .int .i64] xs) v (hL B) = some (xs.any p, hL (B ++ J)) := by
  obtain ⟨J, h⟩ := IndexFunc_grow (T := slices_ContainsFunc_api_Liquid_api_Liquid.tb T) (f := f) p hn hc
  refine ⟨J, ?_⟩
  unfold slices_ContainsFunc_api_Liquid_api_Liquid
  rw [h]
  simp only [Option.bind_some, idxOf_nonneg]
theorem mixture_ok (xs ls : List (Int × Int)) (hl : ls.length < 2 ^ 63) : mix_mixtureP xs ls = some (mixtureOf xs ls) := by
  unfold mix_mixtureP mix_mixture mixtureOf
  try simp -implicitDefEqProofs only [evs, reduceIte, rdRes, rdTT, rdTy, rdLT, Res.un, TT.un, Ty.un, LT.un, Leaf.un, Leaf.plain, LT.plain, hL_empty, hL_new, hL_next, List.length_nil, List.length_cons, List.nil_append, List.cons_append, Nat.zero_add]
  have hB : ∀ (J : List Slot), (([.own [.slice (rowSV false j2 xs).a xs.length xs.length true] 1, c2 (0, 0)] : List Slot) ++ J)[1]? = some (c2 (0, 0)) := fun J => rfl
  have r0 : rdT (.leaf .slice) (hL [.own [.slice (rowSV false j2 xs).a xs.length xs.length true] 1, c2 (0, 0)]) (.hp 0 1 0) = some (rowSV false j2 xs) := by
    rw [rd_own (g := 1) (id := 0) rfl rfl]; rfl
  have w0 := wrs_c2 (y := (0, 0)) (hB [])
  have s0 := rds_c2 (hB [])
  simp only [c2, List.append_nil, List.set_cons_succ, List.set_cons_zero] at r0 w0 s0
  rw [r0]
  try simp -implicitDefEqProofs only [evs, reduceIte, rdRes, rdTT, rdTy, rdLT, Res.un, TT.un, Ty.un, LT.un, Leaf.un, Leaf.plain, LT.plain, DCheck_ok]
  by_cases h8 : 8 < ls.length
  · rw [if_pos h8, decide_eq_true (show (8 : Int) < (ls.length : Int) by omega)]
    try simp -implicitDefEqProofs only [evs, reduceIte, rdRes, rdTT, rdTy, rdLT, Res.un, TT.un, Ty.un, LT.un, Leaf.un, Leaf.plain, LT.plain]
    rw [w0]
    try simp -implicitDefEqProofs only [evs, reduceIte, rdRes, rdTT, rdTy, rdLT, Res.un, TT.un, Ty.un, LT.un, Leaf.un, Leaf.plain, LT.plain]
    rw [s0]
    try simp -implicitDefEqProofs only [evs, reduceIte, rdRes, rdTT, rdTy, rdLT, Res.un, TT.un, Ty.un, LT.un, Leaf.un, Leaf.plain, LT.plain]
  · rw [if_neg h8, decide_eq_false (show ¬ (8 : Int) < (ls.length : Int) by omega)]
    try simp -implicitDefEqProofs only [evs, reduceIte, rdRes, rdTT, rdTy, rdLT, Res.un, TT.un, Ty.un, LT.un, Leaf.un, Leaf.plain, LT.plain]
    by_cases hck : (checkOf xs).2 = 0
    · rw [decide_eq_true hck, if_pos hck]
      try simp -implicitDefEqProofs only [evs, reduceIte, rdRes, rdTT, rdTy, rdLT, Res.un, TT.un, Ty.un, LT.un, Leaf.un, Leaf.plain, LT.plain]
      obtain ⟨J, hJ⟩ := ContainsFunc_grow (T := mix_mixture.tb) (v := .func 82 [.hp 0 1 0]) (B := [.own [.slice (rowSV false j2 xs).a xs.length xs.length true] 1, c2 (0, 0)]) (xs := ls) (f := false) (fun x => !decide (acheckOf xs x = 0)) hl (fun x hx J R k => by
        show (mix_mixture_1 x (.hp 0 1 0) _).bind (fun p => k (.bool p.1) p.2) = _
        have := mixture1_ok (xs := xs) (sl := c2 (0, 0) :: J) (x := x)
        simp only [List.cons_append, List.nil_append] at this ⊢
        rw [this]
        rfl)
      simp only [c2] at hJ
      rw [hJ]
      try simp -implicitDefEqProofs only [evs, reduceIte, rdRes, rdTT, rdTy, rdLT, Res.un, TT.un, Ty.un, LT.un, Leaf.un, Leaf.plain, LT.plain]
      have w1 := fun y => wrs_c2 (y := y) (hB J)
      have s1 : ∀ y, rdT (.agg j2) (hL (([.own [.slice (rowSV false j2 xs).a xs.length xs.length true] 1, c2 (0, 0)] ++ J).set 1 (c2 y))) (.hp 1 2 0) = some y := fun y => rds_c2 rfl
      cases hany : ls.any (fun x => !decide (acheckOf xs x = 0)) with
      | true =>
        have w2 := w1 (0, 0)
        have s2 := s1 (0, 0)
        simp only [c2] at w2 s2
        try simp -implicitDefEqProofs only [evs, reduceIte, rdRes, rdTT, rdTy, rdLT, Res.un, TT.un, Ty.un, LT.un, Leaf.un, Leaf.plain, LT.plain]
        rw [w2]
        try simp -implicitDefEqProofs only [evs, reduceIte, rdRes, rdTT, rdTy, rdLT, Res.un, TT.un, Ty.un, LT.un, Leaf.un, Leaf.plain, LT.plain]
        rw [s2]
        try simp -implicitDefEqProofs only [evs, reduceIte, rdRes, rdTT, rdTy, rdLT, Res.un, TT.un, Ty.un, LT.un, Leaf.un, Leaf.plain, LT.plain]
      | false =>
        try simp -implicitDefEqProofs only [evs, reduceIte, rdRes, rdTT, rdTy, rdLT, Res.un, TT.un, Ty.un, LT.un, Leaf.un, Leaf.plain, LT.plain, Bool.false_eq_true]
        rw [Sum_ok ls hl]
        generalize sumOf ls = s
        obtain ⟨⟨a, b⟩, e⟩ := s
        have w2 := w1 (a, b)
        have s2 := s1 (a, b)
        simp only [c2] at w2 s2
        try simp -implicitDefEqProofs only [evs, reduceIte, rdRes, rdTT, rdTy, rdLT, Res.un, TT.un, Ty.un, LT.un, Leaf.un, Leaf.plain, LT.plain]
        rw [w2]
        try simp -implicitDefEqProofs only [evs, reduceIte, rdRes, rdTT, rdTy, rdLT, Res.un, TT.un, Ty.un, LT.un, Leaf.un, Leaf.plain, LT.plain]
        rw [s2]
        try simp -implicitDefEqProofs only [evs, reduceIte, rdRes, rdTT, rdTy, rdLT, Res.un, TT.un, Ty.un, LT.un, Leaf.un, Leaf.plain, LT.plain]
    · rw [decide_eq_false hck, if_neg hck]
      try simp -implicitDefEqProofs only [evs, reduceIte, rdRes, rdTT, rdTy, rdLT, Res.un, TT.un, Ty.un, LT.un, Leaf.un, Leaf.plain, LT.plain]
      rw [w0]
      try simp -implicitDefEqProofs only [evs, reduceIte, rdRes, rdTT, rdTy, rdLT, Res.un, TT.un, Ty.un, LT.un, Leaf.un, Leaf.plain, LT.plain]
      rw [s0]
      try simp -implicitDefEqProofs only [evs, reduceIte, rdRes, rdTT, rdTy, rdLT, Res.un, TT.un, Ty.un, LT.un, Leaf.un, Leaf.plain, LT.plain]
end Go.Proofs.Ytfkabibbaajfhaa
/- What mix.Between computes. Conditions: those of each law. -/
namespace Go.Proofs.Ytfkabibbaajfhaa
open Go Go.Proofs.Ytfkabibbaajfhaa.Ev
set_option linter.unusedVariables false
set_option linter.unusedSimpArgs false
set_option maxRecDepth 100000
set_option maxHeartbeats 4000000
/-- The band of strengths, one liquid more. -/
noncomputable def bandStep (xs : List (Int × Int)) (b x : Int × Int) : Int × Int := if x.2 = 0 then b else (min b.1 (strengthOf xs x).1, max b.2 (strengthOf xs x).1)
noncomputable def bandOf (xs : List (Int × Int)) (ls : List (Int × Int)) : Int × Int := ls.foldl (bandStep xs) (10000, 0)
theorem band_take {xs ls : List (Int × Int)} {i : Nat} {x : Int × Int} (h : ls[i]? = some x) : bandOf xs (ls.take (i + 1)) = bandStep xs (bandOf xs (ls.take i)) x := by
  obtain ⟨hi, rfl⟩ := List.getElem?_eq_some_iff.1 h
  unfold bandOf
  rw [← List.take_append_getElem hi, List.foldl_append]
  rfl
noncomputable def slotsB (xs ls : List (Int × Int)) (s : Int × Int) (i : Nat) : List Slot := c2 (0, 0) :: c2 s :: c2 (bandOf xs (ls.take i)) :: (ls.take i).map c2
theorem slotsB_succ {xs ls : List (Int × Int)} {s : Int × Int} {i : Nat} {x : Int × Int} (h : ls[i]? = some x) : (slotsB xs ls s i ++ [c2 x]).set 2 (c2 (bandStep xs (bandOf xs (ls.take i)) x)) = slotsB xs ls s (i + 1) := by
  unfold slotsB
  rw [band_take h]
  obtain ⟨hi, rfl⟩ := List.getElem?_eq_some_iff.1 h
  rw [← List.take_append_getElem hi, List.map_append]
  rfl
theorem between_loop {xs ls : List (Int × Int)} {s : Int × Int} {f g : Bool} {hh : H} (h2 : hh.next = 2) (hl : ls.length ≤ 8) :
    iter FUEL (mix_Between.loop1 (rowSV f j2 xs) (rowSV g j2 ls) hh) (0, hL [c2 (0, 0), c2 s, c2 (10000, 0)]) = some (.ex0 (), hL (slotsB xs ls s ls.length)) := by
  refine (iter_from (f := mix_Between.loop1 (rowSV f j2 xs) (rowSV g j2 ls) hh) (fun i => ((i : Int), hL (slotsB xs ls s i))) rfl ls.length FUEL (fun i hi => ?_) ?_ (fuel_gt (by omega)))
  · have hget := List.getElem?_eq_getElem hi
    generalize hxi : ls[i] = x at *
    have hrow : (slotsB xs ls s i ++ [c2 x])[(slotsB xs ls s i).length]? = some (c2 x) := by simp
    have hband : (slotsB xs ls s i ++ [c2 x])[2]? = some (c2 (bandOf xs (ls.take i))) := rfl
    have r1 := rd_c2 hrow
    have r2 := rds_c2 hrow
    have t1 := rd_c2 hband
    have nw := new_c2 (sl := slotsB xs ls s i) (x := x)
    have hsucc := slotsB_succ (xs := xs) (s := s) hget
    have hg1 : 0 ≤ (i : Int) ∧ (i : Int) < (ls.length : Int) := by omega
    unfold mix_Between.loop1
    try simp -implicitDefEqProofs only [Int.toNat_natCast, rowSV_len, guardO_pos hg1, h2]
    rw [decide_eq_true hg1.2, cond_true, rds_rowF (ls := j2) (w := 2) rfl (by omega) rfl, hget]
    try simp -implicitDefEqProofs only [Option.bind_some, hL_new, hL_next]
    rw [nw]
    try simp -implicitDefEqProofs only [Option.bind_some, r1.1, r1.2]
    by_cases hz : x.2 = 0
    · rw [decide_eq_true hz]
      try simp -implicitDefEqProofs only [evs, reduceIte, rdRes, rdTT, rdTy, rdLT, Res.un, TT.un, Ty.un, LT.un, Leaf.un, Leaf.plain, LT.plain]
      have hsame : (slotsB xs ls s i ++ [c2 x]).set 2 (c2 (bandStep xs (bandOf xs (ls.take i)) x)) = slotsB xs ls s i ++ [c2 x] := by
        unfold bandStep
        rw [if_pos hz]
        rfl
      rw [hsame] at hsucc
      rw [i64_succ (by omega), hsucc]
    · rw [decide_eq_false hz]
      try simp -implicitDefEqProofs only [evs, reduceIte, rdRes, rdTT, rdTy, rdLT, Res.un, TT.un, Ty.un, LT.un, Leaf.un, Leaf.plain, LT.plain]
      rw [r2]
      try simp -implicitDefEqProofs only [evs, reduceIte, rdRes, rdTT, rdTy, rdLT, Res.un, TT.un, Ty.un, LT.un, Leaf.un, Leaf.plain, LT.plain]
      rw [(strengthOf_ok xs x).1]
      try simp -implicitDefEqProofs only [evs, reduceIte, rdRes, rdTT, rdTy, rdLT, Res.un, TT.un, Ty.un, LT.un, Leaf.un, Leaf.plain, LT.plain]
      rw [t1.1]
      try simp -implicitDefEqProofs only [evs, reduceIte, rdRes, rdTT, rdTy, rdLT, Res.un, TT.un, Ty.un, LT.un, Leaf.un, Leaf.plain, LT.plain]
      rw [t1.2]
      try simp -implicitDefEqProofs only [evs, reduceIte, rdRes, rdTT, rdTy, rdLT, Res.un, TT.un, Ty.un, LT.un, Leaf.un, Leaf.plain, LT.plain]
      have w1 := wr0_c2 (y := minI (strengthOf xs x).1 (bandOf xs (ls.take i)).1) hband
      have hb2 : ((slotsB xs ls s i ++ [c2 x]).set 2 (c2 (minI (strengthOf xs x).1 (bandOf xs (ls.take i)).1, (bandOf xs (ls.take i)).2)))[2]? = some (c2 (minI (strengthOf xs x).1 (bandOf xs (ls.take i)).1, (bandOf xs (ls.take i)).2)) := rfl
      have w2 := wr1_c2 (y := maxI (strengthOf xs x).1 (bandOf xs (ls.take i)).2) hb2
      rw [List.set_set] at w2
      have hstep : bandStep xs (bandOf xs (ls.take i)) x = (minI (strengthOf xs x).1 (bandOf xs (ls.take i)).1, maxI (strengthOf xs x).1 (bandOf xs (ls.take i)).2) := by
        unfold bandStep
        rw [if_neg hz, minI_eq, maxI_eq]
      rw [← hstep, hsucc] at w2
      rw [w1]
      try simp -implicitDefEqProofs only [evs, reduceIte, rdRes, rdTT, rdTy, rdLT, Res.un, TT.un, Ty.un, LT.un, Leaf.un, Leaf.plain, LT.plain]
      rw [w2]
      try simp -implicitDefEqProofs only [evs, reduceIte, rdRes, rdTT, rdTy, rdLT, Res.un, TT.un, Ty.un, LT.un, Leaf.un, Leaf.plain, LT.plain]
      rw [i64_succ (by omega)]
  · unfold mix_Between.loop1
    try simp -implicitDefEqProofs only [rowSV_len]
    rw [decide_eq_false (by omega), cond_false]
noncomputable def betweenOf (xs ls : List (Int × Int)) : (Int × Int) × Int × Int :=
  if (mixtureOf xs ls).2 = 0 then (if (mixtureOf xs ls).1.2 = 0 then ((0, 0), 0, 9) else (bandOf xs ls, (strengthOf xs (mixtureOf xs ls).1).1, 0)) else ((0, 0), 0, (mixtureOf xs ls).2)
theorem mixture_short {xs ls : List (Int × Int)} (h : (mixtureOf xs ls).2 = 0) : ls.length ≤ 8 := by
  unfold mixtureOf at h
  by_cases h8 : 8 < ls.length
  · rw [if_pos h8] at h; simp at h
  · omega
theorem Between_ok (xs ls : List (Int × Int)) (hl : ls.length < 2 ^ 63) : mix_BetweenP xs ls = some (betweenOf xs ls) := by
  unfold mix_BetweenP mix_Between betweenOf
  try simp -implicitDefEqProofs only [evs, reduceIte, rdRes, rdTT, rdTy, rdLT, Res.un, TT.un, Ty.un, LT.un, Leaf.un, Leaf.plain, LT.plain, hL_empty, hL_new, hL_next, List.length_nil, List.length_cons, List.nil_append, List.cons_append, Nat.zero_add]
  rw [mixture_ok xs ls hl]
  have hshort := mixture_short (xs := xs) (ls := ls)
  generalize mixtureOf xs ls = m at *
  obtain ⟨⟨s1, s2⟩, e⟩ := m
  simp only at hshort
  have nw := new_c2 (sl := [c2 (0, 0)]) (x := (s1, s2))
  simp only [c2, List.cons_append, List.nil_append, List.length_cons, List.length_nil, Nat.zero_add] at nw
  try simp -implicitDefEqProofs only [evs, reduceIte, rdRes, rdTT, rdTy, rdLT, Res.un, TT.un, Ty.un, LT.un, Leaf.un, Leaf.plain, LT.plain, hL_new, hL_next, List.length_cons, List.length_nil, Nat.zero_add, List.cons_append, List.nil_append]
  rw [nw]
  have e0 : [c2 (0, 0), c2 (s1, s2)][0]? = some (c2 (0, 0)) := rfl
  have e1 : [c2 (0, 0), c2 (s1, s2)][1]? = some (c2 (s1, s2)) := rfl
  have w0 := wrs_c2 (y := (0, 0)) e0
  have r0 := rds_c2 e0
  have q1 := rd_c2 e1
  simp only [c2, List.set_cons_zero] at w0 r0 q1
  try simp -implicitDefEqProofs only [evs, reduceIte, rdRes, rdTT, rdTy, rdLT, Res.un, TT.un, Ty.un, LT.un, Leaf.un, Leaf.plain, LT.plain]
  by_cases he : e = 0
  · rw [decide_eq_true he, if_pos he]
    try simp -implicitDefEqProofs only [evs, reduceIte, rdRes, rdTT, rdTy, rdLT, Res.un, TT.un, Ty.un, LT.un, Leaf.un, Leaf.plain, LT.plain]
    rw [q1.2]
    try simp -implicitDefEqProofs only [evs, reduceIte, rdRes, rdTT, rdTy, rdLT, Res.un, TT.un, Ty.un, LT.un, Leaf.un, Leaf.plain, LT.plain]
    by_cases hz : s2 = 0
    · rw [decide_eq_true hz, if_pos hz]
      try simp -implicitDefEqProofs only [evs, reduceIte, rdRes, rdTT, rdTy, rdLT, Res.un, TT.un, Ty.un, LT.un, Leaf.un, Leaf.plain, LT.plain]
      rw [w0]
      try simp -implicitDefEqProofs only [evs, reduceIte, rdRes, rdTT, rdTy, rdLT, Res.un, TT.un, Ty.un, LT.un, Leaf.un, Leaf.plain, LT.plain]
      rw [r0]
      try simp -implicitDefEqProofs only [evs, reduceIte, rdRes, rdTT, rdTy, rdLT, Res.un, TT.un, Ty.un, LT.un, Leaf.un, Leaf.plain, LT.plain]
    · rw [decide_eq_false hz, if_neg hz]
      try simp -implicitDefEqProofs only [evs, reduceIte, rdRes, rdTT, rdTy, rdLT, Res.un, TT.un, Ty.un, LT.un, Leaf.un, Leaf.plain, LT.plain, hL_new, hL_next, List.length_cons, List.length_nil, Nat.zero_add, List.cons_append, List.nil_append]
      have nw2 := new_c2 (sl := [c2 (0, 0), c2 (s1, s2)]) (x := (10000, 0))
      simp only [c2, List.cons_append, List.nil_append, List.length_cons, List.length_nil, Nat.zero_add] at nw2
      rw [nw2]
      try simp -implicitDefEqProofs only [evs, reduceIte, rdRes, rdTT, rdTy, rdLT, Res.un, TT.un, Ty.un, LT.un, Leaf.un, Leaf.plain, LT.plain]
      have hloop := between_loop (xs := xs) (ls := ls) (s := (s1, s2)) (f := false) (g := false) (hh := hL [c2 (0, 0), c2 (s1, s2)]) rfl (hshort he)
      simp only [c2] at hloop
      rw [hloop]
      try simp -implicitDefEqProofs only [evs, reduceIte, rdRes, rdTT, rdTy, rdLT, Res.un, TT.un, Ty.un, LT.un, Leaf.un, Leaf.plain, LT.plain]
      have f0 : (slotsB xs ls (s1, s2) ls.length)[0]? = some (c2 (0, 0)) := rfl
      have f1 : (slotsB xs ls (s1, s2) ls.length)[1]? = some (c2 (s1, s2)) := rfl
      have f2 : (slotsB xs ls (s1, s2) ls.length)[2]? = some (c2 (bandOf xs ls)) := by rw [slotsB, List.take_length]; rfl
      have w3 := wrs_c2 (y := bandOf xs ls) f0
      have r3 : rdT (.agg j2) (hL ((slotsB xs ls (s1, s2) ls.length).set 0 (c2 (bandOf xs ls)))) (.hp 0 2 0) = some (bandOf xs ls) := rds_c2 rfl
      rw [rds_c2 f1]
      try simp -implicitDefEqProofs only [evs, reduceIte, rdRes, rdTT, rdTy, rdLT, Res.un, TT.un, Ty.un, LT.un, Leaf.un, Leaf.plain, LT.plain]
      rw [(strengthOf_ok xs (s1, s2)).1]
      try simp -implicitDefEqProofs only [evs, reduceIte, rdRes, rdTT, rdTy, rdLT, Res.un, TT.un, Ty.un, LT.un, Leaf.un, Leaf.plain, LT.plain]
      rw [rds_c2 f2]
      try simp -implicitDefEqProofs only [evs, reduceIte, rdRes, rdTT, rdTy, rdLT, Res.un, TT.un, Ty.un, LT.un, Leaf.un, Leaf.plain, LT.plain]
      rw [w3]
      try simp -implicitDefEqProofs only [evs, reduceIte, rdRes, rdTT, rdTy, rdLT, Res.un, TT.un, Ty.un, LT.un, Leaf.un, Leaf.plain, LT.plain]
      rw [r3]
      try simp -implicitDefEqProofs only [evs, reduceIte, rdRes, rdTT, rdTy, rdLT, Res.un, TT.un, Ty.un, LT.un, Leaf.un, Leaf.plain, LT.plain]
  · rw [decide_eq_false he, if_neg he]
    try simp -implicitDefEqProofs only [evs, reduceIte, rdRes, rdTT, rdTy, rdLT, Res.un, TT.un, Ty.un, LT.un, Leaf.un, Leaf.plain, LT.plain]
    rw [w0]
    try simp -implicitDefEqProofs only [evs, reduceIte, rdRes, rdTT, rdTy, rdLT, Res.un, TT.un, Ty.un, LT.un, Leaf.un, Leaf.plain, LT.plain]
    rw [r0]
    try simp -implicitDefEqProofs only [evs, reduceIte, rdRes, rdTT, rdTy, rdLT, Res.un, TT.un, Ty.un, LT.un, Leaf.un, Leaf.plain, LT.plain]
end Go.Proofs.Ytfkabibbaajfhaa
/- The strength of a sum lies in the band of strengths. Conditions: those of each law. -/
namespace Go.Proofs.Ytfkabibbaajfhaa
open Go Go.Proofs.Ytfkabibbaajfhaa.Ev
set_option linter.unusedVariables false
set_option linter.unusedSimpArgs false
set_option maxRecDepth 100000
set_option maxHeartbeats 4000000
theorem strength_above {xs : List (Int × Int)} {x : Int × Int} (h : acheckOf xs x = 0) (hn : ¬(x.1 = 0 ∧ x.2 = 0)) :
    (∀ q : Nat, (q : Int) ≤ (strengthOf xs x).1 → above xs x q = false) ∧ ∀ q : Nat, (strengthOf xs x).1 < q → q < 10001 → above xs x q = true := by
  obtain ⟨a, v⟩ := x
  obtain ⟨r, er, hcase⟩ := Strength_ok xs a v
  have hs : strengthOf xs (a, v) = r := by unfold strengthOf; rw [er]; rfl
  rw [hs]
  rcases hcase with ⟨h1, _⟩ | ⟨_, ha, hv, _⟩ | ⟨_, _, m, m1, rfl, m3, m4⟩
  · exact absurd h h1
  · exact absurd ⟨ha, hv⟩ hn
  · exact ⟨fun q hq => m3 q (by simp only at hq; omega), fun q hq hq2 => m4 q (by simp only at hq; omega) hq2⟩
theorem no_volume {xs : List (Int × Int)} {x : Int × Int} (h : acheckOf xs x = 0) (hv : x.2 = 0) : x.1 = 0 := by
  obtain ⟨ck, hin, hmax⟩ := acheck_zero h
  have hd := dens_bound (t := 10000) (check_table ck) (by omega) (by omega)
  have hin := inA_iff.1 hin
  rcases Int.lt_or_le 0 x.1 with h | h
  · have := Int.mul_pos h (show 0 < dens xs 10000 by omega)
    omega
  · omega
theorem sumL_cons (x : Int × Int) (ls : List (Int × Int)) : sumL (x :: ls) = (x.1 + (sumL ls).1, x.2 + (sumL ls).2) := by simp [sumL]
theorem sum_not_above {xs : List (Int × Int)} {k : Nat} : ∀ (ls : List (Int × Int)), (∀ x ∈ ls, acheckOf xs x = 0) → (∀ x ∈ ls, x.2 ≠ 0 → above xs x k = false) → (sumL ls).2 * k ≤ (sumL ls).1 * dens xs k
  | [], _, _ => by simp [sumL]
  | x :: ls, h1, h2 => by
    have ih := sum_not_above ls (fun y hy => h1 y (by simp [hy])) (fun y hy => h2 y (by simp [hy]))
    have hx : x.2 * k ≤ x.1 * dens xs k := by
      by_cases hv : x.2 = 0
      · rw [no_volume (h1 x (by simp)) hv, hv]; simp
      · have := h2 x (by simp) hv
        unfold above at this
        have := of_decide_eq_false this
        omega
    rw [sumL_cons]
    simp only [Int.add_mul]
    omega
theorem sum_above {xs : List (Int × Int)} {k : Nat} : ∀ (ls : List (Int × Int)), (∀ x ∈ ls, acheckOf xs x = 0) → (∀ x ∈ ls, x.2 ≠ 0 → above xs x k = true) →
    ((sumL ls).1 * dens xs k ≤ (sumL ls).2 * k ∧ ((∃ x ∈ ls, x.2 ≠ 0) → (sumL ls).1 * dens xs k < (sumL ls).2 * k))
  | [], _, _ => by simp [sumL]
  | x :: ls, h1, h2 => by
    have ih := sum_above ls (fun y hy => h1 y (by simp [hy])) (fun y hy => h2 y (by simp [hy]))
    rw [sumL_cons]
    simp only [Int.add_mul]
    by_cases hv : x.2 = 0
    · rw [no_volume (h1 x (by simp)) hv, hv]
      simp only [Int.zero_mul, Int.zero_add]
      refine ⟨ih.1, fun ⟨y, hy, hyv⟩ => ih.2 ?_⟩
      rcases List.mem_cons.1 hy with rfl | hy
      · exact absurd hv hyv
      · exact ⟨y, hy, hyv⟩
    · have := of_decide_eq_true (h2 x (by simp) hv)
      exact ⟨by omega, fun _ => by omega⟩
theorem fold_band {xs : List (Int × Int)} : ∀ (ls : List (Int × Int)) (b : Int × Int), (ls.foldl (bandStep xs) b).1 ≤ b.1 ∧ b.2 ≤ (ls.foldl (bandStep xs) b).2 ∧
    (∀ x ∈ ls, x.2 ≠ 0 → (ls.foldl (bandStep xs) b).1 ≤ (strengthOf xs x).1 ∧ (strengthOf xs x).1 ≤ (ls.foldl (bandStep xs) b).2) ∧
    ((ls.foldl (bandStep xs) b).1 = b.1 ∨ ∃ x ∈ ls, x.2 ≠ 0 ∧ (strengthOf xs x).1 = (ls.foldl (bandStep xs) b).1) ∧ ((ls.foldl (bandStep xs) b).2 = b.2 ∨ ∃ x ∈ ls, x.2 ≠ 0 ∧ (strengthOf xs x).1 = (ls.foldl (bandStep xs) b).2)
  | [], b => by simp
  | y :: ls, b => by
    obtain ⟨i1, i2, i3, i4, i5⟩ := fold_band ls (bandStep xs b y)
    rw [List.foldl_cons]
    generalize ls.foldl (bandStep xs) (bandStep xs b y) = r at *
    have hb : bandStep xs b y = if y.2 = 0 then b else (min b.1 (strengthOf xs y).1, max b.2 (strengthOf xs y).1) := rfl
    by_cases hy : y.2 = 0
    · rw [if_pos hy] at hb
      rw [hb] at i1 i2 i4 i5
      refine ⟨i1, i2, fun x hx hv => ?_, ?_, ?_⟩
      · rcases List.mem_cons.1 hx with rfl | hx
        · exact absurd hy hv
        · exact i3 x hx hv
      · rcases i4 with h | ⟨x, hx, h⟩
        · exact .inl h
        · exact .inr ⟨x, by simp [hx], h⟩
      · rcases i5 with h | ⟨x, hx, h⟩
        · exact .inl h
        · exact .inr ⟨x, by simp [hx], h⟩
    · rw [if_neg hy] at hb
      rw [hb] at i1 i2 i4 i5
      simp only at i1 i2 i4 i5
      refine ⟨by clear i4 i5; omega, by clear i4 i5; omega, fun x hx hv => ?_, ?_, ?_⟩
      · rcases List.mem_cons.1 hx with rfl | hx
        · clear i4 i5; omega
        · exact i3 x hx hv
      · rcases i4 with h | ⟨x, hx, h⟩
        · by_cases c : b.1 ≤ (strengthOf xs y).1
          · exact .inl (by clear i5; omega)
          · exact .inr ⟨y, by simp, hy, by clear i5; omega⟩
        · exact .inr ⟨x, by simp [hx], h⟩
      · rcases i5 with h | ⟨x, hx, h⟩
        · by_cases c : (strengthOf xs y).1 ≤ b.2
          · exact .inl (by clear i4; omega)
          · exact .inr ⟨y, by simp, hy, by clear i4; omega⟩
        · exact .inr ⟨x, by simp [hx], h⟩
theorem mixture_zero {xs ls : List (Int × Int)} (h : (mixtureOf xs ls).2 = 0) : ls.length ≤ 8 ∧ (checkOf xs).2 = 0 ∧ (∀ x ∈ ls, acheckOf xs x = 0) ∧ (∀ x ∈ ls, isPlain x = true) ∧ isPlain (sumL ls) = true ∧ (mixtureOf xs ls).1 = sumL ls ∧ sumOf ls = (sumL ls, 0) := by
  have h8 := mixture_short h
  unfold mixtureOf at h ⊢
  rw [if_neg (by omega)] at h ⊢
  by_cases hc : (checkOf xs).2 = 0
  · rw [if_pos hc] at h ⊢
    by_cases ha : ls.any (fun x => !decide (acheckOf xs x = 0)) = true
    · rw [if_pos ha] at h; simp at h
    · rw [if_neg ha] at h ⊢
      rw [Bool.not_eq_true] at ha
      have hck : ∀ x ∈ ls, acheckOf xs x = 0 := fun x hx => by
        have := List.any_eq_false.1 ha x hx
        simpa using this
      unfold sumOf at h ⊢
      rw [if_neg (by omega)] at h ⊢
      by_cases hp : ls.any (fun x => !isPlain x) = true
      · rw [if_pos hp] at h; simp at h
      · rw [if_neg hp] at h ⊢
        rw [Bool.not_eq_true] at hp
        have hpl : ∀ x ∈ ls, isPlain x = true := fun x hx => by
          have := List.any_eq_false.1 hp x hx
          simpa using this
        by_cases hs : isPlain (sumL ls) = true
        · rw [if_pos hs]
          exact ⟨h8, hc, hck, hpl, hs, rfl, rfl⟩
        · rw [if_neg hs] at h; simp at h
  · rw [if_neg hc] at h; simp at h
/-- The band of a mixture, and its strength in it. -/
theorem band_law {xs ls : List (Int × Int)} (h : (mixtureOf xs ls).2 = 0) (hv : (sumL ls).2 ≠ 0) :
    (strengthOf xs (sumL ls)).2 = 0 ∧ (bandOf xs ls).1 ≤ (strengthOf xs (sumL ls)).1 ∧ (strengthOf xs (sumL ls)).1 ≤ (bandOf xs ls).2 ∧
    (∃ x ∈ ls, x.2 ≠ 0 ∧ (strengthOf xs x).1 = (bandOf xs ls).1) ∧ (∃ x ∈ ls, x.2 ≠ 0 ∧ (strengthOf xs x).1 = (bandOf xs ls).2) ∧ ∀ x ∈ ls, x.2 ≠ 0 → (strengthOf xs x).2 = 0 ∧ (bandOf xs ls).1 ≤ (strengthOf xs x).1 ∧ (strengthOf xs x).1 ≤ (bandOf xs ls).2 := by
  obtain ⟨h8, hc, hck, hpl, hps, _, _⟩ := mixture_zero h
  have ht := check_table hc
  have hps' := isPlain_iff.1 hps
  have hex : ∃ x ∈ ls, x.2 ≠ 0 := by
    refine Classical.byContradiction fun hno => hv ?_
    have hall : ∀ x ∈ ls, x.2 = 0 := fun x hx => Classical.byContradiction fun hx2 => hno ⟨x, hx, hx2⟩
    have : ∀ (l : List (Int × Int)), (∀ x ∈ l, x.2 = 0) → (sumL l).2 = 0 := fun l => by
      induction l with
      | nil => intro _; rfl
      | cons y l ih => intro hl; rw [sumL_cons]; simp only [hl y (by simp), ih fun x hx => hl x (by simp [hx])]; rfl
    exact this ls hall
  have hst : ∀ x, acheckOf xs x = 0 → (strengthOf xs x).2 = 0 ∧ 0 ≤ (strengthOf xs x).1 ∧ (strengthOf xs x).1 ≤ 10000 := fun x hx => by
    rcases (strengthOf_ok xs x).2 with ⟨h1, _⟩ | ⟨_, h2⟩
    · exact absurd hx h1
    · exact h2
  have hsum : acheckOf xs (sumL ls) = 0 := by
    have : ∀ (l : List (Int × Int)), (∀ x ∈ l, acheckOf xs x = 0) → (sumL l).1 * dens xs 10000 ≤ (sumL l).2 * 10000 := fun l => by
      induction l with
      | nil => intro _; simp [sumL]
      | cons y l ih =>
        intro hl
        have k1 := (acheck_zero (hl y (by simp))).2.2
        have k2 := ih fun x hx => hl x (by simp [hx])
        rw [sumL_cons]
        simp only [Int.add_mul]
        omega
    have := this ls hck
    unfold acheckOf
    rw [if_pos hc, if_pos (inA_iff.2 (by omega)), if_neg (by omega)]
  obtain ⟨b1, b2, b3, b4, b5⟩ := fold_band (xs := xs) ls (10000, 0)
  have hb : ls.foldl (bandStep xs) (10000, 0) = bandOf xs ls := rfl
  rw [hb] at b1 b2 b3 b4 b5
  generalize bandOf xs ls = b at *
  simp only at b1 b2 b4 b5
  obtain ⟨x0, hx0, hv0⟩ := hex
  have s0 := hst x0 (hck x0 hx0)
  have b0 := b3 x0 hx0 hv0
  have ss := hst _ hsum
  have sa := strength_above hsum (fun hn => hv hn.2)
  refine ⟨ss.1, ?_, ?_, ?_, ?_, fun x hx hxv => ⟨(hst x (hck x hx)).1, b3 x hx hxv⟩⟩
  · clear b4 b5
    rcases Int.lt_or_le (strengthOf xs (sumL ls)).1 b.1 with hlt | hle
    · have hk := sa.2 b.1.toNat (by omega) (by omega)
      have := sum_not_above (k := b.1.toNat) ls hck fun x hx hxv => (strength_above (hck x hx) (fun hn => hxv hn.2)).1 b.1.toNat (by have := (b3 x hx hxv).1; omega)
      have hk := of_decide_eq_true hk
      omega
    · exact hle
  · clear b4 b5
    rcases Int.lt_or_le b.2 (strengthOf xs (sumL ls)).1 with hlt | hle
    · have hk := sa.1 (b.2 + 1).toNat (by omega)
      have := (sum_above (k := (b.2 + 1).toNat) ls hck fun x hx hxv => (strength_above (hck x hx) (fun hn => hxv hn.2)).2 (b.2 + 1).toNat (by have := (b3 x hx hxv).2; omega) (by omega)).2 ⟨x0, hx0, hv0⟩
      rw [above, decide_eq_true this] at hk
      cases hk
    · exact hle
  · clear b5
    rcases b4 with h | h
    · exact ⟨x0, hx0, hv0, by omega⟩
    · exact h
  · clear b4
    rcases b5 with h | h
    · exact ⟨x0, hx0, hv0, by omega⟩
    · exact h
end Go.Proofs.Ytfkabibbaajfhaa
/- What Check of the reference of density computes. Conditions: those of each law. -/
namespace Go.Proofs.Ytfkabibbaajfhaa
open Go Go.Proofs.Ytfkabibbaajfhaa.Ev
set_option linter.unusedVariables false
set_option linter.unusedSimpArgs false
set_option maxRecDepth 100000
set_option maxHeartbeats 4000000
end Go.Proofs.Ytfkabibbaajfhaa
/- What the reference of interpolate computes. Conditions: those of each law. -/
namespace Go.Proofs.Ytfkabibbaajfhaa
open Go Go.Proofs.Ytfkabibbaajfhaa.Ev
set_option linter.unusedVariables false
set_option linter.unusedSimpArgs false
set_option maxRecDepth 100000
set_option maxHeartbeats 4000000
end Go.Proofs.Ytfkabibbaajfhaa
/- What the reference of interpolate computes: the last place not above a grade. Conditions: those of each law. -/
namespace Go.Proofs.Ytfkabibbaajfhaa
open Go Go.Proofs.Ytfkabibbaajfhaa.Ev
set_option linter.unusedVariables false
set_option linter.unusedSimpArgs false
set_option maxRecDepth 100000
set_option maxHeartbeats 4000000
end Go.Proofs.Ytfkabibbaajfhaa
/- What the reference of interpolate computes: the density at a grade. Conditions: those of each law. -/
namespace Go.Proofs.Ytfkabibbaajfhaa
open Go Go.Proofs.Ytfkabibbaajfhaa.Ev
set_option linter.unusedVariables false
set_option linter.unusedSimpArgs false
set_option maxRecDepth 100000
set_option maxHeartbeats 4000000
end Go.Proofs.Ytfkabibbaajfhaa
/- What Check of the reference of alcohol computes. Conditions: those of each law. -/
namespace Go.Proofs.Ytfkabibbaajfhaa
open Go Go.Proofs.Ytfkabibbaajfhaa.Ev
set_option linter.unusedVariables false
set_option linter.unusedSimpArgs false
set_option maxRecDepth 100000
set_option maxHeartbeats 4000000
end Go.Proofs.Ytfkabibbaajfhaa
/- What Grade of the reference of alcohol computes. Conditions: those of each law. -/
namespace Go.Proofs.Ytfkabibbaajfhaa
open Go Go.Proofs.Ytfkabibbaajfhaa.Ev
set_option linter.unusedVariables false
set_option linter.unusedSimpArgs false
set_option maxRecDepth 100000
set_option maxHeartbeats 4000000
end Go.Proofs.Ytfkabibbaajfhaa
/- Orders of package blend: sums, costs and blends of units. Conditions: those of each law. -/
namespace Go.Proofs.Ytfkabibbaajfhaa
open Go Go.Proofs.Ytfkabibbaajfhaa.Ev
set_option linter.unusedVariables false
set_option linter.unusedSimpArgs false
set_option maxRecDepth 100000
set_option maxHeartbeats 4000000
/-- An order: liquids, units, costs, the least and the greatest strength, the least sum. -/
abbrev OrdT := List (Int × Int) × List Int × List Int × Int × Int × Int
abbrev j1 : List Leaf := [.int .i64]
abbrev oS (o : OrdT) : Slot := .own [.slice (rowSV false j2 o.1).a o.1.length o.1.length true, .slice (rowSV false j1 o.2.1).a o.2.1.length o.2.1.length true, .slice (rowSV false j1 o.2.2.1).a o.2.2.1.length o.2.2.1.length true, .int .i64 o.2.2.2.1, .int .i64 o.2.2.2.2.1, .int .i64 o.2.2.2.2.2] 6
theorem rd_oS {sl : List Slot} {id : Nat} {o : OrdT} (h : sl[id]? = some (oS o)) : rdT (.leaf .slice) (hL sl) (.hp id 6 0) = some (rowSV false j2 o.1) ∧ rdT (.leaf .slice) (hL sl) (.hp id 6 1) = some (rowSV false j1 o.2.1) ∧ rdT (.leaf .slice) (hL sl) (.hp id 6 2) = some (rowSV false j1 o.2.2.1) ∧
    rdT (.leaf (.int .i64)) (hL sl) (.hp id 6 3) = some o.2.2.2.1 ∧ rdT (.leaf (.int .i64)) (hL sl) (.hp id 6 4) = some o.2.2.2.2.1 ∧ rdT (.leaf (.int .i64)) (hL sl) (.hp id 6 5) = some o.2.2.2.2.2 := by
  refine ⟨?_, ?_, ?_, ?_, ?_, ?_⟩ <;> (rw [rd_own (g := 6) h rfl]; rfl)
theorem rds_oS {sl : List Slot} {id : Nat} {o : OrdT} (h : sl[id]? = some (oS o)) : rdT (.agg [.slice, .slice, .slice, .int .i64, .int .i64, .int .i64]) (hL sl) (.hp id 6 0) = some (rowSV false j2 o.1, rowSV false j1 o.2.1, rowSV false j1 o.2.2.1, o.2.2.2.1, o.2.2.2.2.1, o.2.2.2.2.2) := by
  rw [rds_hp (by simp), hL_m, h]; rfl
/-- Small numbers. -/
def Sm (u : List Int) : Prop := u.length ≤ 8 ∧ ∀ x ∈ u, 0 ≤ x ∧ x ≤ 64
/-- What units cost, one by one. -/
def costs (c u : List Int) : List Int := (u.zip c).map fun p => p.1 * p.2
theorem mul_b {x y A B : Int} (h1 : 0 ≤ x ∧ x ≤ A) (h2 : 0 ≤ y ∧ y ≤ B) : 0 ≤ x * y ∧ x * y ≤ A * B :=
  ⟨Int.mul_nonneg h1.1 h2.1, Int.mul_le_mul h1.2 h2.2 h2.1 (by omega)⟩
end Go.Proofs.Ytfkabibbaajfhaa
/- Blends of units. Conditions: those of each law. -/
namespace Go.Proofs.Ytfkabibbaajfhaa
open Go Go.Proofs.Ytfkabibbaajfhaa.Ev
set_option linter.unusedVariables false
set_option linter.unusedSimpArgs false
set_option maxRecDepth 100000
set_option maxHeartbeats 4000000
/-- Liquids, each so often. -/
def parts (ls : List (Int × Int)) (u : List Int) : List (Int × Int) := (u.zip ls).map fun p => (p.1 * p.2.1, p.1 * p.2.2)
theorem parts_len {ls : List (Int × Int)} {u : List Int} (h : u.length = ls.length) : (parts ls u).length = u.length := by simp [parts]; omega
theorem parts_get {ls : List (Int × Int)} {u : List Int} {i : Nat} (h1 : i < u.length) (h2 : i < ls.length) : (parts ls u)[i]? = some (u[i] * (q2 ls i).1, u[i] * (q2 ls i).2) := by
  have h3 := q2_some h2
  rw [List.getElem?_eq_getElem h2] at h3
  have h4 : ls[i] = q2 ls i := Option.some.inj h3
  rw [← h4]
  unfold parts
  rw [List.getElem?_eq_getElem (by simp; omega)]
  simp
/-- Liquids that are not too great. -/
def Sq (ls : List (Int × Int)) : Prop := ∀ x ∈ ls, 0 ≤ x.1 ∧ x.1 ≤ 10737418240000 ∧ 0 ≤ x.2 ∧ x.2 ≤ 1000000000
theorem sumL_le {A B : Int} : ∀ {xs : List (Int × Int)}, (∀ x ∈ xs, 0 ≤ x.1 ∧ x.1 ≤ A ∧ 0 ≤ x.2 ∧ x.2 ≤ B) → 0 ≤ (sumL xs).1 ∧ (sumL xs).1 ≤ xs.length * A ∧ 0 ≤ (sumL xs).2 ∧ (sumL xs).2 ≤ xs.length * B
  | [], _ => by simp [sumL]
  | x :: xs, h => by
    have h1 := sumL_le (A := A) (B := B) (xs := xs) fun y hy => h y (by simp [hy])
    have h2 := h x (by simp)
    simp only [sumL, List.map_cons, List.sum_cons, List.length_cons, Int.natCast_add, Int.natCast_one, Int.add_mul, Int.one_mul] at h1 ⊢
    omega
theorem parts_b {ls : List (Int × Int)} {u : List Int} (hu : Sm u) (hs : Sq ls) : ∀ x ∈ parts ls u, 0 ≤ x.1 ∧ x.1 ≤ 64 * 10737418240000 ∧ 0 ≤ x.2 ∧ x.2 ≤ 64 * 1000000000 := fun x hx => by
  obtain ⟨p, hp, rfl⟩ := List.mem_map.1 hx
  have hm := List.of_mem_zip hp
  have hq := hs _ hm.2
  have h1 := mul_b (hu.2 _ hm.1) ⟨hq.1, hq.2.1⟩
  have h2 := mul_b (hu.2 _ hm.1) ⟨hq.2.2.1, hq.2.2.2⟩
  exact ⟨h1.1, h1.2, h2.1, h2.2⟩
theorem parts_sum_b {ls : List (Int × Int)} {u : List Int} (hu : Sm u) (hs : Sq ls) (hl : u.length = ls.length) (i : Nat) : 0 ≤ (sumL ((parts ls u).take i)).1 ∧ (sumL ((parts ls u).take i)).1 ≤ 8 * (64 * 10737418240000) ∧ 0 ≤ (sumL ((parts ls u).take i)).2 ∧ (sumL ((parts ls u).take i)).2 ≤ 8 * (64 * 1000000000) := by
  have h1 := sumL_le (xs := (parts ls u).take i) fun x hx => parts_b hu hs x (List.mem_of_mem_take hx)
  have h2 : ((parts ls u).take i).length ≤ 8 := by have := hu.1; rw [List.length_take, parts_len hl]; omega
  have h3 : (((parts ls u).take i).length : Int) * (64 * 10737418240000) ≤ 8 * (64 * 10737418240000) := Int.mul_le_mul_of_nonneg_right (by omega) (by omega)
  have h4 : (((parts ls u).take i).length : Int) * (64 * 1000000000) ≤ 8 * (64 * 1000000000) := Int.mul_le_mul_of_nonneg_right (by omega) (by omega)
  omega
theorem parts_step {ls : List (Int × Int)} {u : List Int} (hu : Sm u) (hs : Sq ls) (hl : u.length = ls.length) {i : Nat} (hi : i < u.length) :
    ∃ h2 : i < ls.length, 0 ≤ u[i] * (q2 ls i).1 ∧ u[i] * (q2 ls i).1 ≤ 687194767360000 ∧ 0 ≤ u[i] * (q2 ls i).2 ∧ u[i] * (q2 ls i).2 ≤ 64000000000 ∧
      sumL ((parts ls u).take (i + 1)) = ((sumL ((parts ls u).take i)).1 + u[i] * (q2 ls i).1, (sumL ((parts ls u).take i)).2 + u[i] * (q2 ls i).2) := by
  have h2 : i < ls.length := by omega
  have hg := parts_get hi h2
  have hb := parts_b hu hs _ (List.mem_of_getElem? hg)
  exact ⟨h2, hb.1, by have := hb.2.1; omega, hb.2.2.1, by have := hb.2.2.2; omega, sumL_take hg⟩
def slotsM (o : OrdT) (u : List Int) (i : Nat) : List Slot := oS o :: c2 (0, 0) :: c2 (sumL ((parts o.1 u).take i)) :: (o.1.take i).map c2
theorem slotsM_succ {o : OrdT} {u : List Int} {i : Nat} {x : Int × Int} (h : o.1[i]? = some x) : (slotsM o u i ++ [c2 x]).set 2 (c2 (sumL ((parts o.1 u).take (i + 1)))) = slotsM o u (i + 1) := by
  unfold slotsM
  obtain ⟨hi, rfl⟩ := List.getElem?_eq_some_iff.1 h
  rw [← List.take_append_getElem hi, List.map_append]
  rfl
theorem mixed_ok {o : OrdT} {u : List Int} (hu : Sm u) (hs : Sq o.1) (hl : u.length = o.1.length) : blend_mixedP o u = some (sumL (parts o.1 u)) := by
  have hu1 := hu.1
  have h0 : ([oS o, c2 (0, 0), c2 (0, 0)])[2]? = some (c2 (0, 0)) := rfl
  have w0 := wrs_c2 (y := (0, 0)) h0
  have r0 := rd_oS (sl := [oS o, c2 (0, 0), c2 (0, 0)]) (id := 0) (o := o) rfl
  simp only [c2, oS, List.set_cons_succ, List.set_cons_zero] at w0 r0
  unfold blend_mixedP blend_mixed
  try simp -implicitDefEqProofs only [evs, reduceIte, rdRes, rdTT, rdTy, rdLT, Res.un, TT.un, Ty.un, LT.un, Leaf.un, Leaf.plain, LT.plain, hL_empty, hL_new, hL_next, List.nil_append, List.length_nil, List.length_cons, List.cons_append, Nat.zero_add, Nat.reduceAdd]
  rw [w0]
  try simp -implicitDefEqProofs only [evs, reduceIte, rdRes, rdTT, rdTy, rdLT, Res.un, TT.un, Ty.un, LT.un, Leaf.un, Leaf.plain, LT.plain]
  rw [r0.1]
  try simp -implicitDefEqProofs only [evs, reduceIte, rdRes, rdTT, rdTy, rdLT, Res.un, TT.un, Ty.un, LT.un, Leaf.un, Leaf.plain, LT.plain]
  have hloop : iter FUEL (blend_mixed.loop1 (rowSV false j1 u) (hL [oS o, c2 (0, 0)]) (rowSV false j2 o.1)) (0, hL [oS o, c2 (0, 0), c2 (0, 0)]) = some (.ex0 (), hL (slotsM o u u.length)) := by
    refine (iter_from (fun i => ((i : Int), hL (slotsM o u i))) rfl u.length FUEL (fun i hi => ?_) ?_ (fuel_gt (by omega)))
    · obtain ⟨hi2, p1, p2, p3, p4, p5⟩ := parts_step hu hs hl hi
      have hb := parts_sum_b hu hs hl i
      have hget := q2_some hi2
      have hlen : (slotsM o u i).length = i + 3 := by simp [slotsM]; omega
      have hrow : (slotsM o u i ++ [c2 (q2 o.1 i)])[(slotsM o u i).length]? = some (c2 (q2 o.1 i)) := by simp
      have htot : (slotsM o u i ++ [c2 (q2 o.1 i)])[2]? = some (c2 (sumL ((parts o.1 u).take i))) := rfl
      have r1 := rd_c2 hrow
      have t1 := rd_c2 htot
      have nw := new_c2 (sl := slotsM o u i) (x := q2 o.1 i)
      have w1 := wr0_c2 (y := (sumL ((parts o.1 u).take i)).1 + u[i] * (q2 o.1 i).1) htot
      have htot2 : ((slotsM o u i ++ [c2 (q2 o.1 i)]).set 2 (c2 ((sumL ((parts o.1 u).take i)).1 + u[i] * (q2 o.1 i).1, (sumL ((parts o.1 u).take i)).2)))[2]? = some (c2 ((sumL ((parts o.1 u).take i)).1 + u[i] * (q2 o.1 i).1, (sumL ((parts o.1 u).take i)).2)) := rfl
      have w2 := wr1_c2 (y := (sumL ((parts o.1 u).take i)).2 + u[i] * (q2 o.1 i).2) htot2
      rw [List.set_set] at w2
      simp only [] at w2
      rw [← p5, slotsM_succ hget] at w2
      have hg1 : 0 ≤ (i : Int) ∧ (i : Int) < (o.1.length : Int) := by omega
      have hg2 : 0 ≤ (i : Int) ∧ (i : Int) < (u.length : Int) := by omega
      unfold blend_mixed.loop1
      try simp -implicitDefEqProofs only [Int.toNat_natCast, rowSV_len, reserve0, guardO_pos hg1, guardO_pos hg2]
      rw [decide_eq_true hg1.2, cond_true, rds_rowF (ls := j2) (w := 2) rfl (by omega) rfl, hget]
      try simp -implicitDefEqProofs only [Option.bind_some, hL_new, hL_next, List.length_cons, List.length_nil, Nat.zero_add, Nat.reduceAdd]
      rw [nw]
      try simp -implicitDefEqProofs only [Option.bind_some, r1.1, r1.2, t1.1, t1.2]
      rw [rd_rowI, List.getElem?_eq_getElem hi]
      try simp -implicitDefEqProofs only [Option.bind_some]
      rw [i64_in (u[i] * (q2 o.1 i).1) (by omega), i64_in (u[i] * (q2 o.1 i).2) (by omega), i64_in _ (by omega), i64_in _ (by omega), w1]
      try simp -implicitDefEqProofs only [Option.bind_some]
      rw [w2]
      try simp -implicitDefEqProofs only [Option.bind_some]
      rw [guardO_pos (p := apartA _ _ = true) rfl, guardO_pos (p := apartA _ _ = true) (by rw [hlen]; rfl), i64_succ (by omega)]
    · unfold blend_mixed.loop1
      try simp -implicitDefEqProofs only [rowSV_len]
      rw [decide_eq_false (by omega), cond_false]
  simp only [c2, oS] at hloop
  rw [hloop]
  have e1 : (slotsM o u u.length)[1]? = some (c2 (0, 0)) := rfl
  have e2 : (slotsM o u u.length)[2]? = some (c2 (sumL (parts o.1 u))) := by rw [slotsM, ← parts_len hl, List.take_length]; rfl
  have w3 := wrs_c2 (y := sumL (parts o.1 u)) e1
  have e3 : ((slotsM o u u.length).set 1 (c2 (sumL (parts o.1 u))))[1]? = some (c2 (sumL (parts o.1 u))) := rfl
  try simp -implicitDefEqProofs only [Option.bind_some]
  rw [rds_c2 e2]
  try simp -implicitDefEqProofs only [Option.bind_some]
  rw [w3]
  try simp -implicitDefEqProofs only [Option.bind_some]
  rw [rds_c2 e3]
  try simp -implicitDefEqProofs only [evs, reduceIte, rdRes, rdTT, rdTy, rdLT, Res.un, TT.un, Ty.un, LT.un, Leaf.un, Leaf.plain, LT.plain]
end Go.Proofs.Ytfkabibbaajfhaa
/- blend.Of and that of the reference. Conditions: those of each law. -/
namespace Go.Proofs.Ytfkabibbaajfhaa
open Go Go.Proofs.Ytfkabibbaajfhaa.Ev
set_option linter.unusedVariables false
set_option linter.unusedSimpArgs false
set_option maxRecDepth 100000
set_option maxHeartbeats 4000000
/-- A loop that stops at the first place that a test refuses. -/
theorem iter_all {S F α : Type} {f : S → Option (Stp S F)} {y y' : F} (l : List α) (p : α → Bool) (st : Nat → S) {s0 : S} (h0 : st 0 = s0)
    (hs : ∀ i x, l[i]? = some x → (∀ j z, j < i → l[j]? = some z → p z = true) → f (st i) = some (bif p x then .more (st (i + 1)) else .done y'))
    (hd : l.all p = true → f (st l.length) = some (.done y)) (hn : l.length < 2 ^ 69) : iter FUEL f s0 = some (if l.all p = true then y else y') := by
  cases ha : l.all p with
  | true =>
    have hp := List.all_eq_true.1 ha
    rw [if_pos rfl]
    refine iter_from st h0 l.length FUEL (fun i hi => ?_) (hd ha) (fuel_gt (by omega))
    rw [hs i _ (List.getElem?_eq_getElem hi) fun j z _ hz => hp z (List.mem_of_getElem? hz), hp _ (List.getElem_mem hi)]
    rfl
  | false =>
    have hf := all_find p l
    rw [ha] at hf
    cases hx : l.findIdx? (fun x => !p x) with
    | none => rw [hx] at hf; simp at hf
    | some m =>
      obtain ⟨hm, hbad, hgood⟩ := List.findIdx?_eq_some_iff_getElem.1 hx
      have hg : ∀ j z, j < m → l[j]? = some z → p z = true := fun j z hj hz => by
        have := hgood j hj
        rw [List.getElem?_eq_getElem (by omega)] at hz
        rw [← Option.some.inj hz]
        simpa using this
      rw [if_neg (by simp)]
      refine iter_from st h0 m FUEL (fun i hi => ?_) ?_ (fuel_gt (by omega))
      · rw [hs i _ (List.getElem?_eq_getElem (by omega)) fun j z hj hz => hg j z (by omega) hz, hg i _ hi (List.getElem?_eq_getElem (by omega))]
        rfl
      · have hb : p l[m] = false := by simpa using hbad
        rw [hs m _ (List.getElem?_eq_getElem hm) hg, hb]
        rfl
theorem any_not {α : Type} (p : α → Bool) : ∀ (l : List α), l.any (fun x => !p x) = !l.all p
  | [] => rfl
  | x :: l => by rw [List.any_cons, List.all_cons, any_not p l, Bool.not_and]
theorem zip_get {u w : List Int} {i : Nat} {x : Int × Int} (h : (u.zip w)[i]? = some x) : ∃ (h1 : i < u.length) (h2 : i < w.length), u[i] = x.1 ∧ w[i] = x.2 := by
  obtain ⟨hi, rfl⟩ := List.getElem?_eq_some_iff.1 h
  have : i < u.length ∧ i < w.length := by rw [List.length_zip] at hi; omega
  exact ⟨this.1, this.2, by simp⟩
def fewB (w u : List Int) : Bool := (u.zip w).all fun p => decide (0 ≤ p.1 ∧ p.1 ≤ p.2)
theorem few_code {x y : Int} {h : H} : (bif !(decide (x < 0)) then some ((decide (y < x)), h) else some (true, h) : Option (Bool × H)) = some (!decide (0 ≤ x ∧ x ≤ y), h) := by
  by_cases h1 : x < 0
  · rw [decide_eq_true h1, decide_eq_false (p := _ ∧ _) (by omega)]; rfl
  · rw [decide_eq_false h1]
    by_cases h2 : y < x
    · rw [decide_eq_true h2, decide_eq_false (p := _ ∧ _) (by omega)]; rfl
    · rw [decide_eq_false h2, decide_eq_true (p := _ ∧ _) (by omega)]; rfl
theorem few_ok {o : OrdT} {u : List Int} (hl : u.length = o.2.1.length) (hn : u.length < 2 ^ 62) : blend_fewP o u = some (fewB o.2.1 u) := by
  have r0 := rd_oS (sl := [oS o]) (id := 0) (o := o) rfl
  have hz : (u.zip o.2.1).length = u.length := by simp; omega
  unfold blend_fewP blend_few
  try simp -implicitDefEqProofs only [evs, reduceIte, rdRes, rdTT, rdTy, rdLT, Res.un, TT.un, Ty.un, LT.un, Leaf.un, Leaf.plain, LT.plain, hL_empty, hL_new, hL_next, List.nil_append, List.length_nil]
  rw [iter_all (s0 := ((0 : Int), hL [oS o])) (f := blend_few.loop1 (hL []) (rowSV false j1 u)) (y := (.ex0 (), hL [oS o])) (y' := (.ret false, hL [oS o])) (u.zip o.2.1) (fun p => decide (0 ≤ p.1 ∧ p.1 ≤ p.2)) (fun i => ((i : Int), hL [oS o])) rfl (fun i x hx _ => by
    obtain ⟨h1, h2, e1, e2⟩ := zip_get hx
    have hg1 : 0 ≤ (i : Int) ∧ (i : Int) < (u.length : Int) := by omega
    have hg2 : 0 ≤ (i : Int) ∧ (i : Int) < (o.2.1.length : Int) := by omega
    unfold blend_few.loop1
    try simp -implicitDefEqProofs only [evs, reduceIte, rdRes, rdTT, rdTy, rdLT, Res.un, TT.un, Ty.un, LT.un, Leaf.un, Leaf.plain, LT.plain, Int.toNat_natCast, guardO_pos hg1, hL_next, List.length_nil, r0.2.1]
    rw [decide_eq_true hg1.2, cond_true, rd_rowI, List.getElem?_eq_getElem h1]
    try simp -implicitDefEqProofs only [evs, reduceIte, rdRes, rdTT, rdTy, rdLT, Res.un, TT.un, Ty.un, LT.un, Leaf.un, Leaf.plain, LT.plain, guardO_pos hg2]
    rw [rd_rowI, List.getElem?_eq_getElem h2]
    try simp -implicitDefEqProofs only [evs, reduceIte, rdRes, rdTT, rdTy, rdLT, Res.un, TT.un, Ty.un, LT.un, Leaf.un, Leaf.plain, LT.plain]
    rw [few_code, e1, e2]
    try simp -implicitDefEqProofs only [evs, reduceIte, rdRes, rdTT, rdTy, rdLT, Res.un, TT.un, Ty.un, LT.un, Leaf.un, Leaf.plain, LT.plain]
    rw [i64_succ (by omega)]
    cases decide (0 ≤ x.1 ∧ x.1 ≤ x.2) <;> rfl) (fun _ => by
    unfold blend_few.loop1
    try simp -implicitDefEqProofs only [rowSV_len]
    rw [decide_eq_false (by omega), cond_false]) (by omega)]
  unfold fewB
  cases (u.zip o.2.1).all fun p => decide (0 ≤ p.1 ∧ p.1 ≤ p.2) with
  | true => simp -implicitDefEqProofs only [evs, reduceIte, rdRes, rdTT, rdTy, rdLT, Res.un, TT.un, Ty.un, LT.un, Leaf.un, Leaf.plain, LT.plain, eq_self]
  | false => simp -implicitDefEqProofs only [evs, reduceIte, rdRes, rdTT, rdTy, rdLT, Res.un, TT.un, Ty.un, LT.un, Leaf.un, Leaf.plain, LT.plain, Bool.false_eq_true]
theorem rdRow_one2 {t : Bool} {h : H} {a v : Int} : rdRow true h [.int .i64, .int .i64] ⟨.lp true [.int .i64 a, .int .i64 v] 0, 1, 1, t⟩ = some [(a, v)] := rdRow_res (xs := ([(a, v)] : List (LT j2))) rfl
theorem bplain_ok (a v : Int) : blend_plainP (a, v) = some (isPlain (a, v)) := by
  unfold blend_plainP blend_plain
  try simp -implicitDefEqProofs only [evs, reduceIte, rdRes, rdTT, rdTy, rdLT, Res.un, TT.un, Ty.un, LT.un, Leaf.un, Leaf.plain, LT.plain, evh, List.replicate, splice, LT.pack, Leaf.pack, Nat.reduceAdd, Nat.reduceSub, Nat.reduceLeDiff, Nat.reduceLT, Nat.reduceEqDiff, LT.lo, Leaf.lo, rdRow_one2]
  rw [Sum_ok _ (by simp)]
  have hs : sumL [(a, v)] = (a, v) := by simp [sumL]
  unfold sumOf
  rw [hs]
  try simp -implicitDefEqProofs only [evs, reduceIte, rdRes, rdTT, rdTy, rdLT, Res.un, TT.un, Ty.un, LT.un, Leaf.un, Leaf.plain, LT.plain, evh, List.replicate, splice, LT.pack, Leaf.pack, Nat.reduceAdd, Nat.reduceSub, Nat.reduceLeDiff, Nat.reduceLT, Nat.reduceEqDiff, LT.lo, Leaf.lo, List.any_cons, List.any_nil]
  cases h : isPlain (a, v) with
  | false => rfl
  | true => rfl
/-- A liquid of which units can be taken. -/
def okQ (x : Int × Int) : Bool := isPlain x && decide (x.2 ≤ 1000000000)
theorem okQ_iff {x : Int × Int} : okQ x = true ↔ isPlain x = true ∧ x.2 ≤ 1000000000 := by simp [okQ]
theorem of1_ok (a v : Int) : blend_Of_1P (a, v) = some (!okQ (a, v)) := by
  unfold blend_Of_1P blend_Of_1 okQ
  try simp -implicitDefEqProofs only [evs, reduceIte, rdRes, rdTT, rdTy, rdLT, Res.un, TT.un, Ty.un, LT.un, Leaf.un, Leaf.plain, LT.plain, evh, List.replicate, splice, LT.pack, Leaf.pack, Nat.reduceAdd, Nat.reduceSub, Nat.reduceLeDiff, Nat.reduceLT, Nat.reduceEqDiff, LT.lo, Leaf.lo]
  rw [bplain_ok]
  try simp -implicitDefEqProofs only [evs, reduceIte, rdRes, rdTT, rdTy, rdLT, Res.un, TT.un, Ty.un, LT.un, Leaf.un, Leaf.plain, LT.plain, evh, List.replicate, splice, LT.pack, Leaf.pack, Nat.reduceAdd, Nat.reduceSub, Nat.reduceLeDiff, Nat.reduceLT, Nat.reduceEqDiff, LT.lo, Leaf.lo]
  cases isPlain (a, v) with
  | false => simp -implicitDefEqProofs only [evs, reduceIte, rdRes, rdTT, rdTy, rdLT, Res.un, TT.un, Ty.un, LT.un, Leaf.un, Leaf.plain, LT.plain, evh, List.replicate, splice, LT.pack, Leaf.pack, Nat.reduceAdd, Nat.reduceSub, Nat.reduceLeDiff, Nat.reduceLT, Nat.reduceEqDiff, LT.lo, Leaf.lo]; rfl
  | true =>
    try simp -implicitDefEqProofs only [evs, reduceIte, rdRes, rdTT, rdTy, rdLT, Res.un, TT.un, Ty.un, LT.un, Leaf.un, Leaf.plain, LT.plain, evh, List.replicate, splice, LT.pack, Leaf.pack, Nat.reduceAdd, Nat.reduceSub, Nat.reduceLeDiff, Nat.reduceLT, Nat.reduceEqDiff, LT.lo, Leaf.lo]
    by_cases h2 : (1000000000 : Int) < v
    · rw [decide_eq_true h2, decide_eq_false (p := v ≤ _) (by omega)]; rfl
    · rw [decide_eq_false h2, decide_eq_true (p := v ≤ _) (by omega)]; rfl
/-- A number from 0 to a limit. -/
def inB (m n : Int) : Bool := decide (0 ≤ n ∧ n ≤ m)
theorem outside1_ok (m n : Int) (h : H) : blend_outside_1 n (.lp true [.int .i64 m] 0) h = some (!inB m n, h) := by
  unfold blend_outside_1 inB
  have : rdT (.leaf (.int .i64)) h (.lp true [.int .i64 m] 0) = some m := rfl
  rw [this]
  try simp -implicitDefEqProofs only [evs, reduceIte, rdRes, rdTT, rdTy, rdLT, Res.un, TT.un, Ty.un, LT.un, Leaf.un, Leaf.plain, LT.plain]
  rw [few_code]
  try simp -implicitDefEqProofs only [evs, reduceIte, rdRes, rdTT, rdTy, rdLT, Res.un, TT.un, Ty.un, LT.un, Leaf.un, Leaf.plain, LT.plain]
theorem ord_eta (o : OrdT) : (o.1, o.2.1, o.2.2.1, o.2.2.2.1, o.2.2.2.2.1, o.2.2.2.2.2) = o := rfl
def ofO (o : OrdT) (u : List Int) : (Int × Int) × Int :=
  if 4 < o.1.length then ((0, 0), 8) else if o.2.1.length = o.1.length ∧ u.length = o.1.length then
    (if o.1.all okQ = true then (if fewB o.2.1 u = true ∧ u.all (inB 64) = true then (if isPlain (sumL (parts o.1 u)) = true then (sumL (parts o.1 u), 0) else ((0, 0), 15)) else ((0, 0), 2)) else ((0, 0), 1))
  else ((0, 0), 10)
theorem mis_code {p q : Prop} [Decidable p] [Decidable q] {h : H} : (bif !(!(decide p)) then some ((!(decide q)), h) else some (true, h) : Option (Bool × H)) = some (!decide (p ∧ q), h) := by
  by_cases h1 : p
  · rw [decide_eq_true h1]
    by_cases h2 : q
    · rw [decide_eq_true h2, decide_eq_true (p := _ ∧ _) ⟨h1, h2⟩]; rfl
    · rw [decide_eq_false h2, decide_eq_false (p := _ ∧ _) (fun h => h2 h.2)]; rfl
  · rw [decide_eq_false h1, decide_eq_false (p := _ ∧ _) (fun h => h1 h.1)]; rfl
theorem Sm_of {u : List Int} {n : Nat} (h : u.all (inB 64) = true) (hl : u.length ≤ 8) : Sm u := ⟨hl, fun x hx => by
  have := List.all_eq_true.1 h x hx
  simpa [inB] using this⟩
theorem Sq_of {l : List (Int × Int)} (h : l.all okQ = true) : Sq l := fun x hx => by
  have := okQ_iff.1 (List.all_eq_true.1 h x hx)
  have h2 := isPlain_iff.1 this.1
  exact ⟨h2.1, h2.2.1, h2.2.2.1, this.2⟩
theorem Of_ok (o : OrdT) (u : List Int) : blend_OfP o u = some (ofO o u) := by
  unfold blend_OfP blend_Of ofO
  have e1 : ([oS o, c2 (0, 0)])[1]? = some (c2 (0, 0)) := rfl
  have r0 := rd_oS (sl := [oS o, c2 (0, 0)]) (id := 0) (o := o) rfl
  have q0 := rds_oS (sl := [oS o, c2 (0, 0)]) (id := 0) (o := o) rfl
  have w0 := wrs_c2 (y := (0, 0)) e1
  have s0 := rds_c2 e1
  simp only [oS, c2, List.set_cons_succ, List.set_cons_zero] at r0 q0 w0 s0
  try simp -implicitDefEqProofs only [evs, reduceIte, rdRes, rdTT, rdTy, rdLT, Res.un, TT.un, Ty.un, LT.un, Leaf.un, Leaf.plain, LT.plain, hL_empty, hL_new, hL_next, List.nil_append, List.length_nil, List.length_cons, List.cons_append, Nat.zero_add, Nat.reduceAdd]
  try simp -implicitDefEqProofs only [r0.1, r0.2.1]
  try simp -implicitDefEqProofs only [evs, reduceIte, rdRes, rdTT, rdTy, rdLT, Res.un, TT.un, Ty.un, LT.un, Leaf.un, Leaf.plain, LT.plain]
  by_cases h4 : 4 < o.1.length
  · rw [if_pos h4, decide_eq_true (show (4 : Int) < (o.1.length : Int) by omega)]
    try simp -implicitDefEqProofs only [evs, reduceIte, rdRes, rdTT, rdTy, rdLT, Res.un, TT.un, Ty.un, LT.un, Leaf.un, Leaf.plain, LT.plain]
    rw [w0]
    try simp -implicitDefEqProofs only [evs, reduceIte, rdRes, rdTT, rdTy, rdLT, Res.un, TT.un, Ty.un, LT.un, Leaf.un, Leaf.plain, LT.plain]
    rw [s0]
    try simp -implicitDefEqProofs only [evs, reduceIte, rdRes, rdTT, rdTy, rdLT, Res.un, TT.un, Ty.un, LT.un, Leaf.un, Leaf.plain, LT.plain]
  · rw [if_neg h4, decide_eq_false (show ¬ (4 : Int) < (o.1.length : Int) by omega)]
    try simp -implicitDefEqProofs only [evs, reduceIte, rdRes, rdTT, rdTy, rdLT, Res.un, TT.un, Ty.un, LT.un, Leaf.un, Leaf.plain, LT.plain]
    rw [mis_code]
    try simp -implicitDefEqProofs only [evs, reduceIte, rdRes, rdTT, rdTy, rdLT, Res.un, TT.un, Ty.un, LT.un, Leaf.un, Leaf.plain, LT.plain, Int.ofNat_inj]
    by_cases hm : o.2.1.length = o.1.length ∧ u.length = o.1.length
    · rw [if_pos hm, decide_eq_true hm]
      try simp -implicitDefEqProofs only [evs, reduceIte, rdRes, rdTT, rdTy, rdLT, Res.un, TT.un, Ty.un, LT.un, Leaf.un, Leaf.plain, LT.plain, r0.1]
      rw [ContainsFunc_liq (fun x => !okQ x) (by omega) (fun x hx R k => by
        obtain ⟨a, v⟩ := x
        show (blend_Of_1P (a, v)).bind (fun r => k ((Res.one (.leaf .bool)).lo true r) _) = _
        rw [of1_ok]; rfl), any_not]
      try simp -implicitDefEqProofs only [evs, reduceIte, rdRes, rdTT, rdTy, rdLT, Res.un, TT.un, Ty.un, LT.un, Leaf.un, Leaf.plain, LT.plain]
      cases hq : o.1.all okQ with
      | false =>
        try simp -implicitDefEqProofs only [evs, reduceIte, rdRes, rdTT, rdTy, rdLT, Res.un, TT.un, Ty.un, LT.un, Leaf.un, Leaf.plain, LT.plain, Bool.false_eq_true]
        rw [w0]
        try simp -implicitDefEqProofs only [evs, reduceIte, rdRes, rdTT, rdTy, rdLT, Res.un, TT.un, Ty.un, LT.un, Leaf.un, Leaf.plain, LT.plain]
        rw [s0]
        try simp -implicitDefEqProofs only [evs, reduceIte, rdRes, rdTT, rdTy, rdLT, Res.un, TT.un, Ty.un, LT.un, Leaf.un, Leaf.plain, LT.plain]
      | true =>
        try simp -implicitDefEqProofs only [evs, reduceIte, rdRes, rdTT, rdTy, rdLT, Res.un, TT.un, Ty.un, LT.un, Leaf.un, Leaf.plain, LT.plain, eq_self]
        try simp -implicitDefEqProofs only [q0]
        try simp -implicitDefEqProofs only [evs, reduceIte, rdRes, rdTT, rdTy, rdLT, Res.un, TT.un, Ty.un, LT.un, Leaf.un, Leaf.plain, LT.plain, ord_eta]
        rw [few_ok (by omega) (by omega)]
        try simp -implicitDefEqProofs only [evs, reduceIte, rdRes, rdTT, rdTy, rdLT, Res.un, TT.un, Ty.un, LT.un, Leaf.un, Leaf.plain, LT.plain]
        have hins : slices_ContainsFunc_int_int blend_Of.tb (rowSV false j1 u) (.func 77 [.lp true [.int .i64 64] 0]) (hL [oS o, c2 (0, 0)]) = some (!u.all (inB 64), hL [oS o, c2 (0, 0)]) := by
          rw [← any_not]
          exact ContainsFunc_int (fun x => !inB 64 x) (by omega) (fun x hx R k => by
            show (blend_outside_1 x (.lp true [.int .i64 64] 0) _).bind (fun p => k (.bool p.1) p.2) = _
            rw [outside1_ok]; rfl)
        have hq64 : blend_outside.q 64 = some (.func 77 [.lp true [.int .i64 64] 0]) := rfl
        simp only [oS, c2] at hins
        have bad : ¬ (fewB o.2.1 u = true ∧ u.all (inB 64) = true) → (((H.wrs (hL [oS o, c2 (0, 0)]) (.hp 1 2 0) [.int .i64 0, .int .i64 0]).bind fun h29 => ((rdT (.agg [.int .i64, .int .i64]) h29 (.hp 1 2 0 : V)).bind fun (x30_0, x30_1) => (some (((x30_0, x30_1), (2 : Int)), h29))))) = some (((0, 0), 2), hL [oS o, c2 (0, 0)]) := fun _ => by
          simp only [oS, c2]
          rw [w0]
          try simp -implicitDefEqProofs only [evs, reduceIte, rdRes, rdTT, rdTy, rdLT, Res.un, TT.un, Ty.un, LT.un, Leaf.un, Leaf.plain, LT.plain]
          rw [s0]
          try simp -implicitDefEqProofs only [evs, reduceIte, rdRes, rdTT, rdTy, rdLT, Res.un, TT.un, Ty.un, LT.un, Leaf.un, Leaf.plain, LT.plain]
        cases hf : fewB o.2.1 u with
        | false =>
          try simp -implicitDefEqProofs only [evs, reduceIte, rdRes, rdTT, rdTy, rdLT, Res.un, TT.un, Ty.un, LT.un, Leaf.un, Leaf.plain, LT.plain, Bool.false_eq_true, false_and]
          rw [w0]
          try simp -implicitDefEqProofs only [evs, reduceIte, rdRes, rdTT, rdTy, rdLT, Res.un, TT.un, Ty.un, LT.un, Leaf.un, Leaf.plain, LT.plain]
          rw [s0]
          try simp -implicitDefEqProofs only [evs, reduceIte, rdRes, rdTT, rdTy, rdLT, Res.un, TT.un, Ty.un, LT.un, Leaf.un, Leaf.plain, LT.plain]
        | true =>
          try simp -implicitDefEqProofs only [evs, reduceIte, rdRes, rdTT, rdTy, rdLT, Res.un, TT.un, Ty.un, LT.un, Leaf.un, Leaf.plain, LT.plain, eq_self, true_and]
          rw [hq64]
          try simp -implicitDefEqProofs only [evs, reduceIte, rdRes, rdTT, rdTy, rdLT, Res.un, TT.un, Ty.un, LT.un, Leaf.un, Leaf.plain, LT.plain]
          rw [hins]
          try simp -implicitDefEqProofs only [evs, reduceIte, rdRes, rdTT, rdTy, rdLT, Res.un, TT.un, Ty.un, LT.un, Leaf.un, Leaf.plain, LT.plain]
          cases hi : u.all (inB 64) with
          | false =>
            try simp -implicitDefEqProofs only [evs, reduceIte, rdRes, rdTT, rdTy, rdLT, Res.un, TT.un, Ty.un, LT.un, Leaf.un, Leaf.plain, LT.plain, Bool.false_eq_true]
            rw [w0]
            try simp -implicitDefEqProofs only [evs, reduceIte, rdRes, rdTT, rdTy, rdLT, Res.un, TT.un, Ty.un, LT.un, Leaf.un, Leaf.plain, LT.plain]
            rw [s0]
            try simp -implicitDefEqProofs only [evs, reduceIte, rdRes, rdTT, rdTy, rdLT, Res.un, TT.un, Ty.un, LT.un, Leaf.un, Leaf.plain, LT.plain]
          | true =>
            try simp -implicitDefEqProofs only [evs, reduceIte, rdRes, rdTT, rdTy, rdLT, Res.un, TT.un, Ty.un, LT.un, Leaf.un, Leaf.plain, LT.plain, eq_self]
            try simp -implicitDefEqProofs only [q0]
            try simp -implicitDefEqProofs only [evs, reduceIte, rdRes, rdTT, rdTy, rdLT, Res.un, TT.un, Ty.un, LT.un, Leaf.un, Leaf.plain, LT.plain, ord_eta]
            rw [mixed_ok (Sm_of (n := 0) hi (by omega)) (Sq_of hq) (by omega)]
            generalize sumL (parts o.1 u) = s
            obtain ⟨s1, s2⟩ := s
            have n1 := new_c2 (sl := [oS o, c2 (0, 0)]) (x := (s1, s2))
            have e2 : ([oS o, c2 (0, 0), c2 (s1, s2)])[2]? = some (c2 (s1, s2)) := rfl
            have e3 : ([oS o, c2 (0, 0), c2 (s1, s2)])[1]? = some (c2 (0, 0)) := rfl
            have g2 := rds_c2 e2
            have w3 := fun y => wrs_c2 (y := y) e3
            have g3 : ∀ y, rdT (.agg [.int .i64, .int .i64]) (hL [oS o, c2 y, c2 (s1, s2)]) (.hp 1 2 0) = some y := fun y => rds_c2 rfl
            have w30 := w3 (0, 0)
            have w31 := w3 (s1, s2)
            have g30 := g3 (0, 0)
            have g31 := g3 (s1, s2)
            simp only [oS, c2, List.set_cons_succ, List.set_cons_zero, List.cons_append, List.nil_append, List.length_cons, List.length_nil, Nat.zero_add, Nat.reduceAdd] at n1 g2 w30 w31 g30 g31
            try simp -implicitDefEqProofs only [evs, reduceIte, rdRes, rdTT, rdTy, rdLT, Res.un, TT.un, Ty.un, LT.un, Leaf.un, Leaf.plain, LT.plain, hL_new, hL_next, List.nil_append, List.length_nil, List.length_cons, List.cons_append, Nat.zero_add, Nat.reduceAdd]
            rw [n1]
            try simp -implicitDefEqProofs only [evs, reduceIte, rdRes, rdTT, rdTy, rdLT, Res.un, TT.un, Ty.un, LT.un, Leaf.un, Leaf.plain, LT.plain]
            rw [g2]
            try simp -implicitDefEqProofs only [evs, reduceIte, rdRes, rdTT, rdTy, rdLT, Res.un, TT.un, Ty.un, LT.un, Leaf.un, Leaf.plain, LT.plain]
            rw [bplain_ok]
            try simp -implicitDefEqProofs only [evs, reduceIte, rdRes, rdTT, rdTy, rdLT, Res.un, TT.un, Ty.un, LT.un, Leaf.un, Leaf.plain, LT.plain]
            cases isPlain (s1, s2) with
            | false =>
              try simp -implicitDefEqProofs only [evs, reduceIte, rdRes, rdTT, rdTy, rdLT, Res.un, TT.un, Ty.un, LT.un, Leaf.un, Leaf.plain, LT.plain, Bool.false_eq_true]
              rw [w30]
              try simp -implicitDefEqProofs only [evs, reduceIte, rdRes, rdTT, rdTy, rdLT, Res.un, TT.un, Ty.un, LT.un, Leaf.un, Leaf.plain, LT.plain]
              rw [g30]
              try simp -implicitDefEqProofs only [evs, reduceIte, rdRes, rdTT, rdTy, rdLT, Res.un, TT.un, Ty.un, LT.un, Leaf.un, Leaf.plain, LT.plain]
            | true =>
              try simp -implicitDefEqProofs only [evs, reduceIte, rdRes, rdTT, rdTy, rdLT, Res.un, TT.un, Ty.un, LT.un, Leaf.un, Leaf.plain, LT.plain, eq_self]
              rw [w31]
              try simp -implicitDefEqProofs only [evs, reduceIte, rdRes, rdTT, rdTy, rdLT, Res.un, TT.un, Ty.un, LT.un, Leaf.un, Leaf.plain, LT.plain]
              rw [g31]
              try simp -implicitDefEqProofs only [evs, reduceIte, rdRes, rdTT, rdTy, rdLT, Res.un, TT.un, Ty.un, LT.un, Leaf.un, Leaf.plain, LT.plain]
    · rw [if_neg hm, decide_eq_false hm]
      try simp -implicitDefEqProofs only [evs, reduceIte, rdRes, rdTT, rdTy, rdLT, Res.un, TT.un, Ty.un, LT.un, Leaf.un, Leaf.plain, LT.plain]
      rw [w0]
      try simp -implicitDefEqProofs only [evs, reduceIte, rdRes, rdTT, rdTy, rdLT, Res.un, TT.un, Ty.un, LT.un, Leaf.un, Leaf.plain, LT.plain]
      rw [s0]
      try simp -implicitDefEqProofs only [evs, reduceIte, rdRes, rdTT, rdTy, rdLT, Res.un, TT.un, Ty.un, LT.un, Leaf.un, Leaf.plain, LT.plain]
end Go.Proofs.Ytfkabibbaajfhaa
/- Of of the reference of package blend. Conditions: those of each law. -/
namespace Go.Proofs.Ytfkabibbaajfhaa
open Go Go.Proofs.Ytfkabibbaajfhaa.Ev
set_option linter.unusedVariables false
set_option linter.unusedSimpArgs false
set_option maxRecDepth 100000
set_option maxHeartbeats 4000000
end Go.Proofs.Ytfkabibbaajfhaa
/- Check of package blend. Conditions: those of each law. -/
namespace Go.Proofs.Ytfkabibbaajfhaa
open Go Go.Proofs.Ytfkabibbaajfhaa.Ev
set_option linter.unusedVariables false
set_option linter.unusedSimpArgs false
set_option maxRecDepth 100000
set_option maxHeartbeats 4000000
/-- A liquid of an order. -/
noncomputable def okL (xs : List (Int × Int)) (x : Int × Int) : Bool := decide (acheckOf xs x = 0) && decide (1 ≤ x.2 ∧ x.2 ≤ 1000000000)
/-- How many plans there are. -/
def prodU (us : List Int) : Int := us.foldl (fun n x => n * (x + 1)) 1
end Go.Proofs.Ytfkabibbaajfhaa
/- Check of the reference of package blend. Conditions: those of each law. -/
namespace Go.Proofs.Ytfkabibbaajfhaa
open Go Go.Proofs.Ytfkabibbaajfhaa.Ev
set_option linter.unusedVariables false
set_option linter.unusedSimpArgs false
set_option maxRecDepth 100000
set_option maxHeartbeats 4000000
end Go.Proofs.Ytfkabibbaajfhaa
/- Which units carry out an order. Conditions: those of each law. -/
namespace Go.Proofs.Ytfkabibbaajfhaa
open Go Go.Proofs.Ytfkabibbaajfhaa.Ev
set_option linter.unusedVariables false
set_option linter.unusedSimpArgs false
set_option maxRecDepth 100000
set_option maxHeartbeats 4000000
/-- What a right order is. -/
structure OkO (xs : List (Int × Int)) (o : OrdT) : Prop where
  ck : (checkOf xs).2 = 0
  l0 : 0 < o.1.length
  l4 : o.1.length ≤ 4
  lu : o.2.1.length = o.1.length
  lc : o.2.2.1.length = o.1.length
  liq : o.1.all (okL xs) = true
  un : o.2.1.all (inB 64) = true
  co : o.2.2.1.all (inB 1000000) = true
  low : 0 ≤ o.2.2.2.1
  lh : o.2.2.2.1 ≤ o.2.2.2.2.1
  high : o.2.2.2.2.1 ≤ 10000
  a1 : 1 ≤ o.2.2.2.2.2
  a2 : o.2.2.2.2.2 ≤ 256
  pr : prodU o.2.1 ≤ 4096
end Go.Proofs.Ytfkabibbaajfhaa
/- Keeps of package blend and of its reference. Conditions: those of each law. -/
namespace Go.Proofs.Ytfkabibbaajfhaa
open Go Go.Proofs.Ytfkabibbaajfhaa.Ev
set_option linter.unusedVariables false
set_option linter.unusedSimpArgs false
set_option maxRecDepth 100000
set_option maxHeartbeats 4000000
end Go.Proofs.Ytfkabibbaajfhaa
/- Plans: all units from none to those of an order, number by number; the first best one of a list. Conditions: those of each law. -/
namespace Go.Proofs.Ytfkabibbaajfhaa
open Go Go.Proofs.Ytfkabibbaajfhaa.Ev
set_option linter.unusedVariables false
set_option linter.unusedSimpArgs false
set_option maxRecDepth 100000
set_option maxHeartbeats 4000000
/-- Each one's next is the one behind it; the last one's is e. -/
def Run {α : Type} (f : α → Option α) (e : Option α) : List α → Prop
  | [] => True
  | x :: l => f x = l.head?.or e ∧ Run f e l
theorem Run.map {α β : Type} {f : α → Option α} {f' : β → Option β} {e' : Option β} {g : α → β} : ∀ {l : List α}, (∀ x ∈ l, f' (g x) = ((f x).map g).or e') → Run f none l → Run f' e' (l.map g)
  | [], _, _ => trivial
  | x :: l, h, hr => ⟨by
      rw [h x (by simp), hr.1, List.head?_map]
      simp, Run.map (fun y hy => h y (by simp [hy])) hr.2⟩
end Go.Proofs.Ytfkabibbaajfhaa
/- The reference's next units; its Best and Most. Conditions: those of each law. -/
namespace Go.Proofs.Ytfkabibbaajfhaa
open Go Go.Proofs.Ytfkabibbaajfhaa.Ev
set_option linter.unusedVariables false
set_option linter.unusedSimpArgs false
set_option maxRecDepth 100000
set_option maxHeartbeats 4000000
end Go.Proofs.Ytfkabibbaajfhaa
/- Best and Most of the reference of package blend. Conditions: those of each law. -/
namespace Go.Proofs.Ytfkabibbaajfhaa
open Go Go.Proofs.Ytfkabibbaajfhaa.Ev
set_option linter.unusedVariables false
set_option linter.unusedSimpArgs false
set_option maxRecDepth 100000
set_option maxHeartbeats 4000000
theorem OkO.w0 {xs : List (Int × Int)} {o : OrdT} (h : OkO xs o) : ∀ w ∈ o.2.1, 0 ≤ w := fun x hx => by
  have := List.all_eq_true.1 h.un x hx
  simp only [inB, decide_eq_true_eq] at this
  omega
theorem take_snoc {α : Type} {L : List α} {i : Nat} {u : α} (h : L[i]? = some u) : L.take (i + 1) = L.take i ++ [u] := by
  obtain ⟨hlt, rfl⟩ := List.getElem?_eq_some_iff.1 h
  exact (List.take_append_getElem hlt).symm
end Go.Proofs.Ytfkabibbaajfhaa
/- blend.first: a range over all plans. Conditions: those of each law. -/
namespace Go.Proofs.Ytfkabibbaajfhaa
open Go Go.Proofs.Ytfkabibbaajfhaa.Ev
set_option linter.unusedVariables false
set_option linter.unusedSimpArgs false
set_option maxRecDepth 100000
set_option maxHeartbeats 4000000
end Go.Proofs.Ytfkabibbaajfhaa
/- blend.plans and blend.first; Best and Most. Conditions: those of each law. -/
namespace Go.Proofs.Ytfkabibbaajfhaa
open Go Go.Proofs.Ytfkabibbaajfhaa.Ev
set_option linter.unusedVariables false
set_option linter.unusedSimpArgs false
set_option maxRecDepth 100000
set_option maxHeartbeats 4000000
end Go.Proofs.Ytfkabibbaajfhaa
/- blend.first; blend.Best and blend.Most. Conditions: those of each law. -/
namespace Go.Proofs.Ytfkabibbaajfhaa
open Go Go.Proofs.Ytfkabibbaajfhaa.Ev
set_option linter.unusedVariables false
set_option linter.unusedSimpArgs false
set_option maxRecDepth 100000
set_option maxHeartbeats 4000000
end Go.Proofs.Ytfkabibbaajfhaa
/- The cheapest units of a sum: what a bound is. Conditions: those of each law. -/
namespace Go.Proofs.Ytfkabibbaajfhaa
open Go Go.Proofs.Ytfkabibbaajfhaa.Ev
set_option linter.unusedVariables false
set_option linter.unusedSimpArgs false
set_option maxRecDepth 100000
set_option maxHeartbeats 4000000
end Go.Proofs.Ytfkabibbaajfhaa
/- A block of pairs that is sorted: the small steps. Conditions: those of each law. -/
namespace Go.Proofs.Ytfkabibbaajfhaa
open Go Go.Proofs.Ytfkabibbaajfhaa.Ev
set_option linter.unusedVariables false
set_option linter.unusedSimpArgs false
set_option maxRecDepth 100000
set_option maxHeartbeats 4000000
section steps
variable {sl : List Slot} {id e N : Nat} (hid : id < sl.length)
include hid
end steps
end Go.Proofs.Ytfkabibbaajfhaa
/- Insertion sort of pairs. Conditions: those of each law. -/
namespace Go.Proofs.Ytfkabibbaajfhaa
open Go Go.Proofs.Ytfkabibbaajfhaa.Ev
set_option linter.unusedVariables false
set_option linter.unusedSimpArgs false
set_option maxRecDepth 100000
set_option maxHeartbeats 4000000
section sort
variable {T : Table} {v : V} {sl : List Slot} {id e N n cp : Nat} {t : Bool} {D : Int × Int → Prop} {c : Int × Int → Int × Int → Int} {lt : Int × Int → Int × Int → Prop}
end sort
end Go.Proofs.Ytfkabibbaajfhaa
/- Bound of package blend and of its reference. Conditions: those of each law. -/
namespace Go.Proofs.Ytfkabibbaajfhaa
open Go Go.Proofs.Ytfkabibbaajfhaa.Ev
set_option linter.unusedVariables false
set_option linter.unusedSimpArgs false
set_option maxRecDepth 100000
set_option maxHeartbeats 4000000
end Go.Proofs.Ytfkabibbaajfhaa
/- Bound of package blend. Conditions: those of each law. -/
namespace Go.Proofs.Ytfkabibbaajfhaa
open Go Go.Proofs.Ytfkabibbaajfhaa.Ev
set_option linter.unusedVariables false
set_option linter.unusedSimpArgs false
set_option maxRecDepth 100000
set_option maxHeartbeats 4000000
end Go.Proofs.Ytfkabibbaajfhaa
/- Bound of the reference of package blend. Conditions: those of each law. -/
namespace Go.Proofs.Ytfkabibbaajfhaa
open Go Go.Proofs.Ytfkabibbaajfhaa.Ev
set_option linter.unusedVariables false
set_option linter.unusedSimpArgs false
set_option maxRecDepth 100000
set_option maxHeartbeats 4000000
end Go.Proofs.Ytfkabibbaajfhaa
/- The laws BlendKeeps and BlendPlans in plain numbers. Conditions: none. -/
namespace Go.Proofs.Ytfkabibbaajfhaa
open Go Go.Proofs.Ytfkabibbaajfhaa.Ev
set_option linter.unusedVariables false
set_option linter.unusedSimpArgs false
set_option maxRecDepth 100000
set_option maxHeartbeats 4000000
theorem awake29 : spilelaw29_awakeP = some true := by kernel_rfl
theorem Few16_ok (xs : List (Int × Int)) : ∃ b, spileref16_FewP xs = some b := by
  unfold spileref16_FewP spileref16_Few
  try simp -implicitDefEqProofs only [evs, reduceIte, rdRes, rdTT, rdTy, rdLT, Res.un, TT.un, Ty.un, LT.un, Leaf.un, Leaf.plain, LT.plain]
  cases decide ((xs.length : Int) ≤ 20) with
  | true => exact ⟨_, rfl⟩
  | false =>
    cases decide ((128 : Int) < (xs.length : Int)) with
    | true => exact ⟨_, rfl⟩
    | false => exact ⟨_, rfl⟩
end Go.Proofs.Ytfkabibbaajfhaa
/- The law BlendSums in plain numbers. Conditions: none. -/
namespace Go.Proofs.Ytfkabibbaajfhaa
open Go Go.Proofs.Ytfkabibbaajfhaa.Ev
set_option linter.unusedVariables false
set_option linter.unusedSimpArgs false
set_option maxRecDepth 100000
set_option maxHeartbeats 4000000
theorem accAcc {sl : List Slot} {ls : List Leaf} {xs : List (LT ls)} : ∃ ext o, accH sl ls xs = hL (sl ++ ext) ∧ Acc (sl ++ ext) ls xs (accS sl.length ls xs) o := by
  unfold accH accS
  by_cases h : xs.length = 0
  · have : xs = [] := List.eq_nil_of_length_eq_zero h
    subst this
    exact ⟨[], none, by simp, ⟨rfl, .inl rfl⟩⟩
  · rw [if_neg h, if_neg h]
    exact ⟨[.own (cellsL ls xs) ls.length], some sl.length, rfl, by omega, rfl, by simp⟩
theorem ofO_zero {o : OrdT} {u : List Int} (h : (ofO o u).2 = 0) : o.1.length ≤ 4 ∧ u.length = o.1.length ∧ o.1.all okQ = true ∧ u.all (inB 64) = true ∧ isPlain (sumL (parts o.1 u)) = true ∧ (ofO o u).1 = sumL (parts o.1 u) := by
  unfold ofO at h ⊢
  by_cases h4 : 4 < o.1.length
  · rw [if_pos h4] at h; simp at h
  · rw [if_neg h4] at h ⊢
    by_cases hm : o.2.1.length = o.1.length ∧ u.length = o.1.length
    · rw [if_pos hm] at h ⊢
      by_cases hq : o.1.all okQ = true
      · rw [if_pos hq] at h ⊢
        by_cases hf : fewB o.2.1 u = true ∧ u.all (inB 64) = true
        · rw [if_pos hf] at h ⊢
          by_cases hp : isPlain (sumL (parts o.1 u)) = true
          · rw [if_pos hp]
            exact ⟨by omega, hm.2, hq, hf.2, hp, rfl⟩
          · rw [if_neg hp] at h; simp at h
        · rw [if_neg hf] at h; simp at h
      · rw [if_neg hq] at h; simp at h
    · rw [if_neg hm] at h; simp at h
theorem ofO_bad {o : OrdT} {u : List Int} (h : (ofO o u).2 ≠ 0) : (ofO o u).1 = (0, 0) := by
  unfold ofO at h ⊢
  by_cases h4 : 4 < o.1.length
  · rw [if_pos h4]
  · rw [if_neg h4] at h ⊢
    by_cases hm : o.2.1.length = o.1.length ∧ u.length = o.1.length
    · rw [if_pos hm] at h ⊢
      by_cases hq : o.1.all okQ = true
      · rw [if_pos hq] at h ⊢
        by_cases hf : fewB o.2.1 u = true ∧ u.all (inB 64) = true
        · rw [if_pos hf] at h ⊢
          by_cases hp : isPlain (sumL (parts o.1 u)) = true
          · rw [if_pos hp] at h; exact absurd rfl h
          · rw [if_neg hp]
        · rw [if_neg hf]
      · rw [if_neg hq]
    · rw [if_neg hm]
theorem part_le : ∀ (l : List (Int × Int)), (∀ x ∈ l, 0 ≤ x.1 ∧ 0 ≤ x.2) → ∀ x ∈ l, x.1 ≤ (sumL l).1 ∧ x.2 ≤ (sumL l).2
  | [], _, x, h => by simp at h
  | y :: l, h, x, hx => by
    have ih := part_le l fun z hz => h z (by simp [hz])
    have hy := h y (by simp)
    have h0 : 0 ≤ (sumL l).1 ∧ 0 ≤ (sumL l).2 := by
      clear ih hx
      induction l with
      | nil => simp [sumL]
      | cons z l ihl =>
        have := ihl fun w hw => h w (by rcases List.mem_cons.1 hw with rfl | hw <;> simp [*])
        have := h z (by simp)
        rw [sumL_cons]; simp only; omega
    rw [sumL_cons]
    rcases List.mem_cons.1 hx with rfl | hx
    · simp only; omega
    · have := ih x hx; simp only; omega
theorem parts_plain {ls : List (Int × Int)} {u : List Int} (hq : ls.all okQ = true) (hu : u.all (inB 64) = true) (hl : u.length = ls.length) (h4 : ls.length ≤ 4) (hp : isPlain (sumL (parts ls u)) = true) : sumOf (parts ls u) = (sumL (parts ls u), 0) := by
  have hsum := isPlain_iff.1 hp
  have hnn : ∀ x ∈ parts ls u, 0 ≤ x.1 ∧ 0 ≤ x.2 := fun x hx => by
    have := parts_b (ls := ls) (u := u) (Sm_of (n := 0) hu (by omega)) (Sq_of hq) x hx
    omega
  have hle := part_le _ hnn
  have hall : (parts ls u).any (fun x => !isPlain x) = false := by
    rw [any_not, Bool.not_eq_false', List.all_eq_true]
    intro x hx
    have h1 := hnn x hx
    have h2 := hle x hx
    refine isPlain_iff.2 ⟨h1.1, by omega, h1.2, by omega, ?_⟩
    obtain ⟨p, hpm, rfl⟩ := List.mem_map.1 hx
    have hm := List.of_mem_zip hpm
    have k1 := isPlain_iff.1 (okQ_iff.1 (List.all_eq_true.1 hq _ hm.2)).1
    have k2 := List.all_eq_true.1 hu _ hm.1
    simp only [inB, decide_eq_true_eq] at k2
    rcases k1.2.2.2.2 with h | h
    · by_cases h0 : p.1 = 0
      · right; simp [h0]
      · left; exact Int.mul_pos (by omega) h
    · right; simp [h]
  unfold sumOf
  rw [if_neg (by rw [parts_len hl]; omega), hall, if_neg (by simp), if_pos hp]
theorem rd_acc {sl : List Slot} {ls : List Leaf} {xs : List (LT ls)} {o : OrdT} (h : sl[0]? = some (oS o)) : rdT (.leaf .slice) (accH sl ls xs) (.hp 0 6 0) = some (rowSV false j2 o.1) := by
  obtain ⟨ext, _, e, _⟩ := accAcc (sl := sl) (ls := ls) (xs := xs)
  have hlt := (List.getElem?_eq_some_iff.1 h).1
  rw [e, (rd_oS (sl := sl ++ ext) (id := 0) (o := o) (by rw [List.getElem?_append_left hlt]; exact h)).1]
theorem rd_q2h {f : Bool} {xs : List (Int × Int)} {i : Nat} {h : H} (hi : i < xs.length) : rdT (.leaf (.int .i64)) h (((rowSV f j2 xs).a.add (i * 2)).add 0) = some (q2 xs i).1 ∧ rdT (.leaf (.int .i64)) h (((rowSV f j2 xs).a.add (i * 2)).add 1) = some (q2 xs i).2 := rd_q2 hi
theorem sums_loop {o : OrdT} {u : List Int} {f : Int × Int} (hq : o.1.all okQ = true) (hu : u.all (inB 64) = true) (hl : u.length = o.1.length) (h4 : o.1.length ≤ 4) :
    iter FUEL (spilelaw29_BlendSums.loop1 (hL []) (rowSV false j1 u)) ((⟨.nil, 0, 0, false⟩, (0 : Int)), hL [oS o, c2 f]) = some (.ex0 (accS 2 j2 (parts o.1 u)), accH [oS o, c2 f] j2 (parts o.1 u)) := by
  have hpl := parts_len (ls := o.1) (u := u) hl
  refine iter_from (fun i => ((accS 2 j2 ((parts o.1 u).take i), (i : Int)), accH [oS o, c2 f] j2 ((parts o.1 u).take i))) rfl u.length FUEL (fun i hi => ?_) ?_ (fuel_gt (by omega))
  · have hi1 : i < o.1.length := by omega
    have hg1 : 0 ≤ (i : Int) ∧ (i : Int) < (u.length : Int) := by omega
    have hg2 : 0 ≤ (i : Int) ∧ (i : Int) < (o.1.length : Int) := by omega
    have hpg := parts_get hi hi1
    have hb := parts_b (ls := o.1) (u := u) (Sm_of (n := 0) hu (by omega)) (Sq_of hq) _ (List.mem_of_getElem? hpg)
    simp only at hb
    have hts := take_snoc hpg
    have ha := acc_append (ls := j2) (xs := (parts o.1 u).take i) (sl := [oS o, c2 f]) (w := 2) (b := 16) (x := (u[i] * (q2 o.1 i).1, u[i] * (q2 o.1 i).2)) (vs := [.int .i64 (u[i] * (q2 o.1 i).1), .int .i64 (u[i] * (q2 o.1 i).2)]) rfl (by omega) (by rw [List.length_take]; omega) (by omega) rfl
    rw [← hts] at ha
    have hr := rd_acc (sl := [oS o, c2 f]) (ls := j2) (xs := (parts o.1 u).take i) (o := o) rfl
    have hq2 := rd_q2h (f := false) (h := accH [oS o, c2 f] j2 ((parts o.1 u).take i)) hi1
    have hn := nn_q2 (f := false) hi1
    have hlen : ([oS o, c2 f] : List Slot).length = 2 := rfl
    rw [hlen] at ha
    unfold spilelaw29_BlendSums.loop1
    try simp -implicitDefEqProofs only [evs, reduceIte, rdRes, rdTT, rdTy, rdLT, Res.un, TT.un, Ty.un, LT.un, Leaf.un, Leaf.plain, LT.plain, Int.toNat_natCast, guardO_pos hg1, hL_next, List.length_nil]
    rw [decide_eq_true hg1.2, cond_true, rd_rowI, List.getElem?_eq_getElem hi]
    try simp -implicitDefEqProofs only [evs, reduceIte, rdRes, rdTT, rdTy, rdLT, Res.un, TT.un, Ty.un, LT.un, Leaf.un, Leaf.plain, LT.plain]
    rw [hr]
    try simp -implicitDefEqProofs only [evs, reduceIte, rdRes, rdTT, rdTy, rdLT, Res.un, TT.un, Ty.un, LT.un, Leaf.un, Leaf.plain, LT.plain, guardO_pos hg2, guardO_pos hn]
    rw [hq2.1, hq2.2]
    try simp -implicitDefEqProofs only [evs, reduceIte, rdRes, rdTT, rdTy, rdLT, Res.un, TT.un, Ty.un, LT.un, Leaf.un, Leaf.plain, LT.plain]
    rw [i64_in (u[i] * (q2 o.1 i).1) (by omega), i64_in (u[i] * (q2 o.1 i).2) (by omega), ha]
    try simp -implicitDefEqProofs only [evs, reduceIte, rdRes, rdTT, rdTy, rdLT, Res.un, TT.un, Ty.un, LT.un, Leaf.un, Leaf.plain, LT.plain]
    rw [i64_succ (by omega)]
  · unfold spilelaw29_BlendSums.loop1
    try simp -implicitDefEqProofs only [rowSV_len]
    rw [decide_eq_false (by omega), cond_false, ← hpl, List.take_length]
theorem BlendSums_ok (xs : List (Int × Int)) (o : OrdT) (u : List Int) : spilelaw29_BlendSumsP xs o u = some true := by
  obtain ⟨b, hb⟩ := Few16_ok xs
  have r1 := rd_oS (sl := [oS o]) (id := 0) (o := o) rfl
  have q1 := rds_oS (sl := [oS o]) (id := 0) (o := o) rfl
  simp only [oS] at q1 r1
  unfold spilelaw29_BlendSumsP spilelaw29_BlendSums
  try simp -implicitDefEqProofs only [awake29, evs, reduceIte, rdRes, rdTT, rdTy, rdLT, Res.un, TT.un, Ty.un, LT.un, Leaf.un, Leaf.plain, LT.plain, hL_empty, hL_new, hL_next, List.nil_append, List.length_nil, hb, r1.1]
  cases b with
  | false => simp -implicitDefEqProofs only [evs, reduceIte, rdRes, rdTT, rdTy, rdLT, Res.un, TT.un, Ty.un, LT.un, Leaf.un, Leaf.plain, LT.plain]
  | true =>
    try simp -implicitDefEqProofs only [evs, reduceIte, rdRes, rdTT, rdTy, rdLT, Res.un, TT.un, Ty.un, LT.un, Leaf.un, Leaf.plain, LT.plain]
    by_cases h8 : (8 : Int) < (o.1.length : Int)
    · rw [decide_eq_true h8]
      try simp -implicitDefEqProofs only [evs, reduceIte, rdRes, rdTT, rdTy, rdLT, Res.un, TT.un, Ty.un, LT.un, Leaf.un, Leaf.plain, LT.plain]
    · rw [decide_eq_false h8]
      try simp -implicitDefEqProofs only [evs, reduceIte, rdRes, rdTT, rdTy, rdLT, Res.un, TT.un, Ty.un, LT.un, Leaf.un, Leaf.plain, LT.plain]
      by_cases h9 : (8 : Int) < (u.length : Int)
      · rw [decide_eq_true h9]
        try simp -implicitDefEqProofs only [evs, reduceIte, rdRes, rdTT, rdTy, rdLT, Res.un, TT.un, Ty.un, LT.un, Leaf.un, Leaf.plain, LT.plain]
      · rw [decide_eq_false h9]
        try simp -implicitDefEqProofs only [evs, reduceIte, rdRes, rdTT, rdTy, rdLT, Res.un, TT.un, Ty.un, LT.un, Leaf.un, Leaf.plain, LT.plain, q1]
        try simp -implicitDefEqProofs only [evs, reduceIte, rdRes, rdTT, rdTy, rdLT, Res.un, TT.un, Ty.un, LT.un, Leaf.un, Leaf.plain, LT.plain, ord_eta]
        have e1 := Of_ok o u
        have z0 := fun h => ofO_zero (o := o) (u := u) h
        have z1 := fun h => ofO_bad (o := o) (u := u) h
        generalize ofO o u = f at e1 z0 z1
        obtain ⟨⟨f1, f2⟩, f3⟩ := f
        have n1 := new_c2 (sl := [oS o]) (x := (f1, f2))
        have q2' := rd_oS (sl := [oS o, c2 (f1, f2)]) (id := 0) (o := o) rfl
        have q4 := rds_c2 (sl := [oS o, c2 (f1, f2)]) (id := 1) (x := (f1, f2)) rfl
        simp only [oS, c2, List.cons_append, List.nil_append, List.length_cons, List.length_nil, Nat.zero_add, Nat.reduceAdd] at n1 q2' q4
        try simp -implicitDefEqProofs only [evs, reduceIte, rdRes, rdTT, rdTy, rdLT, Res.un, TT.un, Ty.un, LT.un, Leaf.un, Leaf.plain, LT.plain, e1, hL_new, hL_next, List.cons_append, List.nil_append, List.length_nil, List.length_cons, Nat.zero_add, Nat.reduceAdd]
        rw [n1]
        try simp -implicitDefEqProofs only [evs, reduceIte, rdRes, rdTT, rdTy, rdLT, Res.un, TT.un, Ty.un, LT.un, Leaf.un, Leaf.plain, LT.plain]
        by_cases h3 : f3 = 0
        · obtain ⟨k1, k2, k3, k4, k5, k6⟩ := z0 h3
          simp only at k6
          rw [decide_eq_true h3]
          try simp -implicitDefEqProofs only [evs, reduceIte, rdRes, rdTT, rdTy, rdLT, Res.un, TT.un, Ty.un, LT.un, Leaf.un, Leaf.plain, LT.plain, q2'.1]
          rw [decide_eq_true (show (u.length : Int) = (o.1.length : Int) by omega)]
          try simp -implicitDefEqProofs only [evs, reduceIte, rdRes, rdTT, rdTy, rdLT, Res.un, TT.un, Ty.un, LT.un, Leaf.un, Leaf.plain, LT.plain]
          have hloop := sums_loop (f := (f1, f2)) k3 k4 k2 k1
          obtain ⟨ext, oo, ee, hacc⟩ := accAcc (sl := [oS o, c2 (f1, f2)]) (ls := j2) (xs := parts o.1 u)
          have hlen : ([oS o, c2 (f1, f2)] : List Slot).length = 2 := rfl
          rw [hlen] at hacc
          rw [ee] at hloop
          simp only [oS, c2] at hloop
          rw [hloop]
          have hplen := parts_len (ls := o.1) (u := u) k2
          have hr1 := hacc.read (lp := true) rfl
          have hsum := Sum_ok (parts o.1 u) (by omega)
          rw [parts_plain k3 k4 k2 k1 k5, ← k6] at hsum
          have n2 := new_c2 (sl := [oS o, c2 (f1, f2)] ++ ext) (x := (f1, f2))
          have q5 := rds_c2 (sl := ([oS o, c2 (f1, f2)] ++ ext) ++ [c2 (f1, f2)]) (id := ([oS o, c2 (f1, f2)] ++ ext).length) (x := (f1, f2)) (by simp)
          have q6 := rds_c2 (sl := ([oS o, c2 (f1, f2)] ++ ext) ++ [c2 (f1, f2)]) (id := 1) (x := (f1, f2)) rfl
          have hr2 := (hacc.more (sl' := [c2 (f1, f2)])).read (lp := true) rfl
          have hbt := Between_ok xs (parts o.1 u) (by omega)
          have hb0 : (betweenOf xs (parts o.1 u)).2.2 = 0 → (strengthOf xs (f1, f2)).2 = 0 ∧ (betweenOf xs (parts o.1 u)).2.1 = (strengthOf xs (f1, f2)).1 ∧ (betweenOf xs (parts o.1 u)).1.1 ≤ (strengthOf xs (f1, f2)).1 ∧ (strengthOf xs (f1, f2)).1 ≤ (betweenOf xs (parts o.1 u)).1.2 := fun hz => by
            unfold betweenOf at hz ⊢
            by_cases hm : (mixtureOf xs (parts o.1 u)).2 = 0
            · rw [if_pos hm] at hz ⊢
              obtain ⟨_, _, _, _, _, hm1, _⟩ := mixture_zero hm
              by_cases hv : (mixtureOf xs (parts o.1 u)).1.2 = 0
              · rw [if_pos hv] at hz; simp at hz
              · rw [if_neg hv]
                rw [hm1] at hv ⊢
                have hbl := band_law hm hv
                rw [← k6] at hbl ⊢
                exact ⟨hbl.1, rfl, hbl.2.1, hbl.2.2.1⟩
            · rw [if_neg hm] at hz; exact absurd hz hm
          generalize betweenOf xs (parts o.1 u) = bt at hbt hb0
          obtain ⟨⟨b1, b2⟩, b3, b4⟩ := bt
          have n3 := new_c2 (sl := ([oS o, c2 (f1, f2)] ++ ext) ++ [c2 (f1, f2)]) (x := (b1, b2))
          have q7 := rds_c2 (sl := (([oS o, c2 (f1, f2)] ++ ext) ++ [c2 (f1, f2)]) ++ [c2 (b1, b2)]) (id := 1) (x := (f1, f2)) rfl
          have q8 := rd_c2 (sl := (([oS o, c2 (f1, f2)] ++ ext) ++ [c2 (f1, f2)]) ++ [c2 (b1, b2)]) (id := (([oS o, c2 (f1, f2)] ++ ext) ++ [c2 (f1, f2)]).length) (x := (b1, b2)) (by simp)
          have hst := (strengthOf_ok xs (f1, f2)).1
          simp only [oS, c2] at n2 q5 q6 hr1 hr2 n3 q7 q8
          try simp -implicitDefEqProofs only [evs, reduceIte, rdRes, rdTT, rdTy, rdLT, Res.un, TT.un, Ty.un, LT.un, Leaf.un, Leaf.plain, LT.plain, hr1, hsum, hL_new, hL_next]
          rw [n2]
          try simp -implicitDefEqProofs only [evs, reduceIte, rdRes, rdTT, rdTy, rdLT, Res.un, TT.un, Ty.un, LT.un, Leaf.un, Leaf.plain, LT.plain, eq_self, decide_true]
          rw [q5]
          try simp -implicitDefEqProofs only [evs, reduceIte, rdRes, rdTT, rdTy, rdLT, Res.un, TT.un, Ty.un, LT.un, Leaf.un, Leaf.plain, LT.plain]
          rw [q6]
          try simp -implicitDefEqProofs only [evs, reduceIte, rdRes, rdTT, rdTy, rdLT, Res.un, TT.un, Ty.un, LT.un, Leaf.un, Leaf.plain, LT.plain, eq_self, decide_true]
          rw [hr2]
          try simp -implicitDefEqProofs only [evs, reduceIte, rdRes, rdTT, rdTy, rdLT, Res.un, TT.un, Ty.un, LT.un, Leaf.un, Leaf.plain, LT.plain, hbt, hL_new, hL_next]
          rw [n3]
          try simp -implicitDefEqProofs only [evs, reduceIte, rdRes, rdTT, rdTy, rdLT, Res.un, TT.un, Ty.un, LT.un, Leaf.un, Leaf.plain, LT.plain]
          by_cases hz : b4 = 0
          · rw [decide_eq_true hz]
            obtain ⟨m1, m2, m3, m4⟩ := hb0 hz
            simp only at m2 m3 m4
            try simp -implicitDefEqProofs only [evs, reduceIte, rdRes, rdTT, rdTy, rdLT, Res.un, TT.un, Ty.un, LT.un, Leaf.un, Leaf.plain, LT.plain]
            rw [q7]
            try simp -implicitDefEqProofs only [evs, reduceIte, rdRes, rdTT, rdTy, rdLT, Res.un, TT.un, Ty.un, LT.un, Leaf.un, Leaf.plain, LT.plain, hst, m1, m2, eq_self, decide_true]
            rw [q8.1]
            try simp -implicitDefEqProofs only [evs, reduceIte, rdRes, rdTT, rdTy, rdLT, Res.un, TT.un, Ty.un, LT.un, Leaf.un, Leaf.plain, LT.plain]
            rw [decide_eq_true m3]
            try simp -implicitDefEqProofs only [evs, reduceIte, rdRes, rdTT, rdTy, rdLT, Res.un, TT.un, Ty.un, LT.un, Leaf.un, Leaf.plain, LT.plain]
            rw [q8.2]
            try simp -implicitDefEqProofs only [evs, reduceIte, rdRes, rdTT, rdTy, rdLT, Res.un, TT.un, Ty.un, LT.un, Leaf.un, Leaf.plain, LT.plain]
            rw [decide_eq_true m4]
            try simp -implicitDefEqProofs only [evs, reduceIte, rdRes, rdTT, rdTy, rdLT, Res.un, TT.un, Ty.un, LT.un, Leaf.un, Leaf.plain, LT.plain]
          · rw [decide_eq_false hz]
            try simp -implicitDefEqProofs only [evs, reduceIte, rdRes, rdTT, rdTy, rdLT, Res.un, TT.un, Ty.un, LT.un, Leaf.un, Leaf.plain, LT.plain]
        · have hz := z1 h3
          cases hz
          rw [decide_eq_false h3]
          try simp -implicitDefEqProofs only [evs, reduceIte, rdRes, rdTT, rdTy, rdLT, Res.un, TT.un, Ty.un, LT.un, Leaf.un, Leaf.plain, LT.plain]
          rw [q4]
          try simp -implicitDefEqProofs only [evs, reduceIte, rdRes, rdTT, rdTy, rdLT, Res.un, TT.un, Ty.un, LT.un, Leaf.un, Leaf.plain, LT.plain, eq_self, decide_true]
end Go.Proofs.Ytfkabibbaajfhaa
