/- What the functions of this seat compute: some texts in one. Conditions: those of each law. -/
import Derived.Test.YtbcpdecgfdlaaaaShTa0
/- What share.amounts, share.Sum and those of the reference compute. Conditions: those of each law. -/
namespace Go.Proofs.Ytbcpdecgfdlaaaa
open Go Go.Proofs.Ytbcpdecgfdlaaaa.Ev
set_option linter.unusedVariables false
set_option linter.unusedSimpArgs false
set_option maxRecDepth 100000
set_option maxHeartbeats 4000000
theorem shareCheck_ok {xs : List (Int × Int)} (h : shareCheck xs = 0) : xs.length ≤ 32 ∧ (∀ i, i < xs.length → sfault xs i = 0) ∧ (∀ x ∈ xs, okS x = true) ∧ sumA xs ≤ 10737418240000 := by
  unfold shareCheck at h
  by_cases h32 : 32 < xs.length
  · rw [if_pos h32] at h; simp at h
  · rw [if_neg h32] at h
    rcases first_cases (sfault xs) xs.length with ⟨h1, h2⟩ | ⟨m, h1, h2, h3, h4⟩
    · rw [h2, if_pos rfl] at h
      by_cases hs : 10737418240000 < sumA xs
      · rw [if_pos hs] at h; simp at h
      · refine ⟨by omega, h1, fun x hx => ?_, by omega⟩
        obtain ⟨i, hi, e⟩ := List.getElem_of_mem hx
        have := sfault_ok (h1 i hi)
        have h5 := at2_some hi
        rw [List.getElem?_eq_getElem hi, e] at h5
        rw [Option.some.inj h5]
        exact this
    · rw [h4, if_neg h2] at h
      exact absurd h h2
theorem okS_bound {xs : List (Int × Int)} (h : ∀ x ∈ xs, okS x = true) : ∀ x ∈ xs, 0 ≤ x.2 ∧ x.2 ≤ 1000000000000000 := fun x hx => by
  have := okS_iff.1 (h x hx)
  omega
theorem take_bound {xs : List (Int × Int)} (h : ∀ x ∈ xs, 0 ≤ x.2 ∧ x.2 ≤ 1000000000000000) (i : Nat) (hi : i ≤ xs.length) : 0 ≤ sumA (xs.take i) ∧ sumA (xs.take i) ≤ i * 1000000000000000 := by
  have := sumA_bound (xs.take i) fun x hx => h x (List.mem_of_mem_take hx)
  rw [List.length_take, Nat.min_eq_left hi] at this
  exact this
theorem take_snd {xs : List (Int × Int)} {i : Nat} (h : i < xs.length) : (xs.take (i + 1)).map (·.2) = (xs.take i).map (·.2) ++ [(at2 xs i).2] := by
  obtain ⟨hi, he⟩ := List.getElem?_eq_some_iff.1 (at2_some h)
  rw [← List.take_append_getElem hi, he, List.map_append]
  rfl
theorem amounts23_ok (xs : List (Int × Int)) (hl : xs.length ≤ 64) (hb : ∀ x ∈ xs, 0 ≤ x.2 ∧ x.2 ≤ 1000000000000000) : share_amountsP xs = some (xs.map (·.2), sumA xs) := by
  unfold share_amountsP share_amounts
  simp -implicitDefEqProofs only [evs, reduceIte, rdRes, rdTT, rdTy, rdLT, Res.un, TT.un, Ty.un, LT.un, Leaf.un, Leaf.plain, LT.plain, hL_empty]
  obtain ⟨x, h1, s, sl, o, rfl, h2⟩ := iter_upto (f := share_amounts.loop1 (rowSV false j2 xs)) (fun i st => ∃ s sl o, st = ((s, sumA (xs.take i), (i : Int)), hL sl) ∧ Acc sl [.int .i64] ((xs.take i).map (·.2)) s o)
    (fun x => ∃ s sl o, x = (.ex0 (s, sumA xs), hL sl) ∧ Acc sl [.int .i64] (xs.map (·.2)) s o) xs.length (fun i st hi hst => by
      obtain ⟨s, sl, o, rfl, hacc⟩ := hst
      have hget := at2_some hi
      have hrow : (sl ++ [c2 (at2 xs i)])[sl.length]? = some (c2 (at2 xs i)) := by simp
      have nw := new_c2 (sl := sl) (x := at2 xs i)
      have hbd := take_bound hb i (by omega)
      have hx := hb _ (at2_mem hi)
      have hst := sumA_take hi
      have hg1 : 0 ≤ (i : Int) ∧ (i : Int) < (xs.length : Int) := by omega
      have hrow2 : (sl ++ [c2 (at2 xs i)] ++ List.replicate 1 Slot.fresh)[sl.length]? = some (c2 (at2 xs i)) := by simp
      have r1 := rd_c2 hrow2
      have hacc2 : Acc (sl ++ [c2 (at2 xs i)] ++ List.replicate 1 Slot.fresh) [.int .i64] ((xs.take i).map (·.2)) s o := hacc.more.more
      have hlen : (sl ++ [c2 (at2 xs i)]).length < (sl ++ [c2 (at2 xs i)] ++ List.replicate 1 Slot.fresh).length := by simp
      have ho : o ≠ some (sl ++ [c2 (at2 xs i)]).length := fun e => by
        subst e
        have := hacc.lt
        simp at this
        omega
      have ho2 : o ≠ some sl.length := fun e => by
        subst e
        have := hacc.lt
        omega
      obtain ⟨s', sl', id, k1, k2, k3, k4, k5⟩ := Acc.appendAt hacc2 (b := 8) (w := 1) (x := (at2 xs i).2) (vs := [.int .i64 (at2 xs i).2]) hlen ho rfl (by omega) (by rw [List.length_map, List.length_take]; omega) (by omega) rfl
      have hs' : sl'[sl.length]? = some (c2 (at2 xs i)) := by
        rw [k5 sl.length ho2 (by simp), hrow2]
      have r2 := rd_c2 hs'
      obtain ⟨g, hg⟩ := Acc.addr hacc2 (cs := [.int .i64 (at2 xs i).2]) (n := 1) (c := 1) (t := false) (i := (sl ++ [c2 (at2 xs i)]).length)
      have hap : o.getD (sl ++ [c2 (at2 xs i)]).length ≠ sl.length := by
        cases o with
        | none => simp
        | some id => intro e; simp only [Option.getD_some] at e; exact ho2 (by rw [e])
      refine ⟨((s', sumA (xs.take (i + 1)), ((i + 1 : Nat) : Int)), hL sl'), ?_, s', sl', some id, rfl, by rw [take_snd hi]; exact k2⟩
      unfold share_amounts.loop1
      simp -implicitDefEqProofs only [Int.toNat_natCast, rowSV_len, guardO_pos hg1]
      rw [decide_eq_true hg1.2, cond_true, rds_rowF (ls := j2) (w := 2) rfl (by omega) rfl, hget]
      simp -implicitDefEqProofs only [Option.bind_some, hL_new, hL_next]
      rw [nw]
      simp -implicitDefEqProofs only [Option.bind_some, hL_reserve, hL_next]
      rw [r1.2]
      simp -implicitDefEqProofs only [Option.bind_some]
      rw [k1]
      simp -implicitDefEqProofs only [Option.bind_some]
      rw [r2.2]
      simp -implicitDefEqProofs only [Option.bind_some]
      rw [hg, guardO_pos (apart_hp hap), i64_in _ (by omega), i64_succ (by omega), hst]) (fun st hst => by
      obtain ⟨s, sl, o, rfl, hacc⟩ := hst
      rw [List.take_length] at hacc ⊢
      refine ⟨_, ?_, s, sl, o, rfl, hacc⟩
      unfold share_amounts.loop1
      simp -implicitDefEqProofs only [rowSV_len]
      rw [decide_eq_false (by omega), cond_false]) FUEL 0 ((⟨.nil, 0, 0, false⟩, 0, 0), hL []) (by omega) ⟨_, [], none, rfl, Acc.nil⟩ (by have := fuel_gt (n := xs.length) (by omega); omega)
  rw [h1]
  simp -implicitDefEqProofs only [evs, reduceIte, rdRes, rdTT, rdTy, rdLT, Res.un, TT.un, Ty.un, LT.un, Leaf.un, Leaf.plain, LT.plain]
  rw [h2.read rfl]
  rfl
theorem rAlcohol_ok (xs : List (Int × Int)) (hl : xs.length ≤ 64) (hb : ∀ x ∈ xs, 0 ≤ x.2 ∧ x.2 ≤ 1000000000000000) : spileref22_AlcoholP xs = some (sumA xs) := by
  unfold spileref22_AlcoholP spileref22_Alcohol
  simp -implicitDefEqProofs only [evs, reduceIte, rdRes, rdTT, rdTy, rdLT, Res.un, TT.un, Ty.un, LT.un, Leaf.un, Leaf.plain, LT.plain]
  rw [iter_from (s0 := (((0 : Int), (0 : Int)), H.empty)) (f := spileref22_Alcohol.loop1 (rowSV false j2 xs)) (x := (.ex0 (sumA xs), H.empty)) (fun i => ((sumA (xs.take i), (i : Int)), H.empty)) rfl xs.length FUEL (fun i hi => by
    have hbd := take_bound hb i (by omega)
    have hx := hb _ (at2_mem hi)
    have hg1 : 0 ≤ (i : Int) ∧ (i : Int) < (xs.length : Int) := by omega
    unfold spileref22_Alcohol.loop1
    simp -implicitDefEqProofs only [Int.toNat_natCast, rowSV_len, guardO_pos hg1]
    rw [decide_eq_true hg1.2, cond_true, guardO_pos (nn_at2 hi), (rd_at2 hi).2]
    simp -implicitDefEqProofs only [Option.bind_some]
    rw [i64_in _ (by omega), i64_succ (by omega), sumA_take hi]) (by
    unfold spileref22_Alcohol.loop1
    simp -implicitDefEqProofs only [rowSV_len]
    rw [decide_eq_false (by omega), cond_false, List.take_length]) (fuel_gt (by omega))]
  simp -implicitDefEqProofs only [evs, reduceIte, rdRes, rdTT, rdTy, rdLT, Res.un, TT.un, Ty.un, LT.un, Leaf.un, Leaf.plain, LT.plain]
theorem rsCheck_step {xs : List (Int × Int)} {f : Bool} {h : H} {i : Nat} (hi : i < xs.length) (h32 : xs.length ≤ 32) :
    spileref23_Check.loop1 (rowSV f j2 xs) ((i : Int), h) = some (if sfault xs i = 0 then .more (((i + 1 : Nat) : Int), h) else .done (.ret (sfault xs i), h)) := by
  have hg1 : 0 ≤ (i : Int) ∧ (i : Int) < (xs.length : Int) := by omega
  unfold spileref23_Check.loop1
  simp -implicitDefEqProofs only [Int.toNat_natCast, rowSV_len, guardO_pos hg1, reserve0]
  rw [decide_eq_true hg1.2, cond_true, guardO_pos (nn_at2 hi), (rd_at2 hi).1, (rd_at2 hi).2]
  simp -implicitDefEqProofs only [Option.bind_some, guardO_pos (nn_at2 (f := f) hi)]
  rw [okS_code]
  unfold sfault
  cases hok : okS (at2 xs i) with
  | false =>
    simp -implicitDefEqProofs only [evs, reduceIte, rdRes, rdTT, rdTy, rdLT, Res.un, TT.un, Ty.un, LT.un, Leaf.un, Leaf.plain, LT.plain, Bool.false_eq_true]
    rw [if_neg (by simp)]
  | true =>
    simp -implicitDefEqProofs only [evs, reduceIte, rdRes, rdTT, rdTy, rdLT, Res.un, TT.un, Ty.un, LT.un, Leaf.un, Leaf.plain, LT.plain, Bool.false_eq_true]
    cases i with
    | zero =>
      rw [decide_eq_false (show ¬ (0 : Int) < ((0 : Nat) : Int) by omega)]
      simp -implicitDefEqProofs only [evs, reduceIte, rdRes, rdTT, rdTy, rdLT, Res.un, TT.un, Ty.un, LT.un, Leaf.un, Leaf.plain, LT.plain, Bool.false_eq_true]
      rw [if_neg (show ¬ ((0 : Nat) < 0 ∧ _) by omega), if_pos rfl, i64_succ (by omega)]
    | succ j =>
      have hj : ((j + 1 : Nat) : Int) - 1 = ((j : Nat) : Int) := by omega
      have hg2 : 0 ≤ (j : Int) ∧ (j : Int) < (xs.length : Int) := by omega
      rw [decide_eq_true (show (0 : Int) < ((j + 1 : Nat) : Int) by omega), hj, i64_in (j : Int) (by omega)]
      simp -implicitDefEqProofs only [evs, reduceIte, rdRes, rdTT, rdTy, rdLT, Res.un, TT.un, Ty.un, LT.un, Leaf.un, Leaf.plain, LT.plain, Int.toNat_natCast]
      rw [(rd_at2 hi).1]
      simp -implicitDefEqProofs only [evs, reduceIte, rdRes, rdTT, rdTy, rdLT, Res.un, TT.un, Ty.un, LT.un, Leaf.un, Leaf.plain, LT.plain]
      rw [guardO_pos hg2, guardO_pos (nn_at2 (by omega)), (rd_at2 (by omega)).1]
      simp -implicitDefEqProofs only [evs, reduceIte, rdRes, rdTT, rdTy, rdLT, Res.un, TT.un, Ty.un, LT.un, Leaf.un, Leaf.plain, LT.plain]
      rw [Nat.add_sub_cancel]
      by_cases hle : (at2 xs (j + 1)).1 ≤ (at2 xs j).1
      · rw [decide_eq_true hle]
        simp -implicitDefEqProofs only [evs, reduceIte, rdRes, rdTT, rdTy, rdLT, Res.un, TT.un, Ty.un, LT.un, Leaf.un, Leaf.plain, LT.plain]
        rw [if_pos (show (0 < j + 1 ∧ (at2 xs (j + 1)).1 ≤ (at2 xs j).1) from ⟨by omega, hle⟩), if_neg (by omega)]
      · rw [decide_eq_false hle]
        simp -implicitDefEqProofs only [evs, reduceIte, rdRes, rdTT, rdTy, rdLT, Res.un, TT.un, Ty.un, LT.un, Leaf.un, Leaf.plain, LT.plain, Bool.false_eq_true]
        rw [if_neg (show ¬ (0 < j + 1 ∧ (at2 xs (j + 1)).1 ≤ (at2 xs j).1) from fun h => hle h.2), if_pos rfl, i64_succ (by omega)]
theorem rSCheck_ok (xs : List (Int × Int)) (hl : xs.length < 2 ^ 63) : spileref23_CheckP xs = some (shareCheck xs) := by
  unfold spileref23_CheckP spileref23_Check shareCheck
  simp -implicitDefEqProofs only [evs, reduceIte, rdRes, rdTT, rdTy, rdLT, Res.un, TT.un, Ty.un, LT.un, Leaf.un, Leaf.plain, LT.plain]
  by_cases h32 : 32 < xs.length
  · rw [if_pos h32, decide_eq_true (show (32 : Int) < (xs.length : Int) by omega)]
    simp -implicitDefEqProofs only [evs, reduceIte, rdRes, rdTT, rdTy, rdLT, Res.un, TT.un, Ty.un, LT.un, Leaf.un, Leaf.plain, LT.plain]
  · rw [if_neg h32, decide_eq_false (show ¬ (32 : Int) < (xs.length : Int) by omega)]
    simp -implicitDefEqProofs only [evs, reduceIte, rdRes, rdTT, rdTy, rdLT, Res.un, TT.un, Ty.un, LT.un, Leaf.un, Leaf.plain, LT.plain]
    rcases first_cases (sfault xs) xs.length with ⟨h1, h2⟩ | ⟨m, h1, h2, h3, h4⟩
    · rw [h2, if_pos rfl]
      rw [iter_from (s0 := ((0 : Int), H.empty)) (f := spileref23_Check.loop1 (rowSV false j2 xs)) (x := (.ex0 (), H.empty)) (fun i => ((i : Int), H.empty)) rfl xs.length FUEL (fun i hi => by
        rw [rsCheck_step hi (by omega), if_pos (h1 i hi)]) (by
        unfold spileref23_Check.loop1
        simp -implicitDefEqProofs only [rowSV_len]
        rw [decide_eq_false (by omega), cond_false]) (fuel_gt (by omega))]
      simp -implicitDefEqProofs only [evs, reduceIte, rdRes, rdTT, rdTy, rdLT, Res.un, TT.un, Ty.un, LT.un, Leaf.un, Leaf.plain, LT.plain]
      have hb : ∀ x ∈ xs, 0 ≤ x.2 ∧ x.2 ≤ 1000000000000000 := by
        have := take_ok (xs := xs) (i := xs.length) (Nat.le_refl _) h1
        rw [List.take_length] at this
        exact this
      rw [rAlcohol_ok xs (by omega) hb]
      simp -implicitDefEqProofs only [evs, reduceIte, rdRes, rdTT, rdTy, rdLT, Res.un, TT.un, Ty.un, LT.un, Leaf.un, Leaf.plain, LT.plain]
      by_cases hs : 10737418240000 < sumA xs
      · rw [decide_eq_true hs, if_pos hs]; simp -implicitDefEqProofs only [evs, reduceIte, rdRes, rdTT, rdTy, rdLT, Res.un, TT.un, Ty.un, LT.un, Leaf.un, Leaf.plain, LT.plain]
      · rw [decide_eq_false hs, if_neg hs]; simp -implicitDefEqProofs only [evs, reduceIte, rdRes, rdTT, rdTy, rdLT, Res.un, TT.un, Ty.un, LT.un, Leaf.un, Leaf.plain, LT.plain]
    · rw [h4, if_neg h2]
      rw [iter_from (s0 := ((0 : Int), H.empty)) (f := spileref23_Check.loop1 (rowSV false j2 xs)) (x := (.ret (sfault xs m), H.empty)) (fun i => ((i : Int), H.empty)) rfl m FUEL (fun i hi => by
        rw [rsCheck_step (by omega) (by omega), if_pos (h3 i hi)]) (by
        rw [rsCheck_step h1 (by omega), if_neg h2]) (fuel_gt (by omega))]
      simp -implicitDefEqProofs only [evs, reduceIte, rdRes, rdTT, rdTy, rdLT, Res.un, TT.un, Ty.un, LT.un, Leaf.un, Leaf.plain, LT.plain]
def shareSum (xs : List (Int × Int)) : Int × Int := if shareCheck xs = 0 then (sumA xs, 0) else (0, 1)
theorem SSum_ok (xs : List (Int × Int)) (hl : xs.length < 2 ^ 63) : share_SumP xs = some (shareSum xs) := by
  unfold share_SumP share_Sum shareSum
  simp -implicitDefEqProofs only [evs, reduceIte, rdRes, rdTT, rdTy, rdLT, Res.un, TT.un, Ty.un, LT.un, Leaf.un, Leaf.plain, LT.plain]
  rw [SCheck_ok xs hl]
  simp -implicitDefEqProofs only [evs, reduceIte, rdRes, rdTT, rdTy, rdLT, Res.un, TT.un, Ty.un, LT.un, Leaf.un, Leaf.plain, LT.plain]
  by_cases h : shareCheck xs = 0
  · obtain ⟨h1, h2, h3, h4⟩ := shareCheck_ok h
    rw [decide_eq_true h, if_pos h]
    simp -implicitDefEqProofs only [evs, reduceIte, rdRes, rdTT, rdTy, rdLT, Res.un, TT.un, Ty.un, LT.un, Leaf.un, Leaf.plain, LT.plain]
    rw [amounts23_ok xs (by omega) (okS_bound h3)]
    simp -implicitDefEqProofs only [evs, reduceIte, rdRes, rdTT, rdTy, rdLT, Res.un, TT.un, Ty.un, LT.un, Leaf.un, Leaf.plain, LT.plain]
  · rw [decide_eq_false h, if_neg h]
    simp -implicitDefEqProofs only [evs, reduceIte, rdRes, rdTT, rdTy, rdLT, Res.un, TT.un, Ty.un, LT.un, Leaf.un, Leaf.plain, LT.plain]
theorem rSSum_ok (xs : List (Int × Int)) (hl : xs.length < 2 ^ 63) : spileref23_SumP xs = some (shareSum xs) := by
  unfold spileref23_SumP spileref23_Sum shareSum
  simp -implicitDefEqProofs only [evs, reduceIte, rdRes, rdTT, rdTy, rdLT, Res.un, TT.un, Ty.un, LT.un, Leaf.un, Leaf.plain, LT.plain]
  rw [rSCheck_ok xs hl]
  simp -implicitDefEqProofs only [evs, reduceIte, rdRes, rdTT, rdTy, rdLT, Res.un, TT.un, Ty.un, LT.un, Leaf.un, Leaf.plain, LT.plain]
  by_cases h : shareCheck xs = 0
  · obtain ⟨h1, h2, h3, h4⟩ := shareCheck_ok h
    rw [decide_eq_true h, if_pos h]
    simp -implicitDefEqProofs only [evs, reduceIte, rdRes, rdTT, rdTy, rdLT, Res.un, TT.un, Ty.un, LT.un, Leaf.un, Leaf.plain, LT.plain]
    rw [rAlcohol_ok xs (by omega) (okS_bound h3)]
    simp -implicitDefEqProofs only [evs, reduceIte, rdRes, rdTT, rdTy, rdLT, Res.un, TT.un, Ty.un, LT.un, Leaf.un, Leaf.plain, LT.plain]
  · rw [decide_eq_false h, if_neg h]
    simp -implicitDefEqProofs only [evs, reduceIte, rdRes, rdTT, rdTy, rdLT, Res.un, TT.un, Ty.un, LT.un, Leaf.un, Leaf.plain, LT.plain]
end Go.Proofs.Ytbcpdecgfdlaaaa
/- What the parts of a division are: their sum, their bounds; what Draw computes. Conditions: those of each law. -/
namespace Go.Proofs.Ytbcpdecgfdlaaaa
open Go Go.Proofs.Ytbcpdecgfdlaaaa.Ev
set_option linter.unusedVariables false
set_option linter.unusedSimpArgs false
set_option maxRecDepth 100000
set_option maxHeartbeats 4000000
theorem perm_sum {xs ys : List Int} (h : xs.Perm ys) : xs.sum = ys.sum := by
  induction h with
  | nil => rfl
  | cons x _ ih => simp only [List.sum_cons, ih]
  | swap x y _ => simp only [List.sum_cons]; omega
  | trans _ _ h1 h2 => rw [h1, h2]
theorem sum_set : ∀ (xs : List Int) (i : Nat) (y : Int), i < xs.length → (xs.set i y).sum = xs.sum - g xs i + y
  | [], _, _, h => by simp at h
  | x :: xs, 0, y, _ => by simp [g]; omega
  | x :: xs, i + 1, y, h => by
    have := sum_set xs i y (by simpa using h)
    simp only [List.set_cons_succ, List.sum_cons, this]
    simp [g]
    omega
theorem sum_split_le : ∀ (xs : List Int) (p : Nat) (M : Int), 0 ≤ M → (∀ x ∈ xs, x ≤ M) → (∀ q, p ≤ q → q < xs.length → g xs q ≤ 0) → xs.sum ≤ p * M
  | [], p, M, h, _, _ => by simpa using Int.mul_nonneg (by omega) h
  | x :: xs, 0, M, h, h1, h2 => by
    have k1 := h2 0 (by omega) (by simp)
    have k2 := sum_split_le xs 0 M h (fun y hy => h1 y (by simp [hy])) (fun q _ hq => by have := h2 (q + 1) (by omega) (by simpa using hq); simpa [g] using this)
    simp only [g, List.getElem?_cons_zero, Option.getD_some] at k1
    simp only [List.sum_cons]
    omega
  | x :: xs, p + 1, M, h, h1, h2 => by
    have k1 := h1 x (by simp)
    have k2 := sum_split_le xs p M h (fun y hy => h1 y (by simp [hy])) (fun q hp hq => by have := h2 (q + 1) (by omega) (by simpa using hq); simpa [g] using this)
    simp only [List.sum_cons]
    rw [Int.natCast_add, Int.natCast_one, Int.add_mul, Int.one_mul]
    omega
theorem bump_sum {qs rs : List Int} (hl : rs.length = qs.length) : ∀ (k : Nat), k ≤ qs.length → (bump qs (ord rs) k).sum = qs.sum + k
  | 0, _ => by rw [bump_zero]; simp
  | k + 1, h => by
    have hr := ord_range (rs := rs) (p := k) (by omega)
    obtain ⟨x, hx⟩ : ∃ x : Nat, g (ord rs) k = (x : Int) := ⟨(g (ord rs) k).toNat, by omega⟩
    rw [← bump_succ ord_nodup (by rw [ord_length]; omega) hx (by omega), sum_set _ _ _ (by rw [bump_length]; omega), bump_sum hl k (by omega)]
    omega
theorem divParts_length {a S : Int} {ws : List Int} : (divParts a S ws).length = ws.length := by unfold divParts; rw [bump_length, quos_length]
theorem divParts_sum {a : Int} {ws : List Int} (hS : 0 < ws.sum) (hl : 0 < ws.length) : (divParts a ws.sum ws).sum = a := by
  have h := left_bound (a := a) hS hl
  unfold divParts
  rw [bump_sum (by rw [rems_length, quos_length]) _ (by rw [quos_length]; omega)]
  omega
theorem g_rems {a S : Int} {ws : List Int} {k : Nat} (h : k < ws.length) : g (rems a S ws) k = a * g ws k % S := g_map h
theorem g_quos {a S : Int} {ws : List Int} {k : Nat} (h : k < ws.length) : g (quos a S ws) k = a * g ws k / S := g_map h
theorem map_iota (rs : List Int) : (iota rs.length).map (fun x => g rs x.toNat) = rs := g_ext (by simp [iota_length]) fun k hk => by
  rw [List.length_map, iota_length] at hk
  rw [g_map (by rw [iota_length]; exact hk), g_iota hk, Int.toNat_natCast]
/-- Whoever gets one more has a rest. -/
theorem rem_pos {a : Int} {ws : List Int} {p : Nat} (hS : 0 < ws.sum) (hl : 0 < ws.length) (hp : (p : Int) < a - (quos a ws.sum ws).sum) : 0 < g (rems a ws.sum ws) (g (ord (rems a ws.sum ws)) p).toNat := by
  have hb := left_bound (a := a) hS hl
  have hs := quo_sum a ws.sum ws
  have hrl := rems_length (a := a) (S := ws.sum) (ws := ws)
  generalize hrs : rems a ws.sum ws = rs at *
  generalize (quos a ws.sum ws).sum = q at *
  have hr0 : ∀ k, k < rs.length → 0 ≤ g rs k ∧ g rs k ≤ ws.sum - 1 := fun k hk => by
    rw [← hrs, g_rems (by omega)]
    have k1 := Int.emod_nonneg (a * g ws k) (b := ws.sum) (by omega)
    have k2 := Int.emod_lt_of_pos (a * g ws k) hS
    omega
  have hpo := ord_range (rs := rs) (p := p) (by omega)
  refine Int.not_le.1 fun hle => ?_
  have hsum : rs.sum = ((ord rs).map fun x => g rs x.toNat).sum := by
    rw [perm_sum (ord_perm.map _), map_iota]
  have hle2 := sum_split_le ((ord rs).map fun x => g rs x.toNat) p (ws.sum - 1) (by omega) (fun x hx => by
      obtain ⟨y, hy, rfl⟩ := List.mem_map.1 hx
      have := mem_iota.1 (ord_perm.mem_iff.1 hy)
      exact (hr0 _ (by omega)).2) (fun j hj hjl => by
      rw [List.length_map, ord_length] at hjl
      rw [g_map (by rw [ord_length]; exact hjl)]
      by_cases e : j = p
      · subst e; exact hle
      · have := ord_lt (rs := rs) (show p < j by omega) hjl
        unfold ltR at this
        omega)
  rw [← hsum] at hle2
  have e1 : rs.sum = ws.sum * (a - q) := by rw [Int.mul_sub, Int.mul_comm ws.sum a]; omega
  have k1 : ws.sum * (p + 1) ≤ ws.sum * (a - q) := Int.mul_le_mul_of_nonneg_left (by omega) (by omega)
  rw [Int.mul_add, Int.mul_one, Int.mul_comm] at k1
  rw [Int.mul_sub, Int.mul_one] at hle2
  omega
theorem part_bound {a : Int} {ws : List Int} {i : Nat} (ha : 0 ≤ a) (hS : 0 < ws.sum) (haS : a ≤ ws.sum) (hw : ∀ w ∈ ws, 0 ≤ w) (hi : i < ws.length) : 0 ≤ g (divParts a ws.sum ws) i ∧ g (divParts a ws.sum ws) i ≤ g ws i := by
  have hl : 0 < ws.length := by omega
  have hb := left_bound (a := a) hS hl
  have hwi := hw _ (g_mem hi)
  have e1 := Int.mul_ediv_add_emod (a * g ws i) ws.sum
  have e2 := Int.emod_nonneg (a * g ws i) (b := ws.sum) (by omega)
  have e3 : a * g ws i ≤ ws.sum * g ws i := Int.mul_le_mul_of_nonneg_right haS hwi
  have e0 : 0 ≤ a * g ws i / ws.sum := Int.ediv_nonneg (Int.mul_nonneg ha hwi) (by omega)
  have hlt : (i : Int) ∈ (ord (rems a ws.sum ws)).take (a - (quos a ws.sum ws).sum).toNat → 0 < a * g ws i % ws.sum := fun h => by
    obtain ⟨p, hp, e⟩ := List.getElem_of_mem h
    rw [List.getElem_take] at e
    rw [List.length_take, ord_length, rems_length] at hp
    have := rem_pos (a := a) (p := p) hS hl (by omega)
    rw [g_eq (xs := ord _) (by rw [ord_length, rems_length]; omega), e, Int.toNat_natCast, g_rems hi] at this
    exact this
  unfold divParts
  rw [g_bump (by rw [quos_length]; exact hi), g_quos hi]
  generalize a * g ws i / ws.sum = q at *
  generalize a * g ws i % ws.sum = r at *
  by_cases h : (i : Int) ∈ (ord (rems a ws.sum ws)).take (a - (quos a ws.sum ws).sum).toNat
  · rw [if_pos h]
    have := hlt h
    have : ws.sum * q < ws.sum * g ws i := by omega
    have := Int.lt_of_mul_lt_mul_left this (by omega)
    omega
  · rw [if_neg h]
    have : ws.sum * q ≤ ws.sum * g ws i := by omega
    have := Int.le_of_mul_le_mul_left this hS
    omega
theorem eq_of_sum : ∀ {xs ys : List Int}, xs.length = ys.length → (∀ i, i < ys.length → g xs i ≤ g ys i) → xs.sum = ys.sum → xs = ys
  | [], [], _, _, _ => rfl
  | [], y :: ys, h, _, _ => by simp at h
  | x :: xs, [], h, _, _ => by simp at h
  | x :: xs, y :: ys, hl, h, hs => by
    have hle : ∀ {xs ys : List Int}, xs.length = ys.length → (∀ i, i < ys.length → g xs i ≤ g ys i) → xs.sum ≤ ys.sum := by
      intro xs
      induction xs with
      | nil => intro ys hl _; rw [List.length_nil] at hl; rw [List.eq_nil_of_length_eq_zero hl.symm]; exact Int.le_refl _
      | cons x xs ih =>
        intro ys hl h
        cases ys with
        | nil => simp at hl
        | cons y ys =>
          have h0 := h 0 (by simp)
          have h1 := ih (ys := ys) (by simpa using hl) (fun i hi => by have := h (i + 1) (by simpa using hi); simpa [g] using this)
          simp only [g, List.getElem?_cons_zero, Option.getD_some] at h0
          simp only [List.sum_cons]
          omega
    have hl' : xs.length = ys.length := by simpa using hl
    have ht : ∀ i, i < ys.length → g xs i ≤ g ys i := fun i hi => by have := h (i + 1) (by simpa using hi); simpa [g] using this
    have h0 := h 0 (by simp)
    have h1 := hle hl' ht
    simp only [g, List.getElem?_cons_zero, Option.getD_some] at h0
    simp only [List.sum_cons] at hs
    rw [show x = y by omega, eq_of_sum hl' ht (by omega)]
theorem parts_full {ws : List Int} (hS : 0 < ws.sum) (hl : 0 < ws.length) (hw : ∀ w ∈ ws, 0 ≤ w) : divParts ws.sum ws.sum ws = ws :=
  eq_of_sum divParts_length (fun i hi => (part_bound (by omega) hS (Int.le_refl _) hw hi).2) (divParts_sum hS hl)
/-- What is left of some weights, up to a place. -/
def less (ws ps : List Int) (k : Nat) : List Int := (List.range ws.length).map fun i : Nat => if i < k then g ws i - g ps i else g ws i
theorem less_length {ws ps : List Int} {k : Nat} : (less ws ps k).length = ws.length := by simp [less]
theorem g_less {ws ps : List Int} {k i : Nat} (h : i < ws.length) : g (less ws ps k) i = if i < k then g ws i - g ps i else g ws i := g_ofFn h
theorem less_zero {ws ps : List Int} : less ws ps 0 = ws := g_ext less_length fun k hk => by
  rw [less_length] at hk
  rw [g_less hk]; simp
theorem less_succ {ws ps : List Int} {k : Nat} (hk : k < ws.length) : (less ws ps k).set k (g ws k - g ps k) = less ws ps (k + 1) := by
  refine g_ext (by simp [less_length]) fun i hi => ?_
  rw [List.length_set, less_length] at hi
  rw [g_set (by rw [less_length]; exact hk), g_less hi, g_less hi]
  by_cases e : i = k
  · subst e; rw [if_pos rfl, if_pos (by omega)]
  · rw [if_neg e]
    by_cases h : i < k
    · rw [if_pos h, if_pos (by omega)]
    · rw [if_neg h, if_neg (by omega)]
def drawP (ws : List Int) (a : Int) : List Int × List Int × Int :=
  if (weighOf a ws).2 = 0 then (if (weighOf a ws).1 < a then ([], [], 17) else (divParts a (weighOf a ws).1 ws, less ws (divParts a (weighOf a ws).1 ws) ws.length, 0)) else ([], [], (weighOf a ws).2)
theorem draw_loop {ws ps : List Int} {n : Nat} (hw : ws.length = n) (hp : ps.length = n) (hn : n ≤ 64) (h : ∀ i, i < n → 0 ≤ g ps i ∧ g ps i ≤ g ws i ∧ g ws i ≤ 128849018880000) :
    iter FUEL (proportion_Draw.loop1 ps (ownSV 0 [.int .i64] n)) (0, hL [cellI ws]) = some (.ex0 (), hL [cellI (less ws ps n)]) := by
  have hrd : ∀ {r : List Int} {k : Nat}, r.length = n → k < n → rdT (.leaf (.int .i64)) (hL [cellI r]) (.hp 0 n (k * 1)) = some (g r k) := fun {r k} hr hk => by
    rw [rd_ownL0 (ls := [.int .i64]) (xs := r) (w := 1) (e := 1) rfl (by simp [hr]) rfl (by omega), g_some (by omega)]
    simp [LT.lo, Leaf.lo, Leaf.pack]
  refine (iter_from (f := proportion_Draw.loop1 ps (ownSV 0 [.int .i64] n)) (fun i => ((i : Int), hL [cellI (less ws ps i)])) ?_ n FUEL (fun i hi => ?_) ?_ (fuel_gt (by omega)))
  · rw [less_zero]; rfl
  · have hb := h i hi
    have hlp := List.getElem?_eq_getElem (l := ps) (i := i) (by omega)
    have hgp := g_eq (xs := ps) (k := i) (by omega)
    have d := hrd (r := less ws ps i) (k := i) (by rw [less_length, hw]) hi
    rw [g_less (by omega), if_neg (by omega)] at d
    have dw := wrs_ownL (ls := [.int .i64]) (xs := less ws ps i) (sl := [cellI (less ws ps i)]) (id := 0) (i := i) (w := 1) (e := 1) (n := n) (x := g ws i - g ps i) (vs := [.int .i64 (g ws i - g ps i)]) rfl (by simp [less_length, hw]) rfl (by rw [less_length]; omega) rfl
    rw [less_succ (by omega)] at dw
    unfold proportion_Draw.loop1
    simp -implicitDefEqProofs only [Int.toNat_natCast, ownSV_len, ownSV_ptr, List.length_cons, List.length_nil, Nat.zero_add, Nat.mul_one]
    rw [Nat.mul_one] at d dw
    rw [decide_eq_true (show (i : Int) < (ps.length : Int) by omega), cond_true, guardO_pos (show 0 ≤ (i : Int) ∧ (i : Int) < (ps.length : Int) by omega)]
    have hr := rd_rowI (f := true) (k := .i64) (xs := ps) (i := i) (h := hL [cellI (less ws ps i)])
    rw [Nat.mul_one] at hr
    rw [hr, hlp]
    simp -implicitDefEqProofs only [Option.bind_some]
    rw [guardO_pos (by omega), add_hp, d]
    simp -implicitDefEqProofs only [Option.bind_some]
    rw [guardO_pos (by omega), ← hgp, i64_in _ (by omega), dw]
    simp -implicitDefEqProofs only [Option.bind_some]
    rw [i64_succ (by omega)]
    rfl
  · unfold proportion_Draw.loop1
    simp -implicitDefEqProofs only [ownSV_len]
    rw [decide_eq_false (by omega), cond_false]
theorem PDraw_ok (a : Int) (ws : List Int) (hl : ws.length < 2 ^ 63) : proportion_DrawP ws a = some (drawP ws a) := by
  unfold proportion_DrawP proportion_Draw drawP
  simp -implicitDefEqProofs only [evs, reduceIte, rdRes, rdTT, rdTy, rdLT, Res.un, TT.un, Ty.un, LT.un, Leaf.un, Leaf.plain, LT.plain, weigh_ok a ws hl]
  by_cases he : (weighOf a ws).2 = 0
  · rw [if_pos he, decide_eq_true he]
    obtain ⟨ha, h0, h64, hall, hSa, hne, h1⟩ := weighOf_ok he
    have hd : proportion_DivideP a ws = some (divParts a ws.sum ws, 0) := by rw [Divide_ok a ws hl, divideOf, if_pos he, h1]
    rw [h1]
    have hS' := isAmt_iff.1 hSa
    have ha' := isAmt_iff.1 ha
    simp -implicitDefEqProofs only [evs, reduceIte, rdRes, rdTT, rdTy, rdLT, Res.un, TT.un, Ty.un, LT.un, Leaf.un, Leaf.plain, LT.plain]
    by_cases hlt : ws.sum < a
    · rw [if_pos hlt, decide_eq_true hlt]
      simp -implicitDefEqProofs only [evs, reduceIte, rdRes, rdTT, rdTy, rdLT, Res.un, TT.un, Ty.un, LT.un, Leaf.un, Leaf.plain, LT.plain]
    · rw [if_neg hlt, decide_eq_false hlt]
      simp -implicitDefEqProofs only [evs, reduceIte, rdRes, rdTT, rdTy, rdLT, Res.un, TT.un, Ty.un, LT.un, Leaf.un, Leaf.plain, LT.plain]
      rw [hd]
      simp -implicitDefEqProofs only [evs, reduceIte, rdRes, rdTT, rdTy, rdLT, Res.un, TT.un, Ty.un, LT.un, Leaf.un, Leaf.plain, LT.plain]
      rw [hL_empty, cloneX_row (ls := [.int .i64]) (xs := ws) (w := 1) rfl (by omega) rfl (by omega) (by omega), if_neg (by omega), if_neg (by omega)]
      simp -implicitDefEqProofs only [Option.bind_some, List.nil_append, List.length_nil]
      have hb : ∀ i, i < ws.length → 0 ≤ g (divParts a ws.sum ws) i ∧ g (divParts a ws.sum ws) i ≤ g ws i ∧ g ws i ≤ 128849018880000 := fun i hi => by
        have k1 := part_bound (a := a) ha'.1 (by omega) (by omega) (fun w hw => (all_amt hall w hw).1) hi
        have k2 := all_amt hall _ (g_mem hi)
        omega
      have hloop := draw_loop (n := ws.length) (ws := ws) (ps := divParts a ws.sum ws) rfl divParts_length h64 hb
      unfold cellI at hloop
      rw [hloop]
      simp -implicitDefEqProofs only [evs, reduceIte, rdRes, rdTT, rdTy, rdLT, Res.un, TT.un, Ty.un, LT.un, Leaf.un, Leaf.plain, LT.plain]
      have hread := rdRow_own (lp := false) (ls := [.int .i64]) (xs := less ws (divParts a ws.sum ws) ws.length) (sl := [cellI (less ws (divParts a ws.sum ws) ws.length)]) (id := 0) (e := 1) (n := ws.length * 1) (c := ws.length) (t := true) rfl (by rw [less_length]; simp) rfl
      rw [less_length] at hread
      unfold cellI at hread
      unfold ownSV
      simp -implicitDefEqProofs only [List.length_cons, List.length_nil, Nat.zero_add]
      rw [hread, show (⟨(rowSV true [.int .i64] (divParts a ws.sum ws)).a, (divParts a ws.sum ws).length, (divParts a ws.sum ws).length, true⟩ : SV) = rowSV true [.int .i64] (divParts a ws.sum ws) from rfl]
      simp -implicitDefEqProofs only [evs, reduceIte, rdRes, rdTT, rdTy, rdLT, Res.un, TT.un, Ty.un, LT.un, Leaf.un, Leaf.plain, LT.plain]
  · rw [if_neg he, decide_eq_false he]
    simp -implicitDefEqProofs only [evs, reduceIte, rdRes, rdTT, rdTy, rdLT, Res.un, TT.un, Ty.un, LT.un, Leaf.un, Leaf.plain, LT.plain]
end Go.Proofs.Ytbcpdecgfdlaaaa
/- What Draw of the reference of proportion, share.with, Take, Parts and those of the reference compute. Conditions: those of each law. -/
namespace Go.Proofs.Ytbcpdecgfdlaaaa
open Go Go.Proofs.Ytbcpdecgfdlaaaa.Ev
set_option linter.unusedVariables false
set_option linter.unusedSimpArgs false
set_option maxRecDepth 100000
set_option maxHeartbeats 4000000
theorem less_take {ws ps : List Int} {i : Nat} (h : i < ws.length) : (less ws ps ws.length).take (i + 1) = (less ws ps ws.length).take i ++ [g ws i - g ps i] := by
  have hl : i < (less ws ps ws.length).length := by rw [less_length]; exact h
  rw [← List.take_append_getElem hl]
  congr 1
  have := g_less (ws := ws) (ps := ps) (k := ws.length) h
  rw [if_pos h, g_eq hl] at this
  rw [this]
theorem rPDraw_ok (a : Int) (ws : List Int) (hl : ws.length < 2 ^ 63) : spileref01_DrawP ws a = some (drawP ws a) := by
  unfold spileref01_DrawP spileref01_Draw drawP
  simp -implicitDefEqProofs only [evs, reduceIte, rdRes, rdTT, rdTy, rdLT, Res.un, TT.un, Ty.un, LT.un, Leaf.un, Leaf.plain, LT.plain]
  rw [rweigh_ok a ws hl]
  have hdo : divideOf a ws = if (weighOf a ws).2 = 0 then (divParts a (weighOf a ws).1 ws, 0) else ([], (weighOf a ws).2) := rfl
  by_cases he : (weighOf a ws).2 = 0
  · obtain ⟨ha, h0, h64, hall, hSa, hne, h1⟩ := weighOf_ok he
    have ha' := isAmt_iff.1 ha
    have hS' := isAmt_iff.1 hSa
    rw [if_pos he]
    simp -implicitDefEqProofs only [evs, reduceIte, rdRes, rdTT, rdTy, rdLT, Res.un, TT.un, Ty.un, LT.un, Leaf.un, Leaf.plain, LT.plain]
    rw [decide_eq_true he]
    simp -implicitDefEqProofs only [evs, reduceIte, rdRes, rdTT, rdTy, rdLT, Res.un, TT.un, Ty.un, LT.un, Leaf.un, Leaf.plain, LT.plain]
    rw [h1]
    by_cases hlt : ws.sum < a
    · rw [decide_eq_true hlt, if_pos hlt]
      simp -implicitDefEqProofs only [evs, reduceIte, rdRes, rdTT, rdTy, rdLT, Res.un, TT.un, Ty.un, LT.un, Leaf.un, Leaf.plain, LT.plain]
    · rw [decide_eq_false hlt, if_neg hlt]
      simp -implicitDefEqProofs only [evs, reduceIte, rdRes, rdTT, rdTy, rdLT, Res.un, TT.un, Ty.un, LT.un, Leaf.un, Leaf.plain, LT.plain]
      rw [rDivide_ok a ws hl, hdo, if_pos he, h1]
      simp -implicitDefEqProofs only [evs, reduceIte, rdRes, rdTT, rdTy, rdLT, Res.un, TT.un, Ty.un, LT.un, Leaf.un, Leaf.plain, LT.plain]
      have hpl := divParts_length (a := a) (S := ws.sum) (ws := ws)
      have hpb := fun i hi => part_bound (a := a) (ws := ws) (i := i) ha'.1 (by omega) (by omega) (fun w hw => (all_amt hall w hw).1) hi
      generalize divParts a ws.sum ws = ps at *
      obtain ⟨x, k1, s, sl, o, rfl, k2⟩ := iter_upto (f := spileref01_Draw.loop1 (rowSV false [.int .i64] ws) ps) (fun i st => ∃ s sl o, st = ((s, (i : Int)), hL sl) ∧ Acc sl [.int .i64] ((less ws ps ws.length).take i) s o)
        (fun x => ∃ s sl o, x = (.ex0 s, hL sl) ∧ Acc sl [.int .i64] (less ws ps ws.length) s o) ws.length (fun i st hi hst => by
          obtain ⟨s, sl, o, rfl, hacc⟩ := hst
          have hb := hpb i hi
          have hw := all_amt hall _ (g_mem hi)
          have hg1 : 0 ≤ (i : Int) ∧ (i : Int) < (ws.length : Int) := by omega
          have hg2 : 0 ≤ (i : Int) ∧ (i : Int) < (ps.length : Int) := by omega
          obtain ⟨s', sl', id, j1, j2, j3, j4, j5⟩ := hacc.append (b := 8) (w := 1) (x := g ws i - g ps i) (vs := [.int .i64 (g ws i - g ps i)]) rfl (by omega) (by rw [List.length_take, less_length]; omega) (by omega) rfl
          refine ⟨((s', ((i + 1 : Nat) : Int)), hL sl'), ?_, s', sl', some id, rfl, by rw [less_take hi]; exact j2⟩
          unfold spileref01_Draw.loop1
          simp -implicitDefEqProofs only [Int.toNat_natCast, rowSV_len, reserve0, guardO_pos hg1, guardO_pos hg2, rd_rowI, g_some (xs := ws) hi, g_some (xs := ps) (show i < ps.length by omega), Option.bind_some]
          rw [decide_eq_true hg1.2, cond_true, i64_in _ (by omega), j1]
          simp -implicitDefEqProofs only [Option.bind_some]
          rw [i64_succ (by omega)]) (fun st hst => by
          obtain ⟨s, sl, o, rfl, hacc⟩ := hst
          rw [List.take_of_length_le (by rw [less_length]; exact Nat.le_refl _)] at hacc
          refine ⟨_, ?_, s, sl, o, rfl, hacc⟩
          unfold spileref01_Draw.loop1
          simp -implicitDefEqProofs only [rowSV_len]
          rw [decide_eq_false (by omega), cond_false]) FUEL 0 ((⟨.nil, 0, 0, false⟩, 0), hL []) (by omega) ⟨_, [], none, rfl, Acc.nil⟩ (by have := fuel_gt (n := ws.length) (by omega); omega)
      rw [hL_empty, k1]
      simp -implicitDefEqProofs only [evs, reduceIte, rdRes, rdTT, rdTy, rdLT, Res.un, TT.un, Ty.un, LT.un, Leaf.un, Leaf.plain, LT.plain]
      rw [k2.read rfl, show (⟨(rowSV true [.int .i64] ps).a, ps.length, ps.length, true⟩ : SV) = rowSV true [.int .i64] ps from rfl, rdRow_res rfl]
      rfl
  · rw [if_neg he]
    simp -implicitDefEqProofs only [evs, reduceIte, rdRes, rdTT, rdTy, rdLT, Res.un, TT.un, Ty.un, LT.un, Leaf.un, Leaf.plain, LT.plain]
    rw [decide_eq_false he]
    simp -implicitDefEqProofs only [evs, reduceIte, rdRes, rdTT, rdTy, rdLT, Res.un, TT.un, Ty.un, LT.un, Leaf.un, Leaf.plain, LT.plain]
/-- Shares with other amounts. -/
def withL (xs : List (Int × Int)) (ns : List Int) : List (Int × Int) := (xs.zip ns).filterMap fun p => if 0 < p.2 then some (p.1.1, p.2) else none
def withTo (xs : List (Int × Int)) (ns : List Int) (i : Nat) : List (Int × Int) := ((xs.zip ns).take i).filterMap fun p => if 0 < p.2 then some (p.1.1, p.2) else none
theorem withTo_succ {xs : List (Int × Int)} {ns : List Int} {i : Nat} (h : i < xs.length) (hn : i < ns.length) : withTo xs ns (i + 1) = if 0 < g ns i then withTo xs ns i ++ [((at2 xs i).1, g ns i)] else withTo xs ns i := by
  have hz : i < (xs.zip ns).length := by rw [List.length_zip]; omega
  obtain ⟨h1, h2⟩ := List.getElem?_eq_some_iff.1 (at2_some h)
  unfold withTo
  rw [← List.take_append_getElem hz, List.filterMap_append, List.getElem_zip, h2, ← g_eq hn]
  by_cases hp : 0 < g ns i
  · simp [hp]
  · simp [hp]
theorem withTo_length {xs : List (Int × Int)} {ns : List Int} {i : Nat} : (withTo xs ns i).length ≤ i := by
  unfold withTo
  exact Nat.le_trans (List.length_filterMap_le ..) (by rw [List.length_take]; omega)
theorem with_ok (xs : List (Int × Int)) (ns : List Int) (hl : xs.length ≤ 64) (hn : ns.length = xs.length) : share_withP xs ns = some (withL xs ns) := by
  unfold share_withP share_with
  simp -implicitDefEqProofs only [evs, reduceIte, rdRes, rdTT, rdTy, rdLT, Res.un, TT.un, Ty.un, LT.un, Leaf.un, Leaf.plain, LT.plain, hL_empty]
  obtain ⟨x, h1, s, sl, o, rfl, h2⟩ := iter_upto (f := share_with.loop1 (rowSV false j2 xs) (rowSV false [.int .i64] ns)) (fun i st => ∃ s sl o, st = ((s, (i : Int)), hL sl) ∧ Acc sl j2 (withTo xs ns i) s o)
    (fun x => ∃ s sl o, x = (.ex0 s, hL sl) ∧ Acc sl j2 (withL xs ns) s o) xs.length (fun i st hi hst => by
      obtain ⟨s, sl, o, rfl, hacc⟩ := hst
      have hget := at2_some hi
      have hrow : (sl ++ [c2 (at2 xs i)])[sl.length]? = some (c2 (at2 xs i)) := by simp
      have nw := new_c2 (sl := sl) (x := at2 xs i)
      have r1 := rd_c2 hrow
      have hg1 : 0 ≤ (i : Int) ∧ (i : Int) < (xs.length : Int) := by omega
      have hg2 : 0 ≤ (i : Int) ∧ (i : Int) < (ns.length : Int) := by omega
      have hacc2 : Acc (sl ++ [c2 (at2 xs i)]) j2 (withTo xs ns i) s o := hacc.more
      have hwl := withTo_length (xs := xs) (ns := ns) (i := i)
      have hsucc := withTo_succ (xs := xs) (ns := ns) hi (by omega)
      obtain ⟨s', sl', id, k1, k2, k3, k4, k5⟩ := hacc2.append (b := 16) (w := 2) (x := ((at2 xs i).1, g ns i)) (vs := [.int .i64 (at2 xs i).1, .int .i64 (g ns i)]) rfl (by omega) (by omega) (by omega) rfl
      by_cases hp : 0 < g ns i
      · rw [if_pos hp] at hsucc
        refine ⟨((s', ((i + 1 : Nat) : Int)), hL sl'), ?_, s', sl', some id, rfl, by rw [hsucc]; exact k2⟩
        unfold share_with.loop1
        simp -implicitDefEqProofs only [Int.toNat_natCast, rowSV_len, guardO_pos hg1, guardO_pos hg2, rd_rowI, g_some (xs := ns) (show i < ns.length by omega)]
        rw [decide_eq_true hg1.2, cond_true, rds_rowF (ls := j2) (w := 2) rfl (by omega) rfl, hget]
        simp -implicitDefEqProofs only [Option.bind_some, hL_new, hL_next]
        rw [nw]
        simp -implicitDefEqProofs only [Option.bind_some, reserve0]
        rw [decide_eq_true hp]
        simp -implicitDefEqProofs only [evs, reduceIte, rdRes, rdTT, rdTy, rdLT, Res.un, TT.un, Ty.un, LT.un, Leaf.un, Leaf.plain, LT.plain]
        rw [r1.1]
        simp -implicitDefEqProofs only [evs, reduceIte, rdRes, rdTT, rdTy, rdLT, Res.un, TT.un, Ty.un, LT.un, Leaf.un, Leaf.plain, LT.plain]
        rw [k1]
        simp -implicitDefEqProofs only [evs, reduceIte, rdRes, rdTT, rdTy, rdLT, Res.un, TT.un, Ty.un, LT.un, Leaf.un, Leaf.plain, LT.plain]
        rw [i64_succ (by omega)]
      · rw [if_neg hp] at hsucc
        refine ⟨((s, ((i + 1 : Nat) : Int)), hL (sl ++ [c2 (at2 xs i)])), ?_, s, _, o, rfl, by rw [hsucc]; exact hacc2⟩
        unfold share_with.loop1
        simp -implicitDefEqProofs only [Int.toNat_natCast, rowSV_len, guardO_pos hg1, guardO_pos hg2, rd_rowI, g_some (xs := ns) (show i < ns.length by omega)]
        rw [decide_eq_true hg1.2, cond_true, rds_rowF (ls := j2) (w := 2) rfl (by omega) rfl, hget]
        simp -implicitDefEqProofs only [Option.bind_some, hL_new, hL_next]
        rw [nw]
        simp -implicitDefEqProofs only [Option.bind_some, reserve0]
        rw [decide_eq_false hp]
        simp -implicitDefEqProofs only [evs, reduceIte, rdRes, rdTT, rdTy, rdLT, Res.un, TT.un, Ty.un, LT.un, Leaf.un, Leaf.plain, LT.plain]
        rw [i64_succ (by omega)]) (fun st hst => by
      obtain ⟨s, sl, o, rfl, hacc⟩ := hst
      have : withTo xs ns xs.length = withL xs ns := by
        unfold withTo withL
        rw [List.take_of_length_le (by rw [List.length_zip]; omega)]
      rw [this] at hacc
      refine ⟨_, ?_, s, sl, o, rfl, hacc⟩
      unfold share_with.loop1
      simp -implicitDefEqProofs only [rowSV_len]
      rw [decide_eq_false (by omega), cond_false]) FUEL 0 ((⟨.nil, 0, 0, false⟩, 0), hL []) (by omega) ⟨_, [], none, rfl, Acc.nil⟩ (by have := fuel_gt (n := xs.length) (by omega); omega)
  rw [h1]
  simp -implicitDefEqProofs only [evs, reduceIte, rdRes, rdTT, rdTy, rdLT, Res.un, TT.un, Ty.un, LT.un, Leaf.un, Leaf.plain, LT.plain]
  rw [h2.read rfl]
theorem rwith_ok (xs : List (Int × Int)) (ns : List Int) (hl : xs.length ≤ 64) (hn : ns.length = xs.length) : spileref23_withP xs ns = some (withL xs ns) := by
  unfold spileref23_withP spileref23_with
  simp -implicitDefEqProofs only [evs, reduceIte, rdRes, rdTT, rdTy, rdLT, Res.un, TT.un, Ty.un, LT.un, Leaf.un, Leaf.plain, LT.plain, hL_empty]
  obtain ⟨x, h1, s, sl, o, rfl, h2⟩ := iter_upto (f := spileref23_with.loop1 (rowSV false j2 xs) (rowSV false [.int .i64] ns)) (fun i st => ∃ s sl o, st = ((s, (i : Int)), hL sl) ∧ Acc sl j2 (withTo xs ns i) s o)
    (fun x => ∃ s sl o, x = (.ex0 s, hL sl) ∧ Acc sl j2 (withL xs ns) s o) xs.length (fun i st hi hst => by
      obtain ⟨s, sl, o, rfl, hacc⟩ := hst
      have hg1 : 0 ≤ (i : Int) ∧ (i : Int) < (xs.length : Int) := by omega
      have hg2 : 0 ≤ (i : Int) ∧ (i : Int) < (ns.length : Int) := by omega
      have hwl := withTo_length (xs := xs) (ns := ns) (i := i)
      have hsucc := withTo_succ (xs := xs) (ns := ns) hi (by omega)
      obtain ⟨s', sl', id, k1, k2, k3, k4, k5⟩ := hacc.append (b := 16) (w := 2) (x := ((at2 xs i).1, g ns i)) (vs := [.int .i64 (at2 xs i).1, .int .i64 (g ns i)]) rfl (by omega) (by omega) (by omega) rfl
      by_cases hp : 0 < g ns i
      · rw [if_pos hp] at hsucc
        refine ⟨((s', ((i + 1 : Nat) : Int)), hL sl'), ?_, s', sl', some id, rfl, by rw [hsucc]; exact k2⟩
        unfold spileref23_with.loop1
        simp -implicitDefEqProofs only [Int.toNat_natCast, rowSV_len, guardO_pos hg1, guardO_pos hg2, rd_rowI, g_some (xs := ns) (show i < ns.length by omega), reserve0, Option.bind_some]
        rw [decide_eq_true hg1.2, cond_true, decide_eq_true hp]
        simp -implicitDefEqProofs only [evs, reduceIte, rdRes, rdTT, rdTy, rdLT, Res.un, TT.un, Ty.un, LT.un, Leaf.un, Leaf.plain, LT.plain]
        rw [guardO_pos (nn_at2 hi), (rd_at2 hi).1]
        simp -implicitDefEqProofs only [evs, reduceIte, rdRes, rdTT, rdTy, rdLT, Res.un, TT.un, Ty.un, LT.un, Leaf.un, Leaf.plain, LT.plain]
        rw [k1]
        simp -implicitDefEqProofs only [evs, reduceIte, rdRes, rdTT, rdTy, rdLT, Res.un, TT.un, Ty.un, LT.un, Leaf.un, Leaf.plain, LT.plain]
        rw [i64_succ (by omega)]
      · rw [if_neg hp] at hsucc
        refine ⟨((s, ((i + 1 : Nat) : Int)), hL sl), ?_, s, _, o, rfl, by rw [hsucc]; exact hacc⟩
        unfold spileref23_with.loop1
        simp -implicitDefEqProofs only [Int.toNat_natCast, rowSV_len, guardO_pos hg1, guardO_pos hg2, rd_rowI, g_some (xs := ns) (show i < ns.length by omega), reserve0, Option.bind_some]
        rw [decide_eq_true hg1.2, cond_true, decide_eq_false hp]
        simp -implicitDefEqProofs only [evs, reduceIte, rdRes, rdTT, rdTy, rdLT, Res.un, TT.un, Ty.un, LT.un, Leaf.un, Leaf.plain, LT.plain]
        rw [i64_succ (by omega)]) (fun st hst => by
      obtain ⟨s, sl, o, rfl, hacc⟩ := hst
      have : withTo xs ns xs.length = withL xs ns := by
        unfold withTo withL
        rw [List.take_of_length_le (by rw [List.length_zip]; omega)]
      rw [this] at hacc
      refine ⟨_, ?_, s, sl, o, rfl, hacc⟩
      unfold spileref23_with.loop1
      simp -implicitDefEqProofs only [rowSV_len]
      rw [decide_eq_false (by omega), cond_false]) FUEL 0 ((⟨.lp true [] 0, 0, 0, false⟩, 0), hL []) (by omega) ⟨_, [], none, rfl, Acc.nil'⟩ (by have := fuel_gt (n := xs.length) (by omega); omega)
  rw [h1]
  simp -implicitDefEqProofs only [evs, reduceIte, rdRes, rdTT, rdTy, rdLT, Res.un, TT.un, Ty.un, LT.un, Leaf.un, Leaf.plain, LT.plain]
  rw [h2.read rfl]
theorem ramounts_ok (xs : List (Int × Int)) (hl : xs.length ≤ 64) : spileref23_amountsP xs = some (xs.map (·.2)) := by
  unfold spileref23_amountsP spileref23_amounts
  simp -implicitDefEqProofs only [evs, reduceIte, rdRes, rdTT, rdTy, rdLT, Res.un, TT.un, Ty.un, LT.un, Leaf.un, Leaf.plain, LT.plain, hL_empty]
  obtain ⟨x, h1, s, sl, o, rfl, h2⟩ := iter_upto (f := spileref23_amounts.loop1 (rowSV false j2 xs)) (fun i st => ∃ s sl o, st = ((s, (i : Int)), hL sl) ∧ Acc sl [.int .i64] ((xs.take i).map (·.2)) s o)
    (fun x => ∃ s sl o, x = (.ex0 s, hL sl) ∧ Acc sl [.int .i64] (xs.map (·.2)) s o) xs.length (fun i st hi hst => by
      obtain ⟨s, sl, o, rfl, hacc⟩ := hst
      have hg1 : 0 ≤ (i : Int) ∧ (i : Int) < (xs.length : Int) := by omega
      obtain ⟨s', sl', id, k1, k2, k3, k4, k5⟩ := hacc.append (b := 8) (w := 1) (x := (at2 xs i).2) (vs := [.int .i64 (at2 xs i).2]) rfl (by omega) (by rw [List.length_map, List.length_take]; omega) (by omega) rfl
      refine ⟨((s', ((i + 1 : Nat) : Int)), hL sl'), ?_, s', sl', some id, rfl, by rw [take_snd hi]; exact k2⟩
      unfold spileref23_amounts.loop1
      simp -implicitDefEqProofs only [Int.toNat_natCast, rowSV_len, guardO_pos hg1]
      rw [decide_eq_true hg1.2, cond_true, guardO_pos (nn_at2 hi), (rd_at2 hi).2]
      simp -implicitDefEqProofs only [evs, reduceIte, rdRes, rdTT, rdTy, rdLT, Res.un, TT.un, Ty.un, LT.un, Leaf.un, Leaf.plain, LT.plain]
      rw [k1]
      simp -implicitDefEqProofs only [evs, reduceIte, rdRes, rdTT, rdTy, rdLT, Res.un, TT.un, Ty.un, LT.un, Leaf.un, Leaf.plain, LT.plain]
      rw [i64_succ (by omega)]) (fun st hst => by
      obtain ⟨s, sl, o, rfl, hacc⟩ := hst
      rw [List.take_length] at hacc
      refine ⟨_, ?_, s, sl, o, rfl, hacc⟩
      unfold spileref23_amounts.loop1
      simp -implicitDefEqProofs only [rowSV_len]
      rw [decide_eq_false (by omega), cond_false]) FUEL 0 ((⟨.lp true [] 0, 0, 0, false⟩, 0), hL []) (by omega) ⟨_, [], none, rfl, Acc.nil'⟩ (by have := fuel_gt (n := xs.length) (by omega); omega)
  rw [h1]
  simp -implicitDefEqProofs only [evs, reduceIte, rdRes, rdTT, rdTy, rdLT, Res.un, TT.un, Ty.un, LT.un, Leaf.un, Leaf.plain, LT.plain]
  rw [h2.read rfl]
end Go.Proofs.Ytbcpdecgfdlaaaa
/- What share.Take, share.Parts and those of the reference compute; the law ShareTakes in plain numbers. Conditions: none. -/
namespace Go.Proofs.Ytbcpdecgfdlaaaa
open Go Go.Proofs.Ytbcpdecgfdlaaaa.Ev
set_option linter.unusedVariables false
set_option linter.unusedSimpArgs false
set_option maxRecDepth 100000
set_option maxHeartbeats 4000000
theorem EqualI_ok (a b : List Int) (hl : a.length < 2 ^ 63) : slices_Equal_int_intP a b = some (decide (a = b)) := by
  unfold slices_Equal_int_intP slices_Equal_int_int
  simp -implicitDefEqProofs only [rowSV_len]
  by_cases hab : a.length = b.length
  · rw [decide_eq_true (show (a.length : Int) = (b.length : Int) by omega)]
    simp -implicitDefEqProofs only [evs, reduceIte, rdRes, rdTT, rdTy, rdLT, Res.un, TT.un, Ty.un, LT.un, Leaf.un, Leaf.plain, LT.plain]
    rw [iter_same a b hab hl (fun i x y hx hy hi => by
      unfold slices_Equal_int_int.loop1
      simp -implicitDefEqProofs only [rowSV_len, Int.toNat_natCast, reserve0]
      rw [decide_eq_true (by omega), cond_true, guardO_pos (by omega), rd_rowI, hx, rd_rowI, hy]
      simp -implicitDefEqProofs only [Option.bind_some]
      rw [guardO_pos (by omega), i64_succ (by omega)]
      cases decide (x = y) <;> rfl) (by
      unfold slices_Equal_int_int.loop1
      simp -implicitDefEqProofs only [rowSV_len]
      rw [decide_eq_false (by omega), cond_false])]
    by_cases he : a = b
    · rw [if_pos he, decide_eq_true he]; rfl
    · rw [if_neg he, decide_eq_false he]; rfl
  · rw [decide_eq_false (show ¬ (a.length : Int) = (b.length : Int) by omega), decide_eq_false (show ¬ a = b from fun e => hab (by rw [e]))]
    simp -implicitDefEqProofs only [evs, reduceIte, rdRes, rdTT, rdTy, rdLT, Res.un, TT.un, Ty.un, LT.un, Leaf.un, Leaf.plain, LT.plain]
theorem rdRow_j2 {lp : Bool} {h : H} {xs : List (Int × Int)} : rdRow lp h [.int .i64, .int .i64] ⟨(rowSV true [.int .i64, .int .i64] xs).a, xs.length, xs.length, true⟩ = some xs := rdRow_res rfl
theorem rdRow_i {lp : Bool} {h : H} {xs : List Int} : rdRow lp h [.int .i64] ⟨(rowSV true [.int .i64] xs).a, xs.length, xs.length, true⟩ = some xs := rdRow_res rfl
def amts (xs : List (Int × Int)) : List Int := xs.map (·.2)
def takeOf (xs : List (Int × Int)) (n : Int) : List (Int × Int) × List (Int × Int) × Int :=
  if shareCheck xs = 0 then (if n < 0 then ([], [], 2) else if sumA xs < n then ([], [], 17) else if xs.length = 0 then ([], [], 0) else (withL xs (drawP (amts xs) n).1, withL xs (drawP (amts xs) n).2.1, 0)) else ([], [], 1)
/-- Drawing off right shares. -/
theorem draw_right {xs : List (Int × Int)} {n : Int} (h : shareCheck xs = 0) (h0 : 0 ≤ n) (h1 : n ≤ sumA xs) (hne : 0 < xs.length) :
    drawP (amts xs) n = (divParts n (sumA xs) (amts xs), less (amts xs) (divParts n (sumA xs) (amts xs)) (amts xs).length, 0) ∧ (weighOf n (amts xs)) = (sumA xs, 0) := by
  obtain ⟨k1, k2, k3, k4⟩ := shareCheck_ok h
  have hall : (amts xs).all isAmt = true := List.all_eq_true.2 fun y hy => by
    obtain ⟨x, hx, rfl⟩ := List.mem_map.1 hy
    have := okS_iff.1 (k3 x hx)
    exact isAmt_iff.2 (by omega)
  have hlen : (amts xs).length = xs.length := by simp [amts]
  have hpos : 0 < sumA xs := by
    cases xs with
    | nil => simp at hne
    | cons x xs =>
      have h2 := okS_iff.1 (k3 x (by simp))
      have h3 := sumA_bound xs fun y hy => by have := okS_iff.1 (k3 y (by simp [hy])); omega
      unfold sumA at h3 ⊢
      simp only [List.map_cons, List.sum_cons]
      omega
  have hsum : (amts xs).sum = sumA xs := rfl
  have hw : weighOf n (amts xs) = (sumA xs, 0) := by
    unfold weighOf
    rw [if_pos (isAmt_iff.2 (by omega)), if_neg (by omega), if_neg (by omega), if_pos (by rw [hall, hsum]; simp only [Bool.true_and]; exact isAmt_iff.2 (by omega)), if_neg (by omega), hsum]
  refine ⟨?_, hw⟩
  unfold drawP
  rw [hw, if_pos rfl, if_neg (by omega)]
theorem STake_ok (xs : List (Int × Int)) (n : Int) (hl : xs.length < 2 ^ 63) : share_TakeP xs n = some (takeOf xs n) := by
  unfold share_TakeP share_Take takeOf
  simp -implicitDefEqProofs only [evs, reduceIte, rdRes, rdTT, rdTy, rdLT, Res.un, TT.un, Ty.un, LT.un, Leaf.un, Leaf.plain, LT.plain, rdRow_j2, rdRow_i]
  rw [SSum_ok xs hl]
  unfold shareSum
  by_cases h : shareCheck xs = 0
  · obtain ⟨k1, k2, k3, k4⟩ := shareCheck_ok h
    rw [if_pos h, if_pos h]
    simp -implicitDefEqProofs only [evs, reduceIte, rdRes, rdTT, rdTy, rdLT, Res.un, TT.un, Ty.un, LT.un, Leaf.un, Leaf.plain, LT.plain, eq_self, decide_true]
    by_cases h0 : n < 0
    · rw [decide_eq_true h0, if_pos h0]
      simp -implicitDefEqProofs only [evs, reduceIte, rdRes, rdTT, rdTy, rdLT, Res.un, TT.un, Ty.un, LT.un, Leaf.un, Leaf.plain, LT.plain, rdRow_j2, rdRow_i]
    · rw [decide_eq_false h0, if_neg h0]
      simp -implicitDefEqProofs only [evs, reduceIte, rdRes, rdTT, rdTy, rdLT, Res.un, TT.un, Ty.un, LT.un, Leaf.un, Leaf.plain, LT.plain, rdRow_j2, rdRow_i]
      by_cases h1 : sumA xs < n
      · rw [decide_eq_true h1, if_pos h1]
        simp -implicitDefEqProofs only [evs, reduceIte, rdRes, rdTT, rdTy, rdLT, Res.un, TT.un, Ty.un, LT.un, Leaf.un, Leaf.plain, LT.plain, rdRow_j2, rdRow_i]
      · rw [decide_eq_false h1, if_neg h1]
        simp -implicitDefEqProofs only [evs, reduceIte, rdRes, rdTT, rdTy, rdLT, Res.un, TT.un, Ty.un, LT.un, Leaf.un, Leaf.plain, LT.plain, rdRow_j2, rdRow_i]
        by_cases h2 : xs.length = 0
        · rw [decide_eq_true (show (xs.length : Int) = 0 by omega), if_pos h2]
          simp -implicitDefEqProofs only [evs, reduceIte, rdRes, rdTT, rdTy, rdLT, Res.un, TT.un, Ty.un, LT.un, Leaf.un, Leaf.plain, LT.plain, rdRow_j2, rdRow_i]
        · rw [decide_eq_false (show ¬ (xs.length : Int) = 0 by omega), if_neg h2]
          simp -implicitDefEqProofs only [evs, reduceIte, rdRes, rdTT, rdTy, rdLT, Res.un, TT.un, Ty.un, LT.un, Leaf.un, Leaf.plain, LT.plain, rdRow_j2, rdRow_i]
          rw [amounts23_ok xs (by omega) (okS_bound k3)]
          simp -implicitDefEqProofs only [evs, reduceIte, rdRes, rdTT, rdTy, rdLT, Res.un, TT.un, Ty.un, LT.un, Leaf.un, Leaf.plain, LT.plain, rdRow_j2, rdRow_i]
          rw [show List.map (fun x : Int × Int => x.2) xs = amts xs from rfl, PDraw_ok n (amts xs) (by unfold amts; rw [List.length_map]; omega)]
          simp -implicitDefEqProofs only [evs, reduceIte, rdRes, rdTT, rdTy, rdLT, Res.un, TT.un, Ty.un, LT.un, Leaf.un, Leaf.plain, LT.plain, rdRow_j2, rdRow_i]
          obtain ⟨d1, _⟩ := draw_right (n := n) h (by omega) (by omega) (show 0 < xs.length by omega)
          have e1 : (drawP (amts xs) n).1.length = xs.length := by rw [d1]; simp only [divParts_length]; simp [amts]
          have e2 : (drawP (amts xs) n).2.1.length = xs.length := by rw [d1]; simp only [less_length]; simp [amts]
          rw [with_ok xs _ (by omega) e1]
          simp -implicitDefEqProofs only [evs, reduceIte, rdRes, rdTT, rdTy, rdLT, Res.un, TT.un, Ty.un, LT.un, Leaf.un, Leaf.plain, LT.plain, rdRow_j2, rdRow_i]
          rw [with_ok xs _ (by omega) e2]
          simp -implicitDefEqProofs only [evs, reduceIte, rdRes, rdTT, rdTy, rdLT, Res.un, TT.un, Ty.un, LT.un, Leaf.un, Leaf.plain, LT.plain, rdRow_j2, rdRow_i]
  · simp only [if_neg h]
    simp -implicitDefEqProofs only [evs, reduceIte, rdRes, rdTT, rdTy, rdLT, Res.un, TT.un, Ty.un, LT.un, Leaf.un, Leaf.plain, LT.plain, rdRow_j2, rdRow_i]
    rw [decide_eq_false (show ¬ (1 : Int) = 0 by omega)]
    simp -implicitDefEqProofs only [evs, reduceIte, rdRes, rdTT, rdTy, rdLT, Res.un, TT.un, Ty.un, LT.un, Leaf.un, Leaf.plain, LT.plain, rdRow_j2, rdRow_i]
theorem rTake_ok (xs : List (Int × Int)) (n : Int) (hl : xs.length < 2 ^ 63) : spileref23_TakeP xs n = some (takeOf xs n) := by
  unfold spileref23_TakeP spileref23_Take takeOf
  simp -implicitDefEqProofs only [evs, reduceIte, rdRes, rdTT, rdTy, rdLT, Res.un, TT.un, Ty.un, LT.un, Leaf.un, Leaf.plain, LT.plain, rdRow_j2, rdRow_i]
  rw [rSCheck_ok xs hl]
  simp -implicitDefEqProofs only [evs, reduceIte, rdRes, rdTT, rdTy, rdLT, Res.un, TT.un, Ty.un, LT.un, Leaf.un, Leaf.plain, LT.plain, rdRow_j2, rdRow_i]
  by_cases h : shareCheck xs = 0
  · obtain ⟨k1, k2, k3, k4⟩ := shareCheck_ok h
    rw [decide_eq_true h, if_pos h]
    simp -implicitDefEqProofs only [evs, reduceIte, rdRes, rdTT, rdTy, rdLT, Res.un, TT.un, Ty.un, LT.un, Leaf.un, Leaf.plain, LT.plain, rdRow_j2, rdRow_i]
    by_cases h0 : n < 0
    · rw [decide_eq_true h0, if_pos h0]
      simp -implicitDefEqProofs only [evs, reduceIte, rdRes, rdTT, rdTy, rdLT, Res.un, TT.un, Ty.un, LT.un, Leaf.un, Leaf.plain, LT.plain, rdRow_j2, rdRow_i]
    · rw [decide_eq_false h0, if_neg h0]
      simp -implicitDefEqProofs only [evs, reduceIte, rdRes, rdTT, rdTy, rdLT, Res.un, TT.un, Ty.un, LT.un, Leaf.un, Leaf.plain, LT.plain, rdRow_j2, rdRow_i]
      rw [rAlcohol_ok xs (by omega) (okS_bound k3)]
      simp -implicitDefEqProofs only [evs, reduceIte, rdRes, rdTT, rdTy, rdLT, Res.un, TT.un, Ty.un, LT.un, Leaf.un, Leaf.plain, LT.plain, rdRow_j2, rdRow_i]
      by_cases h1 : sumA xs < n
      · rw [decide_eq_true h1, if_pos h1]
        simp -implicitDefEqProofs only [evs, reduceIte, rdRes, rdTT, rdTy, rdLT, Res.un, TT.un, Ty.un, LT.un, Leaf.un, Leaf.plain, LT.plain, rdRow_j2, rdRow_i]
      · rw [decide_eq_false h1, if_neg h1]
        simp -implicitDefEqProofs only [evs, reduceIte, rdRes, rdTT, rdTy, rdLT, Res.un, TT.un, Ty.un, LT.un, Leaf.un, Leaf.plain, LT.plain, rdRow_j2, rdRow_i]
        have htake : spileref23_takeP xs n = some (if xs.length = 0 then ([], []) else (withL xs (drawP (amts xs) n).1, withL xs (drawP (amts xs) n).2.1)) := by
          unfold spileref23_takeP spileref23_take
          simp -implicitDefEqProofs only [evs, reduceIte, rdRes, rdTT, rdTy, rdLT, Res.un, TT.un, Ty.un, LT.un, Leaf.un, Leaf.plain, LT.plain, rdRow_j2, rdRow_i]
          by_cases h2 : xs.length = 0
          · rw [decide_eq_true (show (xs.length : Int) = 0 by omega), if_pos h2]
            simp -implicitDefEqProofs only [evs, reduceIte, rdRes, rdTT, rdTy, rdLT, Res.un, TT.un, Ty.un, LT.un, Leaf.un, Leaf.plain, LT.plain, rdRow_j2, rdRow_i]
          · rw [decide_eq_false (show ¬ (xs.length : Int) = 0 by omega), if_neg h2]
            simp -implicitDefEqProofs only [evs, reduceIte, rdRes, rdTT, rdTy, rdLT, Res.un, TT.un, Ty.un, LT.un, Leaf.un, Leaf.plain, LT.plain, rdRow_j2, rdRow_i]
            rw [ramounts_ok xs (by omega)]
            simp -implicitDefEqProofs only [evs, reduceIte, rdRes, rdTT, rdTy, rdLT, Res.un, TT.un, Ty.un, LT.un, Leaf.un, Leaf.plain, LT.plain, rdRow_j2, rdRow_i]
            rw [show List.map (fun x : Int × Int => x.2) xs = amts xs from rfl, rPDraw_ok n (amts xs) (by unfold amts; rw [List.length_map]; omega)]
            simp -implicitDefEqProofs only [evs, reduceIte, rdRes, rdTT, rdTy, rdLT, Res.un, TT.un, Ty.un, LT.un, Leaf.un, Leaf.plain, LT.plain, rdRow_j2, rdRow_i]
            obtain ⟨d1, _⟩ := draw_right (n := n) h (by omega) (by omega) (show 0 < xs.length by omega)
            have e1 : (drawP (amts xs) n).1.length = xs.length := by rw [d1]; simp only [divParts_length]; simp [amts]
            have e2 : (drawP (amts xs) n).2.1.length = xs.length := by rw [d1]; simp only [less_length]; simp [amts]
            rw [rwith_ok xs _ (by omega) e1]
            simp -implicitDefEqProofs only [evs, reduceIte, rdRes, rdTT, rdTy, rdLT, Res.un, TT.un, Ty.un, LT.un, Leaf.un, Leaf.plain, LT.plain, rdRow_j2, rdRow_i]
            rw [rwith_ok xs _ (by omega) e2]
            simp -implicitDefEqProofs only [evs, reduceIte, rdRes, rdTT, rdTy, rdLT, Res.un, TT.un, Ty.un, LT.un, Leaf.un, Leaf.plain, LT.plain, rdRow_j2, rdRow_i]
        rw [htake]
        by_cases h2 : xs.length = 0
        · rw [if_pos h2, if_pos h2]
          simp -implicitDefEqProofs only [evs, reduceIte, rdRes, rdTT, rdTy, rdLT, Res.un, TT.un, Ty.un, LT.un, Leaf.un, Leaf.plain, LT.plain, rdRow_j2, rdRow_i]
        · rw [if_neg h2, if_neg h2]
          simp -implicitDefEqProofs only [evs, reduceIte, rdRes, rdTT, rdTy, rdLT, Res.un, TT.un, Ty.un, LT.un, Leaf.un, Leaf.plain, LT.plain, rdRow_j2, rdRow_i]
  · rw [decide_eq_false h, if_neg h]
    simp -implicitDefEqProofs only [evs, reduceIte, rdRes, rdTT, rdTy, rdLT, Res.un, TT.un, Ty.un, LT.un, Leaf.un, Leaf.plain, LT.plain, rdRow_j2, rdRow_i]
def partsOf (xs : List (Int × Int)) (n : Int) : List Int × Int :=
  if shareCheck xs = 0 then (if isAmt n = true then (if xs.length = 0 then ([], 9) else divideOf n (amts xs)) else ([], 2)) else ([], 1)
theorem amt_code {n : Int} {h : H} : (bif !(decide (n < 0)) then some ((decide ((128849018880000 : Int) < n)), h) else some (true, h) : Option (Bool × H)) = some (!isAmt n, h) := by
  cases hn : isAmt n with
  | true =>
    have := isAmt_iff.1 hn
    rw [decide_eq_false (show ¬ n < 0 by omega), decide_eq_false (show ¬ (128849018880000 : Int) < n by omega)]
    rfl
  | false =>
    have : ¬ (0 ≤ n ∧ n ≤ 128849018880000) := fun h => by rw [isAmt_iff.2 h] at hn; cases hn
    by_cases h0 : n < 0
    · rw [decide_eq_true h0]; rfl
    · rw [decide_eq_false h0, decide_eq_true (show (128849018880000 : Int) < n by omega)]; rfl
theorem SParts_ok (xs : List (Int × Int)) (n : Int) (hl : xs.length < 2 ^ 63) : share_PartsP xs n = some (partsOf xs n) := by
  unfold share_PartsP share_Parts partsOf
  simp -implicitDefEqProofs only [evs, reduceIte, rdRes, rdTT, rdTy, rdLT, Res.un, TT.un, Ty.un, LT.un, Leaf.un, Leaf.plain, LT.plain, rdRow_j2, rdRow_i]
  rw [SCheck_ok xs hl]
  simp -implicitDefEqProofs only [evs, reduceIte, rdRes, rdTT, rdTy, rdLT, Res.un, TT.un, Ty.un, LT.un, Leaf.un, Leaf.plain, LT.plain, rdRow_j2, rdRow_i]
  by_cases h : shareCheck xs = 0
  · obtain ⟨k1, k2, k3, k4⟩ := shareCheck_ok h
    rw [decide_eq_true h, if_pos h, amt_code]
    simp -implicitDefEqProofs only [evs, reduceIte, rdRes, rdTT, rdTy, rdLT, Res.un, TT.un, Ty.un, LT.un, Leaf.un, Leaf.plain, LT.plain, rdRow_j2, rdRow_i]
    cases hn : isAmt n with
    | false => simp -implicitDefEqProofs only [evs, reduceIte, rdRes, rdTT, rdTy, rdLT, Res.un, TT.un, Ty.un, LT.un, Leaf.un, Leaf.plain, LT.plain, Bool.false_eq_true]
    | true =>
      simp -implicitDefEqProofs only [evs, reduceIte, rdRes, rdTT, rdTy, rdLT, Res.un, TT.un, Ty.un, LT.un, Leaf.un, Leaf.plain, LT.plain, rdRow_j2, rdRow_i]
      by_cases h2 : xs.length = 0
      · rw [decide_eq_true (show (xs.length : Int) = 0 by omega), if_pos h2]
        simp -implicitDefEqProofs only [evs, reduceIte, rdRes, rdTT, rdTy, rdLT, Res.un, TT.un, Ty.un, LT.un, Leaf.un, Leaf.plain, LT.plain, rdRow_j2, rdRow_i]
      · rw [decide_eq_false (show ¬ (xs.length : Int) = 0 by omega), if_neg h2]
        simp -implicitDefEqProofs only [evs, reduceIte, rdRes, rdTT, rdTy, rdLT, Res.un, TT.un, Ty.un, LT.un, Leaf.un, Leaf.plain, LT.plain, rdRow_j2, rdRow_i]
        rw [amounts23_ok xs (by omega) (okS_bound k3)]
        simp -implicitDefEqProofs only [evs, reduceIte, rdRes, rdTT, rdTy, rdLT, Res.un, TT.un, Ty.un, LT.un, Leaf.un, Leaf.plain, LT.plain, rdRow_j2, rdRow_i]
        rw [show List.map (fun x : Int × Int => x.2) xs = amts xs from rfl, Divide_ok n (amts xs) (by unfold amts; rw [List.length_map]; omega)]
        simp -implicitDefEqProofs only [evs, reduceIte, rdRes, rdTT, rdTy, rdLT, Res.un, TT.un, Ty.un, LT.un, Leaf.un, Leaf.plain, LT.plain, rdRow_j2, rdRow_i]
  · rw [decide_eq_false h, if_neg h]
    simp -implicitDefEqProofs only [evs, reduceIte, rdRes, rdTT, rdTy, rdLT, Res.un, TT.un, Ty.un, LT.un, Leaf.un, Leaf.plain, LT.plain, rdRow_j2, rdRow_i]
theorem parts_code {xs : List (Int × Int)} {n : Int} (h : shareCheck xs = 0) (hn : isAmt n = true) (h2 : xs.length ≠ 0) : (divideOf n (amts xs)).2 = 0 := by
  obtain ⟨k1, k2, k3, k4⟩ := shareCheck_ok h
  obtain ⟨_, hw⟩ := draw_right (n := 0) h (by omega) (sumA_bound xs (okS_bound k3)).1 (show 0 < xs.length by omega)
  have hw2 : weighOf n (amts xs) = (sumA xs, 0) := by
    have h0 : isAmt 0 = true := isAmt_iff.2 (by omega)
    unfold weighOf at hw ⊢
    rw [if_pos h0] at hw
    rw [if_pos hn]
    exact hw
  rw [divideOf, hw2, if_pos rfl]
theorem rParts_ok (xs : List (Int × Int)) (n : Int) (hl : xs.length < 2 ^ 63) : spileref23_PartsP xs n = some (partsOf xs n) := by
  unfold spileref23_PartsP spileref23_Parts partsOf
  simp -implicitDefEqProofs only [evs, reduceIte, rdRes, rdTT, rdTy, rdLT, Res.un, TT.un, Ty.un, LT.un, Leaf.un, Leaf.plain, LT.plain, rdRow_j2, rdRow_i]
  rw [rSCheck_ok xs hl]
  simp -implicitDefEqProofs only [evs, reduceIte, rdRes, rdTT, rdTy, rdLT, Res.un, TT.un, Ty.un, LT.un, Leaf.un, Leaf.plain, LT.plain, rdRow_j2, rdRow_i]
  by_cases h : shareCheck xs = 0
  · obtain ⟨k1, k2, k3, k4⟩ := shareCheck_ok h
    rw [decide_eq_true h, if_pos h, amt_code]
    simp -implicitDefEqProofs only [evs, reduceIte, rdRes, rdTT, rdTy, rdLT, Res.un, TT.un, Ty.un, LT.un, Leaf.un, Leaf.plain, LT.plain, rdRow_j2, rdRow_i]
    cases hn : isAmt n with
    | false => simp -implicitDefEqProofs only [evs, reduceIte, rdRes, rdTT, rdTy, rdLT, Res.un, TT.un, Ty.un, LT.un, Leaf.un, Leaf.plain, LT.plain, Bool.false_eq_true]
    | true =>
      simp -implicitDefEqProofs only [evs, reduceIte, rdRes, rdTT, rdTy, rdLT, Res.un, TT.un, Ty.un, LT.un, Leaf.un, Leaf.plain, LT.plain, rdRow_j2, rdRow_i]
      by_cases h2 : xs.length = 0
      · rw [decide_eq_true (show (xs.length : Int) = 0 by omega), if_pos h2]
        simp -implicitDefEqProofs only [evs, reduceIte, rdRes, rdTT, rdTy, rdLT, Res.un, TT.un, Ty.un, LT.un, Leaf.un, Leaf.plain, LT.plain, rdRow_j2, rdRow_i]
      · rw [decide_eq_false (show ¬ (xs.length : Int) = 0 by omega), if_neg h2]
        simp -implicitDefEqProofs only [evs, reduceIte, rdRes, rdTT, rdTy, rdLT, Res.un, TT.un, Ty.un, LT.un, Leaf.un, Leaf.plain, LT.plain, rdRow_j2, rdRow_i]
        rw [ramounts_ok xs (by omega)]
        simp -implicitDefEqProofs only [evs, reduceIte, rdRes, rdTT, rdTy, rdLT, Res.un, TT.un, Ty.un, LT.un, Leaf.un, Leaf.plain, LT.plain, rdRow_j2, rdRow_i]
        rw [show List.map (fun x : Int × Int => x.2) xs = amts xs from rfl, rDivide_ok n (amts xs) (by unfold amts; rw [List.length_map]; omega)]
        have hc := parts_code h hn h2
        generalize divideOf n (amts xs) = d at *
        obtain ⟨d1, d2⟩ := d
        simp only at hc
        subst hc
        simp -implicitDefEqProofs only [evs, reduceIte, rdRes, rdTT, rdTy, rdLT, Res.un, TT.un, Ty.un, LT.un, Leaf.un, Leaf.plain, LT.plain, rdRow_j2, rdRow_i]
  · rw [decide_eq_false h, if_neg h]
    simp -implicitDefEqProofs only [evs, reduceIte, rdRes, rdTT, rdTy, rdLT, Res.un, TT.un, Ty.un, LT.un, Leaf.un, Leaf.plain, LT.plain, rdRow_j2, rdRow_i]
theorem same23_ok (a b : List (Int × Int)) (hl : a.length < 2 ^ 63) : spileref22_SameSharesP a b = some (decide (a = b)) := by
  have dec2 : ∀ (x y : Int × Int), (decide (x.1 = y.1) && decide (x.2 = y.2)) = decide (x = y) := fun x y => by
    obtain ⟨x0, x1⟩ := x
    obtain ⟨y0, y1⟩ := y
    simp [Prod.mk.injEq, Bool.decide_and]
  unfold spileref22_SameSharesP spileref22_SameShares
  simp -implicitDefEqProofs only [rowSV_len]
  by_cases hab : a.length = b.length
  · rw [decide_eq_true (show (a.length : Int) = (b.length : Int) by omega)]
    simp -implicitDefEqProofs only [evs, reduceIte, rdRes, rdTT, rdTy, rdLT, Res.un, TT.un, Ty.un, LT.un, Leaf.un, Leaf.plain, LT.plain, rdRow_j2, rdRow_i]
    rw [iter_same a b hab hl (fun i x y hx hy hi => by
      unfold spileref22_SameShares.loop1
      simp -implicitDefEqProofs only [rowSV_len, Int.toNat_natCast, reserve0]
      rw [decide_eq_true (by omega), cond_true, guardO_pos (by omega), rds_rowF (ls := j2) (w := 2) rfl (by omega) rfl, hx, rds_rowF (ls := j2) (w := 2) rfl (by omega) rfl, hy]
      simp -implicitDefEqProofs only [Option.bind_some, dec2]
      rw [guardO_pos (by omega), i64_succ (by omega)]
      cases decide (x = y) <;> rfl) (by
      unfold spileref22_SameShares.loop1
      simp -implicitDefEqProofs only [rowSV_len]
      rw [decide_eq_false (by omega), cond_false])]
    by_cases he : a = b
    · rw [if_pos he, decide_eq_true he]; rfl
    · rw [if_neg he, decide_eq_false he]; rfl
  · rw [decide_eq_false (show ¬ (a.length : Int) = (b.length : Int) by omega), decide_eq_false (show ¬ a = b from fun e => hab (by rw [e]))]
    simp -implicitDefEqProofs only [evs, reduceIte, rdRes, rdTT, rdTy, rdLT, Res.un, TT.un, Ty.un, LT.un, Leaf.un, Leaf.plain, LT.plain, rdRow_j2, rdRow_i]
theorem FewShares_ok (xs : List (Int × Int)) : ∃ b, spileref22_FewSharesP xs = some b ∧ (b = true → xs.length ≤ 37) := by
  unfold spileref22_FewSharesP spileref22_FewShares
  simp -implicitDefEqProofs only [evs, reduceIte, rdRes, rdTT, rdTy, rdLT, Res.un, TT.un, Ty.un, LT.un, Leaf.un, Leaf.plain, LT.plain, rdRow_j2, rdRow_i]
  by_cases h1 : (xs.length : Int) ≤ 12
  · rw [decide_eq_true h1]
    simp -implicitDefEqProofs only [evs, reduceIte, rdRes, rdTT, rdTy, rdLT, Res.un, TT.un, Ty.un, LT.un, Leaf.un, Leaf.plain, LT.plain, rdRow_j2, rdRow_i]
    exact ⟨_, rfl, fun _ => by omega⟩
  · rw [decide_eq_false h1]
    simp -implicitDefEqProofs only [evs, reduceIte, rdRes, rdTT, rdTy, rdLT, Res.un, TT.un, Ty.un, LT.un, Leaf.un, Leaf.plain, LT.plain, rdRow_j2, rdRow_i]
    by_cases h2 : (32 : Int) < (xs.length : Int)
    · rw [decide_eq_true h2]
      simp -implicitDefEqProofs only [evs, reduceIte, rdRes, rdTT, rdTy, rdLT, Res.un, TT.un, Ty.un, LT.un, Leaf.un, Leaf.plain, LT.plain, rdRow_j2, rdRow_i]
      exact ⟨_, rfl, fun h => by have := of_decide_eq_true h; omega⟩
    · rw [decide_eq_false h2]
      simp -implicitDefEqProofs only [evs, reduceIte, rdRes, rdTT, rdTy, rdLT, Res.un, TT.un, Ty.un, LT.un, Leaf.un, Leaf.plain, LT.plain, rdRow_j2, rdRow_i]
      exact ⟨_, rfl, fun h => by simp at h⟩
theorem withL_length {xs : List (Int × Int)} {ns : List Int} : (withL xs ns).length ≤ xs.length := by
  unfold withL
  exact Nat.le_trans (List.length_filterMap_le ..) (by rw [List.length_zip]; omega)
theorem takeOf_length {xs : List (Int × Int)} {n : Int} : (takeOf xs n).1.length ≤ xs.length ∧ (takeOf xs n).2.1.length ≤ xs.length := by
  unfold takeOf
  repeat' split
  all_goals first | exact ⟨withL_length, withL_length⟩ | simp
theorem partsOf_length {xs : List (Int × Int)} {n : Int} : (partsOf xs n).1.length ≤ xs.length := by
  unfold partsOf divideOf
  repeat' split
  all_goals simp [divParts_length, amts]
theorem awake23 : spilelaw23_awakeP = some true := by kernel_rfl
theorem ShareTakes_ok (xs : List (Int × Int)) (n : Int) : spilelaw23_ShareTakesP xs n = some true := by
  obtain ⟨b, hb, hb2⟩ := FewShares_ok xs
  unfold spilelaw23_ShareTakesP spilelaw23_ShareTakes
  simp -implicitDefEqProofs only [awake23, evs, reduceIte, rdRes, rdTT, rdTy, rdLT, Res.un, TT.un, Ty.un, LT.un, Leaf.un, Leaf.plain, LT.plain, hb]
  cases b with
  | false => simp -implicitDefEqProofs only [evs, reduceIte, rdRes, rdTT, rdTy, rdLT, Res.un, TT.un, Ty.un, LT.un, Leaf.un, Leaf.plain, LT.plain, Bool.false_eq_true]
  | true =>
    have hl := hb2 rfl
    have t1 := takeOf_length (xs := xs) (n := n)
    have t2 := partsOf_length (xs := xs) (n := n)
    simp -implicitDefEqProofs only [evs, reduceIte, rdRes, rdTT, rdTy, rdLT, Res.un, TT.un, Ty.un, LT.un, Leaf.un, Leaf.plain, LT.plain, rdRow_j2, rdRow_i]
    rw [SSum_ok xs (by omega), rSSum_ok xs (by omega), STake_ok xs n (by omega), rTake_ok xs n (by omega), SParts_ok xs n (by omega), rParts_ok xs n (by omega), SCheck_ok xs (by omega), rSCheck_ok xs (by omega)]
    generalize takeOf xs n = t at *
    generalize partsOf xs n = p at *
    obtain ⟨t1', t2', t3'⟩ := t
    obtain ⟨p1', p2'⟩ := p
    simp only at t1 t2
    simp -implicitDefEqProofs only [evs, reduceIte, rdRes, rdTT, rdTy, rdLT, Res.un, TT.un, Ty.un, LT.un, Leaf.un, Leaf.plain, LT.plain, eq_self, decide_true]
    rw [same23_ok _ _ (by omega), same23_ok _ _ (by omega)]
    simp -implicitDefEqProofs only [evs, reduceIte, rdRes, rdTT, rdTy, rdLT, Res.un, TT.un, Ty.un, LT.un, Leaf.un, Leaf.plain, LT.plain, eq_self, decide_true]
    rw [EqualI_ok _ _ (by omega)]
    simp -implicitDefEqProofs only [evs, reduceIte, rdRes, rdTT, rdTy, rdLT, Res.un, TT.un, Ty.un, LT.un, Leaf.un, Leaf.plain, LT.plain, eq_self, decide_true]
end Go.Proofs.Ytbcpdecgfdlaaaa
