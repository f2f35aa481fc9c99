/- What the functions of this seat compute: some texts in one. Conditions: those of each law. -/
import Derived.Test.YtbcpdecgfdlaaaaShLo0
/- What share.amounts, share.Sum and those of the reference compute. Conditions: those of each law. -/
namespace Go.Proofs.Ytbcpdecgfdlaaaa
open Go Go.Proofs.Ytbcpdecgfdlaaaa.Ev
set_option linter.unusedVariables false
set_option linter.unusedSimpArgs false
set_option maxRecDepth 100000
set_option maxHeartbeats 4000000
theorem shareCheck_ok {xs : List (Int × Int)} (h : shareCheck xs = 0) : xs.length ≤ 32 ∧ (∀ i, i < xs.length → sfault xs i = 0) ∧ (∀ x ∈ xs, okS x = true) ∧ sumA xs ≤ 10737418240000 := by
  unfold shareCheck at h
  by_cases h32 : 32 < xs.length
  · rw [if_pos h32] at h; simp at h
  · rw [if_neg h32] at h
    rcases first_cases (sfault xs) xs.length with ⟨h1, h2⟩ | ⟨m, h1, h2, h3, h4⟩
    · rw [h2, if_pos rfl] at h
      by_cases hs : 10737418240000 < sumA xs
      · rw [if_pos hs] at h; simp at h
      · refine ⟨by omega, h1, fun x hx => ?_, by omega⟩
        obtain ⟨i, hi, e⟩ := List.getElem_of_mem hx
        have := sfault_ok (h1 i hi)
        have h5 := at2_some hi
        rw [List.getElem?_eq_getElem hi, e] at h5
        rw [Option.some.inj h5]
        exact this
    · rw [h4, if_neg h2] at h
      exact absurd h h2
theorem okS_bound {xs : List (Int × Int)} (h : ∀ x ∈ xs, okS x = true) : ∀ x ∈ xs, 0 ≤ x.2 ∧ x.2 ≤ 1000000000000000 := fun x hx => by
  have := okS_iff.1 (h x hx)
  omega
theorem take_bound {xs : List (Int × Int)} (h : ∀ x ∈ xs, 0 ≤ x.2 ∧ x.2 ≤ 1000000000000000) (i : Nat) (hi : i ≤ xs.length) : 0 ≤ sumA (xs.take i) ∧ sumA (xs.take i) ≤ i * 1000000000000000 := by
  have := sumA_bound (xs.take i) fun x hx => h x (List.mem_of_mem_take hx)
  rw [List.length_take, Nat.min_eq_left hi] at this
  exact this
theorem take_snd {xs : List (Int × Int)} {i : Nat} (h : i < xs.length) : (xs.take (i + 1)).map (·.2) = (xs.take i).map (·.2) ++ [(at2 xs i).2] := by
  obtain ⟨hi, he⟩ := List.getElem?_eq_some_iff.1 (at2_some h)
  rw [← List.take_append_getElem hi, he, List.map_append]
  rfl
theorem amounts23_ok (xs : List (Int × Int)) (hl : xs.length ≤ 64) (hb : ∀ x ∈ xs, 0 ≤ x.2 ∧ x.2 ≤ 1000000000000000) : share_amountsP xs = some (xs.map (·.2), sumA xs) := by
  unfold share_amountsP share_amounts
  simp -implicitDefEqProofs only [evs, reduceIte, rdRes, rdTT, rdTy, rdLT, Res.un, TT.un, Ty.un, LT.un, Leaf.un, Leaf.plain, LT.plain, hL_empty]
  obtain ⟨x, h1, s, sl, o, rfl, h2⟩ := iter_upto (f := share_amounts.loop1 (rowSV false j2 xs)) (fun i st => ∃ s sl o, st = ((s, sumA (xs.take i), (i : Int)), hL sl) ∧ Acc sl [.int .i64] ((xs.take i).map (·.2)) s o)
    (fun x => ∃ s sl o, x = (.ex0 (s, sumA xs), hL sl) ∧ Acc sl [.int .i64] (xs.map (·.2)) s o) xs.length (fun i st hi hst => by
      obtain ⟨s, sl, o, rfl, hacc⟩ := hst
      have hget := at2_some hi
      have hrow : (sl ++ [c2 (at2 xs i)])[sl.length]? = some (c2 (at2 xs i)) := by simp
      have nw := new_c2 (sl := sl) (x := at2 xs i)
      have hbd := take_bound hb i (by omega)
      have hx := hb _ (at2_mem hi)
      have hst := sumA_take hi
      have hg1 : 0 ≤ (i : Int) ∧ (i : Int) < (xs.length : Int) := by omega
      have hrow2 : (sl ++ [c2 (at2 xs i)] ++ List.replicate 1 Slot.fresh)[sl.length]? = some (c2 (at2 xs i)) := by simp
      have r1 := rd_c2 hrow2
      have hacc2 : Acc (sl ++ [c2 (at2 xs i)] ++ List.replicate 1 Slot.fresh) [.int .i64] ((xs.take i).map (·.2)) s o := hacc.more.more
      have hlen : (sl ++ [c2 (at2 xs i)]).length < (sl ++ [c2 (at2 xs i)] ++ List.replicate 1 Slot.fresh).length := by simp
      have ho : o ≠ some (sl ++ [c2 (at2 xs i)]).length := fun e => by
        subst e
        have := hacc.lt
        simp at this
        omega
      have ho2 : o ≠ some sl.length := fun e => by
        subst e
        have := hacc.lt
        omega
      obtain ⟨s', sl', id, k1, k2, k3, k4, k5⟩ := Acc.appendAt hacc2 (b := 8) (w := 1) (x := (at2 xs i).2) (vs := [.int .i64 (at2 xs i).2]) hlen ho rfl (by omega) (by rw [List.length_map, List.length_take]; omega) (by omega) rfl
      have hs' : sl'[sl.length]? = some (c2 (at2 xs i)) := by
        rw [k5 sl.length ho2 (by simp), hrow2]
      have r2 := rd_c2 hs'
      obtain ⟨g, hg⟩ := Acc.addr hacc2 (cs := [.int .i64 (at2 xs i).2]) (n := 1) (c := 1) (t := false) (i := (sl ++ [c2 (at2 xs i)]).length)
      have hap : o.getD (sl ++ [c2 (at2 xs i)]).length ≠ sl.length := by
        cases o with
        | none => simp
        | some id => intro e; simp only [Option.getD_some] at e; exact ho2 (by rw [e])
      refine ⟨((s', sumA (xs.take (i + 1)), ((i + 1 : Nat) : Int)), hL sl'), ?_, s', sl', some id, rfl, by rw [take_snd hi]; exact k2⟩
      unfold share_amounts.loop1
      simp -implicitDefEqProofs only [Int.toNat_natCast, rowSV_len, guardO_pos hg1]
      rw [decide_eq_true hg1.2, cond_true, rds_rowF (ls := j2) (w := 2) rfl (by omega) rfl, hget]
      simp -implicitDefEqProofs only [Option.bind_some, hL_new, hL_next]
      rw [nw]
      simp -implicitDefEqProofs only [Option.bind_some, hL_reserve, hL_next]
      rw [r1.2]
      simp -implicitDefEqProofs only [Option.bind_some]
      rw [k1]
      simp -implicitDefEqProofs only [Option.bind_some]
      rw [r2.2]
      simp -implicitDefEqProofs only [Option.bind_some]
      rw [hg, guardO_pos (apart_hp hap), i64_in _ (by omega), i64_succ (by omega), hst]) (fun st hst => by
      obtain ⟨s, sl, o, rfl, hacc⟩ := hst
      rw [List.take_length] at hacc ⊢
      refine ⟨_, ?_, s, sl, o, rfl, hacc⟩
      unfold share_amounts.loop1
      simp -implicitDefEqProofs only [rowSV_len]
      rw [decide_eq_false (by omega), cond_false]) FUEL 0 ((⟨.nil, 0, 0, false⟩, 0, 0), hL []) (by omega) ⟨_, [], none, rfl, Acc.nil⟩ (by have := fuel_gt (n := xs.length) (by omega); omega)
  rw [h1]
  simp -implicitDefEqProofs only [evs, reduceIte, rdRes, rdTT, rdTy, rdLT, Res.un, TT.un, Ty.un, LT.un, Leaf.un, Leaf.plain, LT.plain]
  rw [h2.read rfl]
  rfl
theorem rAlcohol_ok (xs : List (Int × Int)) (hl : xs.length ≤ 64) (hb : ∀ x ∈ xs, 0 ≤ x.2 ∧ x.2 ≤ 1000000000000000) : spileref22_AlcoholP xs = some (sumA xs) := by
  unfold spileref22_AlcoholP spileref22_Alcohol
  simp -implicitDefEqProofs only [evs, reduceIte, rdRes, rdTT, rdTy, rdLT, Res.un, TT.un, Ty.un, LT.un, Leaf.un, Leaf.plain, LT.plain]
  rw [iter_from (s0 := (((0 : Int), (0 : Int)), H.empty)) (f := spileref22_Alcohol.loop1 (rowSV false j2 xs)) (x := (.ex0 (sumA xs), H.empty)) (fun i => ((sumA (xs.take i), (i : Int)), H.empty)) rfl xs.length FUEL (fun i hi => by
    have hbd := take_bound hb i (by omega)
    have hx := hb _ (at2_mem hi)
    have hg1 : 0 ≤ (i : Int) ∧ (i : Int) < (xs.length : Int) := by omega
    unfold spileref22_Alcohol.loop1
    simp -implicitDefEqProofs only [Int.toNat_natCast, rowSV_len, guardO_pos hg1]
    rw [decide_eq_true hg1.2, cond_true, guardO_pos (nn_at2 hi), (rd_at2 hi).2]
    simp -implicitDefEqProofs only [Option.bind_some]
    rw [i64_in _ (by omega), i64_succ (by omega), sumA_take hi]) (by
    unfold spileref22_Alcohol.loop1
    simp -implicitDefEqProofs only [rowSV_len]
    rw [decide_eq_false (by omega), cond_false, List.take_length]) (fuel_gt (by omega))]
  simp -implicitDefEqProofs only [evs, reduceIte, rdRes, rdTT, rdTy, rdLT, Res.un, TT.un, Ty.un, LT.un, Leaf.un, Leaf.plain, LT.plain]
theorem rsCheck_step {xs : List (Int × Int)} {f : Bool} {h : H} {i : Nat} (hi : i < xs.length) (h32 : xs.length ≤ 32) :
    spileref23_Check.loop1 (rowSV f j2 xs) ((i : Int), h) = some (if sfault xs i = 0 then .more (((i + 1 : Nat) : Int), h) else .done (.ret (sfault xs i), h)) := by
  have hg1 : 0 ≤ (i : Int) ∧ (i : Int) < (xs.length : Int) := by omega
  unfold spileref23_Check.loop1
  simp -implicitDefEqProofs only [Int.toNat_natCast, rowSV_len, guardO_pos hg1, reserve0]
  rw [decide_eq_true hg1.2, cond_true, guardO_pos (nn_at2 hi), (rd_at2 hi).1, (rd_at2 hi).2]
  simp -implicitDefEqProofs only [Option.bind_some, guardO_pos (nn_at2 (f := f) hi)]
  rw [okS_code]
  unfold sfault
  cases hok : okS (at2 xs i) with
  | false =>
    simp -implicitDefEqProofs only [evs, reduceIte, rdRes, rdTT, rdTy, rdLT, Res.un, TT.un, Ty.un, LT.un, Leaf.un, Leaf.plain, LT.plain, Bool.false_eq_true]
    rw [if_neg (by simp)]
  | true =>
    simp -implicitDefEqProofs only [evs, reduceIte, rdRes, rdTT, rdTy, rdLT, Res.un, TT.un, Ty.un, LT.un, Leaf.un, Leaf.plain, LT.plain, Bool.false_eq_true]
    cases i with
    | zero =>
      rw [decide_eq_false (show ¬ (0 : Int) < ((0 : Nat) : Int) by omega)]
      simp -implicitDefEqProofs only [evs, reduceIte, rdRes, rdTT, rdTy, rdLT, Res.un, TT.un, Ty.un, LT.un, Leaf.un, Leaf.plain, LT.plain, Bool.false_eq_true]
      rw [if_neg (show ¬ ((0 : Nat) < 0 ∧ _) by omega), if_pos rfl, i64_succ (by omega)]
    | succ j =>
      have hj : ((j + 1 : Nat) : Int) - 1 = ((j : Nat) : Int) := by omega
      have hg2 : 0 ≤ (j : Int) ∧ (j : Int) < (xs.length : Int) := by omega
      rw [decide_eq_true (show (0 : Int) < ((j + 1 : Nat) : Int) by omega), hj, i64_in (j : Int) (by omega)]
      simp -implicitDefEqProofs only [evs, reduceIte, rdRes, rdTT, rdTy, rdLT, Res.un, TT.un, Ty.un, LT.un, Leaf.un, Leaf.plain, LT.plain, Int.toNat_natCast]
      rw [(rd_at2 hi).1]
      simp -implicitDefEqProofs only [evs, reduceIte, rdRes, rdTT, rdTy, rdLT, Res.un, TT.un, Ty.un, LT.un, Leaf.un, Leaf.plain, LT.plain]
      rw [guardO_pos hg2, guardO_pos (nn_at2 (by omega)), (rd_at2 (by omega)).1]
      simp -implicitDefEqProofs only [evs, reduceIte, rdRes, rdTT, rdTy, rdLT, Res.un, TT.un, Ty.un, LT.un, Leaf.un, Leaf.plain, LT.plain]
      rw [Nat.add_sub_cancel]
      by_cases hle : (at2 xs (j + 1)).1 ≤ (at2 xs j).1
      · rw [decide_eq_true hle]
        simp -implicitDefEqProofs only [evs, reduceIte, rdRes, rdTT, rdTy, rdLT, Res.un, TT.un, Ty.un, LT.un, Leaf.un, Leaf.plain, LT.plain]
        rw [if_pos (show (0 < j + 1 ∧ (at2 xs (j + 1)).1 ≤ (at2 xs j).1) from ⟨by omega, hle⟩), if_neg (by omega)]
      · rw [decide_eq_false hle]
        simp -implicitDefEqProofs only [evs, reduceIte, rdRes, rdTT, rdTy, rdLT, Res.un, TT.un, Ty.un, LT.un, Leaf.un, Leaf.plain, LT.plain, Bool.false_eq_true]
        rw [if_neg (show ¬ (0 < j + 1 ∧ (at2 xs (j + 1)).1 ≤ (at2 xs j).1) from fun h => hle h.2), if_pos rfl, i64_succ (by omega)]
theorem rSCheck_ok (xs : List (Int × Int)) (hl : xs.length < 2 ^ 63) : spileref23_CheckP xs = some (shareCheck xs) := by
  unfold spileref23_CheckP spileref23_Check shareCheck
  simp -implicitDefEqProofs only [evs, reduceIte, rdRes, rdTT, rdTy, rdLT, Res.un, TT.un, Ty.un, LT.un, Leaf.un, Leaf.plain, LT.plain]
  by_cases h32 : 32 < xs.length
  · rw [if_pos h32, decide_eq_true (show (32 : Int) < (xs.length : Int) by omega)]
    simp -implicitDefEqProofs only [evs, reduceIte, rdRes, rdTT, rdTy, rdLT, Res.un, TT.un, Ty.un, LT.un, Leaf.un, Leaf.plain, LT.plain]
  · rw [if_neg h32, decide_eq_false (show ¬ (32 : Int) < (xs.length : Int) by omega)]
    simp -implicitDefEqProofs only [evs, reduceIte, rdRes, rdTT, rdTy, rdLT, Res.un, TT.un, Ty.un, LT.un, Leaf.un, Leaf.plain, LT.plain]
    rcases first_cases (sfault xs) xs.length with ⟨h1, h2⟩ | ⟨m, h1, h2, h3, h4⟩
    · rw [h2, if_pos rfl]
      rw [iter_from (s0 := ((0 : Int), H.empty)) (f := spileref23_Check.loop1 (rowSV false j2 xs)) (x := (.ex0 (), H.empty)) (fun i => ((i : Int), H.empty)) rfl xs.length FUEL (fun i hi => by
        rw [rsCheck_step hi (by omega), if_pos (h1 i hi)]) (by
        unfold spileref23_Check.loop1
        simp -implicitDefEqProofs only [rowSV_len]
        rw [decide_eq_false (by omega), cond_false]) (fuel_gt (by omega))]
      simp -implicitDefEqProofs only [evs, reduceIte, rdRes, rdTT, rdTy, rdLT, Res.un, TT.un, Ty.un, LT.un, Leaf.un, Leaf.plain, LT.plain]
      have hb : ∀ x ∈ xs, 0 ≤ x.2 ∧ x.2 ≤ 1000000000000000 := by
        have := take_ok (xs := xs) (i := xs.length) (Nat.le_refl _) h1
        rw [List.take_length] at this
        exact this
      rw [rAlcohol_ok xs (by omega) hb]
      simp -implicitDefEqProofs only [evs, reduceIte, rdRes, rdTT, rdTy, rdLT, Res.un, TT.un, Ty.un, LT.un, Leaf.un, Leaf.plain, LT.plain]
      by_cases hs : 10737418240000 < sumA xs
      · rw [decide_eq_true hs, if_pos hs]; simp -implicitDefEqProofs only [evs, reduceIte, rdRes, rdTT, rdTy, rdLT, Res.un, TT.un, Ty.un, LT.un, Leaf.un, Leaf.plain, LT.plain]
      · rw [decide_eq_false hs, if_neg hs]; simp -implicitDefEqProofs only [evs, reduceIte, rdRes, rdTT, rdTy, rdLT, Res.un, TT.un, Ty.un, LT.un, Leaf.un, Leaf.plain, LT.plain]
    · rw [h4, if_neg h2]
      rw [iter_from (s0 := ((0 : Int), H.empty)) (f := spileref23_Check.loop1 (rowSV false j2 xs)) (x := (.ret (sfault xs m), H.empty)) (fun i => ((i : Int), H.empty)) rfl m FUEL (fun i hi => by
        rw [rsCheck_step (by omega) (by omega), if_pos (h3 i hi)]) (by
        rw [rsCheck_step h1 (by omega), if_neg h2]) (fuel_gt (by omega))]
      simp -implicitDefEqProofs only [evs, reduceIte, rdRes, rdTT, rdTy, rdLT, Res.un, TT.un, Ty.un, LT.un, Leaf.un, Leaf.plain, LT.plain]
def shareSum (xs : List (Int × Int)) : Int × Int := if shareCheck xs = 0 then (sumA xs, 0) else (0, 1)
theorem SSum_ok (xs : List (Int × Int)) (hl : xs.length < 2 ^ 63) : share_SumP xs = some (shareSum xs) := by
  unfold share_SumP share_Sum shareSum
  simp -implicitDefEqProofs only [evs, reduceIte, rdRes, rdTT, rdTy, rdLT, Res.un, TT.un, Ty.un, LT.un, Leaf.un, Leaf.plain, LT.plain]
  rw [SCheck_ok xs hl]
  simp -implicitDefEqProofs only [evs, reduceIte, rdRes, rdTT, rdTy, rdLT, Res.un, TT.un, Ty.un, LT.un, Leaf.un, Leaf.plain, LT.plain]
  by_cases h : shareCheck xs = 0
  · obtain ⟨h1, h2, h3, h4⟩ := shareCheck_ok h
    rw [decide_eq_true h, if_pos h]
    simp -implicitDefEqProofs only [evs, reduceIte, rdRes, rdTT, rdTy, rdLT, Res.un, TT.un, Ty.un, LT.un, Leaf.un, Leaf.plain, LT.plain]
    rw [amounts23_ok xs (by omega) (okS_bound h3)]
    simp -implicitDefEqProofs only [evs, reduceIte, rdRes, rdTT, rdTy, rdLT, Res.un, TT.un, Ty.un, LT.un, Leaf.un, Leaf.plain, LT.plain]
  · rw [decide_eq_false h, if_neg h]
    simp -implicitDefEqProofs only [evs, reduceIte, rdRes, rdTT, rdTy, rdLT, Res.un, TT.un, Ty.un, LT.un, Leaf.un, Leaf.plain, LT.plain]
theorem rSSum_ok (xs : List (Int × Int)) (hl : xs.length < 2 ^ 63) : spileref23_SumP xs = some (shareSum xs) := by
  unfold spileref23_SumP spileref23_Sum shareSum
  simp -implicitDefEqProofs only [evs, reduceIte, rdRes, rdTT, rdTy, rdLT, Res.un, TT.un, Ty.un, LT.un, Leaf.un, Leaf.plain, LT.plain]
  rw [rSCheck_ok xs hl]
  simp -implicitDefEqProofs only [evs, reduceIte, rdRes, rdTT, rdTy, rdLT, Res.un, TT.un, Ty.un, LT.un, Leaf.un, Leaf.plain, LT.plain]
  by_cases h : shareCheck xs = 0
  · obtain ⟨h1, h2, h3, h4⟩ := shareCheck_ok h
    rw [decide_eq_true h, if_pos h]
    simp -implicitDefEqProofs only [evs, reduceIte, rdRes, rdTT, rdTy, rdLT, Res.un, TT.un, Ty.un, LT.un, Leaf.un, Leaf.plain, LT.plain]
    rw [rAlcohol_ok xs (by omega) (okS_bound h3)]
    simp -implicitDefEqProofs only [evs, reduceIte, rdRes, rdTT, rdTy, rdLT, Res.un, TT.un, Ty.un, LT.un, Leaf.un, Leaf.plain, LT.plain]
  · rw [decide_eq_false h, if_neg h]
    simp -implicitDefEqProofs only [evs, reduceIte, rdRes, rdTT, rdTy, rdLT, Res.un, TT.un, Ty.un, LT.un, Leaf.un, Leaf.plain, LT.plain]
end Go.Proofs.Ytbcpdecgfdlaaaa
/- Joining lists of shares, in plain numbers; spileref23.join computes it. Conditions: those of each law. -/
namespace Go.Proofs.Ytbcpdecgfdlaaaa
open Go Go.Proofs.Ytbcpdecgfdlaaaa.Ev
set_option linter.unusedVariables false
set_option linter.unusedSimpArgs false
set_option maxRecDepth 100000
set_option maxHeartbeats 4000000
def joinL : List (Int × Int) → List (Int × Int) → List (Int × Int)
  | [], ys => ys
  | x :: xs, [] => x :: xs
  | x :: xs, y :: ys => if x.1 < y.1 then x :: joinL xs (y :: ys) else if y.1 < x.1 then y :: joinL (x :: xs) ys else (x.1, x.2 + y.2) :: joinL xs ys
termination_by xs ys => xs.length + ys.length
theorem joinL_nil (xs : List (Int × Int)) : joinL xs [] = xs := by cases xs <;> simp [joinL]
theorem nil_joinL (xs : List (Int × Int)) : joinL [] xs = xs := by simp [joinL]
theorem joinL_lt {x y : Int × Int} {xs ys : List (Int × Int)} (h : x.1 < y.1) : joinL (x :: xs) (y :: ys) = x :: joinL xs (y :: ys) := by rw [joinL, if_pos h]
theorem joinL_gt {x y : Int × Int} {xs ys : List (Int × Int)} (h : y.1 < x.1) : joinL (x :: xs) (y :: ys) = y :: joinL (x :: xs) ys := by rw [joinL, if_neg (by omega), if_pos h]
theorem joinL_eq {x y : Int × Int} {xs ys : List (Int × Int)} (h : x.1 = y.1) : joinL (x :: xs) (y :: ys) = (x.1, x.2 + y.2) :: joinL xs ys := by rw [joinL, if_neg (by omega), if_neg (by omega)]
/-- What holds of joined lists, case by case. -/
theorem joinL_cases {P : List (Int × Int) → List (Int × Int) → Prop} (h1 : ∀ ys, P [] ys) (h2 : ∀ xs, P xs []) (h3 : ∀ x xs y ys, x.1 < y.1 → P xs (y :: ys) → P (x :: xs) (y :: ys)) (h4 : ∀ x xs y ys, y.1 < x.1 → P (x :: xs) ys → P (x :: xs) (y :: ys))
    (h5 : ∀ x xs y ys, x.1 = y.1 → P xs ys → P (x :: xs) (y :: ys)) : ∀ (n : Nat) (xs ys : List (Int × Int)), xs.length + ys.length ≤ n → P xs ys
  | n, [], ys, _ => h1 ys
  | n, x :: xs, [], _ => h2 _
  | 0, x :: xs, y :: ys, h => by simp at h
  | n + 1, x :: xs, y :: ys, h => by
    simp only [List.length_cons] at h
    rcases Int.lt_trichotomy x.1 y.1 with h6 | h6 | h6
    · exact h3 x xs y ys h6 (joinL_cases h1 h2 h3 h4 h5 n xs (y :: ys) (by simp only [List.length_cons]; omega))
    · exact h5 x xs y ys h6 (joinL_cases h1 h2 h3 h4 h5 n xs ys (by omega))
    · exact h4 x xs y ys h6 (joinL_cases h1 h2 h3 h4 h5 n (x :: xs) ys (by simp only [List.length_cons]; omega))
theorem joinL_length (xs ys : List (Int × Int)) : (joinL xs ys).length ≤ xs.length + ys.length := by
  refine joinL_cases (P := fun xs ys => (joinL xs ys).length ≤ xs.length + ys.length) (fun ys => by rw [nil_joinL]; simp) (fun xs => by rw [joinL_nil]; simp) (fun x xs y ys h ih => ?_) (fun x xs y ys h ih => ?_) (fun x xs y ys h ih => ?_) _ xs ys (Nat.le_refl _)
  · rw [joinL_lt h]; simp only [List.length_cons] at ih ⊢; omega
  · rw [joinL_gt h]; simp only [List.length_cons] at ih ⊢; omega
  · rw [joinL_eq h]; simp only [List.length_cons] at ih ⊢; omega
theorem joinL_sum (xs ys : List (Int × Int)) : sumA (joinL xs ys) = sumA xs + sumA ys := by
  refine joinL_cases (P := fun xs ys => sumA (joinL xs ys) = sumA xs + sumA ys) (fun ys => by rw [nil_joinL]; simp [sumA]) (fun xs => by rw [joinL_nil]; simp [sumA]) (fun x xs y ys h ih => ?_) (fun x xs y ys h ih => ?_) (fun x xs y ys h ih => ?_) _ xs ys (Nat.le_refl _)
  · rw [joinL_lt h]; simp only [sumA, List.map_cons, List.sum_cons] at ih ⊢; omega
  · rw [joinL_gt h]; simp only [sumA, List.map_cons, List.sum_cons] at ih ⊢; omega
  · rw [joinL_eq h]; simp only [sumA, List.map_cons, List.sum_cons] at ih ⊢; omega
/-- The fills of both. -/
theorem joinL_fill (xs ys : List (Int × Int)) : ∀ p ∈ joinL xs ys, (∃ q ∈ xs, q.1 = p.1) ∨ ∃ q ∈ ys, q.1 = p.1 := by
  refine joinL_cases (P := fun xs ys => ∀ p ∈ joinL xs ys, (∃ q ∈ xs, q.1 = p.1) ∨ ∃ q ∈ ys, q.1 = p.1) (fun ys p hp => by rw [nil_joinL] at hp; exact .inr ⟨p, hp, rfl⟩) (fun xs p hp => by rw [joinL_nil] at hp; exact .inl ⟨p, hp, rfl⟩) (fun x xs y ys h ih p hp => ?_) (fun x xs y ys h ih p hp => ?_) (fun x xs y ys h ih p hp => ?_) _ xs ys (Nat.le_refl _)
  · rw [joinL_lt h] at hp
    rcases List.mem_cons.1 hp with rfl | hp
    · exact .inl ⟨p, by simp, rfl⟩
    · rcases ih p hp with ⟨q, h1, h2⟩ | h1
      · exact .inl ⟨q, by simp [h1], h2⟩
      · exact .inr h1
  · rw [joinL_gt h] at hp
    rcases List.mem_cons.1 hp with rfl | hp
    · exact .inr ⟨p, by simp, rfl⟩
    · rcases ih p hp with h1 | ⟨q, h1, h2⟩
      · exact .inl h1
      · exact .inr ⟨q, by simp [h1], h2⟩
  · rw [joinL_eq h] at hp
    rcases List.mem_cons.1 hp with rfl | hp
    · exact .inl ⟨x, by simp, rfl⟩
    · rcases ih p hp with ⟨q, h1, h2⟩ | ⟨q, h1, h2⟩
      · exact .inl ⟨q, by simp [h1], h2⟩
      · exact .inr ⟨q, by simp [h1], h2⟩
abbrev SortedF (xs : List (Int × Int)) : Prop := List.Pairwise (fun x y => x.1 < y.1) xs
theorem joinL_sorted (xs ys : List (Int × Int)) : SortedF xs → SortedF ys → SortedF (joinL xs ys) := by
  refine joinL_cases (P := fun xs ys => SortedF xs → SortedF ys → SortedF (joinL xs ys)) (fun ys _ h => by rw [nil_joinL]; exact h) (fun xs h _ => by rw [joinL_nil]; exact h) (fun x xs y ys h ih h1 h2 => ?_) (fun x xs y ys h ih h1 h2 => ?_) (fun x xs y ys h ih h1 h2 => ?_) _ xs ys (Nat.le_refl _)
  · have h3 := List.pairwise_cons.1 h1
    have h4 := List.pairwise_cons.1 h2
    rw [joinL_lt h]
    refine List.pairwise_cons.2 ⟨fun p hp => ?_, ih h3.2 h2⟩
    rcases joinL_fill _ _ p hp with ⟨q, k1, k2⟩ | ⟨q, k1, k2⟩
    · have := h3.1 q k1; omega
    · rcases List.mem_cons.1 k1 with rfl | k1
      · omega
      · have := h4.1 q k1; omega
  · have h3 := List.pairwise_cons.1 h1
    have h4 := List.pairwise_cons.1 h2
    rw [joinL_gt h]
    refine List.pairwise_cons.2 ⟨fun p hp => ?_, ih h1 h4.2⟩
    rcases joinL_fill _ _ p hp with ⟨q, k1, k2⟩ | ⟨q, k1, k2⟩
    · rcases List.mem_cons.1 k1 with rfl | k1
      · omega
      · have := h3.1 q k1; omega
    · have := h4.1 q k1; omega
  · have h3 := List.pairwise_cons.1 h1
    have h4 := List.pairwise_cons.1 h2
    rw [joinL_eq h]
    refine List.pairwise_cons.2 ⟨fun p hp => ?_, ih h3.2 h4.2⟩
    simp only
    rcases joinL_fill _ _ p hp with ⟨q, k1, k2⟩ | ⟨q, k1, k2⟩
    · have := h3.1 q k1; omega
    · have := h4.1 q k1; omega
/-- What a list has of a fill. -/
def amtOf (f : Int) (xs : List (Int × Int)) : Int := ((xs.filter fun x => decide (x.1 = f)).map (·.2)).sum
theorem amtOf_nil {f : Int} : amtOf f [] = 0 := rfl
theorem amtOf_cons {f : Int} {x : Int × Int} {xs : List (Int × Int)} : amtOf f (x :: xs) = (if x.1 = f then x.2 else 0) + amtOf f xs := by
  unfold amtOf
  by_cases h : x.1 = f
  · rw [List.filter_cons_of_pos (by simpa using h), if_pos h]; simp
  · rw [List.filter_cons_of_neg (by simpa using h), if_neg h]; simp
theorem amtOf_append {f : Int} : ∀ {xs ys : List (Int × Int)}, amtOf f (xs ++ ys) = amtOf f xs + amtOf f ys
  | [], ys => by simp [amtOf_nil]
  | x :: xs, ys => by rw [List.cons_append, amtOf_cons, amtOf_cons, amtOf_append]; omega
theorem amtOf_none {f : Int} : ∀ {xs : List (Int × Int)}, (∀ x ∈ xs, x.1 ≠ f) → amtOf f xs = 0
  | [], _ => rfl
  | x :: xs, h => by rw [amtOf_cons, if_neg (h x (by simp)), amtOf_none fun y hy => h y (by simp [hy])]; rfl
theorem amtOf_mem : ∀ {xs : List (Int × Int)} {x : Int × Int}, SortedF xs → x ∈ xs → amtOf x.1 xs = x.2
  | [], _, _, h => by cases h
  | y :: ys, x, hs, h => by
    have h3 := List.pairwise_cons.1 hs
    rw [amtOf_cons]
    rcases List.mem_cons.1 h with rfl | h
    · rw [if_pos rfl, amtOf_none fun z hz => by have := h3.1 z hz; omega]; omega
    · have := h3.1 x h
      rw [if_neg (by omega), amtOf_mem h3.2 h]; omega
theorem amtOf_join (f : Int) (xs ys : List (Int × Int)) : amtOf f (joinL xs ys) = amtOf f xs + amtOf f ys := by
  refine joinL_cases (P := fun xs ys => amtOf f (joinL xs ys) = amtOf f xs + amtOf f ys) (fun ys => by rw [nil_joinL]; simp [amtOf_nil]) (fun xs => by rw [joinL_nil]; simp [amtOf_nil]) (fun x xs y ys h ih => ?_) (fun x xs y ys h ih => ?_) (fun x xs y ys h ih => ?_) _ xs ys (Nat.le_refl _)
  · rw [joinL_lt h, amtOf_cons, ih, amtOf_cons (x := x)]; omega
  · rw [joinL_gt h, amtOf_cons, ih, amtOf_cons (x := y)]; omega
  · rw [joinL_eq h, amtOf_cons, ih, amtOf_cons (x := x), amtOf_cons (x := y)]
    simp only
    by_cases hf : x.1 = f
    · rw [if_pos hf, if_pos hf, if_pos (by omega)]; omega
    · rw [if_neg hf, if_neg hf, if_neg (by omega)]; omega
/-- The joined list, by its fills alone. -/
theorem joinL_map (xs ys : List (Int × Int)) (hx : SortedF xs) (hy : SortedF ys) : ((joinL xs ys).map (·.1)).map (fun f => (f, amtOf f xs + amtOf f ys)) = joinL xs ys := by
  rw [List.map_map]
  have : ∀ p ∈ joinL xs ys, ((fun f => (f, amtOf f xs + amtOf f ys)) ∘ fun x : Int × Int => x.1) p = p := fun p hp => by
    simp only [Function.comp]
    rw [← amtOf_join, amtOf_mem (joinL_sorted xs ys hx hy) hp]
  rw [List.map_congr_left this, List.map_id']
theorem drop_at2 {xs : List (Int × Int)} {i : Nat} (h : i < xs.length) : xs.drop i = at2 xs i :: xs.drop (i + 1) := by
  have := at2_some h
  rw [List.getElem?_eq_getElem h] at this
  rw [List.drop_eq_getElem_cons h, Option.some.inj this]
/-- One round of the reference's loop. -/
theorem rjoin_step {xs ys : List (Int × Int)} (hx : ∀ x ∈ xs, 0 ≤ x.2 ∧ x.2 ≤ 1000000000000000) (hy : ∀ x ∈ ys, 0 ≤ x.2 ∧ x.2 ≤ 1000000000000000) (hl : xs.length + ys.length ≤ 2 ^ 30) {acc : List (Int × Int)} {i k : Nat} {s : SV} {sl : List Slot} {o : Option Nat}
    (hi : i ≤ xs.length) (hk : k ≤ ys.length) (hik : i < xs.length ∨ k < ys.length) (hacc : Acc sl j2 acc s o) (ha : acc.length ≤ i + k) :
    ∃ (acc' : List (Int × Int)) (s' : SV) (sl' : List Slot) (o' : Option Nat) (i' k' : Nat), spileref23_join.loop1 (rowSV false j2 xs) (rowSV false j2 ys) ((s, (i : Int), (k : Int)), hL sl) = some (.more ((s', (i' : Int), (k' : Int)), hL sl')) ∧ Acc sl' j2 acc' s' o' ∧ acc'.length ≤ i' + k' ∧ i' ≤ xs.length ∧ k' ≤ ys.length ∧ i + k < i' + k' ∧
      acc' ++ joinL (xs.drop i') (ys.drop k') = acc ++ joinL (xs.drop i) (ys.drop k) := by
  have app : ∀ x : Int × Int, ∃ s' sl' id, appendS (hL sl) none 2 16 s [.int .i64 x.1, .int .i64 x.2] 1 = some (s', hL sl') ∧ Acc sl' j2 (acc ++ [x]) s' (some id) := fun x => by
    obtain ⟨s', sl', id, k1, k2, k3, k4, k5⟩ := hacc.append (b := 16) (w := 2) (x := x) (vs := [.int .i64 x.1, .int .i64 x.2]) rfl (by omega) (by omega) (by omega) rfl
    exact ⟨s', sl', id, k1, k2⟩
  have first : ∃ h, (i < xs.length ∧ (k = ys.length ∨ k < ys.length ∧ (at2 xs i).1 < (at2 ys k).1) ∧ h = 0) ∨ (k < ys.length ∧ (i = xs.length ∨ i < xs.length ∧ (at2 ys k).1 < (at2 xs i).1) ∧ h = 1) ∨ (i < xs.length ∧ k < ys.length ∧ (at2 xs i).1 = (at2 ys k).1 ∧ h = 2) := by
    rcases Nat.lt_or_ge i xs.length with h1 | h1
    · rcases Nat.lt_or_ge k ys.length with h2 | h2
      · rcases Int.lt_trichotomy (at2 xs i).1 (at2 ys k).1 with h3 | h3 | h3
        · exact ⟨0, .inl ⟨h1, .inr ⟨h2, h3⟩, rfl⟩⟩
        · exact ⟨2, .inr (.inr ⟨h1, h2, h3, rfl⟩)⟩
        · exact ⟨1, .inr (.inl ⟨h2, .inr ⟨h1, h3⟩, rfl⟩)⟩
      · exact ⟨0, .inl ⟨h1, .inl (by omega), rfl⟩⟩
    · exact ⟨1, .inr (.inl ⟨by omega, .inl (by omega), rfl⟩)⟩
  have hgi : i < xs.length → 0 ≤ (i : Int) ∧ (i : Int) < (xs.length : Int) := fun h => by omega
  have hgk : k < ys.length → 0 ≤ (k : Int) ∧ (k : Int) < (ys.length : Int) := fun h => by omega
  obtain ⟨h, ⟨h1, h2, -⟩ | ⟨h1, h2, -⟩ | ⟨h1, h2, h3, -⟩⟩ := first
  · obtain ⟨s', sl', id, k1, k2⟩ := app (at2 xs i)
    refine ⟨acc ++ [at2 xs i], s', sl', some id, i + 1, k, ?_, k2, by simp; omega, by omega, hk, by omega, ?_⟩
    · unfold spileref23_join.loop1
      simp -implicitDefEqProofs only [Int.toNat_natCast, rowSV_len, guardO_pos (hgi h1), reserve0]
      rw [decide_eq_true (show (i : Int) < (xs.length : Int) by omega)]
      simp -implicitDefEqProofs only [evs, reduceIte, rdRes, rdTT, rdTy, rdLT, Res.un, TT.un, Ty.un, LT.un, Leaf.un, Leaf.plain, LT.plain]
      rcases h2 with h2 | ⟨h2, h3⟩
      · rw [decide_eq_true (show (k : Int) = (ys.length : Int) by omega)]
        simp -implicitDefEqProofs only [evs, reduceIte, rdRes, rdTT, rdTy, rdLT, Res.un, TT.un, Ty.un, LT.un, Leaf.un, Leaf.plain, LT.plain]
        rw [rds_rowF (ls := j2) (w := 2) rfl (by omega) rfl, at2_some h1]
        simp -implicitDefEqProofs only [evs, reduceIte, rdRes, rdTT, rdTy, rdLT, Res.un, TT.un, Ty.un, LT.un, Leaf.un, Leaf.plain, LT.plain]
        rw [k1]
        simp -implicitDefEqProofs only [evs, reduceIte, rdRes, rdTT, rdTy, rdLT, Res.un, TT.un, Ty.un, LT.un, Leaf.un, Leaf.plain, LT.plain]
        rw [i64_succ (by omega)]
      · rw [decide_eq_false (show ¬ (k : Int) = (ys.length : Int) by omega)]
        simp -implicitDefEqProofs only [evs, reduceIte, rdRes, rdTT, rdTy, rdLT, Res.un, TT.un, Ty.un, LT.un, Leaf.un, Leaf.plain, LT.plain, guardO_pos (hgk h2)]
        rw [guardO_pos (nn_at2 h1), (rd_at2 h1).1]
        simp -implicitDefEqProofs only [evs, reduceIte, rdRes, rdTT, rdTy, rdLT, Res.un, TT.un, Ty.un, LT.un, Leaf.un, Leaf.plain, LT.plain]
        rw [guardO_pos (nn_at2 h2), (rd_at2 h2).1]
        simp -implicitDefEqProofs only [evs, reduceIte, rdRes, rdTT, rdTy, rdLT, Res.un, TT.un, Ty.un, LT.un, Leaf.un, Leaf.plain, LT.plain]
        rw [decide_eq_true h3]
        simp -implicitDefEqProofs only [evs, reduceIte, rdRes, rdTT, rdTy, rdLT, Res.un, TT.un, Ty.un, LT.un, Leaf.un, Leaf.plain, LT.plain]
        rw [rds_rowF (ls := j2) (w := 2) rfl (by omega) rfl, at2_some h1]
        simp -implicitDefEqProofs only [evs, reduceIte, rdRes, rdTT, rdTy, rdLT, Res.un, TT.un, Ty.un, LT.un, Leaf.un, Leaf.plain, LT.plain]
        rw [k1]
        simp -implicitDefEqProofs only [evs, reduceIte, rdRes, rdTT, rdTy, rdLT, Res.un, TT.un, Ty.un, LT.un, Leaf.un, Leaf.plain, LT.plain]
        rw [i64_succ (by omega)]
    · rw [drop_at2 h1, List.append_assoc]
      rcases h2 with rfl | ⟨h2, h3⟩
      · simp [joinL_nil]
      · rw [drop_at2 h2, joinL_lt h3]; rfl
  · obtain ⟨s', sl', id, k1, k2⟩ := app (at2 ys k)
    refine ⟨acc ++ [at2 ys k], s', sl', some id, i, k + 1, ?_, k2, by simp; omega, hi, by omega, by omega, ?_⟩
    · unfold spileref23_join.loop1
      simp -implicitDefEqProofs only [Int.toNat_natCast, rowSV_len, guardO_pos (hgk h1), reserve0]
      rcases h2 with h2 | ⟨h2, h3⟩
      · rw [decide_eq_false (show ¬ (i : Int) < (xs.length : Int) by omega), decide_eq_true (show (k : Int) < (ys.length : Int) by omega), decide_eq_false (show ¬ (k : Int) = (ys.length : Int) by omega)]
        simp -implicitDefEqProofs only [evs, reduceIte, rdRes, rdTT, rdTy, rdLT, Res.un, TT.un, Ty.un, LT.un, Leaf.un, Leaf.plain, LT.plain]
        rw [decide_eq_true (show (i : Int) = (xs.length : Int) by omega)]
        simp -implicitDefEqProofs only [evs, reduceIte, rdRes, rdTT, rdTy, rdLT, Res.un, TT.un, Ty.un, LT.un, Leaf.un, Leaf.plain, LT.plain]
        rw [rds_rowF (ls := j2) (w := 2) rfl (by omega) rfl, at2_some h1]
        simp -implicitDefEqProofs only [evs, reduceIte, rdRes, rdTT, rdTy, rdLT, Res.un, TT.un, Ty.un, LT.un, Leaf.un, Leaf.plain, LT.plain]
        rw [k1]
        simp -implicitDefEqProofs only [evs, reduceIte, rdRes, rdTT, rdTy, rdLT, Res.un, TT.un, Ty.un, LT.un, Leaf.un, Leaf.plain, LT.plain]
        rw [i64_succ (by omega)]
      · rw [decide_eq_true (show (i : Int) < (xs.length : Int) by omega), decide_eq_false (show ¬ (k : Int) = (ys.length : Int) by omega)]
        simp -implicitDefEqProofs only [evs, reduceIte, rdRes, rdTT, rdTy, rdLT, Res.un, TT.un, Ty.un, LT.un, Leaf.un, Leaf.plain, LT.plain, guardO_pos (hgi h2)]
        rw [guardO_pos (nn_at2 h2), (rd_at2 h2).1]
        simp -implicitDefEqProofs only [evs, reduceIte, rdRes, rdTT, rdTy, rdLT, Res.un, TT.un, Ty.un, LT.un, Leaf.un, Leaf.plain, LT.plain]
        rw [guardO_pos (nn_at2 h1), (rd_at2 h1).1]
        simp -implicitDefEqProofs only [evs, reduceIte, rdRes, rdTT, rdTy, rdLT, Res.un, TT.un, Ty.un, LT.un, Leaf.un, Leaf.plain, LT.plain]
        rw [decide_eq_false (show ¬ (at2 xs i).1 < (at2 ys k).1 by omega)]
        simp -implicitDefEqProofs only [evs, reduceIte, rdRes, rdTT, rdTy, rdLT, Res.un, TT.un, Ty.un, LT.un, Leaf.un, Leaf.plain, LT.plain]
        rw [decide_eq_false (show ¬ (i : Int) = (xs.length : Int) by omega)]
        simp -implicitDefEqProofs only [evs, reduceIte, rdRes, rdTT, rdTy, rdLT, Res.un, TT.un, Ty.un, LT.un, Leaf.un, Leaf.plain, LT.plain]
        rw [guardO_pos (nn_at2 h1), (rd_at2 h1).1]
        simp -implicitDefEqProofs only [evs, reduceIte, rdRes, rdTT, rdTy, rdLT, Res.un, TT.un, Ty.un, LT.un, Leaf.un, Leaf.plain, LT.plain]
        rw [guardO_pos (nn_at2 h2), (rd_at2 h2).1]
        simp -implicitDefEqProofs only [evs, reduceIte, rdRes, rdTT, rdTy, rdLT, Res.un, TT.un, Ty.un, LT.un, Leaf.un, Leaf.plain, LT.plain]
        rw [decide_eq_true h3]
        simp -implicitDefEqProofs only [evs, reduceIte, rdRes, rdTT, rdTy, rdLT, Res.un, TT.un, Ty.un, LT.un, Leaf.un, Leaf.plain, LT.plain]
        rw [rds_rowF (ls := j2) (w := 2) rfl (by omega) rfl, at2_some h1]
        simp -implicitDefEqProofs only [evs, reduceIte, rdRes, rdTT, rdTy, rdLT, Res.un, TT.un, Ty.un, LT.un, Leaf.un, Leaf.plain, LT.plain]
        rw [k1]
        simp -implicitDefEqProofs only [evs, reduceIte, rdRes, rdTT, rdTy, rdLT, Res.un, TT.un, Ty.un, LT.un, Leaf.un, Leaf.plain, LT.plain]
        rw [i64_succ (by omega)]
    · rw [drop_at2 h1, List.append_assoc]
      rcases h2 with rfl | ⟨h2, h3⟩
      · simp [nil_joinL]
      · rw [drop_at2 h2, joinL_gt h3]; rfl
  · obtain ⟨s', sl', id, k1, k2⟩ := app ((at2 xs i).1, (at2 xs i).2 + (at2 ys k).2)
    have b1 := hx _ (at2_mem h1)
    have b2 := hy _ (at2_mem h2)
    refine ⟨acc ++ [((at2 xs i).1, (at2 xs i).2 + (at2 ys k).2)], s', sl', some id, i + 1, k + 1, ?_, k2, by simp; omega, by omega, by omega, by omega, ?_⟩
    · unfold spileref23_join.loop1
      simp -implicitDefEqProofs only [Int.toNat_natCast, rowSV_len, guardO_pos (hgi h1), guardO_pos (hgk h2), reserve0]
      rw [decide_eq_true (show (i : Int) < (xs.length : Int) by omega), decide_eq_false (show ¬ (k : Int) = (ys.length : Int) by omega)]
      simp -implicitDefEqProofs only [evs, reduceIte, rdRes, rdTT, rdTy, rdLT, Res.un, TT.un, Ty.un, LT.un, Leaf.un, Leaf.plain, LT.plain]
      rw [guardO_pos (nn_at2 h1), (rd_at2 h1).1]
      simp -implicitDefEqProofs only [evs, reduceIte, rdRes, rdTT, rdTy, rdLT, Res.un, TT.un, Ty.un, LT.un, Leaf.un, Leaf.plain, LT.plain]
      rw [guardO_pos (nn_at2 h2), (rd_at2 h2).1]
      simp -implicitDefEqProofs only [evs, reduceIte, rdRes, rdTT, rdTy, rdLT, Res.un, TT.un, Ty.un, LT.un, Leaf.un, Leaf.plain, LT.plain]
      rw [decide_eq_false (show ¬ (at2 xs i).1 < (at2 ys k).1 by omega)]
      simp -implicitDefEqProofs only [evs, reduceIte, rdRes, rdTT, rdTy, rdLT, Res.un, TT.un, Ty.un, LT.un, Leaf.un, Leaf.plain, LT.plain]
      rw [decide_eq_false (show ¬ (i : Int) = (xs.length : Int) by omega)]
      simp -implicitDefEqProofs only [evs, reduceIte, rdRes, rdTT, rdTy, rdLT, Res.un, TT.un, Ty.un, LT.un, Leaf.un, Leaf.plain, LT.plain]
      rw [guardO_pos (nn_at2 h2), (rd_at2 h2).1]
      simp -implicitDefEqProofs only [evs, reduceIte, rdRes, rdTT, rdTy, rdLT, Res.un, TT.un, Ty.un, LT.un, Leaf.un, Leaf.plain, LT.plain]
      rw [guardO_pos (nn_at2 h1), (rd_at2 h1).1]
      simp -implicitDefEqProofs only [evs, reduceIte, rdRes, rdTT, rdTy, rdLT, Res.un, TT.un, Ty.un, LT.un, Leaf.un, Leaf.plain, LT.plain]
      rw [decide_eq_false (show ¬ (at2 ys k).1 < (at2 xs i).1 by omega)]
      simp -implicitDefEqProofs only [evs, reduceIte, rdRes, rdTT, rdTy, rdLT, Res.un, TT.un, Ty.un, LT.un, Leaf.un, Leaf.plain, LT.plain]
      rw [guardO_pos (nn_at2 h1), (rd_at2 h1).1]
      simp -implicitDefEqProofs only [evs, reduceIte, rdRes, rdTT, rdTy, rdLT, Res.un, TT.un, Ty.un, LT.un, Leaf.un, Leaf.plain, LT.plain]
      rw [guardO_pos (nn_at2 h1), (rd_at2 h1).2]
      simp -implicitDefEqProofs only [evs, reduceIte, rdRes, rdTT, rdTy, rdLT, Res.un, TT.un, Ty.un, LT.un, Leaf.un, Leaf.plain, LT.plain]
      rw [guardO_pos (nn_at2 h2), (rd_at2 h2).2]
      simp -implicitDefEqProofs only [evs, reduceIte, rdRes, rdTT, rdTy, rdLT, Res.un, TT.un, Ty.un, LT.un, Leaf.un, Leaf.plain, LT.plain]
      rw [i64_in _ (by omega), k1]
      simp -implicitDefEqProofs only [evs, reduceIte, rdRes, rdTT, rdTy, rdLT, Res.un, TT.un, Ty.un, LT.un, Leaf.un, Leaf.plain, LT.plain]
      rw [i64_succ (by omega), i64_succ (by omega)]
    · rw [drop_at2 h1, drop_at2 h2, joinL_eq h3, List.append_assoc]; rfl
theorem rjoin_ok (xs ys : List (Int × Int)) (hx : ∀ x ∈ xs, 0 ≤ x.2 ∧ x.2 ≤ 1000000000000000) (hy : ∀ x ∈ ys, 0 ≤ x.2 ∧ x.2 ≤ 1000000000000000) (hl : xs.length + ys.length ≤ 2 ^ 30) : spileref23_joinP xs ys = some (joinL xs ys) := by
  unfold spileref23_joinP spileref23_join
  simp -implicitDefEqProofs only [evs, reduceIte, rdRes, rdTT, rdTy, rdLT, Res.un, TT.un, Ty.un, LT.un, Leaf.un, Leaf.plain, LT.plain, hL_empty]
  obtain ⟨x, h1, s, sl, o, rfl, h2⟩ := iter_inv (f := spileref23_join.loop1 (rowSV false j2 xs) (rowSV false j2 ys))
    (Inv := fun st => ∃ (acc : List (Int × Int)) (s : SV) (sl : List Slot) (o : Option Nat) (i k : Nat), st = ((s, (i : Int), (k : Int)), hL sl) ∧ Acc sl j2 acc s o ∧ acc.length ≤ i + k ∧ i ≤ xs.length ∧ k ≤ ys.length ∧ acc ++ joinL (xs.drop i) (ys.drop k) = joinL xs ys)
    (Post := fun x => ∃ s sl o, x = (.ex0 s, hL sl) ∧ Acc sl j2 (joinL xs ys) s o) (fun st => xs.length + ys.length - (st.1.2.1.toNat + st.1.2.2.toNat)) (fun st hst => by
      obtain ⟨acc, s, sl, o, i, k, rfl, hacc, ha, hi, hk, he⟩ := hst
      by_cases hik : i < xs.length ∨ k < ys.length
      · obtain ⟨acc', s', sl', o', i', k', e1, e2, e3, e4, e5, e6, e7⟩ := rjoin_step hx hy hl hi hk hik hacc ha
        exact .inl ⟨_, e1, ⟨acc', s', sl', o', i', k', rfl, e2, e3, e4, e5, by rw [e7, he]⟩, by simp only [Int.toNat_natCast]; omega⟩
      · refine .inr ⟨(.ex0 s, hL sl), ?_, s, sl, o, rfl, ?_⟩
        · unfold spileref23_join.loop1
          simp -implicitDefEqProofs only [rowSV_len]
          rw [decide_eq_false (show ¬ (i : Int) < (xs.length : Int) by omega), decide_eq_false (show ¬ (k : Int) < (ys.length : Int) by omega)]
          simp -implicitDefEqProofs only [evs, reduceIte, rdRes, rdTT, rdTy, rdLT, Res.un, TT.un, Ty.un, LT.un, Leaf.un, Leaf.plain, LT.plain]
        · rw [List.drop_eq_nil_of_le (show xs.length ≤ i by omega), List.drop_eq_nil_of_le (show ys.length ≤ k by omega), nil_joinL, List.append_nil] at he
          rw [← he]; exact hacc) FUEL ((⟨.lp true [] 0, 0, 0, false⟩, 0, 0), hL []) ⟨[], _, [], none, 0, 0, rfl, Acc.nil', by simp, by omega, by omega, by simp⟩ (by simp only; have := fuel_gt (n := xs.length + ys.length) (by omega); omega)
  rw [h1]
  simp -implicitDefEqProofs only [evs, reduceIte, rdRes, rdTT, rdTy, rdLT, Res.un, TT.un, Ty.un, LT.un, Leaf.un, Leaf.plain, LT.plain]
  rw [h2.read rfl]
end Go.Proofs.Ytbcpdecgfdlaaaa
/- slices.Grow and slices.Concat of shares; sums by fill in a map. Conditions: those of each law. -/
namespace Go.Proofs.Ytbcpdecgfdlaaaa
open Go Go.Proofs.Ytbcpdecgfdlaaaa.Ev
set_option linter.unusedVariables false
set_option linter.unusedSimpArgs false
set_option maxRecDepth 100000
set_option maxHeartbeats 4000000
def pick3 {α : Type} (a b c : α) : Nat → α
  | 0 => a
  | 1 => b
  | _ => c
theorem pick3_0 {α : Type} {a b c : α} : pick3 a b c 0 = a := rfl
theorem pick3_1 {α : Type} {a b c : α} : pick3 a b c 1 = b := rfl
theorem pick3_2 {α : Type} {a b c : α} : pick3 a b c 2 = c := rfl
/-- An append to a slice of the call's own that has room. -/
theorem append_room {sl : List Slot} {id n a c w b : Nat} {old cs : List V} (hs : sl[id]? = some (.own old w)) (ho : old.length = n * w) (hc : cs.length = c * w) (hf : a + c ≤ n) (hn : n ≤ 2 ^ 36) (hb : b ≤ 2 ^ 11) :
    appendS (hL sl) none w b ⟨.hp id (n * w) 0, a, n, true⟩ cs c = some (⟨.hp id (n * w) 0, a + c, n, true⟩, hL (sl.set id (.own (splice old (a * w) cs) w))) := by
  have hid := (List.getElem?_eq_some_iff.1 hs).1
  simp only [appendS, appendV]
  by_cases h0 : c = 0
  · subst h0
    have : cs = [] := List.eq_nil_of_length_eq_zero (by simpa using hc)
    subst this
    rw [if_pos rfl]
    have : splice old (a * w) [] = old := by simp [splice]
    rw [this]
    have : sl.set id (.own old w) = sl := by
      obtain ⟨h1, h2⟩ := List.getElem?_eq_some_iff.1 hs
      rw [← h2]; exact List.set_getElem_self h1
    rw [this]
    rfl
  · rw [if_neg h0, guardO_pos ⟨by unfold roomCells; omega, hb⟩, hL_m, hs]
    simp only [Option.getD_some]
    rw [if_neg (by omega), if_pos hf, Nat.zero_add, wrs_own hs ho (by rw [hc, ← Nat.add_mul]; exact Nat.mul_le_mul_right _ hf)]
    rfl
theorem Grow_ok {sl : List Slot} {n : Nat} (hn : n ≤ 2 ^ 30) : slices_Grow_api_Share_api_Share ⟨.nil, 0, 0, false⟩ (n : Int) (hL sl) = if n = 0 then some (⟨.nil, 0, 0, false⟩, hL sl) else some (⟨.hp sl.length (n * 2) 0, 0, n, true⟩, hL (sl ++ [.own (repeatCells [.int .i64 0, .int .i64 0] n) 2])) := by
  unfold slices_Grow_api_Share_api_Share
  rw [decide_eq_false (show ¬ (n : Int) < 0 by omega)]
  simp -implicitDefEqProofs only [evs, reduceIte, rdRes, rdTT, rdTy, rdLT, Res.un, TT.un, Ty.un, LT.un, Leaf.un, Leaf.plain, LT.plain, Int.toNat_zero, Nat.sub_self]
  rw [show IntKind.wrap .i64 (((0 : Nat) : Int) - ((0 : Nat) : Int)) = 0 from rfl, show (n : Int) - 0 = (n : Int) by omega, i64_nat (by omega)]
  by_cases h0 : n = 0
  · subst h0
    rw [if_pos rfl, decide_eq_false (show ¬ (0 : Int) < ((0 : Nat) : Int) by omega)]
    simp -implicitDefEqProofs only [evs, reduceIte, rdRes, rdTT, rdTy, rdLT, Res.un, TT.un, Ty.un, LT.un, Leaf.un, Leaf.plain, LT.plain]
  · rw [if_neg h0, decide_eq_true (show (0 : Int) < (n : Int) by omega)]
    simp -implicitDefEqProofs only [evs, reduceIte, rdRes, rdTT, rdTy, rdLT, Res.un, TT.un, Ty.un, LT.un, Leaf.un, Leaf.plain, LT.plain]
    rw [guardO_pos (by omega), guardO_pos ⟨by omega, by unfold roomCells; omega, by omega⟩, Int.toNat_natCast]
    simp -implicitDefEqProofs only [evs, reduceIte, rdRes, rdTT, rdTy, rdLT, Res.un, TT.un, Ty.un, LT.un, Leaf.un, Leaf.plain, LT.plain]
    simp only [appendS, appendV, V.add, newAt]
    rw [if_neg h0, guardO_pos ⟨by unfold roomCells; omega, by omega⟩, if_pos ⟨trivial, trivial, rfl⟩, hL_new, hL_next]
    simp -implicitDefEqProofs only [evs, reduceIte, rdRes, rdTT, rdTy, rdLT, Res.un, TT.un, Ty.un, LT.un, Leaf.un, Leaf.plain, LT.plain]
    rw [guardO_pos (by omega)]
    simp -implicitDefEqProofs only [evs, reduceIte, rdRes, rdTT, rdTy, rdLT, Res.un, TT.un, Ty.un, LT.un, Leaf.un, Leaf.plain, LT.plain]
    rfl
theorem cells_of {f : Bool} {h : H} {xs : List (Int × Int)} : cellsOf h (.slice (rowSV f j2 xs).a xs.length xs.length true) 2 = some (xs.length, cellsL j2 xs) := by
  have e : (rowSV f j2 xs).a = .lp f (cellsL j2 xs) 0 := rfl
  have hlen : (cellsL j2 xs).length = xs.length * 2 := flat_length (ls := j2) xs
  unfold cellsOf
  by_cases h0 : xs.length = 0
  · have : xs = [] := List.eq_nil_of_length_eq_zero h0
    subst this
    rfl
  · simp only
    rw [if_neg h0, e]
    simp only [H.rds, H.from, Option.bind_some, List.drop_zero]
    rw [if_pos ⟨by omega, by omega⟩, List.take_of_length_le (by omega)]
    rfl
theorem Concat_ok {sl : List Slot} (xs ys : List (Int × Int)) (hl : xs.length + ys.length ≤ 2 ^ 30) :
    ∃ s ext o, slices_Concat_api_Share_api_Share ⟨.lp true [.slice (rowSV false j2 xs).a xs.length xs.length true, .slice (rowSV false j2 ys).a ys.length ys.length true] 0, 2, 2, false⟩ (hL sl) = some (s, hL (sl ++ ext)) ∧ Acc (sl ++ ext) j2 (xs ++ ys) s o ∧ ∀ id, o = some id → sl.length ≤ id := by
  have hA : (V.add (V.lp true [.slice (rowSV false j2 xs).a xs.length xs.length true, .slice (rowSV false j2 ys).a ys.length ys.length true] 0) (0 * 1)) = V.lp true [.slice (rowSV false j2 xs).a xs.length xs.length true, .slice (rowSV false j2 ys).a ys.length ys.length true] 0 := rfl
  have r0 : ∀ h : H, rdT (.leaf .slice) h (V.add (V.lp true [.slice (rowSV false j2 xs).a xs.length xs.length true, .slice (rowSV false j2 ys).a ys.length ys.length true] 0) (0 * 1)) = some ⟨(rowSV false j2 xs).a, xs.length, xs.length, true⟩ := fun h => rfl
  have r1 : ∀ h : H, rdT (.leaf .slice) h (V.add (V.lp true [.slice (rowSV false j2 xs).a xs.length xs.length true, .slice (rowSV false j2 ys).a ys.length ys.length true] 0) (1 * 1)) = some ⟨(rowSV false j2 ys).a, ys.length, ys.length, true⟩ := fun h => rfl
  have w1 : IntKind.wrap .i64 ((0 : Int) + (xs.length : Int)) = (xs.length : Int) := by rw [i64_in _ (by omega)]; omega
  have w2 : IntKind.wrap .i64 ((xs.length : Int) + (ys.length : Int)) = ((xs.length + ys.length : Nat) : Int) := by rw [i64_in _ (by omega)]; omega
  have w3 : IntKind.wrap .i64 ((0 : Int) + 1) = 1 := rfl
  have w4 : IntKind.wrap .i64 ((1 : Int) + 1) = 2 := rfl
  have c0 : Int.toNat 0 = 0 := rfl
  have c1 : Int.toNat 1 = 1 := rfl
  unfold slices_Concat_api_Share_api_Share
  have L1 : iter FUEL (slices_Concat_api_Share_api_Share.loop1 ⟨.lp true [.slice (rowSV false j2 xs).a xs.length xs.length true, .slice (rowSV false j2 ys).a ys.length ys.length true] 0, 2, 2, false⟩) ((0, 0), hL sl) = some (.ex0 (((xs.length + ys.length : Nat) : Int)), hL sl) := by
    refine iter_from (s0 := ((0, 0), hL sl)) (fun i => ((pick3 (0 : Int) (xs.length : Int) ((xs.length + ys.length : Nat) : Int) i, (i : Int)), hL sl)) rfl 2 FUEL (fun i hi => ?_) ?_ (fuel_gt (by omega))
    · obtain rfl | rfl : i = 0 ∨ i = 1 := by omega
      · unfold slices_Concat_api_Share_api_Share.loop1
        simp -implicitDefEqProofs only [evs, reduceIte, rdRes, rdTT, rdTy, rdLT, Res.un, TT.un, Ty.un, LT.un, Leaf.un, Leaf.plain, LT.plain]
        rw [decide_eq_true (show (((0 : Nat) : Int) < ((2 : Nat) : Int)) by omega), cond_true, guardO_pos (by omega)]
        rw [show Int.toNat (((0 : Nat) : Int)) = 0 from rfl, r0]
        simp -implicitDefEqProofs only [evs, reduceIte, rdRes, rdTT, rdTy, rdLT, Res.un, TT.un, Ty.un, LT.un, Leaf.un, Leaf.plain, LT.plain]
        rw [pick3_0, w1, decide_eq_false (show ¬ (xs.length : Int) < 0 by omega)]
        simp -implicitDefEqProofs only [evs, reduceIte, rdRes, rdTT, rdTy, rdLT, Res.un, TT.un, Ty.un, LT.un, Leaf.un, Leaf.plain, LT.plain]
        rfl
      · unfold slices_Concat_api_Share_api_Share.loop1
        simp -implicitDefEqProofs only [evs, reduceIte, rdRes, rdTT, rdTy, rdLT, Res.un, TT.un, Ty.un, LT.un, Leaf.un, Leaf.plain, LT.plain]
        rw [decide_eq_true (show (((1 : Nat) : Int) < ((2 : Nat) : Int)) by omega), cond_true, guardO_pos (by omega)]
        rw [show Int.toNat (((1 : Nat) : Int)) = 1 from rfl, r1]
        simp -implicitDefEqProofs only [evs, reduceIte, rdRes, rdTT, rdTy, rdLT, Res.un, TT.un, Ty.un, LT.un, Leaf.un, Leaf.plain, LT.plain]
        rw [pick3_1, w2, decide_eq_false (show ¬ ((xs.length + ys.length : Nat) : Int) < 0 by omega)]
        simp -implicitDefEqProofs only [evs, reduceIte, rdRes, rdTT, rdTy, rdLT, Res.un, TT.un, Ty.un, LT.un, Leaf.un, Leaf.plain, LT.plain]
        rfl
    · unfold slices_Concat_api_Share_api_Share.loop1
      simp -implicitDefEqProofs only [evs, reduceIte, rdRes, rdTT, rdTy, rdLT, Res.un, TT.un, Ty.un, LT.un, Leaf.un, Leaf.plain, LT.plain]
      rw [decide_eq_false (show ¬ (((2 : Nat) : Int) < ((2 : Nat) : Int)) by omega), cond_false]
      rfl
  rw [L1]
  simp -implicitDefEqProofs only [evs, reduceIte, rdRes, rdTT, rdTy, rdLT, Res.un, TT.un, Ty.un, LT.un, Leaf.un, Leaf.plain, LT.plain]
  rw [Grow_ok hl]
  have hx : ∀ h, cellsOf h (.slice (rowSV false j2 xs).a xs.length xs.length true) 2 = some (xs.length, cellsL j2 xs) := fun h => cells_of
  have hy : ∀ h, cellsOf h (.slice (rowSV false j2 ys).a ys.length ys.length true) 2 = some (ys.length, cellsL j2 ys) := fun h => cells_of
  have lx : (cellsL j2 xs).length = xs.length * 2 := flat_length (ls := j2) xs
  have ly : (cellsL j2 ys).length = ys.length * 2 := flat_length (ls := j2) ys
  have key : ∀ (t0 t1 t2 : SV × List Slot), appendS (hL t0.2) none 2 16 t0.1 (cellsL j2 xs) xs.length = some (t1.1, hL t1.2) → appendS (hL t1.2) none 2 16 t1.1 (cellsL j2 ys) ys.length = some (t2.1, hL t2.2) →
      iter FUEL (slices_Concat_api_Share_api_Share.loop2 ⟨.lp true [.slice (rowSV false j2 xs).a xs.length xs.length true, .slice (rowSV false j2 ys).a ys.length ys.length true] 0, 2, 2, false⟩) ((t0.1, 0), hL t0.2) = some (.ex0 t2.1, hL t2.2) := fun t0 t1 t2 h1 h2 => by
    refine iter_from (s0 := ((t0.1, 0), hL t0.2)) (fun i => ((pick3 t0.1 t1.1 t2.1 i, (i : Int)), hL (pick3 t0.2 t1.2 t2.2 i))) rfl 2 FUEL (fun i hi => ?_) ?_ (fuel_gt (by omega))
    · obtain rfl | rfl : i = 0 ∨ i = 1 := by omega
      · unfold slices_Concat_api_Share_api_Share.loop2
        simp -implicitDefEqProofs only [evs, reduceIte, rdRes, rdTT, rdTy, rdLT, Res.un, TT.un, Ty.un, LT.un, Leaf.un, Leaf.plain, LT.plain]
        rw [decide_eq_true (show (((0 : Nat) : Int) < ((2 : Nat) : Int)) by omega), cond_true, guardO_pos (by omega)]
        rw [show Int.toNat (((0 : Nat) : Int)) = 0 from rfl, r0]
        simp -implicitDefEqProofs only [evs, reduceIte, rdRes, rdTT, rdTy, rdLT, Res.un, TT.un, Ty.un, LT.un, Leaf.un, Leaf.plain, LT.plain]
        rw [hx]
        simp -implicitDefEqProofs only [evs, reduceIte, rdRes, rdTT, rdTy, rdLT, Res.un, TT.un, Ty.un, LT.un, Leaf.un, Leaf.plain, LT.plain]
        rw [pick3_0, pick3_0, h1]
        simp -implicitDefEqProofs only [evs, reduceIte, rdRes, rdTT, rdTy, rdLT, Res.un, TT.un, Ty.un, LT.un, Leaf.un, Leaf.plain, LT.plain]
        rfl
      · unfold slices_Concat_api_Share_api_Share.loop2
        simp -implicitDefEqProofs only [evs, reduceIte, rdRes, rdTT, rdTy, rdLT, Res.un, TT.un, Ty.un, LT.un, Leaf.un, Leaf.plain, LT.plain]
        rw [decide_eq_true (show (((1 : Nat) : Int) < ((2 : Nat) : Int)) by omega), cond_true, guardO_pos (by omega)]
        rw [show Int.toNat (((1 : Nat) : Int)) = 1 from rfl, r1]
        simp -implicitDefEqProofs only [evs, reduceIte, rdRes, rdTT, rdTy, rdLT, Res.un, TT.un, Ty.un, LT.un, Leaf.un, Leaf.plain, LT.plain]
        rw [hy]
        simp -implicitDefEqProofs only [evs, reduceIte, rdRes, rdTT, rdTy, rdLT, Res.un, TT.un, Ty.un, LT.un, Leaf.un, Leaf.plain, LT.plain]
        rw [pick3_1, pick3_1, h2]
        simp -implicitDefEqProofs only [evs, reduceIte, rdRes, rdTT, rdTy, rdLT, Res.un, TT.un, Ty.un, LT.un, Leaf.un, Leaf.plain, LT.plain]
        rfl
    · unfold slices_Concat_api_Share_api_Share.loop2
      simp -implicitDefEqProofs only [evs, reduceIte, rdRes, rdTT, rdTy, rdLT, Res.un, TT.un, Ty.un, LT.un, Leaf.un, Leaf.plain, LT.plain]
      rw [decide_eq_false (show ¬ (((2 : Nat) : Int) < ((2 : Nat) : Int)) by omega), cond_false]
      rfl
  by_cases h0 : xs.length + ys.length = 0
  · have hx0 : xs = [] := List.eq_nil_of_length_eq_zero (by omega)
    have hy0 : ys = [] := List.eq_nil_of_length_eq_zero (by omega)
    subst hx0 hy0
    rw [if_pos (show ([] : List (Int × Int)).length + ([] : List (Int × Int)).length = 0 from rfl)]
    simp -implicitDefEqProofs only [evs, reduceIte, rdRes, rdTT, rdTy, rdLT, Res.un, TT.un, Ty.un, LT.un, Leaf.un, Leaf.plain, LT.plain]
    rw [key (⟨.nil, 0, 0, false⟩, sl) (⟨.nil, 0, 0, false⟩, sl) (⟨.nil, 0, 0, false⟩, sl) rfl rfl]
    simp -implicitDefEqProofs only [evs, reduceIte, rdRes, rdTT, rdTy, rdLT, Res.un, TT.un, Ty.un, LT.un, Leaf.un, Leaf.plain, LT.plain]
    exact ⟨⟨.nil, 0, 0, false⟩, [], none, by rw [List.append_nil], ⟨rfl, .inl rfl⟩, fun _ h => by cases h⟩
  · rw [if_neg h0]
    simp -implicitDefEqProofs only [evs, reduceIte, rdRes, rdTT, rdTy, rdLT, Res.un, TT.un, Ty.un, LT.un, Leaf.un, Leaf.plain, LT.plain]
    have s0 : (sl ++ [Slot.own (repeatCells [.int .i64 0, .int .i64 0] (xs.length + ys.length)) 2])[sl.length]? = some (.own (repeatCells [.int .i64 0, .int .i64 0] (xs.length + ys.length)) 2) := by simp
    have a1 := append_room (b := 16) (a := 0) s0 (repeatCells_length _ _) lx (by omega) (by omega) (by omega)
    have s1 : ((sl ++ [Slot.own (repeatCells [.int .i64 0, .int .i64 0] (xs.length + ys.length)) 2]).set sl.length (.own (splice (repeatCells [.int .i64 0, .int .i64 0] (xs.length + ys.length)) (0 * 2) (cellsL j2 xs)) 2))[sl.length]? = some (.own (splice (repeatCells [.int .i64 0, .int .i64 0] (xs.length + ys.length)) (0 * 2) (cellsL j2 xs)) 2) := by rw [List.getElem?_set_self (by simp)]
    have hrl : (repeatCells [V.int .i64 0, V.int .i64 0] (xs.length + ys.length)).length = (xs.length + ys.length) * 2 := repeatCells_length _ _
    have a2 := append_room (b := 16) (a := 0 + xs.length) s1 (n := xs.length + ys.length) (by simp only [splice, List.length_append, List.length_take, List.length_drop, hrl, lx]; omega) ly (by omega) (by omega) (by omega)
    rw [key (_, _) (_, _) (_, _) a1 a2]
    simp -implicitDefEqProofs only [evs, reduceIte, rdRes, rdTT, rdTy, rdLT, Res.un, TT.un, Ty.un, LT.un, Leaf.un, Leaf.plain, LT.plain]
    have hfull : splice (splice (repeatCells [V.int .i64 0, V.int .i64 0] (xs.length + ys.length)) (0 * 2) (cellsL j2 xs)) ((0 + xs.length) * 2) (cellsL j2 ys) = cellsL j2 (xs ++ ys) := by
      simp only [splice, Nat.zero_mul, List.take_zero, List.nil_append, Nat.zero_add]
      rw [← lx, List.take_left' rfl, List.drop_eq_nil_of_le (by rw [List.length_append, List.length_drop, hrl, lx, ly]; omega), List.append_nil]
      unfold cellsL
      rw [List.flatMap_append]
    rw [hfull, List.set_set, List.set_append_right _ _ (Nat.le_refl _), Nat.sub_self]
    simp only [List.set_cons_zero]
    refine ⟨_, [Slot.own (cellsL j2 (xs ++ ys)) 2], some sl.length, rfl, ⟨by simp only [List.length_append]; omega, ?_, ?_⟩, fun id h => by cases h; exact Nat.le_refl _⟩
    · simp only [ownSV, List.length_append, Nat.zero_add]
      rfl
    · simp
theorem getM_set_self (k v : Int) : ∀ es : List (Int × Int), getM k (setM k v es) = some v
  | [] => by simp [setM, getM]
  | (a, u) :: es => by
    simp only [setM]
    by_cases h : k = a
    · rw [if_pos h]; simp [getM, h]
    · rw [if_neg h]; simp only [getM]; rw [if_neg h]; exact getM_set_self k v es
theorem getM_set_ne {k j : Int} (v : Int) (hne : k ≠ j) : ∀ es : List (Int × Int), getM k (setM j v es) = getM k es
  | [] => by simp [setM, getM, hne]
  | (a, u) :: es => by
    simp only [setM]
    by_cases h : j = a
    · rw [if_pos h]; simp only [getM]; rw [if_neg (by omega), if_neg (by omega)]
    · rw [if_neg h]; simp only [getM]; rw [getM_set_ne v hne es]
/-- The sums of all fills, in a map. -/
def sumsM (xs : List (Int × Int)) : List (Int × Int) := xs.foldl (fun es x => setM x.1 ((getM x.1 es).getD 0 + x.2) es) []
theorem sumsM_get (k : Int) (xs : List (Int × Int)) : (getM k (sumsM xs)).getD 0 = amtOf k xs := by
  have : ∀ (xs : List (Int × Int)) (es : List (Int × Int)), (getM k (xs.foldl (fun es x => setM x.1 ((getM x.1 es).getD 0 + x.2) es) es)).getD 0 = (getM k es).getD 0 + amtOf k xs := fun xs => by
    induction xs with
    | nil => intro es; simp [amtOf_nil]
    | cons x xs ih =>
      intro es
      rw [List.foldl_cons, ih, amtOf_cons]
      by_cases h : x.1 = k
      · rw [if_pos h, h, getM_set_self]; simp only [Option.getD_some]; omega
      · rw [if_neg h, getM_set_ne _ (fun e => h e.symm)]; omega
  have := this xs []
  simpa [sumsM, getM] using this
theorem amtOf_bound (k : Int) : ∀ (xs : List (Int × Int)), (∀ x ∈ xs, 0 ≤ x.2 ∧ x.2 ≤ 1000000000000000) → 0 ≤ amtOf k xs ∧ amtOf k xs ≤ xs.length * 1000000000000000
  | [], _ => by simp [amtOf_nil]
  | x :: xs, h => by
    have h1 := h x (by simp)
    have h2 := amtOf_bound k xs fun y hy => h y (by simp [hy])
    rw [amtOf_cons]
    simp only [List.length_cons]
    split <;> omega
theorem sumsM_snoc {xs : List (Int × Int)} {i : Nat} (h : i < xs.length) : sumsM (xs.take (i + 1)) = setM (at2 xs i).1 ((getM (at2 xs i).1 (sumsM (xs.take i))).getD 0 + (at2 xs i).2) (sumsM (xs.take i)) := by
  have := at2_some h
  obtain ⟨hi, he⟩ := List.getElem?_eq_some_iff.1 this
  unfold sumsM
  rw [← List.take_append_getElem hi, he, List.foldl_append]
  rfl
end Go.Proofs.Ytbcpdecgfdlaaaa
/- What share.joined puts on the heap; one round of share.union. Conditions: those of each law. -/
namespace Go.Proofs.Ytbcpdecgfdlaaaa
open Go Go.Proofs.Ytbcpdecgfdlaaaa.Ev
set_option linter.unusedVariables false
set_option linter.unusedSimpArgs false
set_option maxRecDepth 100000
set_option maxHeartbeats 4000000
theorem rd_map {sl : List Slot} {id j : Nat} (h : sl[id]? = some (.own [.map (some j)] 1)) : rdT (.leaf .map) (hL sl) (.hp id 1 0) = some (some j) := by
  rw [rd_own (g := 1) h rfl]; rfl
theorem imap_hL {sl : List Slot} {id : Nat} {es : List (Int × Int)} (h : sl[id]? = some (.imap .i64 .i64 es)) : H.imap (hL sl) id .i64 .i64 = some es := by
  simp [H.imap, hL_m, h]
abbrev slS (s : SV) : Slot := .own [.slice s.a s.len s.cap s.tail] 1
theorem rd_sl {sl : List Slot} {id : Nat} {s : SV} (h : sl[id]? = some (slS s)) : rdT (.leaf .slice) (hL sl) (.hp id 1 0) = some s := by
  rw [rd_own (g := 1) h rfl]; rfl
theorem wrs_one {sl : List Slot} {id : Nat} {u v : V} (h : sl[id]? = some (.own [u] 1)) : H.wrs (hL sl) (.hp id 1 0) [v] = some (hL (sl.set id (.own [v] 1))) := by
  rw [wrs_own (g := 1) h rfl (by simp)]; rfl
theorem hL_newS {l : List Slot} {s : Slot} : H.newS (hL l) s = hL (l ++ [s]) := by
  refine H.ext' (by simp [H.newS, hL]) fun i => ?_
  simp only [H.newS, hL]
  by_cases hi : i = l.length
  · subst hi
    simp
  · rw [beq_ne hi, cond_false]
    rcases Nat.lt_or_ge i l.length with h | h
    · rw [List.getElem?_append_left h]
    · rw [List.getElem?_eq_none h, List.getElem?_eq_none (by simp; omega)]
theorem Acc.rds2 {sl : List Slot} {zs : List (Int × Int)} {s : SV} {o : Option Nat} {i : Nat} (h : Acc sl j2 zs s o) (hi : i < zs.length) : rdT (.agg j2) (hL sl) (V.add s.a (i * 2)) = some (at2 zs i) := by
  cases o with
  | none => obtain ⟨rfl, _⟩ := h; simp at hi
  | some id =>
    obtain ⟨h1, rfl, h3⟩ := h
    have := rds_ownL (i := i) (ms := j2) (w := 2) h3 rfl rfl rfl (by omega)
    simp only [ownSV, V.add, Nat.zero_add]
    rw [this]
    have e := at2_some hi
    show (zs[i]?).bind _ = _
    rw [e]; rfl
theorem joined_step {sl : List Slot} {zs : List (Int × Int)} {s : SV} {o : Option Nat} {p q i : Nat} {h3 : H} (hacc : Acc sl j2 zs s o) (hi : i < zs.length) (hz : ∀ x ∈ zs, 0 ≤ x.2 ∧ x.2 ≤ 1000000000000000) (hl : zs.length ≤ 4096) (hq : h3.next = q) (hql : sl[q]? = some (.own [.map (some p)] 1)) (hp : sl[p]? = some (.imap .i64 .i64 (sumsM (zs.take i)))) :
    share_joined.loop1 h3 s ((i : Int), hL sl) = some (.more (((i + 1 : Nat) : Int), hL ((sl ++ [c2 (at2 zs i)]).set p (.imap .i64 .i64 (sumsM (zs.take (i + 1))))))) := by
  have hg1 : 0 ≤ (i : Int) ∧ (i : Int) < (s.len : Int) := by rw [hacc.len]; omega
  have hrow : (sl ++ [c2 (at2 zs i)])[sl.length]? = some (c2 (at2 zs i)) := by simp
  have r1 := rd_c2 hrow
  have hpl := (List.getElem?_eq_some_iff.1 hp).1
  have hqq : (sl ++ [c2 (at2 zs i)])[q]? = some (.own [.map (some p)] 1) := by rw [List.getElem?_append_left (List.getElem?_eq_some_iff.1 hql).1, hql]
  have hpp : (sl ++ [c2 (at2 zs i)])[p]? = some (.imap .i64 .i64 (sumsM (zs.take i))) := by rw [List.getElem?_append_left hpl, hp]
  have hb := amtOf_bound (at2 zs i).1 (zs.take i) fun x hx => hz x (List.mem_of_mem_take hx)
  rw [List.length_take, Nat.min_eq_left (by omega)] at hb
  have hx := hz _ (at2_mem hi)
  unfold share_joined.loop1
  simp -implicitDefEqProofs only [Int.toNat_natCast, guardO_pos hg1]
  rw [decide_eq_true hg1.2, cond_true, Acc.rds2 hacc hi]
  simp -implicitDefEqProofs only [Option.bind_some, hL_new, hL_next]
  rw [new_c2]
  simp -implicitDefEqProofs only [Option.bind_some, hq]
  rw [rd_map hqq, r1.1]
  simp -implicitDefEqProofs only [Option.bind_some]
  rw [imap_hL hpp]
  simp -implicitDefEqProofs only [Option.bind_some]
  rw [r1.2]
  simp -implicitDefEqProofs only [Option.bind_some]
  rw [hL_put (by simp; omega), sumsM_get, i64_succ (by omega), i64_in _ (by omega), sumsM_snoc hi, sumsM_get]
theorem joined_ok {sl : List Slot} (xs ys : List (Int × Int)) (hx : ∀ x ∈ xs, 0 ≤ x.2 ∧ x.2 ≤ 1000000000000000) (hy : ∀ x ∈ ys, 0 ≤ x.2 ∧ x.2 ≤ 1000000000000000) (hl : xs.length + ys.length ≤ 4096) :
    ∃ sl', share_joined (rowSV false j2 xs) (rowSV false j2 ys) (hL sl) = some (.func 88 [.hp sl.length 1 0, .hp (sl.length + 1) 1 0, .hp (sl.length + 3) 1 0], hL sl') ∧ sl.length + 4 ≤ sl'.length ∧
      sl'[sl.length]? = some (slS (rowSV false j2 xs)) ∧ sl'[sl.length + 1]? = some (slS (rowSV false j2 ys)) ∧ sl'[sl.length + 2]? = some (.imap .i64 .i64 (sumsM (xs ++ ys))) ∧ sl'[sl.length + 3]? = some (.own [.map (some (sl.length + 2))] 1) ∧ ∀ j, j < sl.length → sl'[j]? = sl[j]? := by
  have hz : ∀ x ∈ xs ++ ys, 0 ≤ x.2 ∧ x.2 ≤ 1000000000000000 := fun x h => by
    rcases List.mem_append.1 h with h | h
    · exact hx x h
    · exact hy x h
  let sl4 : List Slot := sl ++ [slS (rowSV false j2 xs), slS (rowSV false j2 ys), .imap .i64 .i64 [], .own [.map (some (sl.length + 2))] 1]
  have h4l : sl4.length = sl.length + 4 := by simp [sl4]
  have get : ∀ k, sl4[sl.length + k]? = [slS (rowSV false j2 xs), slS (rowSV false j2 ys), .imap .i64 .i64 [], .own [.map (some (sl.length + 2))] 1][k]? := fun k => by
    simp only [sl4]
    rw [List.getElem?_append_right (by omega)]
    congr 1
    omega
  obtain ⟨s, ext, o, k1, k2, k3⟩ := Concat_ok (sl := sl4) xs ys (by omega)
  unfold share_joined
  simp -implicitDefEqProofs only [evs, reduceIte, rdRes, rdTT, rdTy, rdLT, Res.un, TT.un, Ty.un, LT.un, Leaf.un, Leaf.plain, LT.plain, hL_new, hL_newS, hL_next, List.append_assoc, List.cons_append, List.nil_append]
  have hw : H.wrs (hL (sl ++ [Slot.own [.slice (rowSV false j2 xs).a xs.length xs.length true] 1, Slot.own [.slice (rowSV false j2 ys).a ys.length ys.length true] 1, .imap .i64 .i64 [], .own [.map none] 1])) (.hp (sl.length + 3) 1 0) [.map (some (sl.length + 2))] = some (hL sl4) := by
    rw [wrs_one (u := .map none) (by rw [List.getElem?_append_right (by omega), show sl.length + 3 - sl.length = 3 by omega]; rfl), List.set_append_right _ _ (by omega), show sl.length + 3 - sl.length = 3 by omega]
    rfl
  simp only [List.length_append, List.length_cons, List.length_nil, Nat.zero_add, Nat.reduceAdd]
  rw [hw]
  simp -implicitDefEqProofs only [evs, reduceIte, rdRes, rdTT, rdTy, rdLT, Res.un, TT.un, Ty.un, LT.un, Leaf.un, Leaf.plain, LT.plain]
  rw [rd_sl (s := rowSV false j2 xs) (by have := get 0; simpa using this)]
  simp -implicitDefEqProofs only [evs, reduceIte, rdRes, rdTT, rdTy, rdLT, Res.un, TT.un, Ty.un, LT.un, Leaf.un, Leaf.plain, LT.plain]
  rw [rd_sl (s := rowSV false j2 ys) (by have := get 1; simpa using this)]
  simp -implicitDefEqProofs only [evs, reduceIte, rdRes, rdTT, rdTy, rdLT, Res.un, TT.un, Ty.un, LT.un, Leaf.un, Leaf.plain, LT.plain]
  rw [k1]
  simp -implicitDefEqProofs only [evs, reduceIte, rdRes, rdTT, rdTy, rdLT, Res.un, TT.un, Ty.un, LT.un, Leaf.un, Leaf.plain, LT.plain]
  obtain ⟨x, e1, sl', rfl, e2, e3, e4⟩ := iter_upto (f := share_joined.loop1 (hL (sl ++ [Slot.own [.slice (rowSV false j2 xs).a xs.length xs.length true] 1, Slot.own [.slice (rowSV false j2 ys).a ys.length ys.length true] 1, .imap .i64 .i64 []])) s)
    (fun i st => ∃ sl', st = ((i : Int), hL sl') ∧ sl4.length ≤ sl'.length ∧ sl'[sl.length + 2]? = some (.imap .i64 .i64 (sumsM ((xs ++ ys).take i))) ∧ ∀ j, j ≠ sl.length + 2 → j < (sl4 ++ ext).length → sl'[j]? = (sl4 ++ ext)[j]?)
    (fun x => ∃ sl', x = (.ex0 (), hL sl') ∧ sl4.length ≤ sl'.length ∧ sl'[sl.length + 2]? = some (.imap .i64 .i64 (sumsM (xs ++ ys))) ∧ ∀ j, j ≠ sl.length + 2 → j < (sl4 ++ ext).length → sl'[j]? = (sl4 ++ ext)[j]?) (xs ++ ys).length (fun i st hi hst => by
      obtain ⟨sl', rfl, f1, f2, f3⟩ := hst
      have hacc : Acc sl' j2 (xs ++ ys) s o := k2.frame fun id hid => by
        have h1 := k3 id hid
        subst hid
        exact f3 id (by omega) k2.lt
      refine ⟨_, joined_step (q := sl.length + 3) (p := sl.length + 2) hacc hi hz (by rw [List.length_append]; omega) (by simp [hL_next]) ?_ f2, _, rfl, by simp; omega, ?_, fun j hj hjl => ?_⟩
      · rw [f3 _ (by omega) (by rw [List.length_append]; omega), List.getElem?_append_left (by omega), get 3]; rfl
      · rw [List.getElem?_set_self (by simp; omega)]
      · have h9 := f3 j hj hjl
        rw [List.getElem?_set_ne (Ne.symm hj)]
        have hjl' : j < sl'.length := by
          rcases Nat.lt_or_ge j sl'.length with h | h
          · exact h
          · rw [List.getElem?_eq_none h, List.getElem?_eq_getElem hjl] at h9
            cases h9
        rw [List.getElem?_append_left hjl', h9]) (fun st hst => by
      obtain ⟨sl', rfl, f1, f2, f3⟩ := hst
      rw [List.take_length] at f2
      refine ⟨_, ?_, sl', rfl, f1, f2, f3⟩
      unfold share_joined.loop1
      simp -implicitDefEqProofs only [k2.len]
      rw [decide_eq_false (by omega), cond_false]) FUEL 0 (0, hL (sl4 ++ ext)) (by omega) ⟨_, rfl, by simp, by rw [List.getElem?_append_left (by omega), get 2]; rfl, fun _ _ _ => rfl⟩ (by have := fuel_gt (n := (xs ++ ys).length) (by rw [List.length_append]; omega); omega)
  rw [e1]
  simp -implicitDefEqProofs only [evs, reduceIte, rdRes, rdTT, rdTy, rdLT, Res.un, TT.un, Ty.un, LT.un, Leaf.un, Leaf.plain, LT.plain]
  have at4 : ∀ k, k < 4 → k ≠ 2 → sl'[sl.length + k]? = [slS (rowSV false j2 xs), slS (rowSV false j2 ys), .imap .i64 .i64 [], .own [.map (some (sl.length + 2))] 1][k]? := fun k hk hk2 => by
    rw [e4 _ (by omega) (by rw [List.length_append]; omega), List.getElem?_append_left (by omega), get k]
  refine ⟨sl', rfl, by omega, at4 0 (by omega) (by omega), at4 1 (by omega) (by omega), e3, at4 3 (by omega) (by omega), fun j hj => ?_⟩
  rw [e4 j (by omega) (by rw [List.length_append]; omega), List.append_assoc, List.getElem?_append_left hj]
/-- One round of share.union. -/
theorem round_ok {sl : List Slot} {acc : List (Int × Int)} {s : SV} {o : Option Nat} {N : Nat} {h h3 : H} {x : Int × Int} (hn : h.next = 0) (hN : h3.next = N) (h0 : sl[0]? = some (slS s)) (hl : sl[N]? = some (.loop .ready)) (hacc : Acc sl j2 acc s o) (ho : ∀ id, o = some id → N < id) (hpos : 0 < N) (hal : acc.length ≤ 8192) :
    ∃ sl' s' id, share_union.round1 h h3 x (hL sl) = some (hL sl') ∧ sl'[0]? = some (slS s') ∧ sl'[N]? = some (.loop .ready) ∧ Acc sl' j2 (acc ++ [x]) s' (some id) ∧ N < id ∧ sl.length ≤ sl'.length ∧ ∀ j, 0 < j → j < N → sl'[j]? = sl[j]? := by
  have hNl := (List.getElem?_eq_some_iff.1 hl).1
  have hb : H.begin (hL sl) N = some (hL (sl.set N (.loop .busy))) := by
    unfold H.begin
    rw [hL_m, hl]
    simp only [Option.getD_some]
    rw [hL_put hNl]
  have h0' : (sl.set N (.loop .busy))[0]? = some (slS s) := by rw [List.getElem?_set_ne (by omega), h0]
  have hacc' : Acc (sl.set N (.loop .busy)) j2 acc s o := hacc.frame fun id hid => by
    have := ho id hid
    rw [List.getElem?_set_ne (by omega)]
  obtain ⟨s', sl1, id, k1, k2, k3, k4, k5⟩ := hacc'.append (b := 16) (w := 2) (x := x) (vs := [.int .i64 x.1, .int .i64 x.2]) rfl (by omega) (by omega) (by omega) rfl
  rw [List.length_set] at k3 k4
  have hid : N < id := by
    rcases k3 with k3 | ⟨_, k3⟩
    · exact ho id k3
    · omega
  have no : ∀ j, j ≤ N → o ≠ some j := fun j hj e => by have := ho j e; omega
  have h0'' : sl1[0]? = some (slS s) := by rw [k5 0 (no 0 (by omega)) (by rw [List.length_set]; omega), h0']
  have hNl1 : sl1[N]? = some (.loop .busy) := by rw [k5 N (no N (by omega)) (by rw [List.length_set]; omega), List.getElem?_set_self hNl]
  have hl1 : N < sl1.length := (List.getElem?_eq_some_iff.1 hNl1).1
  refine ⟨(sl1.set 0 (slS s')).set N (.loop .ready), s', id, ?_, ?_, ?_, ?_, hid, by simp; omega, fun j hj1 hj2 => ?_⟩
  · unfold share_union.round1
    simp -implicitDefEqProofs only [hN, hn, hb, Option.bind_some]
    rw [rd_sl h0']
    simp -implicitDefEqProofs only [Option.bind_some]
    rw [k1]
    simp -implicitDefEqProofs only [Option.bind_some]
    rw [wrs_one h0'']
    simp -implicitDefEqProofs only [Option.bind_some]
    unfold H.endR
    rw [hL_m, List.getElem?_set_ne (by omega), hNl1]
    simp only [Option.getD_some]
    rw [hL_put (by rw [List.length_set]; omega)]
  · rw [List.getElem?_set_ne (by omega), List.getElem?_set_self (by omega)]
  · rw [List.getElem?_set_self (by rw [List.length_set]; omega)]
  · refine k2.frame fun id' hid' => ?_
    cases hid'
    rw [List.getElem?_set_ne (by omega), List.getElem?_set_ne (by omega)]
  · rw [List.getElem?_set_ne (by omega), List.getElem?_set_ne (by omega), k5 j (no j (by omega)) (by rw [List.length_set]; omega), List.getElem?_set_ne (by omega)]
end Go.Proofs.Ytbcpdecgfdlaaaa
/- What the parts of a division are: their sum, their bounds; what Draw computes. Conditions: those of each law. -/
namespace Go.Proofs.Ytbcpdecgfdlaaaa
open Go Go.Proofs.Ytbcpdecgfdlaaaa.Ev
set_option linter.unusedVariables false
set_option linter.unusedSimpArgs false
set_option maxRecDepth 100000
set_option maxHeartbeats 4000000
theorem perm_sum {xs ys : List Int} (h : xs.Perm ys) : xs.sum = ys.sum := by
  induction h with
  | nil => rfl
  | cons x _ ih => simp only [List.sum_cons, ih]
  | swap x y _ => simp only [List.sum_cons]; omega
  | trans _ _ h1 h2 => rw [h1, h2]
theorem sum_set : ∀ (xs : List Int) (i : Nat) (y : Int), i < xs.length → (xs.set i y).sum = xs.sum - g xs i + y
  | [], _, _, h => by simp at h
  | x :: xs, 0, y, _ => by simp [g]; omega
  | x :: xs, i + 1, y, h => by
    have := sum_set xs i y (by simpa using h)
    simp only [List.set_cons_succ, List.sum_cons, this]
    simp [g]
    omega
theorem sum_split_le : ∀ (xs : List Int) (p : Nat) (M : Int), 0 ≤ M → (∀ x ∈ xs, x ≤ M) → (∀ q, p ≤ q → q < xs.length → g xs q ≤ 0) → xs.sum ≤ p * M
  | [], p, M, h, _, _ => by simpa using Int.mul_nonneg (by omega) h
  | x :: xs, 0, M, h, h1, h2 => by
    have k1 := h2 0 (by omega) (by simp)
    have k2 := sum_split_le xs 0 M h (fun y hy => h1 y (by simp [hy])) (fun q _ hq => by have := h2 (q + 1) (by omega) (by simpa using hq); simpa [g] using this)
    simp only [g, List.getElem?_cons_zero, Option.getD_some] at k1
    simp only [List.sum_cons]
    omega
  | x :: xs, p + 1, M, h, h1, h2 => by
    have k1 := h1 x (by simp)
    have k2 := sum_split_le xs p M h (fun y hy => h1 y (by simp [hy])) (fun q hp hq => by have := h2 (q + 1) (by omega) (by simpa using hq); simpa [g] using this)
    simp only [List.sum_cons]
    rw [Int.natCast_add, Int.natCast_one, Int.add_mul, Int.one_mul]
    omega
theorem bump_sum {qs rs : List Int} (hl : rs.length = qs.length) : ∀ (k : Nat), k ≤ qs.length → (bump qs (ord rs) k).sum = qs.sum + k
  | 0, _ => by rw [bump_zero]; simp
  | k + 1, h => by
    have hr := ord_range (rs := rs) (p := k) (by omega)
    obtain ⟨x, hx⟩ : ∃ x : Nat, g (ord rs) k = (x : Int) := ⟨(g (ord rs) k).toNat, by omega⟩
    rw [← bump_succ ord_nodup (by rw [ord_length]; omega) hx (by omega), sum_set _ _ _ (by rw [bump_length]; omega), bump_sum hl k (by omega)]
    omega
theorem divParts_length {a S : Int} {ws : List Int} : (divParts a S ws).length = ws.length := by unfold divParts; rw [bump_length, quos_length]
theorem divParts_sum {a : Int} {ws : List Int} (hS : 0 < ws.sum) (hl : 0 < ws.length) : (divParts a ws.sum ws).sum = a := by
  have h := left_bound (a := a) hS hl
  unfold divParts
  rw [bump_sum (by rw [rems_length, quos_length]) _ (by rw [quos_length]; omega)]
  omega
theorem g_rems {a S : Int} {ws : List Int} {k : Nat} (h : k < ws.length) : g (rems a S ws) k = a * g ws k % S := g_map h
theorem g_quos {a S : Int} {ws : List Int} {k : Nat} (h : k < ws.length) : g (quos a S ws) k = a * g ws k / S := g_map h
theorem map_iota (rs : List Int) : (iota rs.length).map (fun x => g rs x.toNat) = rs := g_ext (by simp [iota_length]) fun k hk => by
  rw [List.length_map, iota_length] at hk
  rw [g_map (by rw [iota_length]; exact hk), g_iota hk, Int.toNat_natCast]
/-- Whoever gets one more has a rest. -/
theorem rem_pos {a : Int} {ws : List Int} {p : Nat} (hS : 0 < ws.sum) (hl : 0 < ws.length) (hp : (p : Int) < a - (quos a ws.sum ws).sum) : 0 < g (rems a ws.sum ws) (g (ord (rems a ws.sum ws)) p).toNat := by
  have hb := left_bound (a := a) hS hl
  have hs := quo_sum a ws.sum ws
  have hrl := rems_length (a := a) (S := ws.sum) (ws := ws)
  generalize hrs : rems a ws.sum ws = rs at *
  generalize (quos a ws.sum ws).sum = q at *
  have hr0 : ∀ k, k < rs.length → 0 ≤ g rs k ∧ g rs k ≤ ws.sum - 1 := fun k hk => by
    rw [← hrs, g_rems (by omega)]
    have k1 := Int.emod_nonneg (a * g ws k) (b := ws.sum) (by omega)
    have k2 := Int.emod_lt_of_pos (a * g ws k) hS
    omega
  have hpo := ord_range (rs := rs) (p := p) (by omega)
  refine Int.not_le.1 fun hle => ?_
  have hsum : rs.sum = ((ord rs).map fun x => g rs x.toNat).sum := by
    rw [perm_sum (ord_perm.map _), map_iota]
  have hle2 := sum_split_le ((ord rs).map fun x => g rs x.toNat) p (ws.sum - 1) (by omega) (fun x hx => by
      obtain ⟨y, hy, rfl⟩ := List.mem_map.1 hx
      have := mem_iota.1 (ord_perm.mem_iff.1 hy)
      exact (hr0 _ (by omega)).2) (fun j hj hjl => by
      rw [List.length_map, ord_length] at hjl
      rw [g_map (by rw [ord_length]; exact hjl)]
      by_cases e : j = p
      · subst e; exact hle
      · have := ord_lt (rs := rs) (show p < j by omega) hjl
        unfold ltR at this
        omega)
  rw [← hsum] at hle2
  have e1 : rs.sum = ws.sum * (a - q) := by rw [Int.mul_sub, Int.mul_comm ws.sum a]; omega
  have k1 : ws.sum * (p + 1) ≤ ws.sum * (a - q) := Int.mul_le_mul_of_nonneg_left (by omega) (by omega)
  rw [Int.mul_add, Int.mul_one, Int.mul_comm] at k1
  rw [Int.mul_sub, Int.mul_one] at hle2
  omega
theorem part_bound {a : Int} {ws : List Int} {i : Nat} (ha : 0 ≤ a) (hS : 0 < ws.sum) (haS : a ≤ ws.sum) (hw : ∀ w ∈ ws, 0 ≤ w) (hi : i < ws.length) : 0 ≤ g (divParts a ws.sum ws) i ∧ g (divParts a ws.sum ws) i ≤ g ws i := by
  have hl : 0 < ws.length := by omega
  have hb := left_bound (a := a) hS hl
  have hwi := hw _ (g_mem hi)
  have e1 := Int.mul_ediv_add_emod (a * g ws i) ws.sum
  have e2 := Int.emod_nonneg (a * g ws i) (b := ws.sum) (by omega)
  have e3 : a * g ws i ≤ ws.sum * g ws i := Int.mul_le_mul_of_nonneg_right haS hwi
  have e0 : 0 ≤ a * g ws i / ws.sum := Int.ediv_nonneg (Int.mul_nonneg ha hwi) (by omega)
  have hlt : (i : Int) ∈ (ord (rems a ws.sum ws)).take (a - (quos a ws.sum ws).sum).toNat → 0 < a * g ws i % ws.sum := fun h => by
    obtain ⟨p, hp, e⟩ := List.getElem_of_mem h
    rw [List.getElem_take] at e
    rw [List.length_take, ord_length, rems_length] at hp
    have := rem_pos (a := a) (p := p) hS hl (by omega)
    rw [g_eq (xs := ord _) (by rw [ord_length, rems_length]; omega), e, Int.toNat_natCast, g_rems hi] at this
    exact this
  unfold divParts
  rw [g_bump (by rw [quos_length]; exact hi), g_quos hi]
  generalize a * g ws i / ws.sum = q at *
  generalize a * g ws i % ws.sum = r at *
  by_cases h : (i : Int) ∈ (ord (rems a ws.sum ws)).take (a - (quos a ws.sum ws).sum).toNat
  · rw [if_pos h]
    have := hlt h
    have : ws.sum * q < ws.sum * g ws i := by omega
    have := Int.lt_of_mul_lt_mul_left this (by omega)
    omega
  · rw [if_neg h]
    have : ws.sum * q ≤ ws.sum * g ws i := by omega
    have := Int.le_of_mul_le_mul_left this hS
    omega
theorem eq_of_sum : ∀ {xs ys : List Int}, xs.length = ys.length → (∀ i, i < ys.length → g xs i ≤ g ys i) → xs.sum = ys.sum → xs = ys
  | [], [], _, _, _ => rfl
  | [], y :: ys, h, _, _ => by simp at h
  | x :: xs, [], h, _, _ => by simp at h
  | x :: xs, y :: ys, hl, h, hs => by
    have hle : ∀ {xs ys : List Int}, xs.length = ys.length → (∀ i, i < ys.length → g xs i ≤ g ys i) → xs.sum ≤ ys.sum := by
      intro xs
      induction xs with
      | nil => intro ys hl _; rw [List.length_nil] at hl; rw [List.eq_nil_of_length_eq_zero hl.symm]; exact Int.le_refl _
      | cons x xs ih =>
        intro ys hl h
        cases ys with
        | nil => simp at hl
        | cons y ys =>
          have h0 := h 0 (by simp)
          have h1 := ih (ys := ys) (by simpa using hl) (fun i hi => by have := h (i + 1) (by simpa using hi); simpa [g] using this)
          simp only [g, List.getElem?_cons_zero, Option.getD_some] at h0
          simp only [List.sum_cons]
          omega
    have hl' : xs.length = ys.length := by simpa using hl
    have ht : ∀ i, i < ys.length → g xs i ≤ g ys i := fun i hi => by have := h (i + 1) (by simpa using hi); simpa [g] using this
    have h0 := h 0 (by simp)
    have h1 := hle hl' ht
    simp only [g, List.getElem?_cons_zero, Option.getD_some] at h0
    simp only [List.sum_cons] at hs
    rw [show x = y by omega, eq_of_sum hl' ht (by omega)]
theorem parts_full {ws : List Int} (hS : 0 < ws.sum) (hl : 0 < ws.length) (hw : ∀ w ∈ ws, 0 ≤ w) : divParts ws.sum ws.sum ws = ws :=
  eq_of_sum divParts_length (fun i hi => (part_bound (by omega) hS (Int.le_refl _) hw hi).2) (divParts_sum hS hl)
/-- What is left of some weights, up to a place. -/
def less (ws ps : List Int) (k : Nat) : List Int := (List.range ws.length).map fun i : Nat => if i < k then g ws i - g ps i else g ws i
theorem less_length {ws ps : List Int} {k : Nat} : (less ws ps k).length = ws.length := by simp [less]
theorem g_less {ws ps : List Int} {k i : Nat} (h : i < ws.length) : g (less ws ps k) i = if i < k then g ws i - g ps i else g ws i := g_ofFn h
theorem less_zero {ws ps : List Int} : less ws ps 0 = ws := g_ext less_length fun k hk => by
  rw [less_length] at hk
  rw [g_less hk]; simp
theorem less_succ {ws ps : List Int} {k : Nat} (hk : k < ws.length) : (less ws ps k).set k (g ws k - g ps k) = less ws ps (k + 1) := by
  refine g_ext (by simp [less_length]) fun i hi => ?_
  rw [List.length_set, less_length] at hi
  rw [g_set (by rw [less_length]; exact hk), g_less hi, g_less hi]
  by_cases e : i = k
  · subst e; rw [if_pos rfl, if_pos (by omega)]
  · rw [if_neg e]
    by_cases h : i < k
    · rw [if_pos h, if_pos (by omega)]
    · rw [if_neg h, if_neg (by omega)]
def drawP (ws : List Int) (a : Int) : List Int × List Int × Int :=
  if (weighOf a ws).2 = 0 then (if (weighOf a ws).1 < a then ([], [], 17) else (divParts a (weighOf a ws).1 ws, less ws (divParts a (weighOf a ws).1 ws) ws.length, 0)) else ([], [], (weighOf a ws).2)
theorem draw_loop {ws ps : List Int} {n : Nat} (hw : ws.length = n) (hp : ps.length = n) (hn : n ≤ 64) (h : ∀ i, i < n → 0 ≤ g ps i ∧ g ps i ≤ g ws i ∧ g ws i ≤ 128849018880000) :
    iter FUEL (proportion_Draw.loop1 ps (ownSV 0 [.int .i64] n)) (0, hL [cellI ws]) = some (.ex0 (), hL [cellI (less ws ps n)]) := by
  have hrd : ∀ {r : List Int} {k : Nat}, r.length = n → k < n → rdT (.leaf (.int .i64)) (hL [cellI r]) (.hp 0 n (k * 1)) = some (g r k) := fun {r k} hr hk => by
    rw [rd_ownL0 (ls := [.int .i64]) (xs := r) (w := 1) (e := 1) rfl (by simp [hr]) rfl (by omega), g_some (by omega)]
    simp [LT.lo, Leaf.lo, Leaf.pack]
  refine (iter_from (f := proportion_Draw.loop1 ps (ownSV 0 [.int .i64] n)) (fun i => ((i : Int), hL [cellI (less ws ps i)])) ?_ n FUEL (fun i hi => ?_) ?_ (fuel_gt (by omega)))
  · rw [less_zero]; rfl
  · have hb := h i hi
    have hlp := List.getElem?_eq_getElem (l := ps) (i := i) (by omega)
    have hgp := g_eq (xs := ps) (k := i) (by omega)
    have d := hrd (r := less ws ps i) (k := i) (by rw [less_length, hw]) hi
    rw [g_less (by omega), if_neg (by omega)] at d
    have dw := wrs_ownL (ls := [.int .i64]) (xs := less ws ps i) (sl := [cellI (less ws ps i)]) (id := 0) (i := i) (w := 1) (e := 1) (n := n) (x := g ws i - g ps i) (vs := [.int .i64 (g ws i - g ps i)]) rfl (by simp [less_length, hw]) rfl (by rw [less_length]; omega) rfl
    rw [less_succ (by omega)] at dw
    unfold proportion_Draw.loop1
    simp -implicitDefEqProofs only [Int.toNat_natCast, ownSV_len, ownSV_ptr, List.length_cons, List.length_nil, Nat.zero_add, Nat.mul_one]
    rw [Nat.mul_one] at d dw
    rw [decide_eq_true (show (i : Int) < (ps.length : Int) by omega), cond_true, guardO_pos (show 0 ≤ (i : Int) ∧ (i : Int) < (ps.length : Int) by omega)]
    have hr := rd_rowI (f := true) (k := .i64) (xs := ps) (i := i) (h := hL [cellI (less ws ps i)])
    rw [Nat.mul_one] at hr
    rw [hr, hlp]
    simp -implicitDefEqProofs only [Option.bind_some]
    rw [guardO_pos (by omega), add_hp, d]
    simp -implicitDefEqProofs only [Option.bind_some]
    rw [guardO_pos (by omega), ← hgp, i64_in _ (by omega), dw]
    simp -implicitDefEqProofs only [Option.bind_some]
    rw [i64_succ (by omega)]
    rfl
  · unfold proportion_Draw.loop1
    simp -implicitDefEqProofs only [ownSV_len]
    rw [decide_eq_false (by omega), cond_false]
theorem PDraw_ok (a : Int) (ws : List Int) (hl : ws.length < 2 ^ 63) : proportion_DrawP ws a = some (drawP ws a) := by
  unfold proportion_DrawP proportion_Draw drawP
  simp -implicitDefEqProofs only [evs, reduceIte, rdRes, rdTT, rdTy, rdLT, Res.un, TT.un, Ty.un, LT.un, Leaf.un, Leaf.plain, LT.plain, weigh_ok a ws hl]
  by_cases he : (weighOf a ws).2 = 0
  · rw [if_pos he, decide_eq_true he]
    obtain ⟨ha, h0, h64, hall, hSa, hne, h1⟩ := weighOf_ok he
    have hd : proportion_DivideP a ws = some (divParts a ws.sum ws, 0) := by rw [Divide_ok a ws hl, divideOf, if_pos he, h1]
    rw [h1]
    have hS' := isAmt_iff.1 hSa
    have ha' := isAmt_iff.1 ha
    simp -implicitDefEqProofs only [evs, reduceIte, rdRes, rdTT, rdTy, rdLT, Res.un, TT.un, Ty.un, LT.un, Leaf.un, Leaf.plain, LT.plain]
    by_cases hlt : ws.sum < a
    · rw [if_pos hlt, decide_eq_true hlt]
      simp -implicitDefEqProofs only [evs, reduceIte, rdRes, rdTT, rdTy, rdLT, Res.un, TT.un, Ty.un, LT.un, Leaf.un, Leaf.plain, LT.plain]
    · rw [if_neg hlt, decide_eq_false hlt]
      simp -implicitDefEqProofs only [evs, reduceIte, rdRes, rdTT, rdTy, rdLT, Res.un, TT.un, Ty.un, LT.un, Leaf.un, Leaf.plain, LT.plain]
      rw [hd]
      simp -implicitDefEqProofs only [evs, reduceIte, rdRes, rdTT, rdTy, rdLT, Res.un, TT.un, Ty.un, LT.un, Leaf.un, Leaf.plain, LT.plain]
      rw [hL_empty, cloneX_row (ls := [.int .i64]) (xs := ws) (w := 1) rfl (by omega) rfl (by omega) (by omega), if_neg (by omega), if_neg (by omega)]
      simp -implicitDefEqProofs only [Option.bind_some, List.nil_append, List.length_nil]
      have hb : ∀ i, i < ws.length → 0 ≤ g (divParts a ws.sum ws) i ∧ g (divParts a ws.sum ws) i ≤ g ws i ∧ g ws i ≤ 128849018880000 := fun i hi => by
        have k1 := part_bound (a := a) ha'.1 (by omega) (by omega) (fun w hw => (all_amt hall w hw).1) hi
        have k2 := all_amt hall _ (g_mem hi)
        omega
      have hloop := draw_loop (n := ws.length) (ws := ws) (ps := divParts a ws.sum ws) rfl divParts_length h64 hb
      unfold cellI at hloop
      rw [hloop]
      simp -implicitDefEqProofs only [evs, reduceIte, rdRes, rdTT, rdTy, rdLT, Res.un, TT.un, Ty.un, LT.un, Leaf.un, Leaf.plain, LT.plain]
      have hread := rdRow_own (lp := false) (ls := [.int .i64]) (xs := less ws (divParts a ws.sum ws) ws.length) (sl := [cellI (less ws (divParts a ws.sum ws) ws.length)]) (id := 0) (e := 1) (n := ws.length * 1) (c := ws.length) (t := true) rfl (by rw [less_length]; simp) rfl
      rw [less_length] at hread
      unfold cellI at hread
      unfold ownSV
      simp -implicitDefEqProofs only [List.length_cons, List.length_nil, Nat.zero_add]
      rw [hread, show (⟨(rowSV true [.int .i64] (divParts a ws.sum ws)).a, (divParts a ws.sum ws).length, (divParts a ws.sum ws).length, true⟩ : SV) = rowSV true [.int .i64] (divParts a ws.sum ws) from rfl]
      simp -implicitDefEqProofs only [evs, reduceIte, rdRes, rdTT, rdTy, rdLT, Res.un, TT.un, Ty.un, LT.un, Leaf.un, Leaf.plain, LT.plain]
  · rw [if_neg he, decide_eq_false he]
    simp -implicitDefEqProofs only [evs, reduceIte, rdRes, rdTT, rdTy, rdLT, Res.un, TT.un, Ty.un, LT.un, Leaf.un, Leaf.plain, LT.plain]
end Go.Proofs.Ytbcpdecgfdlaaaa
/- What Draw of the reference of proportion, share.with, Take, Parts and those of the reference compute. Conditions: those of each law. -/
namespace Go.Proofs.Ytbcpdecgfdlaaaa
open Go Go.Proofs.Ytbcpdecgfdlaaaa.Ev
set_option linter.unusedVariables false
set_option linter.unusedSimpArgs false
set_option maxRecDepth 100000
set_option maxHeartbeats 4000000
theorem less_take {ws ps : List Int} {i : Nat} (h : i < ws.length) : (less ws ps ws.length).take (i + 1) = (less ws ps ws.length).take i ++ [g ws i - g ps i] := by
  have hl : i < (less ws ps ws.length).length := by rw [less_length]; exact h
  rw [← List.take_append_getElem hl]
  congr 1
  have := g_less (ws := ws) (ps := ps) (k := ws.length) h
  rw [if_pos h, g_eq hl] at this
  rw [this]
theorem rPDraw_ok (a : Int) (ws : List Int) (hl : ws.length < 2 ^ 63) : spileref01_DrawP ws a = some (drawP ws a) := by
  unfold spileref01_DrawP spileref01_Draw drawP
  simp -implicitDefEqProofs only [evs, reduceIte, rdRes, rdTT, rdTy, rdLT, Res.un, TT.un, Ty.un, LT.un, Leaf.un, Leaf.plain, LT.plain]
  rw [rweigh_ok a ws hl]
  have hdo : divideOf a ws = if (weighOf a ws).2 = 0 then (divParts a (weighOf a ws).1 ws, 0) else ([], (weighOf a ws).2) := rfl
  by_cases he : (weighOf a ws).2 = 0
  · obtain ⟨ha, h0, h64, hall, hSa, hne, h1⟩ := weighOf_ok he
    have ha' := isAmt_iff.1 ha
    have hS' := isAmt_iff.1 hSa
    rw [if_pos he]
    simp -implicitDefEqProofs only [evs, reduceIte, rdRes, rdTT, rdTy, rdLT, Res.un, TT.un, Ty.un, LT.un, Leaf.un, Leaf.plain, LT.plain]
    rw [decide_eq_true he]
    simp -implicitDefEqProofs only [evs, reduceIte, rdRes, rdTT, rdTy, rdLT, Res.un, TT.un, Ty.un, LT.un, Leaf.un, Leaf.plain, LT.plain]
    rw [h1]
    by_cases hlt : ws.sum < a
    · rw [decide_eq_true hlt, if_pos hlt]
      simp -implicitDefEqProofs only [evs, reduceIte, rdRes, rdTT, rdTy, rdLT, Res.un, TT.un, Ty.un, LT.un, Leaf.un, Leaf.plain, LT.plain]
    · rw [decide_eq_false hlt, if_neg hlt]
      simp -implicitDefEqProofs only [evs, reduceIte, rdRes, rdTT, rdTy, rdLT, Res.un, TT.un, Ty.un, LT.un, Leaf.un, Leaf.plain, LT.plain]
      rw [rDivide_ok a ws hl, hdo, if_pos he, h1]
      simp -implicitDefEqProofs only [evs, reduceIte, rdRes, rdTT, rdTy, rdLT, Res.un, TT.un, Ty.un, LT.un, Leaf.un, Leaf.plain, LT.plain]
      have hpl := divParts_length (a := a) (S := ws.sum) (ws := ws)
      have hpb := fun i hi => part_bound (a := a) (ws := ws) (i := i) ha'.1 (by omega) (by omega) (fun w hw => (all_amt hall w hw).1) hi
      generalize divParts a ws.sum ws = ps at *
      obtain ⟨x, k1, s, sl, o, rfl, k2⟩ := iter_upto (f := spileref01_Draw.loop1 (rowSV false [.int .i64] ws) ps) (fun i st => ∃ s sl o, st = ((s, (i : Int)), hL sl) ∧ Acc sl [.int .i64] ((less ws ps ws.length).take i) s o)
        (fun x => ∃ s sl o, x = (.ex0 s, hL sl) ∧ Acc sl [.int .i64] (less ws ps ws.length) s o) ws.length (fun i st hi hst => by
          obtain ⟨s, sl, o, rfl, hacc⟩ := hst
          have hb := hpb i hi
          have hw := all_amt hall _ (g_mem hi)
          have hg1 : 0 ≤ (i : Int) ∧ (i : Int) < (ws.length : Int) := by omega
          have hg2 : 0 ≤ (i : Int) ∧ (i : Int) < (ps.length : Int) := by omega
          obtain ⟨s', sl', id, j1, j2, j3, j4, j5⟩ := hacc.append (b := 8) (w := 1) (x := g ws i - g ps i) (vs := [.int .i64 (g ws i - g ps i)]) rfl (by omega) (by rw [List.length_take, less_length]; omega) (by omega) rfl
          refine ⟨((s', ((i + 1 : Nat) : Int)), hL sl'), ?_, s', sl', some id, rfl, by rw [less_take hi]; exact j2⟩
          unfold spileref01_Draw.loop1
          simp -implicitDefEqProofs only [Int.toNat_natCast, rowSV_len, reserve0, guardO_pos hg1, guardO_pos hg2, rd_rowI, g_some (xs := ws) hi, g_some (xs := ps) (show i < ps.length by omega), Option.bind_some]
          rw [decide_eq_true hg1.2, cond_true, i64_in _ (by omega), j1]
          simp -implicitDefEqProofs only [Option.bind_some]
          rw [i64_succ (by omega)]) (fun st hst => by
          obtain ⟨s, sl, o, rfl, hacc⟩ := hst
          rw [List.take_of_length_le (by rw [less_length]; exact Nat.le_refl _)] at hacc
          refine ⟨_, ?_, s, sl, o, rfl, hacc⟩
          unfold spileref01_Draw.loop1
          simp -implicitDefEqProofs only [rowSV_len]
          rw [decide_eq_false (by omega), cond_false]) FUEL 0 ((⟨.nil, 0, 0, false⟩, 0), hL []) (by omega) ⟨_, [], none, rfl, Acc.nil⟩ (by have := fuel_gt (n := ws.length) (by omega); omega)
      rw [hL_empty, k1]
      simp -implicitDefEqProofs only [evs, reduceIte, rdRes, rdTT, rdTy, rdLT, Res.un, TT.un, Ty.un, LT.un, Leaf.un, Leaf.plain, LT.plain]
      rw [k2.read rfl, show (⟨(rowSV true [.int .i64] ps).a, ps.length, ps.length, true⟩ : SV) = rowSV true [.int .i64] ps from rfl, rdRow_res rfl]
      rfl
  · rw [if_neg he]
    simp -implicitDefEqProofs only [evs, reduceIte, rdRes, rdTT, rdTy, rdLT, Res.un, TT.un, Ty.un, LT.un, Leaf.un, Leaf.plain, LT.plain]
    rw [decide_eq_false he]
    simp -implicitDefEqProofs only [evs, reduceIte, rdRes, rdTT, rdTy, rdLT, Res.un, TT.un, Ty.un, LT.un, Leaf.un, Leaf.plain, LT.plain]
/-- Shares with other amounts. -/
def withL (xs : List (Int × Int)) (ns : List Int) : List (Int × Int) := (xs.zip ns).filterMap fun p => if 0 < p.2 then some (p.1.1, p.2) else none
def withTo (xs : List (Int × Int)) (ns : List Int) (i : Nat) : List (Int × Int) := ((xs.zip ns).take i).filterMap fun p => if 0 < p.2 then some (p.1.1, p.2) else none
theorem withTo_succ {xs : List (Int × Int)} {ns : List Int} {i : Nat} (h : i < xs.length) (hn : i < ns.length) : withTo xs ns (i + 1) = if 0 < g ns i then withTo xs ns i ++ [((at2 xs i).1, g ns i)] else withTo xs ns i := by
  have hz : i < (xs.zip ns).length := by rw [List.length_zip]; omega
  obtain ⟨h1, h2⟩ := List.getElem?_eq_some_iff.1 (at2_some h)
  unfold withTo
  rw [← List.take_append_getElem hz, List.filterMap_append, List.getElem_zip, h2, ← g_eq hn]
  by_cases hp : 0 < g ns i
  · simp [hp]
  · simp [hp]
theorem withTo_length {xs : List (Int × Int)} {ns : List Int} {i : Nat} : (withTo xs ns i).length ≤ i := by
  unfold withTo
  exact Nat.le_trans (List.length_filterMap_le ..) (by rw [List.length_take]; omega)
theorem with_ok (xs : List (Int × Int)) (ns : List Int) (hl : xs.length ≤ 64) (hn : ns.length = xs.length) : share_withP xs ns = some (withL xs ns) := by
  unfold share_withP share_with
  simp -implicitDefEqProofs only [evs, reduceIte, rdRes, rdTT, rdTy, rdLT, Res.un, TT.un, Ty.un, LT.un, Leaf.un, Leaf.plain, LT.plain, hL_empty]
  obtain ⟨x, h1, s, sl, o, rfl, h2⟩ := iter_upto (f := share_with.loop1 (rowSV false j2 xs) (rowSV false [.int .i64] ns)) (fun i st => ∃ s sl o, st = ((s, (i : Int)), hL sl) ∧ Acc sl j2 (withTo xs ns i) s o)
    (fun x => ∃ s sl o, x = (.ex0 s, hL sl) ∧ Acc sl j2 (withL xs ns) s o) xs.length (fun i st hi hst => by
      obtain ⟨s, sl, o, rfl, hacc⟩ := hst
      have hget := at2_some hi
      have hrow : (sl ++ [c2 (at2 xs i)])[sl.length]? = some (c2 (at2 xs i)) := by simp
      have nw := new_c2 (sl := sl) (x := at2 xs i)
      have r1 := rd_c2 hrow
      have hg1 : 0 ≤ (i : Int) ∧ (i : Int) < (xs.length : Int) := by omega
      have hg2 : 0 ≤ (i : Int) ∧ (i : Int) < (ns.length : Int) := by omega
      have hacc2 : Acc (sl ++ [c2 (at2 xs i)]) j2 (withTo xs ns i) s o := hacc.more
      have hwl := withTo_length (xs := xs) (ns := ns) (i := i)
      have hsucc := withTo_succ (xs := xs) (ns := ns) hi (by omega)
      obtain ⟨s', sl', id, k1, k2, k3, k4, k5⟩ := hacc2.append (b := 16) (w := 2) (x := ((at2 xs i).1, g ns i)) (vs := [.int .i64 (at2 xs i).1, .int .i64 (g ns i)]) rfl (by omega) (by omega) (by omega) rfl
      by_cases hp : 0 < g ns i
      · rw [if_pos hp] at hsucc
        refine ⟨((s', ((i + 1 : Nat) : Int)), hL sl'), ?_, s', sl', some id, rfl, by rw [hsucc]; exact k2⟩
        unfold share_with.loop1
        simp -implicitDefEqProofs only [Int.toNat_natCast, rowSV_len, guardO_pos hg1, guardO_pos hg2, rd_rowI, g_some (xs := ns) (show i < ns.length by omega)]
        rw [decide_eq_true hg1.2, cond_true, rds_rowF (ls := j2) (w := 2) rfl (by omega) rfl, hget]
        simp -implicitDefEqProofs only [Option.bind_some, hL_new, hL_next]
        rw [nw]
        simp -implicitDefEqProofs only [Option.bind_some, reserve0]
        rw [decide_eq_true hp]
        simp -implicitDefEqProofs only [evs, reduceIte, rdRes, rdTT, rdTy, rdLT, Res.un, TT.un, Ty.un, LT.un, Leaf.un, Leaf.plain, LT.plain]
        rw [r1.1]
        simp -implicitDefEqProofs only [evs, reduceIte, rdRes, rdTT, rdTy, rdLT, Res.un, TT.un, Ty.un, LT.un, Leaf.un, Leaf.plain, LT.plain]
        rw [k1]
        simp -implicitDefEqProofs only [evs, reduceIte, rdRes, rdTT, rdTy, rdLT, Res.un, TT.un, Ty.un, LT.un, Leaf.un, Leaf.plain, LT.plain]
        rw [i64_succ (by omega)]
      · rw [if_neg hp] at hsucc
        refine ⟨((s, ((i + 1 : Nat) : Int)), hL (sl ++ [c2 (at2 xs i)])), ?_, s, _, o, rfl, by rw [hsucc]; exact hacc2⟩
        unfold share_with.loop1
        simp -implicitDefEqProofs only [Int.toNat_natCast, rowSV_len, guardO_pos hg1, guardO_pos hg2, rd_rowI, g_some (xs := ns) (show i < ns.length by omega)]
        rw [decide_eq_true hg1.2, cond_true, rds_rowF (ls := j2) (w := 2) rfl (by omega) rfl, hget]
        simp -implicitDefEqProofs only [Option.bind_some, hL_new, hL_next]
        rw [nw]
        simp -implicitDefEqProofs only [Option.bind_some, reserve0]
        rw [decide_eq_false hp]
        simp -implicitDefEqProofs only [evs, reduceIte, rdRes, rdTT, rdTy, rdLT, Res.un, TT.un, Ty.un, LT.un, Leaf.un, Leaf.plain, LT.plain]
        rw [i64_succ (by omega)]) (fun st hst => by
      obtain ⟨s, sl, o, rfl, hacc⟩ := hst
      have : withTo xs ns xs.length = withL xs ns := by
        unfold withTo withL
        rw [List.take_of_length_le (by rw [List.length_zip]; omega)]
      rw [this] at hacc
      refine ⟨_, ?_, s, sl, o, rfl, hacc⟩
      unfold share_with.loop1
      simp -implicitDefEqProofs only [rowSV_len]
      rw [decide_eq_false (by omega), cond_false]) FUEL 0 ((⟨.nil, 0, 0, false⟩, 0), hL []) (by omega) ⟨_, [], none, rfl, Acc.nil⟩ (by have := fuel_gt (n := xs.length) (by omega); omega)
  rw [h1]
  simp -implicitDefEqProofs only [evs, reduceIte, rdRes, rdTT, rdTy, rdLT, Res.un, TT.un, Ty.un, LT.un, Leaf.un, Leaf.plain, LT.plain]
  rw [h2.read rfl]
theorem rwith_ok (xs : List (Int × Int)) (ns : List Int) (hl : xs.length ≤ 64) (hn : ns.length = xs.length) : spileref23_withP xs ns = some (withL xs ns) := by
  unfold spileref23_withP spileref23_with
  simp -implicitDefEqProofs only [evs, reduceIte, rdRes, rdTT, rdTy, rdLT, Res.un, TT.un, Ty.un, LT.un, Leaf.un, Leaf.plain, LT.plain, hL_empty]
  obtain ⟨x, h1, s, sl, o, rfl, h2⟩ := iter_upto (f := spileref23_with.loop1 (rowSV false j2 xs) (rowSV false [.int .i64] ns)) (fun i st => ∃ s sl o, st = ((s, (i : Int)), hL sl) ∧ Acc sl j2 (withTo xs ns i) s o)
    (fun x => ∃ s sl o, x = (.ex0 s, hL sl) ∧ Acc sl j2 (withL xs ns) s o) xs.length (fun i st hi hst => by
      obtain ⟨s, sl, o, rfl, hacc⟩ := hst
      have hg1 : 0 ≤ (i : Int) ∧ (i : Int) < (xs.length : Int) := by omega
      have hg2 : 0 ≤ (i : Int) ∧ (i : Int) < (ns.length : Int) := by omega
      have hwl := withTo_length (xs := xs) (ns := ns) (i := i)
      have hsucc := withTo_succ (xs := xs) (ns := ns) hi (by omega)
      obtain ⟨s', sl', id, k1, k2, k3, k4, k5⟩ := hacc.append (b := 16) (w := 2) (x := ((at2 xs i).1, g ns i)) (vs := [.int .i64 (at2 xs i).1, .int .i64 (g ns i)]) rfl (by omega) (by omega) (by omega) rfl
      by_cases hp : 0 < g ns i
      · rw [if_pos hp] at hsucc
        refine ⟨((s', ((i + 1 : Nat) : Int)), hL sl'), ?_, s', sl', some id, rfl, by rw [hsucc]; exact k2⟩
        unfold spileref23_with.loop1
        simp -implicitDefEqProofs only [Int.toNat_natCast, rowSV_len, guardO_pos hg1, guardO_pos hg2, rd_rowI, g_some (xs := ns) (show i < ns.length by omega), reserve0, Option.bind_some]
        rw [decide_eq_true hg1.2, cond_true, decide_eq_true hp]
        simp -implicitDefEqProofs only [evs, reduceIte, rdRes, rdTT, rdTy, rdLT, Res.un, TT.un, Ty.un, LT.un, Leaf.un, Leaf.plain, LT.plain]
        rw [guardO_pos (nn_at2 hi), (rd_at2 hi).1]
        simp -implicitDefEqProofs only [evs, reduceIte, rdRes, rdTT, rdTy, rdLT, Res.un, TT.un, Ty.un, LT.un, Leaf.un, Leaf.plain, LT.plain]
        rw [k1]
        simp -implicitDefEqProofs only [evs, reduceIte, rdRes, rdTT, rdTy, rdLT, Res.un, TT.un, Ty.un, LT.un, Leaf.un, Leaf.plain, LT.plain]
        rw [i64_succ (by omega)]
      · rw [if_neg hp] at hsucc
        refine ⟨((s, ((i + 1 : Nat) : Int)), hL sl), ?_, s, _, o, rfl, by rw [hsucc]; exact hacc⟩
        unfold spileref23_with.loop1
        simp -implicitDefEqProofs only [Int.toNat_natCast, rowSV_len, guardO_pos hg1, guardO_pos hg2, rd_rowI, g_some (xs := ns) (show i < ns.length by omega), reserve0, Option.bind_some]
        rw [decide_eq_true hg1.2, cond_true, decide_eq_false hp]
        simp -implicitDefEqProofs only [evs, reduceIte, rdRes, rdTT, rdTy, rdLT, Res.un, TT.un, Ty.un, LT.un, Leaf.un, Leaf.plain, LT.plain]
        rw [i64_succ (by omega)]) (fun st hst => by
      obtain ⟨s, sl, o, rfl, hacc⟩ := hst
      have : withTo xs ns xs.length = withL xs ns := by
        unfold withTo withL
        rw [List.take_of_length_le (by rw [List.length_zip]; omega)]
      rw [this] at hacc
      refine ⟨_, ?_, s, sl, o, rfl, hacc⟩
      unfold spileref23_with.loop1
      simp -implicitDefEqProofs only [rowSV_len]
      rw [decide_eq_false (by omega), cond_false]) FUEL 0 ((⟨.lp true [] 0, 0, 0, false⟩, 0), hL []) (by omega) ⟨_, [], none, rfl, Acc.nil'⟩ (by have := fuel_gt (n := xs.length) (by omega); omega)
  rw [h1]
  simp -implicitDefEqProofs only [evs, reduceIte, rdRes, rdTT, rdTy, rdLT, Res.un, TT.un, Ty.un, LT.un, Leaf.un, Leaf.plain, LT.plain]
  rw [h2.read rfl]
theorem ramounts_ok (xs : List (Int × Int)) (hl : xs.length ≤ 64) : spileref23_amountsP xs = some (xs.map (·.2)) := by
  unfold spileref23_amountsP spileref23_amounts
  simp -implicitDefEqProofs only [evs, reduceIte, rdRes, rdTT, rdTy, rdLT, Res.un, TT.un, Ty.un, LT.un, Leaf.un, Leaf.plain, LT.plain, hL_empty]
  obtain ⟨x, h1, s, sl, o, rfl, h2⟩ := iter_upto (f := spileref23_amounts.loop1 (rowSV false j2 xs)) (fun i st => ∃ s sl o, st = ((s, (i : Int)), hL sl) ∧ Acc sl [.int .i64] ((xs.take i).map (·.2)) s o)
    (fun x => ∃ s sl o, x = (.ex0 s, hL sl) ∧ Acc sl [.int .i64] (xs.map (·.2)) s o) xs.length (fun i st hi hst => by
      obtain ⟨s, sl, o, rfl, hacc⟩ := hst
      have hg1 : 0 ≤ (i : Int) ∧ (i : Int) < (xs.length : Int) := by omega
      obtain ⟨s', sl', id, k1, k2, k3, k4, k5⟩ := hacc.append (b := 8) (w := 1) (x := (at2 xs i).2) (vs := [.int .i64 (at2 xs i).2]) rfl (by omega) (by rw [List.length_map, List.length_take]; omega) (by omega) rfl
      refine ⟨((s', ((i + 1 : Nat) : Int)), hL sl'), ?_, s', sl', some id, rfl, by rw [take_snd hi]; exact k2⟩
      unfold spileref23_amounts.loop1
      simp -implicitDefEqProofs only [Int.toNat_natCast, rowSV_len, guardO_pos hg1]
      rw [decide_eq_true hg1.2, cond_true, guardO_pos (nn_at2 hi), (rd_at2 hi).2]
      simp -implicitDefEqProofs only [evs, reduceIte, rdRes, rdTT, rdTy, rdLT, Res.un, TT.un, Ty.un, LT.un, Leaf.un, Leaf.plain, LT.plain]
      rw [k1]
      simp -implicitDefEqProofs only [evs, reduceIte, rdRes, rdTT, rdTy, rdLT, Res.un, TT.un, Ty.un, LT.un, Leaf.un, Leaf.plain, LT.plain]
      rw [i64_succ (by omega)]) (fun st hst => by
      obtain ⟨s, sl, o, rfl, hacc⟩ := hst
      rw [List.take_length] at hacc
      refine ⟨_, ?_, s, sl, o, rfl, hacc⟩
      unfold spileref23_amounts.loop1
      simp -implicitDefEqProofs only [rowSV_len]
      rw [decide_eq_false (by omega), cond_false]) FUEL 0 ((⟨.lp true [] 0, 0, 0, false⟩, 0), hL []) (by omega) ⟨_, [], none, rfl, Acc.nil'⟩ (by have := fuel_gt (n := xs.length) (by omega); omega)
  rw [h1]
  simp -implicitDefEqProofs only [evs, reduceIte, rdRes, rdTT, rdTy, rdLT, Res.un, TT.un, Ty.un, LT.un, Leaf.un, Leaf.plain, LT.plain]
  rw [h2.read rfl]
end Go.Proofs.Ytbcpdecgfdlaaaa
/- What share.Take, share.Parts and those of the reference compute; the law ShareTakes in plain numbers. Conditions: none. -/
namespace Go.Proofs.Ytbcpdecgfdlaaaa
open Go Go.Proofs.Ytbcpdecgfdlaaaa.Ev
set_option linter.unusedVariables false
set_option linter.unusedSimpArgs false
set_option maxRecDepth 100000
set_option maxHeartbeats 4000000
theorem EqualI_ok (a b : List Int) (hl : a.length < 2 ^ 63) : slices_Equal_int_intP a b = some (decide (a = b)) := by
  unfold slices_Equal_int_intP slices_Equal_int_int
  simp -implicitDefEqProofs only [rowSV_len]
  by_cases hab : a.length = b.length
  · rw [decide_eq_true (show (a.length : Int) = (b.length : Int) by omega)]
    simp -implicitDefEqProofs only [evs, reduceIte, rdRes, rdTT, rdTy, rdLT, Res.un, TT.un, Ty.un, LT.un, Leaf.un, Leaf.plain, LT.plain]
    rw [iter_same a b hab hl (fun i x y hx hy hi => by
      unfold slices_Equal_int_int.loop1
      simp -implicitDefEqProofs only [rowSV_len, Int.toNat_natCast, reserve0]
      rw [decide_eq_true (by omega), cond_true, guardO_pos (by omega), rd_rowI, hx, rd_rowI, hy]
      simp -implicitDefEqProofs only [Option.bind_some]
      rw [guardO_pos (by omega), i64_succ (by omega)]
      cases decide (x = y) <;> rfl) (by
      unfold slices_Equal_int_int.loop1
      simp -implicitDefEqProofs only [rowSV_len]
      rw [decide_eq_false (by omega), cond_false])]
    by_cases he : a = b
    · rw [if_pos he, decide_eq_true he]; rfl
    · rw [if_neg he, decide_eq_false he]; rfl
  · rw [decide_eq_false (show ¬ (a.length : Int) = (b.length : Int) by omega), decide_eq_false (show ¬ a = b from fun e => hab (by rw [e]))]
    simp -implicitDefEqProofs only [evs, reduceIte, rdRes, rdTT, rdTy, rdLT, Res.un, TT.un, Ty.un, LT.un, Leaf.un, Leaf.plain, LT.plain]
theorem rdRow_j2 {lp : Bool} {h : H} {xs : List (Int × Int)} : rdRow lp h [.int .i64, .int .i64] ⟨(rowSV true [.int .i64, .int .i64] xs).a, xs.length, xs.length, true⟩ = some xs := rdRow_res rfl
theorem rdRow_i {lp : Bool} {h : H} {xs : List Int} : rdRow lp h [.int .i64] ⟨(rowSV true [.int .i64] xs).a, xs.length, xs.length, true⟩ = some xs := rdRow_res rfl
def amts (xs : List (Int × Int)) : List Int := xs.map (·.2)
def takeOf (xs : List (Int × Int)) (n : Int) : List (Int × Int) × List (Int × Int) × Int :=
  if shareCheck xs = 0 then (if n < 0 then ([], [], 2) else if sumA xs < n then ([], [], 17) else if xs.length = 0 then ([], [], 0) else (withL xs (drawP (amts xs) n).1, withL xs (drawP (amts xs) n).2.1, 0)) else ([], [], 1)
/-- Drawing off right shares. -/
theorem draw_right {xs : List (Int × Int)} {n : Int} (h : shareCheck xs = 0) (h0 : 0 ≤ n) (h1 : n ≤ sumA xs) (hne : 0 < xs.length) :
    drawP (amts xs) n = (divParts n (sumA xs) (amts xs), less (amts xs) (divParts n (sumA xs) (amts xs)) (amts xs).length, 0) ∧ (weighOf n (amts xs)) = (sumA xs, 0) := by
  obtain ⟨k1, k2, k3, k4⟩ := shareCheck_ok h
  have hall : (amts xs).all isAmt = true := List.all_eq_true.2 fun y hy => by
    obtain ⟨x, hx, rfl⟩ := List.mem_map.1 hy
    have := okS_iff.1 (k3 x hx)
    exact isAmt_iff.2 (by omega)
  have hlen : (amts xs).length = xs.length := by simp [amts]
  have hpos : 0 < sumA xs := by
    cases xs with
    | nil => simp at hne
    | cons x xs =>
      have h2 := okS_iff.1 (k3 x (by simp))
      have h3 := sumA_bound xs fun y hy => by have := okS_iff.1 (k3 y (by simp [hy])); omega
      unfold sumA at h3 ⊢
      simp only [List.map_cons, List.sum_cons]
      omega
  have hsum : (amts xs).sum = sumA xs := rfl
  have hw : weighOf n (amts xs) = (sumA xs, 0) := by
    unfold weighOf
    rw [if_pos (isAmt_iff.2 (by omega)), if_neg (by omega), if_neg (by omega), if_pos (by rw [hall, hsum]; simp only [Bool.true_and]; exact isAmt_iff.2 (by omega)), if_neg (by omega), hsum]
  refine ⟨?_, hw⟩
  unfold drawP
  rw [hw, if_pos rfl, if_neg (by omega)]
theorem STake_ok (xs : List (Int × Int)) (n : Int) (hl : xs.length < 2 ^ 63) : share_TakeP xs n = some (takeOf xs n) := by
  unfold share_TakeP share_Take takeOf
  simp -implicitDefEqProofs only [evs, reduceIte, rdRes, rdTT, rdTy, rdLT, Res.un, TT.un, Ty.un, LT.un, Leaf.un, Leaf.plain, LT.plain, rdRow_j2, rdRow_i]
  rw [SSum_ok xs hl]
  unfold shareSum
  by_cases h : shareCheck xs = 0
  · obtain ⟨k1, k2, k3, k4⟩ := shareCheck_ok h
    rw [if_pos h, if_pos h]
    simp -implicitDefEqProofs only [evs, reduceIte, rdRes, rdTT, rdTy, rdLT, Res.un, TT.un, Ty.un, LT.un, Leaf.un, Leaf.plain, LT.plain, eq_self, decide_true]
    by_cases h0 : n < 0
    · rw [decide_eq_true h0, if_pos h0]
      simp -implicitDefEqProofs only [evs, reduceIte, rdRes, rdTT, rdTy, rdLT, Res.un, TT.un, Ty.un, LT.un, Leaf.un, Leaf.plain, LT.plain, rdRow_j2, rdRow_i]
    · rw [decide_eq_false h0, if_neg h0]
      simp -implicitDefEqProofs only [evs, reduceIte, rdRes, rdTT, rdTy, rdLT, Res.un, TT.un, Ty.un, LT.un, Leaf.un, Leaf.plain, LT.plain, rdRow_j2, rdRow_i]
      by_cases h1 : sumA xs < n
      · rw [decide_eq_true h1, if_pos h1]
        simp -implicitDefEqProofs only [evs, reduceIte, rdRes, rdTT, rdTy, rdLT, Res.un, TT.un, Ty.un, LT.un, Leaf.un, Leaf.plain, LT.plain, rdRow_j2, rdRow_i]
      · rw [decide_eq_false h1, if_neg h1]
        simp -implicitDefEqProofs only [evs, reduceIte, rdRes, rdTT, rdTy, rdLT, Res.un, TT.un, Ty.un, LT.un, Leaf.un, Leaf.plain, LT.plain, rdRow_j2, rdRow_i]
        by_cases h2 : xs.length = 0
        · rw [decide_eq_true (show (xs.length : Int) = 0 by omega), if_pos h2]
          simp -implicitDefEqProofs only [evs, reduceIte, rdRes, rdTT, rdTy, rdLT, Res.un, TT.un, Ty.un, LT.un, Leaf.un, Leaf.plain, LT.plain, rdRow_j2, rdRow_i]
        · rw [decide_eq_false (show ¬ (xs.length : Int) = 0 by omega), if_neg h2]
          simp -implicitDefEqProofs only [evs, reduceIte, rdRes, rdTT, rdTy, rdLT, Res.un, TT.un, Ty.un, LT.un, Leaf.un, Leaf.plain, LT.plain, rdRow_j2, rdRow_i]
          rw [amounts23_ok xs (by omega) (okS_bound k3)]
          simp -implicitDefEqProofs only [evs, reduceIte, rdRes, rdTT, rdTy, rdLT, Res.un, TT.un, Ty.un, LT.un, Leaf.un, Leaf.plain, LT.plain, rdRow_j2, rdRow_i]
          rw [show List.map (fun x : Int × Int => x.2) xs = amts xs from rfl, PDraw_ok n (amts xs) (by unfold amts; rw [List.length_map]; omega)]
          simp -implicitDefEqProofs only [evs, reduceIte, rdRes, rdTT, rdTy, rdLT, Res.un, TT.un, Ty.un, LT.un, Leaf.un, Leaf.plain, LT.plain, rdRow_j2, rdRow_i]
          obtain ⟨d1, _⟩ := draw_right (n := n) h (by omega) (by omega) (show 0 < xs.length by omega)
          have e1 : (drawP (amts xs) n).1.length = xs.length := by rw [d1]; simp only [divParts_length]; simp [amts]
          have e2 : (drawP (amts xs) n).2.1.length = xs.length := by rw [d1]; simp only [less_length]; simp [amts]
          rw [with_ok xs _ (by omega) e1]
          simp -implicitDefEqProofs only [evs, reduceIte, rdRes, rdTT, rdTy, rdLT, Res.un, TT.un, Ty.un, LT.un, Leaf.un, Leaf.plain, LT.plain, rdRow_j2, rdRow_i]
          rw [with_ok xs _ (by omega) e2]
          simp -implicitDefEqProofs only [evs, reduceIte, rdRes, rdTT, rdTy, rdLT, Res.un, TT.un, Ty.un, LT.un, Leaf.un, Leaf.plain, LT.plain, rdRow_j2, rdRow_i]
  · simp only [if_neg h]
    simp -implicitDefEqProofs only [evs, reduceIte, rdRes, rdTT, rdTy, rdLT, Res.un, TT.un, Ty.un, LT.un, Leaf.un, Leaf.plain, LT.plain, rdRow_j2, rdRow_i]
    rw [decide_eq_false (show ¬ (1 : Int) = 0 by omega)]
    simp -implicitDefEqProofs only [evs, reduceIte, rdRes, rdTT, rdTy, rdLT, Res.un, TT.un, Ty.un, LT.un, Leaf.un, Leaf.plain, LT.plain, rdRow_j2, rdRow_i]
theorem rTake_ok (xs : List (Int × Int)) (n : Int) (hl : xs.length < 2 ^ 63) : spileref23_TakeP xs n = some (takeOf xs n) := by
  unfold spileref23_TakeP spileref23_Take takeOf
  simp -implicitDefEqProofs only [evs, reduceIte, rdRes, rdTT, rdTy, rdLT, Res.un, TT.un, Ty.un, LT.un, Leaf.un, Leaf.plain, LT.plain, rdRow_j2, rdRow_i]
  rw [rSCheck_ok xs hl]
  simp -implicitDefEqProofs only [evs, reduceIte, rdRes, rdTT, rdTy, rdLT, Res.un, TT.un, Ty.un, LT.un, Leaf.un, Leaf.plain, LT.plain, rdRow_j2, rdRow_i]
  by_cases h : shareCheck xs = 0
  · obtain ⟨k1, k2, k3, k4⟩ := shareCheck_ok h
    rw [decide_eq_true h, if_pos h]
    simp -implicitDefEqProofs only [evs, reduceIte, rdRes, rdTT, rdTy, rdLT, Res.un, TT.un, Ty.un, LT.un, Leaf.un, Leaf.plain, LT.plain, rdRow_j2, rdRow_i]
    by_cases h0 : n < 0
    · rw [decide_eq_true h0, if_pos h0]
      simp -implicitDefEqProofs only [evs, reduceIte, rdRes, rdTT, rdTy, rdLT, Res.un, TT.un, Ty.un, LT.un, Leaf.un, Leaf.plain, LT.plain, rdRow_j2, rdRow_i]
    · rw [decide_eq_false h0, if_neg h0]
      simp -implicitDefEqProofs only [evs, reduceIte, rdRes, rdTT, rdTy, rdLT, Res.un, TT.un, Ty.un, LT.un, Leaf.un, Leaf.plain, LT.plain, rdRow_j2, rdRow_i]
      rw [rAlcohol_ok xs (by omega) (okS_bound k3)]
      simp -implicitDefEqProofs only [evs, reduceIte, rdRes, rdTT, rdTy, rdLT, Res.un, TT.un, Ty.un, LT.un, Leaf.un, Leaf.plain, LT.plain, rdRow_j2, rdRow_i]
      by_cases h1 : sumA xs < n
      · rw [decide_eq_true h1, if_pos h1]
        simp -implicitDefEqProofs only [evs, reduceIte, rdRes, rdTT, rdTy, rdLT, Res.un, TT.un, Ty.un, LT.un, Leaf.un, Leaf.plain, LT.plain, rdRow_j2, rdRow_i]
      · rw [decide_eq_false h1, if_neg h1]
        simp -implicitDefEqProofs only [evs, reduceIte, rdRes, rdTT, rdTy, rdLT, Res.un, TT.un, Ty.un, LT.un, Leaf.un, Leaf.plain, LT.plain, rdRow_j2, rdRow_i]
        have htake : spileref23_takeP xs n = some (if xs.length = 0 then ([], []) else (withL xs (drawP (amts xs) n).1, withL xs (drawP (amts xs) n).2.1)) := by
          unfold spileref23_takeP spileref23_take
          simp -implicitDefEqProofs only [evs, reduceIte, rdRes, rdTT, rdTy, rdLT, Res.un, TT.un, Ty.un, LT.un, Leaf.un, Leaf.plain, LT.plain, rdRow_j2, rdRow_i]
          by_cases h2 : xs.length = 0
          · rw [decide_eq_true (show (xs.length : Int) = 0 by omega), if_pos h2]
            simp -implicitDefEqProofs only [evs, reduceIte, rdRes, rdTT, rdTy, rdLT, Res.un, TT.un, Ty.un, LT.un, Leaf.un, Leaf.plain, LT.plain, rdRow_j2, rdRow_i]
          · rw [decide_eq_false (show ¬ (xs.length : Int) = 0 by omega), if_neg h2]
            simp -implicitDefEqProofs only [evs, reduceIte, rdRes, rdTT, rdTy, rdLT, Res.un, TT.un, Ty.un, LT.un, Leaf.un, Leaf.plain, LT.plain, rdRow_j2, rdRow_i]
            rw [ramounts_ok xs (by omega)]
            simp -implicitDefEqProofs only [evs, reduceIte, rdRes, rdTT, rdTy, rdLT, Res.un, TT.un, Ty.un, LT.un, Leaf.un, Leaf.plain, LT.plain, rdRow_j2, rdRow_i]
            rw [show List.map (fun x : Int × Int => x.2) xs = amts xs from rfl, rPDraw_ok n (amts xs) (by unfold amts; rw [List.length_map]; omega)]
            simp -implicitDefEqProofs only [evs, reduceIte, rdRes, rdTT, rdTy, rdLT, Res.un, TT.un, Ty.un, LT.un, Leaf.un, Leaf.plain, LT.plain, rdRow_j2, rdRow_i]
            obtain ⟨d1, _⟩ := draw_right (n := n) h (by omega) (by omega) (show 0 < xs.length by omega)
            have e1 : (drawP (amts xs) n).1.length = xs.length := by rw [d1]; simp only [divParts_length]; simp [amts]
            have e2 : (drawP (amts xs) n).2.1.length = xs.length := by rw [d1]; simp only [less_length]; simp [amts]
            rw [rwith_ok xs _ (by omega) e1]
            simp -implicitDefEqProofs only [evs, reduceIte, rdRes, rdTT, rdTy, rdLT, Res.un, TT.un, Ty.un, LT.un, Leaf.un, Leaf.plain, LT.plain, rdRow_j2, rdRow_i]
            rw [rwith_ok xs _ (by omega) e2]
            simp -implicitDefEqProofs only [evs, reduceIte, rdRes, rdTT, rdTy, rdLT, Res.un, TT.un, Ty.un, LT.un, Leaf.un, Leaf.plain, LT.plain, rdRow_j2, rdRow_i]
        rw [htake]
        by_cases h2 : xs.length = 0
        · rw [if_pos h2, if_pos h2]
          simp -implicitDefEqProofs only [evs, reduceIte, rdRes, rdTT, rdTy, rdLT, Res.un, TT.un, Ty.un, LT.un, Leaf.un, Leaf.plain, LT.plain, rdRow_j2, rdRow_i]
        · rw [if_neg h2, if_neg h2]
          simp -implicitDefEqProofs only [evs, reduceIte, rdRes, rdTT, rdTy, rdLT, Res.un, TT.un, Ty.un, LT.un, Leaf.un, Leaf.plain, LT.plain, rdRow_j2, rdRow_i]
  · rw [decide_eq_false h, if_neg h]
    simp -implicitDefEqProofs only [evs, reduceIte, rdRes, rdTT, rdTy, rdLT, Res.un, TT.un, Ty.un, LT.un, Leaf.un, Leaf.plain, LT.plain, rdRow_j2, rdRow_i]
def partsOf (xs : List (Int × Int)) (n : Int) : List Int × Int :=
  if shareCheck xs = 0 then (if isAmt n = true then (if xs.length = 0 then ([], 9) else divideOf n (amts xs)) else ([], 2)) else ([], 1)
theorem amt_code {n : Int} {h : H} : (bif !(decide (n < 0)) then some ((decide ((128849018880000 : Int) < n)), h) else some (true, h) : Option (Bool × H)) = some (!isAmt n, h) := by
  cases hn : isAmt n with
  | true =>
    have := isAmt_iff.1 hn
    rw [decide_eq_false (show ¬ n < 0 by omega), decide_eq_false (show ¬ (128849018880000 : Int) < n by omega)]
    rfl
  | false =>
    have : ¬ (0 ≤ n ∧ n ≤ 128849018880000) := fun h => by rw [isAmt_iff.2 h] at hn; cases hn
    by_cases h0 : n < 0
    · rw [decide_eq_true h0]; rfl
    · rw [decide_eq_false h0, decide_eq_true (show (128849018880000 : Int) < n by omega)]; rfl
theorem SParts_ok (xs : List (Int × Int)) (n : Int) (hl : xs.length < 2 ^ 63) : share_PartsP xs n = some (partsOf xs n) := by
  unfold share_PartsP share_Parts partsOf
  simp -implicitDefEqProofs only [evs, reduceIte, rdRes, rdTT, rdTy, rdLT, Res.un, TT.un, Ty.un, LT.un, Leaf.un, Leaf.plain, LT.plain, rdRow_j2, rdRow_i]
  rw [SCheck_ok xs hl]
  simp -implicitDefEqProofs only [evs, reduceIte, rdRes, rdTT, rdTy, rdLT, Res.un, TT.un, Ty.un, LT.un, Leaf.un, Leaf.plain, LT.plain, rdRow_j2, rdRow_i]
  by_cases h : shareCheck xs = 0
  · obtain ⟨k1, k2, k3, k4⟩ := shareCheck_ok h
    rw [decide_eq_true h, if_pos h, amt_code]
    simp -implicitDefEqProofs only [evs, reduceIte, rdRes, rdTT, rdTy, rdLT, Res.un, TT.un, Ty.un, LT.un, Leaf.un, Leaf.plain, LT.plain, rdRow_j2, rdRow_i]
    cases hn : isAmt n with
    | false => simp -implicitDefEqProofs only [evs, reduceIte, rdRes, rdTT, rdTy, rdLT, Res.un, TT.un, Ty.un, LT.un, Leaf.un, Leaf.plain, LT.plain, Bool.false_eq_true]
    | true =>
      simp -implicitDefEqProofs only [evs, reduceIte, rdRes, rdTT, rdTy, rdLT, Res.un, TT.un, Ty.un, LT.un, Leaf.un, Leaf.plain, LT.plain, rdRow_j2, rdRow_i]
      by_cases h2 : xs.length = 0
      · rw [decide_eq_true (show (xs.length : Int) = 0 by omega), if_pos h2]
        simp -implicitDefEqProofs only [evs, reduceIte, rdRes, rdTT, rdTy, rdLT, Res.un, TT.un, Ty.un, LT.un, Leaf.un, Leaf.plain, LT.plain, rdRow_j2, rdRow_i]
      · rw [decide_eq_false (show ¬ (xs.length : Int) = 0 by omega), if_neg h2]
        simp -implicitDefEqProofs only [evs, reduceIte, rdRes, rdTT, rdTy, rdLT, Res.un, TT.un, Ty.un, LT.un, Leaf.un, Leaf.plain, LT.plain, rdRow_j2, rdRow_i]
        rw [amounts23_ok xs (by omega) (okS_bound k3)]
        simp -implicitDefEqProofs only [evs, reduceIte, rdRes, rdTT, rdTy, rdLT, Res.un, TT.un, Ty.un, LT.un, Leaf.un, Leaf.plain, LT.plain, rdRow_j2, rdRow_i]
        rw [show List.map (fun x : Int × Int => x.2) xs = amts xs from rfl, Divide_ok n (amts xs) (by unfold amts; rw [List.length_map]; omega)]
        simp -implicitDefEqProofs only [evs, reduceIte, rdRes, rdTT, rdTy, rdLT, Res.un, TT.un, Ty.un, LT.un, Leaf.un, Leaf.plain, LT.plain, rdRow_j2, rdRow_i]
  · rw [decide_eq_false h, if_neg h]
    simp -implicitDefEqProofs only [evs, reduceIte, rdRes, rdTT, rdTy, rdLT, Res.un, TT.un, Ty.un, LT.un, Leaf.un, Leaf.plain, LT.plain, rdRow_j2, rdRow_i]
theorem parts_code {xs : List (Int × Int)} {n : Int} (h : shareCheck xs = 0) (hn : isAmt n = true) (h2 : xs.length ≠ 0) : (divideOf n (amts xs)).2 = 0 := by
  obtain ⟨k1, k2, k3, k4⟩ := shareCheck_ok h
  obtain ⟨_, hw⟩ := draw_right (n := 0) h (by omega) (sumA_bound xs (okS_bound k3)).1 (show 0 < xs.length by omega)
  have hw2 : weighOf n (amts xs) = (sumA xs, 0) := by
    have h0 : isAmt 0 = true := isAmt_iff.2 (by omega)
    unfold weighOf at hw ⊢
    rw [if_pos h0] at hw
    rw [if_pos hn]
    exact hw
  rw [divideOf, hw2, if_pos rfl]
theorem rParts_ok (xs : List (Int × Int)) (n : Int) (hl : xs.length < 2 ^ 63) : spileref23_PartsP xs n = some (partsOf xs n) := by
  unfold spileref23_PartsP spileref23_Parts partsOf
  simp -implicitDefEqProofs only [evs, reduceIte, rdRes, rdTT, rdTy, rdLT, Res.un, TT.un, Ty.un, LT.un, Leaf.un, Leaf.plain, LT.plain, rdRow_j2, rdRow_i]
  rw [rSCheck_ok xs hl]
  simp -implicitDefEqProofs only [evs, reduceIte, rdRes, rdTT, rdTy, rdLT, Res.un, TT.un, Ty.un, LT.un, Leaf.un, Leaf.plain, LT.plain, rdRow_j2, rdRow_i]
  by_cases h : shareCheck xs = 0
  · obtain ⟨k1, k2, k3, k4⟩ := shareCheck_ok h
    rw [decide_eq_true h, if_pos h, amt_code]
    simp -implicitDefEqProofs only [evs, reduceIte, rdRes, rdTT, rdTy, rdLT, Res.un, TT.un, Ty.un, LT.un, Leaf.un, Leaf.plain, LT.plain, rdRow_j2, rdRow_i]
    cases hn : isAmt n with
    | false => simp -implicitDefEqProofs only [evs, reduceIte, rdRes, rdTT, rdTy, rdLT, Res.un, TT.un, Ty.un, LT.un, Leaf.un, Leaf.plain, LT.plain, Bool.false_eq_true]
    | true =>
      simp -implicitDefEqProofs only [evs, reduceIte, rdRes, rdTT, rdTy, rdLT, Res.un, TT.un, Ty.un, LT.un, Leaf.un, Leaf.plain, LT.plain, rdRow_j2, rdRow_i]
      by_cases h2 : xs.length = 0
      · rw [decide_eq_true (show (xs.length : Int) = 0 by omega), if_pos h2]
        simp -implicitDefEqProofs only [evs, reduceIte, rdRes, rdTT, rdTy, rdLT, Res.un, TT.un, Ty.un, LT.un, Leaf.un, Leaf.plain, LT.plain, rdRow_j2, rdRow_i]
      · rw [decide_eq_false (show ¬ (xs.length : Int) = 0 by omega), if_neg h2]
        simp -implicitDefEqProofs only [evs, reduceIte, rdRes, rdTT, rdTy, rdLT, Res.un, TT.un, Ty.un, LT.un, Leaf.un, Leaf.plain, LT.plain, rdRow_j2, rdRow_i]
        rw [ramounts_ok xs (by omega)]
        simp -implicitDefEqProofs only [evs, reduceIte, rdRes, rdTT, rdTy, rdLT, Res.un, TT.un, Ty.un, LT.un, Leaf.un, Leaf.plain, LT.plain, rdRow_j2, rdRow_i]
        rw [show List.map (fun x : Int × Int => x.2) xs = amts xs from rfl, rDivide_ok n (amts xs) (by unfold amts; rw [List.length_map]; omega)]
        have hc := parts_code h hn h2
        generalize divideOf n (amts xs) = d at *
        obtain ⟨d1, d2⟩ := d
        simp only at hc
        subst hc
        simp -implicitDefEqProofs only [evs, reduceIte, rdRes, rdTT, rdTy, rdLT, Res.un, TT.un, Ty.un, LT.un, Leaf.un, Leaf.plain, LT.plain, rdRow_j2, rdRow_i]
  · rw [decide_eq_false h, if_neg h]
    simp -implicitDefEqProofs only [evs, reduceIte, rdRes, rdTT, rdTy, rdLT, Res.un, TT.un, Ty.un, LT.un, Leaf.un, Leaf.plain, LT.plain, rdRow_j2, rdRow_i]
theorem same23_ok (a b : List (Int × Int)) (hl : a.length < 2 ^ 63) : spileref22_SameSharesP a b = some (decide (a = b)) := by
  have dec2 : ∀ (x y : Int × Int), (decide (x.1 = y.1) && decide (x.2 = y.2)) = decide (x = y) := fun x y => by
    obtain ⟨x0, x1⟩ := x
    obtain ⟨y0, y1⟩ := y
    simp [Prod.mk.injEq, Bool.decide_and]
  unfold spileref22_SameSharesP spileref22_SameShares
  simp -implicitDefEqProofs only [rowSV_len]
  by_cases hab : a.length = b.length
  · rw [decide_eq_true (show (a.length : Int) = (b.length : Int) by omega)]
    simp -implicitDefEqProofs only [evs, reduceIte, rdRes, rdTT, rdTy, rdLT, Res.un, TT.un, Ty.un, LT.un, Leaf.un, Leaf.plain, LT.plain, rdRow_j2, rdRow_i]
    rw [iter_same a b hab hl (fun i x y hx hy hi => by
      unfold spileref22_SameShares.loop1
      simp -implicitDefEqProofs only [rowSV_len, Int.toNat_natCast, reserve0]
      rw [decide_eq_true (by omega), cond_true, guardO_pos (by omega), rds_rowF (ls := j2) (w := 2) rfl (by omega) rfl, hx, rds_rowF (ls := j2) (w := 2) rfl (by omega) rfl, hy]
      simp -implicitDefEqProofs only [Option.bind_some, dec2]
      rw [guardO_pos (by omega), i64_succ (by omega)]
      cases decide (x = y) <;> rfl) (by
      unfold spileref22_SameShares.loop1
      simp -implicitDefEqProofs only [rowSV_len]
      rw [decide_eq_false (by omega), cond_false])]
    by_cases he : a = b
    · rw [if_pos he, decide_eq_true he]; rfl
    · rw [if_neg he, decide_eq_false he]; rfl
  · rw [decide_eq_false (show ¬ (a.length : Int) = (b.length : Int) by omega), decide_eq_false (show ¬ a = b from fun e => hab (by rw [e]))]
    simp -implicitDefEqProofs only [evs, reduceIte, rdRes, rdTT, rdTy, rdLT, Res.un, TT.un, Ty.un, LT.un, Leaf.un, Leaf.plain, LT.plain, rdRow_j2, rdRow_i]
theorem FewShares_ok (xs : List (Int × Int)) : ∃ b, spileref22_FewSharesP xs = some b ∧ (b = true → xs.length ≤ 37) := by
  unfold spileref22_FewSharesP spileref22_FewShares
  simp -implicitDefEqProofs only [evs, reduceIte, rdRes, rdTT, rdTy, rdLT, Res.un, TT.un, Ty.un, LT.un, Leaf.un, Leaf.plain, LT.plain, rdRow_j2, rdRow_i]
  by_cases h1 : (xs.length : Int) ≤ 12
  · rw [decide_eq_true h1]
    simp -implicitDefEqProofs only [evs, reduceIte, rdRes, rdTT, rdTy, rdLT, Res.un, TT.un, Ty.un, LT.un, Leaf.un, Leaf.plain, LT.plain, rdRow_j2, rdRow_i]
    exact ⟨_, rfl, fun _ => by omega⟩
  · rw [decide_eq_false h1]
    simp -implicitDefEqProofs only [evs, reduceIte, rdRes, rdTT, rdTy, rdLT, Res.un, TT.un, Ty.un, LT.un, Leaf.un, Leaf.plain, LT.plain, rdRow_j2, rdRow_i]
    by_cases h2 : (32 : Int) < (xs.length : Int)
    · rw [decide_eq_true h2]
      simp -implicitDefEqProofs only [evs, reduceIte, rdRes, rdTT, rdTy, rdLT, Res.un, TT.un, Ty.un, LT.un, Leaf.un, Leaf.plain, LT.plain, rdRow_j2, rdRow_i]
      exact ⟨_, rfl, fun h => by have := of_decide_eq_true h; omega⟩
    · rw [decide_eq_false h2]
      simp -implicitDefEqProofs only [evs, reduceIte, rdRes, rdTT, rdTy, rdLT, Res.un, TT.un, Ty.un, LT.un, Leaf.un, Leaf.plain, LT.plain, rdRow_j2, rdRow_i]
      exact ⟨_, rfl, fun h => by simp at h⟩
theorem withL_length {xs : List (Int × Int)} {ns : List Int} : (withL xs ns).length ≤ xs.length := by
  unfold withL
  exact Nat.le_trans (List.length_filterMap_le ..) (by rw [List.length_zip]; omega)
theorem takeOf_length {xs : List (Int × Int)} {n : Int} : (takeOf xs n).1.length ≤ xs.length ∧ (takeOf xs n).2.1.length ≤ xs.length := by
  unfold takeOf
  repeat' split
  all_goals first | exact ⟨withL_length, withL_length⟩ | simp
theorem partsOf_length {xs : List (Int × Int)} {n : Int} : (partsOf xs n).1.length ≤ xs.length := by
  unfold partsOf divideOf
  repeat' split
  all_goals simp [divParts_length, amts]
theorem awake23 : spilelaw23_awakeP = some true := by kernel_rfl
theorem ShareTakes_ok (xs : List (Int × Int)) (n : Int) : spilelaw23_ShareTakesP xs n = some true := by
  obtain ⟨b, hb, hb2⟩ := FewShares_ok xs
  unfold spilelaw23_ShareTakesP spilelaw23_ShareTakes
  simp -implicitDefEqProofs only [awake23, evs, reduceIte, rdRes, rdTT, rdTy, rdLT, Res.un, TT.un, Ty.un, LT.un, Leaf.un, Leaf.plain, LT.plain, hb]
  cases b with
  | false => simp -implicitDefEqProofs only [evs, reduceIte, rdRes, rdTT, rdTy, rdLT, Res.un, TT.un, Ty.un, LT.un, Leaf.un, Leaf.plain, LT.plain, Bool.false_eq_true]
  | true =>
    have hl := hb2 rfl
    have t1 := takeOf_length (xs := xs) (n := n)
    have t2 := partsOf_length (xs := xs) (n := n)
    simp -implicitDefEqProofs only [evs, reduceIte, rdRes, rdTT, rdTy, rdLT, Res.un, TT.un, Ty.un, LT.un, Leaf.un, Leaf.plain, LT.plain, rdRow_j2, rdRow_i]
    rw [SSum_ok xs (by omega), rSSum_ok xs (by omega), STake_ok xs n (by omega), rTake_ok xs n (by omega), SParts_ok xs n (by omega), rParts_ok xs n (by omega), SCheck_ok xs (by omega), rSCheck_ok xs (by omega)]
    generalize takeOf xs n = t at *
    generalize partsOf xs n = p at *
    obtain ⟨t1', t2', t3'⟩ := t
    obtain ⟨p1', p2'⟩ := p
    simp only at t1 t2
    simp -implicitDefEqProofs only [evs, reduceIte, rdRes, rdTT, rdTy, rdLT, Res.un, TT.un, Ty.un, LT.un, Leaf.un, Leaf.plain, LT.plain, eq_self, decide_true]
    rw [same23_ok _ _ (by omega), same23_ok _ _ (by omega)]
    simp -implicitDefEqProofs only [evs, reduceIte, rdRes, rdTT, rdTy, rdLT, Res.un, TT.un, Ty.un, LT.un, Leaf.un, Leaf.plain, LT.plain, eq_self, decide_true]
    rw [EqualI_ok _ _ (by omega)]
    simp -implicitDefEqProofs only [evs, reduceIte, rdRes, rdTT, rdTy, rdLT, Res.un, TT.un, Ty.un, LT.un, Leaf.un, Leaf.plain, LT.plain, eq_self, decide_true]
end Go.Proofs.Ytbcpdecgfdlaaaa
/- share.union joins lists of shares; share.Join and that of the reference. Conditions: those of each law. -/
namespace Go.Proofs.Ytbcpdecgfdlaaaa
open Go Go.Proofs.Ytbcpdecgfdlaaaa.Ev
set_option linter.unusedVariables false
set_option linter.unusedSimpArgs false
set_option maxRecDepth 100000
set_option maxHeartbeats 4000000
/-- A list's slice behind its first places. -/
def dropSV (xs : List (Int × Int)) (i : Nat) : SV := ⟨(rowSV false j2 xs).a.add (i * 2), xs.length - i, xs.length - i, true⟩
theorem dropSV_0 {xs : List (Int × Int)} : dropSV xs 0 = rowSV false j2 xs := rfl
theorem dropSV_len {xs : List (Int × Int)} {i : Nat} : (dropSV xs i).len = xs.length - i := by unfold dropSV; exact rfl
theorem dropSV_cap {xs : List (Int × Int)} {i : Nat} : (dropSV xs i).cap = xs.length - i := by unfold dropSV; exact rfl
theorem dropSV_tail {xs : List (Int × Int)} {i : Nat} : (dropSV xs i).tail = true := by unfold dropSV; exact rfl
theorem dropSV_rd {xs : List (Int × Int)} {i : Nat} {h : H} (hi : i < xs.length) : rdT (.leaf (.int .i64)) h (((dropSV xs i).a.add 0).add 0) = some (at2 xs i).1 := by
  have e : ((dropSV xs i).a.add 0).add 0 = ((rowSV false j2 xs).a.add (i * 2)).add 0 := by unfold dropSV; simp only [add_add, Nat.add_zero]
  rw [e, (rd_at2 hi).1]
theorem dropSV_nn {xs : List (Int × Int)} {i : Nat} (hi : i < xs.length) : V.nn ((dropSV xs i).a.add 0) = true := by
  have e : (dropSV xs i).a.add 0 = (rowSV false j2 xs).a.add (i * 2) := by unfold dropSV; simp only [add_add, Nat.add_zero]
  rw [e, nn_at2 hi]
theorem dropSV_next {xs : List (Int × Int)} {i : Nat} : V.slice (V.add (dropSV xs i).a (Int.toNat 1 * 2)) (Int.toNat ((xs.length - i : Nat) : Int) - Int.toNat 1) (xs.length - i - Int.toNat 1) true = .slice (dropSV xs (i + 1)).a (dropSV xs (i + 1)).len (dropSV xs (i + 1)).cap (dropSV xs (i + 1)).tail := by
  have e : (dropSV xs i).a.add (Int.toNat 1 * 2) = (dropSV xs (i + 1)).a := by
    unfold dropSV
    simp only [add_add]
    congr 1
    show i * 2 + 1 * 2 = (i + 1) * 2
    omega
  rw [e, dropSV_len, dropSV_cap, dropSV_tail, Int.toNat_natCast, show Int.toNat 1 = 1 from rfl, show xs.length - i - 1 = xs.length - (i + 1) by omega]
theorem yield_call {N : Nat} {f : TT [.leaf (.int .i64), .leaf (.int .i64)] → H → Option H} {a b : Int} {h : H} {R : Type} {k : V → H → Option R} :
    callV (withY Table.nil (mkY [.leaf (.int .i64), .leaf (.int .i64)] N f)).dy (.yld N) [.int .i64 a, .int .i64 b] h k = (f (a, b) h).bind fun h' => k (.bool true) h' := by
  have : Nat.beq N N = true := Nat.beq_refl N
  simp [callV, withY, mkY, this, TT.pack, Ty.pack, Leaf.pack]
theorem pack_true : Res.pack (.one (.leaf .bool)) (.bool true) = some true := rfl
/-- What holds between the rounds. -/
structure UInv (xs ys : List (Int × Int)) (es : List (Int × Int)) (N i k : Nat) (acc : List (Int × Int)) (sl : List Slot) : Prop where
  s1 : sl[1]? = some (slS (dropSV xs i))
  s2 : sl[2]? = some (slS (dropSV ys k))
  s3 : sl[3]? = some (.imap .i64 .i64 es)
  s4 : sl[4]? = some (.own [.map (some 3)] 1)
  sN : sl[N]? = some (.loop .ready)
  out : ∃ s o, sl[0]? = some (slS s) ∧ Acc sl j2 acc s o ∧ ∀ id, o = some id → N < id
abbrev gF (es : List (Int × Int)) (p : Int × Int) : Int × Int := (p.1, (getM p.1 es).getD 0)
theorem ujoin_step {xs ys es acc : List (Int × Int)} {N i k : Nat} {sl : List Slot} {h h3 : H} (hn : h.next = 0) (hN : h3.next = N) (hN5 : 4 < N) (inv : UInv xs ys es N i k acc sl) (hi : i ≤ xs.length) (hk : k ≤ ys.length) (hik : i < xs.length ∨ k < ys.length) (hl : xs.length + ys.length ≤ 4096) (ha : acc.length ≤ i + k) :
    ∃ (acc' : List (Int × Int)) (sl' : List Slot) (i' k' : Nat), share_joined_1.loop1 (withY Table.nil (mkY [.leaf (.int .i64), .leaf (.int .i64)] N (share_union.round1 h h3))) (.yld N) (.hp 1 1 0) (.hp 2 1 0) (.hp 4 1 0) ((), hL sl) = some (.more ((), hL sl')) ∧ UInv xs ys es N i' k' acc' sl' ∧ acc'.length ≤ i' + k' ∧ i' ≤ xs.length ∧ k' ≤ ys.length ∧ i + k < i' + k' ∧
      acc' ++ (joinL (xs.drop i') (ys.drop k')).map (gF es) = acc ++ (joinL (xs.drop i) (ys.drop k)).map (gF es) := by
  obtain ⟨i1, i2, i3, i4, iN, s, o, h0, hacc, ho⟩ := inv
  -- what a round does behind a choice
  have fin : ∀ (sl1 : List Slot) (i' k' : Nat) (f : Int), sl1.length = sl.length → (∀ j, j ≠ 1 → j ≠ 2 → sl1[j]? = sl[j]?) → sl1[1]? = some (slS (dropSV xs i')) → sl1[2]? = some (slS (dropSV ys k')) →
      ∃ sl', ((rdT (.leaf .map) (hL sl1) (.hp 4 1 0)).bind fun x47 => (match (x47 : Option Nat) with
        | none => none
        | some r49 => ((H.imap (hL sl1) r49 .i64 .i64).bind fun es48 => (callV (withY Table.nil (mkY [.leaf (.int .i64), .leaf (.int .i64)] N (share_union.round1 h h3))).dy (.yld N) [.int .i64 f, .int .i64 ((getM f es48).getD 0)] (hL sl1) fun v50 h51 => (Res.pack (.one (.leaf .bool)) v50).bind fun r52 =>
          (bif (!r52) then (some (.done (.ret (), h51))) else (some (.more ((), h51))) : Option (Stp (Unit × H) (Flow Unit Unit × H))))))) = some (.more ((), hL sl')) ∧ UInv xs ys es N i' k' (acc ++ [(f, (getM f es).getD 0)]) sl' := fun sl1 i' k' f hlen hsame e1 e2 => by
    have hacc1 : Acc sl1 j2 acc s o := hacc.frame fun id hid => by
      have := ho id hid
      rw [hsame id (by omega) (by omega)]
    obtain ⟨sl', s', id, r1, r2, r3, r4, r5, r6, r7⟩ := round_ok (x := (f, (getM f es).getD 0)) hn hN (by rw [hsame 0 (by omega) (by omega), h0]) (by rw [hsame N (by omega) (by omega), iN]) hacc1 ho (by omega) (by omega)
    refine ⟨sl', ?_, ⟨by rw [r7 1 (by omega) (by omega), e1], by rw [r7 2 (by omega) (by omega), e2], by rw [r7 3 (by omega) (by omega), hsame 3 (by omega) (by omega), i3], by rw [r7 4 (by omega) (by omega), hsame 4 (by omega) (by omega), i4], r3, s', some id, r2, r4, fun id' h' => by cases h'; exact r5⟩⟩
    rw [rd_map (by rw [hsame 4 (by omega) (by omega), i4])]
    simp -implicitDefEqProofs only [Option.bind_some]
    rw [imap_hL (by rw [hsame 3 (by omega) (by omega), i3])]
    simp -implicitDefEqProofs only [Option.bind_some]
    rw [yield_call, r1]
    simp -implicitDefEqProofs only [Option.bind_some, pack_true, evs, reduceIte, rdRes, rdTT, rdTy, rdLT, Res.un, TT.un, Ty.un, LT.un, Leaf.un, Leaf.plain, LT.plain]
  have rd1 := rd_sl i1
  have rd2 := rd_sl i2
  have l1 := (List.getElem?_eq_some_iff.1 i1).1
  have l2 := (List.getElem?_eq_some_iff.1 i2).1
  have first : (i < xs.length ∧ (k = ys.length ∨ k < ys.length ∧ (at2 xs i).1 < (at2 ys k).1)) ∨ (k < ys.length ∧ (i = xs.length ∨ i < xs.length ∧ (at2 ys k).1 < (at2 xs i).1)) ∨ (i < xs.length ∧ k < ys.length ∧ (at2 xs i).1 = (at2 ys k).1) := by
    rcases Nat.lt_or_ge i xs.length with h1 | h1
    · rcases Nat.lt_or_ge k ys.length with h2 | h2
      · rcases Int.lt_trichotomy (at2 xs i).1 (at2 ys k).1 with h3 | h3 | h3
        · exact .inl ⟨h1, .inr ⟨h2, h3⟩⟩
        · exact .inr (.inr ⟨h1, h2, h3⟩)
        · exact .inr (.inl ⟨h2, .inr ⟨h1, h3⟩⟩)
      · exact .inl ⟨h1, .inl (by omega)⟩
    · exact .inr (.inl ⟨by omega, .inl (by omega)⟩)
  have gx : i < xs.length → (0 : Int) ≤ 0 ∧ (0 : Int) < ((xs.length - i : Nat) : Int) := fun h => by omega
  have gy : k < ys.length → (0 : Int) ≤ 0 ∧ (0 : Int) < ((ys.length - k : Nat) : Int) := fun h => by omega
  have qx : i < xs.length → (0 : Int) ≤ 1 ∧ (1 : Int) ≤ ((xs.length - i : Nat) : Int) ∧ ((xs.length - i : Nat) : Int) ≤ ((xs.length - i : Nat) : Int) := fun h => by omega
  have qy : k < ys.length → (0 : Int) ≤ 1 ∧ (1 : Int) ≤ ((ys.length - k : Nat) : Int) ∧ ((ys.length - k : Nat) : Int) ≤ ((ys.length - k : Nat) : Int) := fun h => by omega
  have px : i < xs.length → decide ((0 : Int) < ((xs.length - i : Nat) : Int)) = true := fun h => decide_eq_true (by omega)
  have py : k < ys.length → decide ((0 : Int) < ((ys.length - k : Nat) : Int)) = true := fun h => decide_eq_true (by omega)
  have zx : i < xs.length → decide (((xs.length - i : Nat) : Int) = 0) = false := fun h => decide_eq_false (by omega)
  have zy : k < ys.length → decide (((ys.length - k : Nat) : Int) = 0) = false := fun h => decide_eq_false (by omega)
  rcases first with ⟨h1, h2⟩ | ⟨h1, h2⟩ | ⟨h1, h2, h3⟩
  · obtain ⟨sl', f1, f2⟩ := fin (sl.set 1 (slS (dropSV xs (i + 1)))) (i + 1) k (at2 xs i).1 (by simp) (fun j hj _ => by rw [List.getElem?_set_ne (Ne.symm hj)]) (by rw [List.getElem?_set_self l1]) (by rw [List.getElem?_set_ne (by omega), i2])
    refine ⟨_, sl', i + 1, k, ?_, f2, by simp; omega, by omega, hk, by omega, ?_⟩
    · unfold share_joined_1.loop1
      rcases h2 with h2 | ⟨h2, h3⟩
      · simp -implicitDefEqProofs only [evs, reduceIte, rdRes, rdTT, rdTy, rdLT, Res.un, TT.un, Ty.un, LT.un, Leaf.un, Leaf.plain, LT.plain, rd1, rd2, dropSV_len, dropSV_cap, dropSV_tail, px h1, decide_eq_true (show ((ys.length - k : Nat) : Int) = 0 by omega), guardO_pos (gx h1), guardO_pos (dropSV_nn h1), dropSV_rd h1, guardO_pos (qx h1)]
        rw [dropSV_next, wrs_one i1]
        simp -implicitDefEqProofs only [evs, reduceIte, rdRes, rdTT, rdTy, rdLT, Res.un, TT.un, Ty.un, LT.un, Leaf.un, Leaf.plain, LT.plain]
        exact f1
      · simp -implicitDefEqProofs only [evs, reduceIte, rdRes, rdTT, rdTy, rdLT, Res.un, TT.un, Ty.un, LT.un, Leaf.un, Leaf.plain, LT.plain, rd1, rd2, dropSV_len, dropSV_cap, dropSV_tail, px h1, zy h2, guardO_pos (gx h1), guardO_pos (gy h2), guardO_pos (dropSV_nn h1), guardO_pos (dropSV_nn h2), dropSV_rd h1, dropSV_rd h2, guardO_pos (qx h1), decide_eq_true h3]
        rw [dropSV_next, wrs_one i1]
        simp -implicitDefEqProofs only [evs, reduceIte, rdRes, rdTT, rdTy, rdLT, Res.un, TT.un, Ty.un, LT.un, Leaf.un, Leaf.plain, LT.plain]
        exact f1
    · rw [drop_at2 h1, List.append_assoc]
      rcases h2 with rfl | ⟨h2, h3⟩
      · simp [joinL_nil]
      · rw [drop_at2 h2, joinL_lt h3]; rfl
  · obtain ⟨sl', f1, f2⟩ := fin (sl.set 2 (slS (dropSV ys (k + 1)))) i (k + 1) (at2 ys k).1 (by simp) (fun j _ hj => by rw [List.getElem?_set_ne (Ne.symm hj)]) (by rw [List.getElem?_set_ne (by omega), i1]) (by rw [List.getElem?_set_self l2])
    refine ⟨_, sl', i, k + 1, ?_, f2, by simp; omega, hi, by omega, by omega, ?_⟩
    · unfold share_joined_1.loop1
      rcases h2 with h2 | ⟨h2, h3⟩
      · simp -implicitDefEqProofs only [evs, reduceIte, rdRes, rdTT, rdTy, rdLT, Res.un, TT.un, Ty.un, LT.un, Leaf.un, Leaf.plain, LT.plain, rd1, rd2, dropSV_len, dropSV_cap, dropSV_tail, py h1, zy h1, decide_eq_false (show ¬ (0 : Int) < ((xs.length - i : Nat) : Int) by omega), decide_eq_true (show ((xs.length - i : Nat) : Int) = 0 by omega), guardO_pos (gy h1), guardO_pos (dropSV_nn h1), dropSV_rd h1, guardO_pos (qy h1)]
        rw [dropSV_next, wrs_one i2]
        simp -implicitDefEqProofs only [evs, reduceIte, rdRes, rdTT, rdTy, rdLT, Res.un, TT.un, Ty.un, LT.un, Leaf.un, Leaf.plain, LT.plain]
        exact f1
      · simp -implicitDefEqProofs only [evs, reduceIte, rdRes, rdTT, rdTy, rdLT, Res.un, TT.un, Ty.un, LT.un, Leaf.un, Leaf.plain, LT.plain, rd1, rd2, dropSV_len, dropSV_cap, dropSV_tail, px h2, zx h2, zy h1, guardO_pos (gx h2), guardO_pos (gy h1), guardO_pos (dropSV_nn h1), guardO_pos (dropSV_nn h2), dropSV_rd h1, dropSV_rd h2, guardO_pos (qy h1), decide_eq_true h3, decide_eq_false (show ¬ (at2 xs i).1 < (at2 ys k).1 by omega)]
        rw [dropSV_next, wrs_one i2]
        simp -implicitDefEqProofs only [evs, reduceIte, rdRes, rdTT, rdTy, rdLT, Res.un, TT.un, Ty.un, LT.un, Leaf.un, Leaf.plain, LT.plain]
        exact f1
    · rw [drop_at2 h1, List.append_assoc]
      rcases h2 with rfl | ⟨h2, h3⟩
      · simp [nil_joinL]
      · rw [drop_at2 h2, joinL_gt h3]; rfl
  · obtain ⟨sl', f1, f2⟩ := fin ((sl.set 1 (slS (dropSV xs (i + 1)))).set 2 (slS (dropSV ys (k + 1)))) (i + 1) (k + 1) (at2 xs i).1 (by simp) (fun j hj1 hj => by rw [List.getElem?_set_ne (Ne.symm hj), List.getElem?_set_ne (Ne.symm hj1)]) (by rw [List.getElem?_set_ne (by omega), List.getElem?_set_self l1]) (by rw [List.getElem?_set_self (by simpa using l2)])
    refine ⟨_, sl', i + 1, k + 1, ?_, f2, by simp; omega, by omega, by omega, by omega, ?_⟩
    · have i2' : (sl.set 1 (slS (dropSV xs (i + 1))))[2]? = some (slS (dropSV ys k)) := by rw [List.getElem?_set_ne (by omega), i2]
      unfold share_joined_1.loop1
      simp -implicitDefEqProofs only [evs, reduceIte, rdRes, rdTT, rdTy, rdLT, Res.un, TT.un, Ty.un, LT.un, Leaf.un, Leaf.plain, LT.plain, rd1, rd2, dropSV_len, dropSV_cap, dropSV_tail, px h1, zx h1, zy h2, guardO_pos (gx h1), guardO_pos (gy h2), guardO_pos (dropSV_nn h1), guardO_pos (dropSV_nn h2), dropSV_rd h1, dropSV_rd h2, guardO_pos (qx h1), guardO_pos (qy h2), decide_eq_false (show ¬ (at2 xs i).1 < (at2 ys k).1 by omega), decide_eq_false (show ¬ (at2 ys k).1 < (at2 xs i).1 by omega)]
      rw [dropSV_next, dropSV_next, wrs_one i1]
      simp -implicitDefEqProofs only [evs, reduceIte, rdRes, rdTT, rdTy, rdLT, Res.un, TT.un, Ty.un, LT.un, Leaf.un, Leaf.plain, LT.plain]
      rw [wrs_one i2']
      simp -implicitDefEqProofs only [evs, reduceIte, rdRes, rdTT, rdTy, rdLT, Res.un, TT.un, Ty.un, LT.un, Leaf.un, Leaf.plain, LT.plain]
      rw [guardO_pos (by rfl)]
      simp -implicitDefEqProofs only [evs, reduceIte, rdRes, rdTT, rdTy, rdLT, Res.un, TT.un, Ty.un, LT.un, Leaf.un, Leaf.plain, LT.plain]
      exact f1
    · rw [drop_at2 h1, drop_at2 h2, joinL_eq h3, List.append_assoc]; rfl
theorem ujoin_call {Y : Entry} {N a b c : Nat} {h : H} : callIt (share_union.tb).dy Y (.func 88 [.hp a 1 0, .hp b 1 0, .hp c 1 0]) [.yld N] h = (share_joined_1 (withY Table.nil Y) (.yld N) (.hp a 1 0) (.hp b 1 0) (.hp c 1 0) h).bind fun p => some p.2 := by
  have : (share_union.tb).dy.it 88 Y = share_joined_1.it Y := rfl
  simp only [callIt, this, share_joined_1.it, mkX]
  simp [TT.pack, Ty.pack, Leaf.pack]
theorem union_ok (xs ys : List (Int × Int)) (hx : ∀ x ∈ xs, 0 ≤ x.2 ∧ x.2 ≤ 1000000000000000) (hy : ∀ x ∈ ys, 0 ≤ x.2 ∧ x.2 ≤ 1000000000000000) (hl : xs.length + ys.length ≤ 4096) (sx : SortedF xs) (sy : SortedF ys) : share_unionP xs ys = some (joinL xs ys) := by
  obtain ⟨sl, k1, k2, k3, k4, k5, k6, k7⟩ := joined_ok (sl := [slS ⟨.nil, 0, 0, false⟩]) xs ys hx hy hl
  simp only [List.length_cons, List.length_nil, Nat.zero_add, Nat.reduceAdd] at k1 k2 k3 k4 k5 k6 k7
  unfold share_unionP share_union
  simp -implicitDefEqProofs only [evs, reduceIte, rdRes, rdTT, rdTy, rdLT, Res.un, TT.un, Ty.un, LT.un, Leaf.un, Leaf.plain, LT.plain, hL_empty, hL_new, hL_next, List.nil_append]
  rw [k1]
  simp -implicitDefEqProofs only [evs, reduceIte, rdRes, rdTT, rdTy, rdLT, Res.un, TT.un, Ty.un, LT.un, Leaf.un, Leaf.plain, LT.plain, hL_newS, hL_next]
  rw [ujoin_call]
  have hg : ∀ i, i < sl.length → (sl ++ [Slot.loop .ready])[i]? = sl[i]? := fun i hi => by rw [List.getElem?_append_left hi]
  have inv0 : UInv xs ys (sumsM (xs ++ ys)) sl.length 0 0 [] (sl ++ [Slot.loop .ready]) :=
    ⟨by rw [hg 1 (by omega), k3]; rfl, by rw [hg 2 (by omega), k4]; rfl, by rw [hg 3 (by omega), k5], by rw [hg 4 (by omega), k6], by simp, ⟨⟨.nil, 0, 0, false⟩, none, by rw [hg 0 (by omega), k7 0 (by omega)]; rfl, Acc.nil, fun _ h => by cases h⟩⟩
  unfold share_joined_1
  obtain ⟨x, h1, sl', rfl, h2⟩ := iter_inv (f := share_joined_1.loop1 (withY Table.nil (mkY [.leaf (.int .i64), .leaf (.int .i64)] sl.length (share_union.round1 (hL []) (hL sl)))) (.yld sl.length) (.hp 1 1 0) (.hp 2 1 0) (.hp 4 1 0))
    (Inv := fun st => ∃ (acc : List (Int × Int)) (sl' : List Slot) (i k : Nat), st = ((), hL sl') ∧ UInv xs ys (sumsM (xs ++ ys)) sl.length i k acc sl' ∧ acc.length ≤ i + k ∧ i ≤ xs.length ∧ k ≤ ys.length ∧ acc ++ (joinL (xs.drop i) (ys.drop k)).map (gF (sumsM (xs ++ ys))) = (joinL xs ys).map (gF (sumsM (xs ++ ys))))
    (Post := fun x => ∃ sl', x = (.ex0 (), hL sl') ∧ UInv xs ys (sumsM (xs ++ ys)) sl.length xs.length ys.length ((joinL xs ys).map (gF (sumsM (xs ++ ys)))) sl') (fun st => ((rdT (.leaf .slice) st.2 (.hp 1 1 0)).map (·.len)).getD 0 + ((rdT (.leaf .slice) st.2 (.hp 2 1 0)).map (·.len)).getD 0) (fun st hst => by
      obtain ⟨acc, sl', i, k, rfl, inv, ha, hi, hk, he⟩ := hst
      by_cases hik : i < xs.length ∨ k < ys.length
      · obtain ⟨acc', sl2, i', k', e1, e2, e3, e4, e5, e6, e7⟩ := ujoin_step (N := sl.length) (h := hL []) (h3 := hL sl) rfl rfl (by omega) inv hi hk hik hl ha
        refine .inl ⟨_, e1, ⟨acc', sl2, i', k', rfl, e2, e3, e4, e5, by rw [e7, he]⟩, ?_⟩
        simp only [rd_sl inv.s1, rd_sl inv.s2, rd_sl e2.s1, rd_sl e2.s2, Option.map_some, Option.getD_some, dropSV_len]
        omega
      · refine .inr ⟨(.ex0 (), hL sl'), ?_, sl', rfl, ?_⟩
        · unfold share_joined_1.loop1
          simp -implicitDefEqProofs only [evs, reduceIte, rdRes, rdTT, rdTy, rdLT, Res.un, TT.un, Ty.un, LT.un, Leaf.un, Leaf.plain, LT.plain, rd_sl inv.s1, rd_sl inv.s2, dropSV_len, decide_eq_false (show ¬ (0 : Int) < ((xs.length - i : Nat) : Int) by omega), decide_eq_false (show ¬ (0 : Int) < ((ys.length - k : Nat) : Int) by omega)]
        · rw [List.drop_eq_nil_of_le (show xs.length ≤ i by omega), List.drop_eq_nil_of_le (show ys.length ≤ k by omega), nil_joinL, List.map_nil, List.append_nil] at he
          obtain rfl : i = xs.length := by omega
          obtain rfl : k = ys.length := by omega
          rw [← he]; exact inv) FUEL ((), hL (sl ++ [Slot.loop .ready])) ⟨[], _, 0, 0, rfl, inv0, by simp, by omega, by omega, by simp⟩ (by
      simp only [rd_sl inv0.s1, rd_sl inv0.s2, Option.map_some, Option.getD_some, dropSV_len]
      have := fuel_gt (n := xs.length + ys.length) (by omega); omega)
  rw [h1]
  obtain ⟨i1, i2, i3, i4, iN, s, o, h0, hacc, ho⟩ := h2
  simp -implicitDefEqProofs only [evs, reduceIte, rdRes, rdTT, rdTy, rdLT, Res.un, TT.un, Ty.un, LT.un, Leaf.un, Leaf.plain, LT.plain]
  unfold H.endL
  rw [hL_m, iN]
  simp only [Option.getD_some]
  have hNl := (List.getElem?_eq_some_iff.1 iN).1
  rw [hL_put hNl]
  simp -implicitDefEqProofs only [evs, reduceIte, rdRes, rdTT, rdTy, rdLT, Res.un, TT.un, Ty.un, LT.un, Leaf.un, Leaf.plain, LT.plain]
  rw [rd_sl (s := s) (by rw [List.length_nil, List.getElem?_set_ne (by omega), h0])]
  simp -implicitDefEqProofs only [evs, reduceIte, rdRes, rdTT, rdTy, rdLT, Res.un, TT.un, Ty.un, LT.un, Leaf.un, Leaf.plain, LT.plain]
  have hacc' : Acc (sl'.set sl.length (.loop .exhausted)) j2 ((joinL xs ys).map (gF (sumsM (xs ++ ys)))) s o := hacc.frame fun id hid => by
    have := ho id hid
    rw [List.getElem?_set_ne (by omega)]
  rw [hacc'.read rfl]
  have e : (joinL xs ys).map (gF (sumsM (xs ++ ys))) = joinL xs ys := by
    have := joinL_map xs ys sx sy
    rw [List.map_map] at this
    rw [show gF (sumsM (xs ++ ys)) = ((fun f => (f, amtOf f xs + amtOf f ys)) ∘ fun x : Int × Int => x.1) from by
      funext p
      simp only [gF, Function.comp, sumsM_get, amtOf_append], this]
  rw [e]
end Go.Proofs.Ytbcpdecgfdlaaaa
/- share.Join and that of the reference; the law ShareJoins in plain numbers. Conditions: none. -/
namespace Go.Proofs.Ytbcpdecgfdlaaaa
open Go Go.Proofs.Ytbcpdecgfdlaaaa.Ev
set_option linter.unusedVariables false
set_option linter.unusedSimpArgs false
set_option maxRecDepth 100000
set_option maxHeartbeats 4000000
/-- Right shares are in order. -/
theorem shareCheck_sorted {xs : List (Int × Int)} (h : shareCheck xs = 0) : SortedF xs := by
  obtain ⟨_, h2, _, _⟩ := shareCheck_ok h
  have step : ∀ i, i + 1 < xs.length → (at2 xs i).1 < (at2 xs (i + 1)).1 := fun i hi => by
    have h3 := h2 (i + 1) hi
    have h4 := sfault_ok h3
    unfold sfault at h3
    rw [if_pos h4] at h3
    by_cases h5 : 0 < i + 1 ∧ (at2 xs (i + 1)).1 ≤ (at2 xs (i + 1 - 1)).1
    · rw [if_pos h5] at h3; cases h3
    · rw [Nat.add_sub_cancel] at h5
      have : ¬ (at2 xs (i + 1)).1 ≤ (at2 xs i).1 := fun h6 => h5 ⟨by omega, h6⟩
      omega
  have all : ∀ d i, i + d + 1 < xs.length → (at2 xs i).1 < (at2 xs (i + d + 1)).1 := fun d => by
    induction d with
    | zero => exact fun i hi => step i hi
    | succ d ih =>
      intro i hi
      have h3 := ih i (by omega)
      have h4 := step (i + d + 1) hi
      rw [show i + (d + 1) + 1 = i + d + 1 + 1 by omega]
      omega
  refine List.pairwise_iff_getElem.2 fun i j hi hj hij => ?_
  have h3 := all (j - i - 1) i (by omega)
  rw [show i + (j - i - 1) + 1 = j by omega] at h3
  have e1 := at2_some hi
  have e2 := at2_some hj
  rw [List.getElem?_eq_getElem hi] at e1
  rw [List.getElem?_eq_getElem hj] at e2
  rw [Option.some.inj e1, Option.some.inj e2]
  exact h3
theorem joinL_bound (xs ys : List (Int × Int)) (B : Int) : (∀ x ∈ xs, 0 ≤ x.2 ∧ x.2 ≤ B) → (∀ x ∈ ys, 0 ≤ x.2 ∧ x.2 ≤ B) → ∀ x ∈ joinL xs ys, 0 ≤ x.2 ∧ x.2 ≤ B + B := by
  refine joinL_cases (P := fun xs ys => (∀ x ∈ xs, 0 ≤ x.2 ∧ x.2 ≤ B) → (∀ x ∈ ys, 0 ≤ x.2 ∧ x.2 ≤ B) → ∀ x ∈ joinL xs ys, 0 ≤ x.2 ∧ x.2 ≤ B + B) (fun ys h1 h2 p hp => by rw [nil_joinL] at hp; have := h2 p hp; omega) (fun xs h1 h2 p hp => by rw [joinL_nil] at hp; have := h1 p hp; omega) (fun x xs y ys h ih h1 h2 p hp => ?_) (fun x xs y ys h ih h1 h2 p hp => ?_) (fun x xs y ys h ih h1 h2 p hp => ?_) _ xs ys (Nat.le_refl _)
  · rw [joinL_lt h] at hp
    rcases List.mem_cons.1 hp with rfl | hp
    · have := h1 p (by simp); omega
    · exact ih (fun z hz => h1 z (by simp [hz])) h2 p hp
  · rw [joinL_gt h] at hp
    rcases List.mem_cons.1 hp with rfl | hp
    · have := h2 p (by simp); omega
    · exact ih h1 (fun z hz => h2 z (by simp [hz])) p hp
  · rw [joinL_eq h] at hp
    rcases List.mem_cons.1 hp with rfl | hp
    · have := h1 x (by simp); have := h2 y (by simp); simp only; omega
    · exact ih (fun z hz => h1 z (by simp [hz])) (fun z hz => h2 z (by simp [hz])) p hp
def fitsOf (xs : List (Int × Int)) : Int := if 32 < xs.length then 12 else if 10737418240000 < sumA xs then 15 else 0
def joinOf (xs ys : List (Int × Int)) : List (Int × Int) × Int :=
  if shareCheck xs = 0 ∧ shareCheck ys = 0 then (if fitsOf (joinL xs ys) = 0 then (joinL xs ys, 0) else ([], fitsOf (joinL xs ys))) else ([], 1)
theorem okS_bound' {xs : List (Int × Int)} (h : ∀ x ∈ xs, okS x = true) : ∀ x ∈ xs, 0 ≤ x.2 ∧ x.2 ≤ 10737418240000 := fun x hx => by
  have := okS_iff.1 (h x hx)
  omega
theorem join_right {xs ys : List (Int × Int)} (h1 : shareCheck xs = 0) (h2 : shareCheck ys = 0) : (joinL xs ys).length ≤ 64 ∧ ∀ x ∈ joinL xs ys, 0 ≤ x.2 ∧ x.2 ≤ 1000000000000000 := by
  obtain ⟨a1, a2, a3, a4⟩ := shareCheck_ok h1
  obtain ⟨b1, b2, b3, b4⟩ := shareCheck_ok h2
  have := joinL_length xs ys
  refine ⟨by omega, fun x hx => ?_⟩
  have := joinL_bound xs ys _ (okS_bound' a3) (okS_bound' b3) x hx
  omega
theorem SJoin_ok (xs ys : List (Int × Int)) (hx : xs.length < 2 ^ 63) (hy : ys.length < 2 ^ 63) : share_JoinP xs ys = some (joinOf xs ys) := by
  unfold share_JoinP share_Join joinOf
  simp -implicitDefEqProofs only [evs, reduceIte, rdRes, rdTT, rdTy, rdLT, Res.un, TT.un, Ty.un, LT.un, Leaf.un, Leaf.plain, LT.plain]
  rw [SCheck_ok xs hx]
  simp -implicitDefEqProofs only [evs, reduceIte, rdRes, rdTT, rdTy, rdLT, Res.un, TT.un, Ty.un, LT.un, Leaf.un, Leaf.plain, LT.plain]
  by_cases h1 : shareCheck xs = 0
  · rw [decide_eq_true h1]
    simp -implicitDefEqProofs only [evs, reduceIte, rdRes, rdTT, rdTy, rdLT, Res.un, TT.un, Ty.un, LT.un, Leaf.un, Leaf.plain, LT.plain]
    rw [SCheck_ok ys hy]
    simp -implicitDefEqProofs only [evs, reduceIte, rdRes, rdTT, rdTy, rdLT, Res.un, TT.un, Ty.un, LT.un, Leaf.un, Leaf.plain, LT.plain]
    by_cases h2 : shareCheck ys = 0
    · rw [decide_eq_true h2, if_pos ⟨h1, h2⟩]
      simp -implicitDefEqProofs only [evs, reduceIte, rdRes, rdTT, rdTy, rdLT, Res.un, TT.un, Ty.un, LT.un, Leaf.un, Leaf.plain, LT.plain]
      obtain ⟨a1, a2, a3, a4⟩ := shareCheck_ok h1
      obtain ⟨b1, b2, b3, b4⟩ := shareCheck_ok h2
      rw [union_ok xs ys (okS_bound a3) (okS_bound b3) (by omega) (shareCheck_sorted h1) (shareCheck_sorted h2)]
      simp -implicitDefEqProofs only [evs, reduceIte, rdRes, rdTT, rdTy, rdLT, Res.un, TT.un, Ty.un, LT.un, Leaf.un, Leaf.plain, LT.plain]
      obtain ⟨j1, j2'⟩ := join_right h1 h2
      rw [amounts23_ok _ j1 j2']
      simp -implicitDefEqProofs only [evs, reduceIte, rdRes, rdTT, rdTy, rdLT, Res.un, TT.un, Ty.un, LT.un, Leaf.un, Leaf.plain, LT.plain]
      unfold fitsOf
      by_cases h3 : 32 < (joinL xs ys).length
      · rw [decide_eq_true (show (32 : Int) < ((joinL xs ys).length : Int) by omega), if_pos h3, if_neg (by omega)]
        simp -implicitDefEqProofs only [evs, reduceIte, rdRes, rdTT, rdTy, rdLT, Res.un, TT.un, Ty.un, LT.un, Leaf.un, Leaf.plain, LT.plain]
      · rw [decide_eq_false (show ¬ (32 : Int) < ((joinL xs ys).length : Int) by omega), if_neg h3]
        simp -implicitDefEqProofs only [evs, reduceIte, rdRes, rdTT, rdTy, rdLT, Res.un, TT.un, Ty.un, LT.un, Leaf.un, Leaf.plain, LT.plain]
        by_cases h4 : 10737418240000 < sumA (joinL xs ys)
        · rw [decide_eq_true h4, if_pos h4, if_neg (by omega)]
          simp -implicitDefEqProofs only [evs, reduceIte, rdRes, rdTT, rdTy, rdLT, Res.un, TT.un, Ty.un, LT.un, Leaf.un, Leaf.plain, LT.plain]
        · rw [decide_eq_false h4, if_neg h4, if_pos rfl]
          simp -implicitDefEqProofs only [evs, reduceIte, rdRes, rdTT, rdTy, rdLT, Res.un, TT.un, Ty.un, LT.un, Leaf.un, Leaf.plain, LT.plain, rdRow_j2]
    · rw [decide_eq_false h2, if_neg (fun h => h2 h.2)]
      simp -implicitDefEqProofs only [evs, reduceIte, rdRes, rdTT, rdTy, rdLT, Res.un, TT.un, Ty.un, LT.un, Leaf.un, Leaf.plain, LT.plain]
  · rw [decide_eq_false h1, if_neg (fun h => h1 h.1)]
    simp -implicitDefEqProofs only [evs, reduceIte, rdRes, rdTT, rdTy, rdLT, Res.un, TT.un, Ty.un, LT.un, Leaf.un, Leaf.plain, LT.plain]
theorem rSJoin_ok (xs ys : List (Int × Int)) (hx : xs.length < 2 ^ 63) (hy : ys.length < 2 ^ 63) : spileref23_JoinP xs ys = some (joinOf xs ys) := by
  unfold spileref23_JoinP spileref23_Join joinOf
  simp -implicitDefEqProofs only [evs, reduceIte, rdRes, rdTT, rdTy, rdLT, Res.un, TT.un, Ty.un, LT.un, Leaf.un, Leaf.plain, LT.plain]
  rw [rSCheck_ok xs hx]
  simp -implicitDefEqProofs only [evs, reduceIte, rdRes, rdTT, rdTy, rdLT, Res.un, TT.un, Ty.un, LT.un, Leaf.un, Leaf.plain, LT.plain]
  by_cases h1 : shareCheck xs = 0
  · rw [decide_eq_true h1]
    simp -implicitDefEqProofs only [evs, reduceIte, rdRes, rdTT, rdTy, rdLT, Res.un, TT.un, Ty.un, LT.un, Leaf.un, Leaf.plain, LT.plain]
    rw [rSCheck_ok ys hy]
    simp -implicitDefEqProofs only [evs, reduceIte, rdRes, rdTT, rdTy, rdLT, Res.un, TT.un, Ty.un, LT.un, Leaf.un, Leaf.plain, LT.plain]
    by_cases h2 : shareCheck ys = 0
    · rw [decide_eq_true h2, if_pos ⟨h1, h2⟩]
      simp -implicitDefEqProofs only [evs, reduceIte, rdRes, rdTT, rdTy, rdLT, Res.un, TT.un, Ty.un, LT.un, Leaf.un, Leaf.plain, LT.plain]
      obtain ⟨a1, a2, a3, a4⟩ := shareCheck_ok h1
      obtain ⟨b1, b2, b3, b4⟩ := shareCheck_ok h2
      rw [rjoin_ok xs ys (okS_bound a3) (okS_bound b3) (by omega)]
      simp -implicitDefEqProofs only [evs, reduceIte, rdRes, rdTT, rdTy, rdLT, Res.un, TT.un, Ty.un, LT.un, Leaf.un, Leaf.plain, LT.plain]
      obtain ⟨j1, j2'⟩ := join_right h1 h2
      have hfits : spileref23_fitsP (joinL xs ys) = some (fitsOf (joinL xs ys)) := by
        unfold spileref23_fitsP spileref23_fits fitsOf
        simp -implicitDefEqProofs only [evs, reduceIte, rdRes, rdTT, rdTy, rdLT, Res.un, TT.un, Ty.un, LT.un, Leaf.un, Leaf.plain, LT.plain]
        by_cases h3 : 32 < (joinL xs ys).length
        · rw [decide_eq_true (show (32 : Int) < ((joinL xs ys).length : Int) by omega), if_pos h3]
          simp -implicitDefEqProofs only [evs, reduceIte, rdRes, rdTT, rdTy, rdLT, Res.un, TT.un, Ty.un, LT.un, Leaf.un, Leaf.plain, LT.plain]
        · rw [decide_eq_false (show ¬ (32 : Int) < ((joinL xs ys).length : Int) by omega), if_neg h3]
          simp -implicitDefEqProofs only [evs, reduceIte, rdRes, rdTT, rdTy, rdLT, Res.un, TT.un, Ty.un, LT.un, Leaf.un, Leaf.plain, LT.plain]
          rw [rAlcohol_ok _ j1 j2']
          simp -implicitDefEqProofs only [evs, reduceIte, rdRes, rdTT, rdTy, rdLT, Res.un, TT.un, Ty.un, LT.un, Leaf.un, Leaf.plain, LT.plain]
          by_cases h4 : 10737418240000 < sumA (joinL xs ys)
          · rw [decide_eq_true h4, if_pos h4]
            simp -implicitDefEqProofs only [evs, reduceIte, rdRes, rdTT, rdTy, rdLT, Res.un, TT.un, Ty.un, LT.un, Leaf.un, Leaf.plain, LT.plain]
          · rw [decide_eq_false h4, if_neg h4]
            simp -implicitDefEqProofs only [evs, reduceIte, rdRes, rdTT, rdTy, rdLT, Res.un, TT.un, Ty.un, LT.un, Leaf.un, Leaf.plain, LT.plain]
      rw [hfits]
      simp -implicitDefEqProofs only [evs, reduceIte, rdRes, rdTT, rdTy, rdLT, Res.un, TT.un, Ty.un, LT.un, Leaf.un, Leaf.plain, LT.plain]
      by_cases h3 : fitsOf (joinL xs ys) = 0
      · rw [decide_eq_true h3, if_pos h3]
        simp -implicitDefEqProofs only [evs, reduceIte, rdRes, rdTT, rdTy, rdLT, Res.un, TT.un, Ty.un, LT.un, Leaf.un, Leaf.plain, LT.plain, rdRow_j2]
      · rw [decide_eq_false h3, if_neg h3]
        simp -implicitDefEqProofs only [evs, reduceIte, rdRes, rdTT, rdTy, rdLT, Res.un, TT.un, Ty.un, LT.un, Leaf.un, Leaf.plain, LT.plain]
    · rw [decide_eq_false h2, if_neg (fun h => h2 h.2)]
      simp -implicitDefEqProofs only [evs, reduceIte, rdRes, rdTT, rdTy, rdLT, Res.un, TT.un, Ty.un, LT.un, Leaf.un, Leaf.plain, LT.plain]
  · rw [decide_eq_false h1, if_neg (fun h => h1 h.1)]
    simp -implicitDefEqProofs only [evs, reduceIte, rdRes, rdTT, rdTy, rdLT, Res.un, TT.un, Ty.un, LT.un, Leaf.un, Leaf.plain, LT.plain]
theorem joinOf_length {xs ys : List (Int × Int)} : (joinOf xs ys).1.length ≤ xs.length + ys.length := by
  unfold joinOf
  have := joinL_length xs ys
  split
  · split
    · exact this
    · simp
  · simp
theorem ShareJoins_ok (xs ys : List (Int × Int)) : spilelaw23_ShareJoinsP xs ys = some true := by
  obtain ⟨b, hb, hb2⟩ := FewShares_ok xs
  obtain ⟨c, hc, hc2⟩ := FewShares_ok ys
  unfold spilelaw23_ShareJoinsP spilelaw23_ShareJoins
  simp -implicitDefEqProofs only [awake23, evs, reduceIte, rdRes, rdTT, rdTy, rdLT, Res.un, TT.un, Ty.un, LT.un, Leaf.un, Leaf.plain, LT.plain, hb]
  cases b with
  | false => simp -implicitDefEqProofs only [evs, reduceIte, rdRes, rdTT, rdTy, rdLT, Res.un, TT.un, Ty.un, LT.un, Leaf.un, Leaf.plain, LT.plain, Bool.false_eq_true]
  | true =>
    simp -implicitDefEqProofs only [evs, reduceIte, rdRes, rdTT, rdTy, rdLT, Res.un, TT.un, Ty.un, LT.un, Leaf.un, Leaf.plain, LT.plain, hc]
    cases c with
    | false => simp -implicitDefEqProofs only [evs, reduceIte, rdRes, rdTT, rdTy, rdLT, Res.un, TT.un, Ty.un, LT.un, Leaf.un, Leaf.plain, LT.plain, Bool.false_eq_true]
    | true =>
      have h1 := hb2 rfl
      have h2 := hc2 rfl
      have t1 := joinOf_length (xs := xs) (ys := ys)
      simp -implicitDefEqProofs only [evs, reduceIte, rdRes, rdTT, rdTy, rdLT, Res.un, TT.un, Ty.un, LT.un, Leaf.un, Leaf.plain, LT.plain]
      rw [SJoin_ok xs ys (by omega) (by omega), rSJoin_ok xs ys (by omega) (by omega)]
      generalize joinOf xs ys = t at *
      obtain ⟨t1', t2'⟩ := t
      simp only at t1
      simp -implicitDefEqProofs only [evs, reduceIte, rdRes, rdTT, rdTy, rdLT, Res.un, TT.un, Ty.un, LT.un, Leaf.un, Leaf.plain, LT.plain]
      rw [same23_ok _ _ (by omega)]
      simp -implicitDefEqProofs only [evs, reduceIte, rdRes, rdTT, rdTy, rdLT, Res.un, TT.un, Ty.un, LT.un, Leaf.un, Leaf.plain, LT.plain, eq_self, decide_true]
end Go.Proofs.Ytbcpdecgfdlaaaa
/- Parts of a sum, in plain numbers; the law ShareParts. Conditions: none. -/
namespace Go.Proofs.Ytbcpdecgfdlaaaa
open Go Go.Proofs.Ytbcpdecgfdlaaaa.Ev
set_option linter.unusedVariables false
set_option linter.unusedSimpArgs false
set_option maxRecDepth 100000
set_option maxHeartbeats 4000000
theorem take_before {rs : List Int} {x y m : Nat} (hx : x < rs.length) (hm : m ≤ rs.length) (h : ltR rs x y) (hy : (y : Int) ∈ (ord rs).take m) : (x : Int) ∈ (ord rs).take m := by
  obtain ⟨q, hq, e⟩ := List.getElem_of_mem hy
  rw [List.getElem_take] at e
  rw [List.length_take, ord_length] at hq
  have hxm : (x : Int) ∈ ord rs := ord_perm.mem_iff.2 (mem_iota.2 (by omega))
  obtain ⟨p, hp, e2⟩ := List.getElem_of_mem hxm
  rw [ord_length] at hp
  have g1 : g (ord rs) q = (y : Int) := by rw [g_eq (by rw [ord_length]; omega), e]
  have g2 : g (ord rs) p = (x : Int) := by rw [g_eq (by rw [ord_length]; omega), e2]
  rcases Nat.lt_trichotomy p q with h1 | h1 | h1
  · have := (mem_take_ord (rs := rs) (k := m) (p := p) hp hm).2 (by omega)
    rw [g2] at this
    exact this
  · subst h1
    rw [g1] at g2
    rw [g2] at h
    exact absurd h ltR_irrefl
  · have h3 := ord_lt (rs := rs) h1 hp
    rw [g1, g2] at h3
    exact absurd (ltR_trans _ _ _ h h3) ltR_irrefl
theorem bump_rem {a : Int} {ws : List Int} {i : Nat} (hS : 0 < ws.sum) (hi : i < ws.length) (h : (i : Int) ∈ (ord (rems a ws.sum ws)).take (a - (quos a ws.sum ws).sum).toNat) : 0 < a * g ws i % ws.sum := by
  have hb := left_bound (a := a) hS (show 0 < ws.length by omega)
  obtain ⟨p, hp, e⟩ := List.getElem_of_mem h
  rw [List.getElem_take] at e
  rw [List.length_take, ord_length, rems_length] at hp
  have := rem_pos (a := a) (p := p) hS (by omega) (by omega)
  rw [g_eq (xs := ord _) (by rw [ord_length, rems_length]; omega), e, Int.toNat_natCast, g_rems hi] at this
  exact this
/-- Each part differs by less than one from its exact part. -/
theorem part_near {a : Int} {ws : List Int} {i : Nat} (hS : 0 < ws.sum) (hi : i < ws.length) : ws.sum * g (divParts a ws.sum ws) i - a * g ws i < ws.sum ∧ -ws.sum < ws.sum * g (divParts a ws.sum ws) i - a * g ws i := by
  have e1 := Int.mul_ediv_add_emod (a * g ws i) ws.sum
  have e2 := Int.emod_nonneg (a * g ws i) (b := ws.sum) (by omega)
  have e3 := Int.emod_lt_of_pos (a * g ws i) hS
  have hlt := bump_rem (a := a) hS hi
  unfold divParts
  rw [g_bump (by rw [quos_length]; exact hi), g_quos hi]
  generalize a * g ws i / ws.sum = q at *
  generalize a * g ws i % ws.sum = r at *
  generalize a * g ws i = v at *
  by_cases h : (i : Int) ∈ (ord (rems a ws.sum ws)).take (a - (quos a ws.sum ws).sum).toNat
  · rw [if_pos h]
    have := hlt h
    rw [Int.mul_add, Int.mul_one]
    generalize ws.sum * q = t at *
    omega
  · rw [if_neg h, Int.add_zero]
    generalize ws.sum * q = t at *
    omega
/-- A greater weight never has a lesser part. -/
theorem part_mono {a : Int} {ws : List Int} {i k : Nat} (ha : 0 ≤ a) (hS : 0 < ws.sum) (hi : i < ws.length) (hk : k < ws.length) (h : g ws k < g ws i) : g (divParts a ws.sum ws) k ≤ g (divParts a ws.sum ws) i := by
  have hm : (a - (quos a ws.sum ws).sum).toNat ≤ (rems a ws.sum ws).length := by
    have hb := left_bound (a := a) hS (show 0 < ws.length by omega)
    rw [rems_length]
    omega
  have i1 := Int.mul_ediv_add_emod (a * g ws i) ws.sum
  have k1 := Int.mul_ediv_add_emod (a * g ws k) ws.sum
  have hmul : a * g ws k ≤ a * g ws i := Int.mul_le_mul_of_nonneg_left (by omega) ha
  have hq : a * g ws k / ws.sum ≤ a * g ws i / ws.sum := Int.ediv_le_ediv hS hmul
  have hkr := bump_rem (a := a) hS hk
  have hbefore : a * g ws k / ws.sum = a * g ws i / ws.sum → (k : Int) ∈ (ord (rems a ws.sum ws)).take (a - (quos a ws.sum ws).sum).toNat → (i : Int) ∈ (ord (rems a ws.sum ws)).take (a - (quos a ws.sum ws).sum).toNat := fun e hmem => by
    have hpos := hkr hmem
    refine take_before (by rw [rems_length]; exact hi) hm ?_ hmem
    unfold ltR
    rw [Int.toNat_natCast, Int.toNat_natCast, g_rems hi, g_rems hk]
    have h0 : a ≠ 0 := fun h0 => by rw [h0] at hpos; simp at hpos
    have hlt : a * g ws k < a * g ws i := Int.mul_lt_mul_of_pos_left h (by omega)
    rw [e] at k1
    generalize ws.sum * (a * g ws i / ws.sum) = t at *
    omega
  unfold divParts
  rw [g_bump (by rw [quos_length]; exact hk), g_quos hk, g_bump (by rw [quos_length]; exact hi), g_quos hi]
  generalize a * g ws k / ws.sum = qk at *
  generalize a * g ws i / ws.sum = qi at *
  by_cases hk1 : (k : Int) ∈ (ord (rems a ws.sum ws)).take (a - (quos a ws.sum ws).sum).toNat
  · rw [if_pos hk1]
    by_cases e : qk = qi
    · rw [if_pos (hbefore e hk1)]; omega
    · split <;> omega
  · rw [if_neg hk1]
    split <;> omega
theorem shareCheck_nil : shareCheck [] = 0 := by decide
theorem join_nothing (xs : List (Int × Int)) : joinOf xs [] = if shareCheck xs = 0 then (xs, 0) else ([], 1) := by
  unfold joinOf
  by_cases h : shareCheck xs = 0
  · obtain ⟨k1, k2, k3, k4⟩ := shareCheck_ok h
    have : fitsOf xs = 0 := by
      unfold fitsOf
      rw [if_neg (by omega), if_neg (by omega)]
    rw [if_pos ⟨h, shareCheck_nil⟩, joinL_nil, this, if_pos rfl, if_pos h]
  · rw [if_neg (fun k => h k.1), if_neg h]
theorem parts_law {xs : List (Int × Int)} {n : Int} (h : (partsOf xs n).2 = 0) : shareCheck xs = 0 ∧ isAmt n = true ∧ 0 < xs.length ∧ (amts xs).sum = sumA xs ∧ 0 < sumA xs ∧ (partsOf xs n).1 = divParts n (sumA xs) (amts xs) := by
  unfold partsOf at *
  by_cases h1 : shareCheck xs = 0
  · rw [if_pos h1] at *
    by_cases h2 : isAmt n = true
    · rw [if_pos h2] at *
      by_cases h3 : xs.length = 0
      · rw [if_pos h3] at h; cases h
      · rw [if_neg h3] at *
        obtain ⟨k1, k2, k3, k4⟩ := shareCheck_ok h1
        obtain ⟨_, hw⟩ := draw_right (n := 0) h1 (by omega) (sumA_bound xs (okS_bound k3)).1 (show 0 < xs.length by omega)
        have hw2 : weighOf n (amts xs) = (sumA xs, 0) := by
          have h0 : isAmt 0 = true := isAmt_iff.2 (by omega)
          unfold weighOf at hw ⊢
          rw [if_pos h0] at hw
          rw [if_pos h2]
          exact hw
        have hne := (weighOf_ok (show (weighOf n (amts xs)).2 = 0 by rw [hw2])).2.2.2.2.2.1
        have hs : (amts xs).sum = sumA xs := rfl
        have hb := (sumA_bound xs (okS_bound k3)).1
        refine ⟨h1, h2, by omega, hs, by omega, ?_⟩
        rw [divideOf, hw2, if_pos rfl]
    · rw [if_neg h2] at h; cases h
  · rw [if_neg h1] at h; cases h
theorem parts_bad {xs : List (Int × Int)} {n : Int} (h : (partsOf xs n).2 ≠ 0) : (partsOf xs n).1 = [] := by
  unfold partsOf at *
  split
  · rename_i h1
    rw [if_pos h1] at h
    split
    · rename_i h2
      rw [if_pos h2] at h
      split
      · rfl
      · rename_i h3
        rw [if_neg h3] at h
        exact absurd (parts_code h1 h2 h3) h
    · rfl
  · rfl
theorem g_amts {xs : List (Int × Int)} {i : Nat} (h : i < xs.length) : g (amts xs) i = (at2 xs i).2 := by
  unfold amts g
  rw [List.getElem?_map, at2_some h]
  rfl
theorem sparts_loop1 {xs : List (Int × Int)} {ps : List Int} {f : Bool} {i : Nat} (hl : ps.length = xs.length) (hn : xs.length ≤ 64) (hi : i < xs.length) (hm : ∀ k, k < xs.length → (at2 xs k).2 < (at2 xs i).2 → g ps k ≤ g ps i) :
    iter FUEL (spilelaw23_ShareParts.loop1 (rowSV f j2 xs) ps (i : Int) (g ps i)) (0, H.empty) = some (.ex0 (), H.empty) := by
  refine iter_from (s0 := (0, H.empty)) (fun k => ((k : Int), H.empty)) rfl xs.length FUEL (fun k hk => ?_) ?_ (fuel_gt (by omega))
  · have hg1 : 0 ≤ (i : Int) ∧ (i : Int) < (xs.length : Int) := by omega
    have hg2 : 0 ≤ (k : Int) ∧ (k : Int) < (xs.length : Int) := by omega
    have hg3 : 0 ≤ (k : Int) ∧ (k : Int) < (ps.length : Int) := by omega
    unfold spilelaw23_ShareParts.loop1
    simp -implicitDefEqProofs only [Int.toNat_natCast, rowSV_len, guardO_pos hg1, guardO_pos hg2, guardO_pos hg3, reserve0]
    rw [decide_eq_true hg3.2, cond_true, guardO_pos (nn_at2 hi), (rd_at2 hi).2]
    simp -implicitDefEqProofs only [evs, reduceIte, rdRes, rdTT, rdTy, rdLT, Res.un, TT.un, Ty.un, LT.un, Leaf.un, Leaf.plain, LT.plain]
    rw [guardO_pos (nn_at2 hk), (rd_at2 hk).2]
    simp -implicitDefEqProofs only [evs, reduceIte, rdRes, rdTT, rdTy, rdLT, Res.un, TT.un, Ty.un, LT.un, Leaf.un, Leaf.plain, LT.plain]
    by_cases hlt : (at2 xs k).2 < (at2 xs i).2
    · rw [decide_eq_true hlt]
      simp -implicitDefEqProofs only [evs, reduceIte, rdRes, rdTT, rdTy, rdLT, Res.un, TT.un, Ty.un, LT.un, Leaf.un, Leaf.plain, LT.plain, rd_rowI, g_some (xs := ps) (show k < ps.length by omega)]
      rw [decide_eq_false (show ¬ g ps i < g ps k from Int.not_lt.2 (hm k hk hlt))]
      simp -implicitDefEqProofs only [evs, reduceIte, rdRes, rdTT, rdTy, rdLT, Res.un, TT.un, Ty.un, LT.un, Leaf.un, Leaf.plain, LT.plain]
      rw [i64_succ (by omega)]
    · rw [decide_eq_false hlt]
      simp -implicitDefEqProofs only [evs, reduceIte, rdRes, rdTT, rdTy, rdLT, Res.un, TT.un, Ty.un, LT.un, Leaf.un, Leaf.plain, LT.plain]
      rw [i64_succ (by omega)]
  · unfold spilelaw23_ShareParts.loop1
    simp -implicitDefEqProofs only [rowSV_len]
    rw [decide_eq_false (by omega), cond_false]
theorem sparts_loop2 {xs : List (Int × Int)} {ps : List Int} {f : Bool} {n : Int} (hl : ps.length = xs.length) (hn : xs.length ≤ 64) (h0 : ∀ p ∈ ps, 0 ≤ p) (hs : ps.sum = n) (hb : n ≤ 128849018880000) (hm : ∀ i k, i < xs.length → k < xs.length → (at2 xs k).2 < (at2 xs i).2 → g ps k ≤ g ps i) :
    iter FUEL (spilelaw23_ShareParts.loop2 (rowSV f j2 xs) ps) ((n, 0), H.empty) = some (.ex0 0, H.empty) := by
  refine iter_from (s0 := ((n, 0), H.empty)) (fun k => ((n - (ps.take k).sum, (k : Int)), H.empty)) (by simp) xs.length FUEL (fun k hk => ?_) ?_ (fuel_gt (by omega))
  · have hg3 : 0 ≤ (k : Int) ∧ (k : Int) < (ps.length : Int) := by omega
    have hb1 := sum_take_le h0 k
    have hb2 := sum_take_le h0 (k + 1)
    have hst := sum_take_succ (ws := ps) (i := k) (by omega)
    rw [← g_eq] at hst
    unfold spilelaw23_ShareParts.loop2
    simp -implicitDefEqProofs only [Int.toNat_natCast, guardO_pos hg3]
    rw [decide_eq_true hg3.2, cond_true]
    simp -implicitDefEqProofs only [evs, reduceIte, rdRes, rdTT, rdTy, rdLT, Res.un, TT.un, Ty.un, LT.un, Leaf.un, Leaf.plain, LT.plain, rd_rowI, g_some (xs := ps) (show k < ps.length by omega)]
    rw [sparts_loop1 hl hn hk (hm k · hk)]
    simp -implicitDefEqProofs only [evs, reduceIte, rdRes, rdTT, rdTy, rdLT, Res.un, TT.un, Ty.un, LT.un, Leaf.un, Leaf.plain, LT.plain]
    rw [i64_in _ (by omega), i64_succ (by omega), show n - (ps.take k).sum - g ps k = n - (ps.take (k + 1)).sum by omega]
  · unfold spilelaw23_ShareParts.loop2
    rw [List.take_of_length_le (by omega), hs, Int.sub_self]
    simp -implicitDefEqProofs only [evs, reduceIte, rdRes, rdTT, rdTy, rdLT, Res.un, TT.un, Ty.un, LT.un, Leaf.un, Leaf.plain, LT.plain]
    rw [decide_eq_false (by omega), cond_false]
theorem ShareParts_ok (xs : List (Int × Int)) (n : Int) : spilelaw23_SharePartsP xs n = some true := by
  obtain ⟨b, hb, hb2⟩ := FewShares_ok xs
  unfold spilelaw23_SharePartsP spilelaw23_ShareParts
  simp -implicitDefEqProofs only [awake23, evs, reduceIte, rdRes, rdTT, rdTy, rdLT, Res.un, TT.un, Ty.un, LT.un, Leaf.un, Leaf.plain, LT.plain, hb]
  cases b with
  | false => simp -implicitDefEqProofs only [evs, reduceIte, rdRes, rdTT, rdTy, rdLT, Res.un, TT.un, Ty.un, LT.un, Leaf.un, Leaf.plain, LT.plain, Bool.false_eq_true]
  | true =>
    have h1 := hb2 rfl
    simp -implicitDefEqProofs only [evs, reduceIte, rdRes, rdTT, rdTy, rdLT, Res.un, TT.un, Ty.un, LT.un, Leaf.un, Leaf.plain, LT.plain]
    rw [SJoin_ok xs [] (by omega) (by simp), join_nothing]
    have tail : ∀ (t : List Int × Int), t = partsOf xs n → True := fun _ _ => trivial
    have hparts := SParts_ok xs n (by omega)
    by_cases h : shareCheck xs = 0
    · rw [if_pos h]
      simp -implicitDefEqProofs only [evs, reduceIte, rdRes, rdTT, rdTy, rdLT, Res.un, TT.un, Ty.un, LT.un, Leaf.un, Leaf.plain, LT.plain, eq_self, decide_true]
      rw [same23_ok _ _ (by omega)]
      simp -implicitDefEqProofs only [evs, reduceIte, rdRes, rdTT, rdTy, rdLT, Res.un, TT.un, Ty.un, LT.un, Leaf.un, Leaf.plain, LT.plain, eq_self, decide_true]
      rw [SCheck_ok xs (by omega), h]
      simp -implicitDefEqProofs only [evs, reduceIte, rdRes, rdTT, rdTy, rdLT, Res.un, TT.un, Ty.un, LT.un, Leaf.un, Leaf.plain, LT.plain, eq_self, decide_true]
      rw [show (!(true == true)) = false from rfl]
      simp -implicitDefEqProofs only [evs, reduceIte, rdRes, rdTT, rdTy, rdLT, Res.un, TT.un, Ty.un, LT.un, Leaf.un, Leaf.plain, LT.plain]
      rw [hparts]
      simp -implicitDefEqProofs only [evs, reduceIte, rdRes, rdTT, rdTy, rdLT, Res.un, TT.un, Ty.un, LT.un, Leaf.un, Leaf.plain, LT.plain]
      by_cases hp : (partsOf xs n).2 = 0
      · obtain ⟨p1, p2, p3, p4, p5, p6⟩ := parts_law hp
        have hn := isAmt_iff.1 p2
        have hlen : (partsOf xs n).1.length = xs.length := by rw [p6, divParts_length]; simp [amts]
        obtain ⟨k1, k2, k3, k4⟩ := shareCheck_ok p1
        have hS : 0 < (amts xs).sum := by omega
        have hal : (amts xs).length = xs.length := by simp [amts]
        rw [← p4] at p6
        have hpos : ∀ p ∈ (partsOf xs n).1, 0 ≤ p := fun p hp' => by
          rw [p6] at hp'
          obtain ⟨k, hk, rfl⟩ := mem_g hp'
          rw [divParts_length] at hk
          unfold divParts
          rw [g_bump (by rw [quos_length]; exact hk)]
          have := quo_nonneg (a := n) (S := (amts xs).sum) (ws := amts xs) (by omega) hS (fun w hw => by
            obtain ⟨x, hx, rfl⟩ := List.mem_map.1 hw
            exact (okS_bound k3 x hx).1) _ (g_mem (xs := quos n (amts xs).sum (amts xs)) (k := k) (by rw [quos_length]; exact hk))
          split <;> omega
        have hsum : (partsOf xs n).1.sum = n := by rw [p6]; exact divParts_sum hS (by omega)
        have hloop := sparts_loop2 (f := false) (n := n) hlen (by omega) hpos hsum (by omega) (fun i k hi hk hlt => by
          rw [p6]
          exact part_mono (by omega) hS (by omega) (by omega) (by rw [g_amts hi, g_amts hk]; exact hlt))
        generalize partsOf xs n = t at *
        obtain ⟨t1, t2⟩ := t
        simp only at hp hlen hloop
        rw [decide_eq_true hp]
        simp -implicitDefEqProofs only [evs, reduceIte, rdRes, rdTT, rdTy, rdLT, Res.un, TT.un, Ty.un, LT.un, Leaf.un, Leaf.plain, LT.plain]
        rw [decide_eq_true (show (t1.length : Int) = (xs.length : Int) by omega)]
        simp -implicitDefEqProofs only [evs, reduceIte, rdRes, rdTT, rdTy, rdLT, Res.un, TT.un, Ty.un, LT.un, Leaf.un, Leaf.plain, LT.plain]
        rw [hloop]
        simp -implicitDefEqProofs only [evs, reduceIte, rdRes, rdTT, rdTy, rdLT, Res.un, TT.un, Ty.un, LT.un, Leaf.un, Leaf.plain, LT.plain, eq_self, decide_true]
      · have := parts_bad hp
        generalize partsOf xs n = t at *
        obtain ⟨t1, t2⟩ := t
        simp only at hp this
        subst this
        rw [decide_eq_false hp]
        simp -implicitDefEqProofs only [evs, reduceIte, rdRes, rdTT, rdTy, rdLT, Res.un, TT.un, Ty.un, LT.un, Leaf.un, Leaf.plain, LT.plain]
        rfl
    · rw [if_neg h]
      simp -implicitDefEqProofs only [evs, reduceIte, rdRes, rdTT, rdTy, rdLT, Res.un, TT.un, Ty.un, LT.un, Leaf.un, Leaf.plain, LT.plain]
      rw [decide_eq_false (show ¬ (1 : Int) = 0 by omega)]
      simp -implicitDefEqProofs only [evs, reduceIte, rdRes, rdTT, rdTy, rdLT, Res.un, TT.un, Ty.un, LT.un, Leaf.un, Leaf.plain, LT.plain]
      rw [SCheck_ok xs (by omega)]
      simp -implicitDefEqProofs only [evs, reduceIte, rdRes, rdTT, rdTy, rdLT, Res.un, TT.un, Ty.un, LT.un, Leaf.un, Leaf.plain, LT.plain]
      rw [decide_eq_false h, show (!(false == false)) = false from rfl]
      simp -implicitDefEqProofs only [evs, reduceIte, rdRes, rdTT, rdTy, rdLT, Res.un, TT.un, Ty.un, LT.un, Leaf.un, Leaf.plain, LT.plain]
      rw [hparts]
      have hp : (partsOf xs n) = ([], 1) := by unfold partsOf; rw [if_neg h]
      rw [hp]
      simp -implicitDefEqProofs only [evs, reduceIte, rdRes, rdTT, rdTy, rdLT, Res.un, TT.un, Ty.un, LT.un, Leaf.un, Leaf.plain, LT.plain]
      rw [decide_eq_false (show ¬ (1 : Int) = 0 by omega)]
      simp -implicitDefEqProofs only [evs, reduceIte, rdRes, rdTT, rdTy, rdLT, Res.un, TT.un, Ty.un, LT.un, Leaf.un, Leaf.plain, LT.plain]
      rfl
end Go.Proofs.Ytbcpdecgfdlaaaa
/- The law ShareWhole in plain numbers. Conditions: none. -/
namespace Go.Proofs.Ytbcpdecgfdlaaaa
open Go Go.Proofs.Ytbcpdecgfdlaaaa.Ev
set_option linter.unusedVariables false
set_option linter.unusedSimpArgs false
set_option maxRecDepth 100000
set_option maxHeartbeats 4000000
theorem withL_nil {ns : List Int} : withL [] ns = [] := by simp [withL]
theorem withL_cons {x : Int × Int} {n : Int} {xs : List (Int × Int)} {ns : List Int} : withL (x :: xs) (n :: ns) = if 0 < n then (x.1, n) :: withL xs ns else withL xs ns := by
  unfold withL
  rw [List.zip_cons_cons]
  by_cases h : 0 < n
  · rw [List.filterMap_cons_some (by simp only; rw [if_pos h]), if_pos h]
  · rw [List.filterMap_cons_none (by simp only; rw [if_neg h]), if_neg h]
/-- Numbers that are at most those of shares. -/
def Under : List (Int × Int) → List Int → Prop
  | [], [] => True
  | x :: xs, n :: ns => 0 ≤ n ∧ n ≤ x.2 ∧ Under xs ns
  | _, _ => False
theorem under_of : ∀ {xs : List (Int × Int)} {ns : List Int}, ns.length = xs.length → (∀ i, i < xs.length → 0 ≤ g ns i ∧ g ns i ≤ (at2 xs i).2) → Under xs ns
  | [], [], _, _ => trivial
  | [], _ :: _, h, _ => by simp at h
  | _ :: _, [], h, _ => by simp at h
  | x :: xs, n :: ns, h, hb => by
    have h0 := hb 0 (by simp)
    refine ⟨h0.1, h0.2, under_of (by simpa using h) fun i hi => ?_⟩
    have := hb (i + 1) (by simpa using hi)
    simpa [g, at2] using this
theorem under_get : ∀ {xs : List (Int × Int)} {ns : List Int}, Under xs ns → ∀ i, i < xs.length → 0 ≤ g ns i ∧ g ns i ≤ (at2 xs i).2
  | [], _, _, i, hi => by simp at hi
  | _ :: _, [], h, _, _ => by cases h
  | x :: xs, n :: ns, h, 0, _ => ⟨h.1, h.2.1⟩
  | x :: xs, n :: ns, h, i + 1, hi => by
    have := under_get h.2.2 i (by simpa using hi)
    simpa [g, at2] using this
theorem withL_mem : ∀ {xs : List (Int × Int)} {ns : List Int}, Under xs ns → ∀ p ∈ withL xs ns, ∃ x ∈ xs, p.1 = x.1 ∧ 0 < p.2 ∧ p.2 ≤ x.2
  | [], [], _, p, hp => by rw [withL_nil] at hp; cases hp
  | [], _ :: _, h, _, _ => by cases h
  | _ :: _, [], h, _, _ => by cases h
  | x :: xs, n :: ns, h, p, hp => by
    obtain ⟨h1, h2, h3⟩ := h
    rw [withL_cons] at hp
    by_cases h0 : 0 < n
    · rw [if_pos h0] at hp
      rcases List.mem_cons.1 hp with rfl | hp
      · exact ⟨x, by simp, rfl, h0, h2⟩
      · obtain ⟨y, hy, k⟩ := withL_mem h3 p hp
        exact ⟨y, by simp [hy], k⟩
    · rw [if_neg h0] at hp
      obtain ⟨y, hy, k⟩ := withL_mem h3 p hp
      exact ⟨y, by simp [hy], k⟩
theorem withL_sorted : ∀ {xs : List (Int × Int)} {ns : List Int}, Under xs ns → SortedF xs → SortedF (withL xs ns)
  | [], [], _, _ => by rw [withL_nil]; exact List.Pairwise.nil
  | [], _ :: _, h, _ => by cases h
  | _ :: _, [], h, _ => by cases h
  | x :: xs, n :: ns, h, hs => by
    obtain ⟨h1, h2, h3⟩ := h
    have hs' := List.pairwise_cons.1 hs
    rw [withL_cons]
    by_cases h0 : 0 < n
    · rw [if_pos h0]
      refine List.pairwise_cons.2 ⟨fun p hp => ?_, withL_sorted h3 hs'.2⟩
      obtain ⟨y, hy, k1, _⟩ := withL_mem h3 p hp
      have := hs'.1 y hy
      simp only
      omega
    · rw [if_neg h0]
      exact withL_sorted h3 hs'.2
theorem withL_sum : ∀ {xs : List (Int × Int)} {ns : List Int}, Under xs ns → sumA (withL xs ns) = ns.sum
  | [], [], _ => by rw [withL_nil]; rfl
  | [], _ :: _, h => by cases h
  | _ :: _, [], h => by cases h
  | x :: xs, n :: ns, h => by
    obtain ⟨h1, h2, h3⟩ := h
    have ih := withL_sum h3
    rw [withL_cons]
    by_cases h0 : 0 < n
    · rw [if_pos h0]
      simp only [sumA, List.map_cons, List.sum_cons] at ih ⊢
      omega
    · rw [if_neg h0]
      simp only [List.sum_cons]
      omega
theorem sum_under : ∀ {xs : List (Int × Int)} {ns : List Int}, Under xs ns → 0 ≤ ns.sum ∧ ns.sum ≤ sumA xs
  | [], [], _ => ⟨by decide, by decide⟩
  | [], _ :: _, h => by cases h
  | _ :: _, [], h => by cases h
  | x :: xs, n :: ns, h => by
    obtain ⟨h1, h2, h3⟩ := h
    have ih := sum_under h3
    simp only [sumA, List.map_cons, List.sum_cons] at ih ⊢
    omega
/-- What makes shares right. -/
theorem shareCheck_intro {xs : List (Int × Int)} (h1 : xs.length ≤ 32) (h2 : ∀ x ∈ xs, okS x = true) (h3 : SortedF xs) (h4 : sumA xs ≤ 10737418240000) : shareCheck xs = 0 := by
  have hf : ∀ i, i < xs.length → sfault xs i = 0 := fun i hi => by
    unfold sfault
    rw [if_pos (h2 _ (at2_mem hi))]
    by_cases h0 : 0 < i
    · have := List.pairwise_iff_getElem.1 h3 (i - 1) i (by omega) hi (by omega)
      have e1 := at2_some (xs := xs) (i := i - 1) (by omega)
      have e2 := at2_some hi
      rw [List.getElem?_eq_getElem (by omega)] at e1
      rw [List.getElem?_eq_getElem hi] at e2
      rw [Option.some.inj e1, Option.some.inj e2] at this
      rw [if_neg (by omega)]
    · rw [if_neg (fun h => h0 h.1)]
  unfold shareCheck
  rw [if_neg (by omega)]
  rcases first_cases (sfault xs) xs.length with ⟨_, e⟩ | ⟨m, hm, hne, _⟩
  · rw [e, if_pos rfl, if_neg (by omega)]
  · exact absurd (hf m hm) hne
theorem withL_right {xs : List (Int × Int)} {ns : List Int} (h : shareCheck xs = 0) (hu : Under xs ns) : shareCheck (withL xs ns) = 0 := by
  obtain ⟨k1, k2, k3, k4⟩ := shareCheck_ok h
  have hl := withL_length (xs := xs) (ns := ns)
  have hs := sum_under hu
  refine shareCheck_intro (by omega) (fun p hp => ?_) (withL_sorted hu (shareCheck_sorted h)) (by rw [withL_sum hu]; omega)
  obtain ⟨x, hx, e1, e2, e3⟩ := withL_mem hu p hp
  have := okS_iff.1 (k3 x hx)
  exact okS_iff.2 (by omega)
theorem joinL_first {u : Int × Int} {A B : List (Int × Int)} (h : ∀ p ∈ B, u.1 < p.1) : joinL (u :: A) B = u :: joinL A B := by
  cases B with
  | nil => rw [joinL_nil, joinL_nil]
  | cons y ys => rw [joinL_lt (h y (by simp))]
theorem joinL_second {u : Int × Int} {A B : List (Int × Int)} (h : ∀ p ∈ A, u.1 < p.1) : joinL A (u :: B) = u :: joinL A B := by
  cases A with
  | nil => rw [nil_joinL, nil_joinL]
  | cons y ys => rw [joinL_gt (h y (by simp))]
/-- What stays. -/
def restL (xs : List (Int × Int)) (ns : List Int) : List Int := (xs.zip ns).map fun p => p.1.2 - p.2
theorem restL_cons {x : Int × Int} {n : Int} {xs : List (Int × Int)} {ns : List Int} : restL (x :: xs) (n :: ns) = (x.2 - n) :: restL xs ns := rfl
theorem restL_under : ∀ {xs : List (Int × Int)} {ns : List Int}, Under xs ns → Under xs (restL xs ns)
  | [], [], _ => trivial
  | [], _ :: _, h => by cases h
  | _ :: _, [], h => by cases h
  | x :: xs, n :: ns, h => by
    obtain ⟨h1, h2, h3⟩ := h
    rw [restL_cons]
    exact ⟨by omega, by omega, restL_under h3⟩
/-- Both parts, joined, are the whole. -/
theorem join_whole : ∀ {xs : List (Int × Int)} {ns : List Int}, Under xs ns → SortedF xs → (∀ x ∈ xs, 0 < x.2) → joinL (withL xs ns) (withL xs (restL xs ns)) = xs
  | [], [], _, _, _ => by rw [withL_nil, withL_nil, joinL_nil]
  | [], _ :: _, h, _, _ => by cases h
  | _ :: _, [], h, _, _ => by cases h
  | x :: xs, n :: ns, h, hs, hp => by
    obtain ⟨h1, h2, h3⟩ := h
    have hs' := List.pairwise_cons.1 hs
    have ih := join_whole h3 hs'.2 fun y hy => hp y (by simp [hy])
    have hx := hp x (by simp)
    have hA : ∀ p ∈ withL xs ns, x.1 < p.1 := fun p hp => by
      obtain ⟨y, hy, k1, _⟩ := withL_mem h3 p hp
      have := hs'.1 y hy
      omega
    have hB : ∀ p ∈ withL xs (restL xs ns), x.1 < p.1 := fun p hp => by
      obtain ⟨y, hy, k1, _⟩ := withL_mem (restL_under h3) p hp
      have := hs'.1 y hy
      omega
    rw [restL_cons, withL_cons, withL_cons]
    by_cases c1 : 0 < n
    · rw [if_pos c1]
      by_cases c2 : 0 < x.2 - n
      · rw [if_pos c2, joinL_eq (x := (x.1, n)) (y := (x.1, x.2 - n)) rfl, ih]
        simp only
        rw [show n + (x.2 - n) = x.2 by omega]
      · rw [if_neg c2, joinL_first (u := (x.1, n)) hB, ih, show n = x.2 by omega]
    · rw [if_neg c1, if_pos (show 0 < x.2 - n by omega), joinL_second (u := (x.1, x.2 - n)) hA, ih, show n = 0 by omega, Int.sub_zero]
theorem less_rest {xs : List (Int × Int)} {ps : List Int} (h : ps.length = xs.length) : less (amts xs) ps (amts xs).length = restL xs ps := by
  have e1 : (amts xs).length = xs.length := by simp [amts]
  refine g_ext (by rw [less_length]; simp [restL, amts, h]) fun k hk => ?_
  rw [less_length, e1] at hk
  rw [g_less (by omega), if_pos (by omega), g_amts hk]
  have := at2_some hk
  unfold restL g
  rw [List.getElem?_map, List.getElem?_zip_eq_some.2 (⟨at2_some hk, List.getElem?_eq_getElem (show k < ps.length by omega)⟩ : xs[k]? = some (at2 xs k, ps[k]).1 ∧ ps[k]? = some (at2 xs k, ps[k]).2), List.getElem?_eq_getElem (show k < ps.length by omega)]
  rfl
/-- What is taken of a fill. -/
theorem taken_of : ∀ {xs : List (Int × Int)} {ns : List Int} {i : Nat}, Under xs ns → SortedF xs → i < xs.length → amtOf (at2 xs i).1 (withL xs ns) = g ns i
  | [], _, i, _, _, hi => by simp at hi
  | _ :: _, [], _, h, _, _ => by cases h
  | x :: xs, n :: ns, 0, h, hs, _ => by
    obtain ⟨h1, h2, h3⟩ := h
    have hs' := List.pairwise_cons.1 hs
    have hA : ∀ p ∈ withL xs ns, p.1 ≠ x.1 := fun p hp => by
      obtain ⟨y, hy, k1, _⟩ := withL_mem h3 p hp
      have := hs'.1 y hy
      omega
    show amtOf x.1 _ = n
    rw [withL_cons]
    by_cases c1 : 0 < n
    · rw [if_pos c1, amtOf_cons, if_pos rfl, amtOf_none hA]; simp only; omega
    · rw [if_neg c1, amtOf_none hA]; omega
  | x :: xs, n :: ns, i + 1, h, hs, hi => by
    obtain ⟨h1, h2, h3⟩ := h
    have hs' := List.pairwise_cons.1 hs
    have hi' : i < xs.length := by simpa using hi
    have ih := taken_of (i := i) h3 hs'.2 hi'
    have e : at2 (x :: xs) (i + 1) = at2 xs i := by simp [at2]
    have e2 : g (n :: ns) (i + 1) = g ns i := by simp [g]
    have hne := hs'.1 _ (at2_mem hi')
    rw [e, e2, withL_cons]
    by_cases c1 : 0 < n
    · rw [if_pos c1, amtOf_cons, if_neg (by simp only; omega), ih]; omega
    · rw [if_neg c1, ih]
/-- What the search for a fill finds. -/
def lastOf (f : Int) (ys : List (Int × Int)) : Int := ys.foldl (fun a y => if y.1 = f then y.2 else a) 0
theorem lastOf_succ {f : Int} {ys : List (Int × Int)} {i : Nat} (h : i < ys.length) : lastOf f (ys.take (i + 1)) = if (at2 ys i).1 = f then (at2 ys i).2 else lastOf f (ys.take i) := by
  obtain ⟨hi, he⟩ := List.getElem?_eq_some_iff.1 (at2_some h)
  unfold lastOf
  rw [← List.take_append_getElem hi, he, List.foldl_append]
  rfl
theorem lastOf_amt (f : Int) : ∀ (ys : List (Int × Int)), SortedF ys → lastOf f ys = amtOf f ys := by
  have key : ∀ (ys : List (Int × Int)) (a : Int), SortedF ys → ys.foldl (fun a y => if y.1 = f then y.2 else a) a = if (∃ y ∈ ys, y.1 = f) then amtOf f ys else a := fun ys => by
    induction ys with
    | nil => intro a _; rw [if_neg (fun ⟨y, hy, _⟩ => by cases hy)]; rfl
    | cons y ys ih =>
      intro a hs
      have hs' := List.pairwise_cons.1 hs
      rw [List.foldl_cons, ih _ hs'.2, amtOf_cons]
      by_cases h : y.1 = f
      · have hn : ¬ ∃ z ∈ ys, z.1 = f := fun ⟨z, hz, e⟩ => by have := hs'.1 z hz; omega
        have hn' : ∀ z ∈ ys, z.1 ≠ f := fun z hz e => hn ⟨z, hz, e⟩
        rw [if_neg hn, if_pos h, if_pos ⟨y, by simp, h⟩, if_pos h, amtOf_none hn']; omega
      · rw [if_neg h, if_neg h]
        by_cases hz : ∃ z ∈ ys, z.1 = f
        · obtain ⟨z, h1, h2⟩ := hz
          rw [if_pos ⟨z, h1, h2⟩, if_pos ⟨z, by simp [h1], h2⟩]; omega
        · rw [if_neg hz, if_neg (fun ⟨z, h1, h2⟩ => by
            rcases List.mem_cons.1 h1 with rfl | h1
            · exact h h2
            · exact hz ⟨z, h1, h2⟩)]
  intro ys hs
  unfold lastOf
  rw [key ys 0 hs]
  split
  · rfl
  · rename_i h
    rw [amtOf_none fun z hz e => h ⟨z, hz, e⟩]
theorem whole_loop1 {ys : List (Int × Int)} {x : Int × Int} {sl : List Slot} {id : Nat} {h26 : H} (hid : h26.next = id) (hl : ys.length ≤ 64) (hx : sl[id]? = some (c2 x)) (h0 : sl.length = id + 1) :
    ∃ sl', iter FUEL (spilelaw23_ShareWhole.loop1 ys h26) ((0, 0), hL sl) = some (.ex0 (lastOf x.1 ys), hL sl') ∧ sl'[id]? = some (c2 x) := by
  refine ⟨sl ++ ys.map c2, iter_from (s0 := ((0, 0), hL sl)) (fun i => ((lastOf x.1 (ys.take i), (i : Int)), hL (sl ++ (ys.take i).map c2))) (by simp [lastOf]) ys.length FUEL (fun i hi => ?_) ?_ (fuel_gt (by omega)), by rw [List.getElem?_append_left (by omega), hx]⟩
  · have hg1 : 0 ≤ (i : Int) ∧ (i : Int) < (ys.length : Int) := by omega
    have hrow : (sl ++ (ys.take i).map c2 ++ [c2 (at2 ys i)])[(sl ++ (ys.take i).map c2).length]? = some (c2 (at2 ys i)) := by simp
    have r1 := rd_c2 hrow
    have hidl := (List.getElem?_eq_some_iff.1 hx).1
    have hx' : (sl ++ (ys.take i).map c2 ++ [c2 (at2 ys i)])[id]? = some (c2 x) := by rw [List.append_assoc, List.getElem?_append_left hidl, hx]
    have r2 := rd_c2 hx'
    have hsl : sl ++ (ys.take i).map c2 ++ [c2 (at2 ys i)] = sl ++ (ys.take (i + 1)).map c2 := by
      obtain ⟨h1, he⟩ := List.getElem?_eq_some_iff.1 (at2_some hi)
      rw [← List.take_append_getElem h1, he, List.map_append, List.append_assoc]
      rfl
    unfold spilelaw23_ShareWhole.loop1
    simp -implicitDefEqProofs only [Int.toNat_natCast, guardO_pos hg1]
    rw [decide_eq_true hg1.2, cond_true, rds_rowF (ls := j2) (w := 2) rfl (by omega) rfl, at2_some hi]
    simp -implicitDefEqProofs only [Option.bind_some, hL_new, hL_next]
    rw [new_c2]
    simp -implicitDefEqProofs only [Option.bind_some, hid]
    rw [r1.1, r2.1]
    simp -implicitDefEqProofs only [Option.bind_some]
    rw [lastOf_succ hi, ← hsl]
    by_cases hf : (at2 ys i).1 = x.1
    · rw [decide_eq_true hf, if_pos hf]
      simp -implicitDefEqProofs only [evs, reduceIte, rdRes, rdTT, rdTy, rdLT, Res.un, TT.un, Ty.un, LT.un, Leaf.un, Leaf.plain, LT.plain]
      rw [r1.2]
      simp -implicitDefEqProofs only [evs, reduceIte, rdRes, rdTT, rdTy, rdLT, Res.un, TT.un, Ty.un, LT.un, Leaf.un, Leaf.plain, LT.plain]
      rw [i64_succ (by omega)]
    · rw [decide_eq_false hf, if_neg hf]
      simp -implicitDefEqProofs only [evs, reduceIte, rdRes, rdTT, rdTy, rdLT, Res.un, TT.un, Ty.un, LT.un, Leaf.un, Leaf.plain, LT.plain]
      rw [i64_succ (by omega)]
  · unfold spilelaw23_ShareWhole.loop1
    rw [List.take_length]
    simp -implicitDefEqProofs only [evs, reduceIte, rdRes, rdTT, rdTy, rdLT, Res.un, TT.un, Ty.un, LT.un, Leaf.un, Leaf.plain, LT.plain]
    rw [decide_eq_false (by omega), cond_false]
theorem take_law {xs : List (Int × Int)} {n : Int} (h : (takeOf xs n).2.2 = 0) : shareCheck xs = 0 ∧ 0 ≤ n ∧ n ≤ sumA xs ∧ ∃ ps : List Int, ps.length = xs.length ∧ Under xs ps ∧ ps.sum = n ∧ takeOf xs n = (withL xs ps, withL xs (restL xs ps), 0) ∧
    ∀ i, i < xs.length → sumA xs * g ps i - n * (at2 xs i).2 < sumA xs ∧ -sumA xs < sumA xs * g ps i - n * (at2 xs i).2 := by
  unfold takeOf at *
  by_cases h1 : shareCheck xs = 0
  · rw [if_pos h1] at *
    by_cases h2 : n < 0
    · rw [if_pos h2] at h; cases h
    · rw [if_neg h2] at *
      by_cases h3 : sumA xs < n
      · rw [if_pos h3] at h; cases h
      · rw [if_neg h3] at *
        by_cases h4 : xs.length = 0
        · have hx : xs = [] := List.eq_nil_of_length_eq_zero h4
          subst hx
          have hz : sumA [] = 0 := rfl
          rw [if_pos h4]
          refine ⟨h1, by omega, by omega, [], rfl, trivial, ?_, by rw [withL_nil, withL_nil], fun i hi => by simp at hi⟩
          show (0 : Int) = n
          omega
        · rw [if_neg h4] at *
          obtain ⟨k1, k2, k3, k4⟩ := shareCheck_ok h1
          obtain ⟨d1, hw⟩ := draw_right (n := n) h1 (by omega) (by omega) (show 0 < xs.length by omega)
          have hne := (weighOf_ok (show (weighOf n (amts xs)).2 = 0 by rw [hw])).2.2.2.2.2.1
          have hs : (amts xs).sum = sumA xs := rfl
          have hb := (sumA_bound xs (okS_bound k3)).1
          have hal : (amts xs).length = xs.length := by simp [amts]
          have hS : 0 < (amts xs).sum := by omega
          have hpl : (divParts n (sumA xs) (amts xs)).length = xs.length := by rw [divParts_length, hal]
          have hw0 : ∀ w ∈ amts xs, 0 ≤ w := fun w hw => by
            obtain ⟨x, hx, rfl⟩ := List.mem_map.1 hw
            exact (okS_bound k3 x hx).1
          rw [d1]
          refine ⟨h1, by omega, by omega, divParts n (sumA xs) (amts xs), hpl, under_of hpl fun i hi => ?_, ?_, ?_, fun i hi => ?_⟩
          · have := part_bound (a := n) (ws := amts xs) (i := i) (by omega) hS (by omega) hw0 (by omega)
            rw [hs, g_amts hi] at this
            exact this
          · have := divParts_sum (a := n) (ws := amts xs) hS (by omega)
            rw [hs] at this
            exact this
          · simp only
            rw [less_rest hpl]
          · have := part_near (a := n) (ws := amts xs) (i := i) hS (by omega)
            rw [hs, g_amts hi] at this
            exact this
  · rw [if_neg h1] at h; cases h
theorem take_bad {xs : List (Int × Int)} {n : Int} (h : (takeOf xs n).2.2 ≠ 0) : (takeOf xs n).1 = [] ∧ (takeOf xs n).2.1 = [] := by
  unfold takeOf at *
  by_cases h1 : shareCheck xs = 0
  · rw [if_pos h1] at *
    by_cases h2 : n < 0
    · rw [if_pos h2]; exact ⟨rfl, rfl⟩
    · rw [if_neg h2] at *
      by_cases h3 : sumA xs < n
      · rw [if_pos h3]; exact ⟨rfl, rfl⟩
      · rw [if_neg h3] at *
        by_cases h4 : xs.length = 0
        · rw [if_pos h4]; exact ⟨rfl, rfl⟩
        · rw [if_neg h4] at h; exact absurd rfl h
  · rw [if_neg h1]; exact ⟨rfl, rfl⟩
theorem whole_loop2 {xs ys : List (Int × Int)} {f : Bool} {n S : Int} {ps : List Int} (hl : xs.length ≤ 64) (hyl : ys.length ≤ 64) (hp : ∀ i, i < xs.length → lastOf (at2 xs i).1 ys = g ps i ∧ 0 ≤ g ps i ∧ g ps i ≤ 1048576 ∧ 0 ≤ (at2 xs i).2 ∧ (at2 xs i).2 ≤ 1048576)
    (hn : 0 ≤ n ∧ n ≤ 1048576) (hS : 0 ≤ S ∧ S ≤ 1048576) (hd : ∀ i, i < xs.length → S * g ps i - n * (at2 xs i).2 < S ∧ -S < S * g ps i - n * (at2 xs i).2) :
    ∃ h, iter FUEL (spilelaw23_ShareWhole.loop2 (rowSV f j2 xs) n ys S) (0, H.empty) = some (.ex0 (), h) := by
  obtain ⟨x, h1, sl, rfl⟩ := iter_upto (f := spilelaw23_ShareWhole.loop2 (rowSV f j2 xs) n ys S) (fun i st => ∃ sl, st = ((i : Int), hL sl)) (fun x => ∃ sl, x = (.ex0 (), hL sl)) xs.length (fun i st hi hst => by
    obtain ⟨sl, rfl⟩ := hst
    have hg1 : 0 ≤ (i : Int) ∧ (i : Int) < (xs.length : Int) := by omega
    obtain ⟨p1, p2, p3, p4, p5⟩ := hp i hi
    obtain ⟨d1, d2⟩ := hd i hi
    obtain ⟨sl', k1, k2⟩ := whole_loop1 (ys := ys) (x := at2 xs i) (sl := sl ++ [c2 (at2 xs i)]) (id := sl.length) (h26 := hL sl) rfl hyl (by simp) (by simp)
    have r1 := rd_c2 k2
    have m1 : 0 ≤ S * g ps i ∧ S * g ps i ≤ 1048576 * 1048576 := by
      refine ⟨Int.mul_nonneg hS.1 p2, ?_⟩
      exact Int.le_trans (Int.mul_le_mul_of_nonneg_right hS.2 p2) (Int.mul_le_mul_of_nonneg_left p3 (by omega))
    have m2 : 0 ≤ n * (at2 xs i).2 ∧ n * (at2 xs i).2 ≤ 1048576 * 1048576 := by
      refine ⟨Int.mul_nonneg hn.1 p4, ?_⟩
      exact Int.le_trans (Int.mul_le_mul_of_nonneg_right hn.2 p4) (Int.mul_le_mul_of_nonneg_left p5 (by omega))
    have e1 : g ps i * S = S * g ps i := Int.mul_comm _ _
    refine ⟨(((i + 1 : Nat) : Int), hL sl'), ?_, sl', rfl⟩
    unfold spilelaw23_ShareWhole.loop2
    simp -implicitDefEqProofs only [Int.toNat_natCast, rowSV_len, guardO_pos hg1]
    rw [decide_eq_true hg1.2, cond_true, rds_rowF (ls := j2) (w := 2) rfl (by omega) rfl, at2_some hi]
    simp -implicitDefEqProofs only [Option.bind_some, hL_new, hL_next]
    rw [new_c2]
    simp -implicitDefEqProofs only [Option.bind_some]
    rw [k1]
    simp -implicitDefEqProofs only [Option.bind_some]
    rw [r1.2]
    simp -implicitDefEqProofs only [Option.bind_some]
    rw [p1, e1]
    generalize S * g ps i = u at *
    generalize n * (at2 xs i).2 = v at *
    rw [i64_in u (by omega), i64_in v (by omega), i64_in (u - v) (by omega), i64_in (0 - S) (by omega), decide_eq_false (show ¬ S ≤ u - v by omega), decide_eq_false (show ¬ u - v ≤ 0 - S by omega)]
    simp -implicitDefEqProofs only [evs, reduceIte, rdRes, rdTT, rdTy, rdLT, Res.un, TT.un, Ty.un, LT.un, Leaf.un, Leaf.plain, LT.plain]
    rw [i64_succ (by omega)]) (fun st hst => by
    obtain ⟨sl, rfl⟩ := hst
    refine ⟨_, ?_, sl, rfl⟩
    unfold spilelaw23_ShareWhole.loop2
    simp -implicitDefEqProofs only [rowSV_len]
    rw [decide_eq_false (by omega), cond_false]) FUEL 0 (0, hL []) (by omega) ⟨[], rfl⟩ (by have := fuel_gt (n := xs.length) (by omega); omega)
  exact ⟨hL sl, by rw [hL_empty]; exact h1⟩
theorem ShareWhole_ok (xs : List (Int × Int)) (n : Int) : spilelaw23_ShareWholeP xs n = some true := by
  obtain ⟨b, hb, hb2⟩ := FewShares_ok xs
  unfold spilelaw23_ShareWholeP spilelaw23_ShareWhole
  simp -implicitDefEqProofs only [awake23, evs, reduceIte, rdRes, rdTT, rdTy, rdLT, Res.un, TT.un, Ty.un, LT.un, Leaf.un, Leaf.plain, LT.plain, hb]
  cases b with
  | false => simp -implicitDefEqProofs only [evs, reduceIte, rdRes, rdTT, rdTy, rdLT, Res.un, TT.un, Ty.un, LT.un, Leaf.un, Leaf.plain, LT.plain, Bool.false_eq_true]
  | true =>
    have hl := hb2 rfl
    simp -implicitDefEqProofs only [evs, reduceIte, rdRes, rdTT, rdTy, rdLT, Res.un, TT.un, Ty.un, LT.un, Leaf.un, Leaf.plain, LT.plain]
    rw [STake_ok xs n (by omega)]
    by_cases ht : (takeOf xs n).2.2 = 0
    · obtain ⟨t1, t2, t3, ps, t4, t5, t6, t7, t8⟩ := take_law ht
      obtain ⟨k1, k2, k3, k4⟩ := shareCheck_ok t1
      rw [t7]
      simp -implicitDefEqProofs only [evs, reduceIte, rdRes, rdTT, rdTy, rdLT, Res.un, TT.un, Ty.un, LT.un, Leaf.un, Leaf.plain, LT.plain, eq_self, decide_true]
      have c1 := withL_right t1 t5
      have c2' := withL_right t1 (restL_under t5)
      have l1 := withL_length (xs := xs) (ns := ps)
      have l2 := withL_length (xs := xs) (ns := restL xs ps)
      have hjoin : joinOf (withL xs ps) (withL xs (restL xs ps)) = (xs, 0) := by
        have hj := join_whole t5 (shareCheck_sorted t1) fun x hx => by have := okS_iff.1 (k3 x hx); omega
        unfold joinOf
        rw [if_pos ⟨c1, c2'⟩, hj]
        have : fitsOf xs = 0 := by
          unfold fitsOf
          rw [if_neg (by omega), if_neg (by omega)]
        rw [this, if_pos rfl]
      have s1 : shareSum (withL xs ps) = (n, 0) := by
        unfold shareSum
        rw [if_pos c1, withL_sum t5, t6]
      have s2 : shareSum xs = (sumA xs, 0) := by
        unfold shareSum
        rw [if_pos t1]
      rw [SSum_ok _ (by omega), s1, SJoin_ok _ _ (by omega) (by omega), hjoin, SSum_ok _ (by omega), s2]
      simp -implicitDefEqProofs only [evs, reduceIte, rdRes, rdTT, rdTy, rdLT, Res.un, TT.un, Ty.un, LT.un, Leaf.un, Leaf.plain, LT.plain, eq_self, decide_true]
      rw [same23_ok _ _ (by omega)]
      simp -implicitDefEqProofs only [evs, reduceIte, rdRes, rdTT, rdTy, rdLT, Res.un, TT.un, Ty.un, LT.un, Leaf.un, Leaf.plain, LT.plain, eq_self, decide_true]
      by_cases hS : 1048576 < sumA xs
      · rw [decide_eq_true hS]
        simp -implicitDefEqProofs only [evs, reduceIte, rdRes, rdTT, rdTy, rdLT, Res.un, TT.un, Ty.un, LT.un, Leaf.un, Leaf.plain, LT.plain]
      · rw [decide_eq_false hS]
        simp -implicitDefEqProofs only [evs, reduceIte, rdRes, rdTT, rdTy, rdLT, Res.un, TT.un, Ty.un, LT.un, Leaf.un, Leaf.plain, LT.plain]
        have hall : ∀ i, i < xs.length → 0 ≤ (at2 xs i).2 ∧ (at2 xs i).2 ≤ sumA xs := fun i hi => by
          have h1 := okS_bound k3 _ (at2_mem hi)
          have := mem_le_sum (xs := amts xs) (x := (at2 xs i).2) (fun y hy => by
            obtain ⟨x, hx, rfl⟩ := List.mem_map.1 hy
            exact (okS_bound k3 x hx).1) (List.mem_map.2 ⟨_, at2_mem hi, rfl⟩)
          exact ⟨h1.1, this⟩
        have hpb : ∀ i, i < xs.length → 0 ≤ g ps i ∧ g ps i ≤ (at2 xs i).2 := under_get t5
        obtain ⟨h, hloop⟩ := whole_loop2 (f := false) (n := n) (S := sumA xs) (ys := withL xs ps) (ps := ps) (xs := xs) (by omega) (by omega) (fun i hi => by
          have h1 := hall i hi
          have h2 := hpb i hi
          refine ⟨?_, by omega, by omega, by omega, by omega⟩
          rw [lastOf_amt _ _ (withL_sorted t5 (shareCheck_sorted t1)), taken_of t5 (shareCheck_sorted t1) hi]) (by omega) (by omega) t8
        rw [hloop]
        simp -implicitDefEqProofs only [evs, reduceIte, rdRes, rdTT, rdTy, rdLT, Res.un, TT.un, Ty.un, LT.un, Leaf.un, Leaf.plain, LT.plain]
    · obtain ⟨t1, t2⟩ := take_bad ht
      generalize takeOf xs n = t at *
      obtain ⟨u1, u2, u3⟩ := t
      simp only at t1 t2 ht
      subst t1 t2
      simp -implicitDefEqProofs only [evs, reduceIte, rdRes, rdTT, rdTy, rdLT, Res.un, TT.un, Ty.un, LT.un, Leaf.un, Leaf.plain, LT.plain]
      rw [decide_eq_false ht]
      simp -implicitDefEqProofs only [evs, reduceIte, rdRes, rdTT, rdTy, rdLT, Res.un, TT.un, Ty.un, LT.un, Leaf.un, Leaf.plain, LT.plain]
      rfl
end Go.Proofs.Ytbcpdecgfdlaaaa
/- What Sum of package mix computes. Conditions: those of each law. -/
namespace Go.Proofs.Ytbcpdecgfdlaaaa
open Go Go.Proofs.Ytbcpdecgfdlaaaa.Ev
set_option linter.unusedVariables false
set_option linter.unusedSimpArgs false
set_option maxRecDepth 100000
set_option maxHeartbeats 4000000
theorem IndexFunc_liq {T : Table} {v : V} {h : H} {xs : List (Int × Int)} {f : Bool} (p : Int × Int → Bool) (hn : xs.length < 2 ^ 63) (hc : ∀ x ∈ xs, ∀ {R : Type} (k : V → H → Option R), callV T.dy v [.agg [.int .i64 x.1, .int .i64 x.2]] h k = k (.bool (p x)) h) :
    slices_IndexFunc_api_Liquid_api_Liquid T (rowSV f [.int .i64, .int .i64] xs) v h = some (idxOf p xs, h) := by
  unfold slices_IndexFunc_api_Liquid_api_Liquid
  rw [iter_find xs p (fun i => (i : Int)) hn (fun i x hx => by
    obtain ⟨hlt, rfl⟩ := List.getElem?_eq_some_iff.1 hx
    unfold slices_IndexFunc_api_Liquid_api_Liquid.loop1
    simp only [rowSV_len, Int.toNat_natCast]
    rw [decide_eq_true (by omega), cond_true, guardO_pos (by omega), rds_rowF (ls := j2) (w := 2) rfl (by omega) rfl, hx]
    simp only [Option.bind_some]
    rw [hc _ (List.getElem_mem hlt)]
    simp only [Res.pack, Ty.pack, Leaf.pack, Option.bind_some]
    rw [i64_succ (by omega)]
    cases p xs[i] <;> rfl) (by
    unfold slices_IndexFunc_api_Liquid_api_Liquid.loop1
    simp only [rowSV_len]
    rw [decide_eq_false (by omega), cond_false])]
  unfold idxOf
  cases xs.findIdx? p <;> rfl
theorem ContainsFunc_liq {T : Table} {v : V} {h : H} {xs : List (Int × Int)} {f : Bool} (p : Int × Int → Bool) (hn : xs.length < 2 ^ 63) (hc : ∀ x ∈ xs, ∀ {R : Type} (k : V → H → Option R), callV T.dy v [.agg [.int .i64 x.1, .int .i64 x.2]] h k = k (.bool (p x)) h) :
    slices_ContainsFunc_api_Liquid_api_Liquid T (rowSV f [.int .i64, .int .i64] xs) v h = some (xs.any p, h) := by
  unfold slices_ContainsFunc_api_Liquid_api_Liquid
  rw [IndexFunc_liq (T := slices_ContainsFunc_api_Liquid_api_Liquid.tb T) p hn hc]
  simp only [Option.bind_some, idxOf_nonneg]
theorem sum1_ok (a v : Int) : mix_Sum_1P (a, v) = some (!isPlain (a, v)) := by
  unfold mix_Sum_1P mix_Sum_1
  simp -implicitDefEqProofs only [evs, reduceIte, rdRes, rdTT, rdTy, rdLT, Res.un, TT.un, Ty.un, LT.un, Leaf.un, Leaf.plain, LT.plain, evh, List.replicate, splice, LT.pack, Leaf.pack, Nat.reduceAdd, Nat.reduceSub, Nat.reduceLeDiff, Nat.reduceLT, Nat.reduceEqDiff, LT.lo, Leaf.lo]
  rw [plain_ok]
  simp -implicitDefEqProofs only [evs, reduceIte, rdRes, rdTT, rdTy, rdLT, Res.un, TT.un, Ty.un, LT.un, Leaf.un, Leaf.plain, LT.plain, evh, List.replicate, splice, LT.pack, Leaf.pack, Nat.reduceAdd, Nat.reduceSub, Nat.reduceLeDiff, Nat.reduceLT, Nat.reduceEqDiff, LT.lo, Leaf.lo]
/-- The sum of liquids. -/
def sumL (xs : List (Int × Int)) : Int × Int := ((xs.map (·.1)).sum, (xs.map (·.2)).sum)
theorem sumL_take {xs : List (Int × Int)} {i : Nat} {x : Int × Int} (h : xs[i]? = some x) : sumL (xs.take (i + 1)) = ((sumL (xs.take i)).1 + x.1, (sumL (xs.take i)).2 + x.2) := by
  obtain ⟨hi, rfl⟩ := List.getElem?_eq_some_iff.1 h
  rw [← List.take_append_getElem hi]
  unfold sumL
  simp only [List.map_append, List.map_cons, List.map_nil, List.sum_append, List.sum_cons, List.sum_nil, Int.add_zero]
theorem sumL_bound {xs : List (Int × Int)} (h : ∀ x ∈ xs, isPlain x = true) : 0 ≤ (sumL xs).1 ∧ (sumL xs).1 ≤ xs.length * 10737418240000 ∧ 0 ≤ (sumL xs).2 ∧ (sumL xs).2 ≤ xs.length * 128849018880000 := by
  induction xs with
  | nil => simp [sumL]
  | cons x xs ih =>
    have h1 := ih fun y hy => h y (by simp [hy])
    have h2 := isPlain_iff.1 (h x (by simp))
    simp only [sumL, List.map_cons, List.sum_cons, List.length_cons] at h1 ⊢
    omega
def slotsT (xs : List (Int × Int)) (i : Nat) : List Slot := c2 (0, 0) :: c2 (sumL (xs.take i)) :: (xs.take i).map c2
theorem slotsT_succ {xs : List (Int × Int)} {i : Nat} {x : Int × Int} (h : xs[i]? = some x) : (slotsT xs i ++ [c2 x]).set 1 (c2 ((sumL (xs.take i)).1 + x.1, (sumL (xs.take i)).2 + x.2)) = slotsT xs (i + 1) := by
  unfold slotsT
  rw [sumL_take h]
  obtain ⟨hi, rfl⟩ := List.getElem?_eq_some_iff.1 h
  rw [← List.take_append_getElem hi, List.map_append]
  rfl
theorem wr0_c2 {sl : List Slot} {id : Nat} {x : Int × Int} {y : Int} (h : sl[id]? = some (c2 x)) : H.wrs (hL sl) (.hp id 2 0) [.int .i64 y] = some (hL (sl.set id (c2 (y, x.2)))) := by
  rw [wrs_own (g := 2) h rfl (by simp)]; rfl
theorem wr1_c2 {sl : List Slot} {id : Nat} {x : Int × Int} {y : Int} (h : sl[id]? = some (c2 x)) : H.wrs (hL sl) (.hp id 2 1) [.int .i64 y] = some (hL (sl.set id (c2 (x.1, y)))) := by
  rw [wrs_own (g := 2) h rfl (by simp)]; rfl
theorem total_ok {xs : List (Int × Int)} (hl : xs.length ≤ 8) (h : ∀ x ∈ xs, isPlain x = true) : mix_totalP xs = some (sumL xs) := by
  unfold mix_totalP mix_total
  simp -implicitDefEqProofs only [hL_empty, hL_new, hL_next, List.length_nil, List.nil_append, List.length_cons, Nat.zero_add, List.cons_append]
  have hloop : iter FUEL (mix_total.loop1 (rowSV false [.int .i64, .int .i64] xs) (hL [c2 (0, 0)])) (0, hL [c2 (0, 0), c2 (0, 0)]) = some (.ex0 (), hL (slotsT xs xs.length)) := by
    refine (iter_from (f := mix_total.loop1 (rowSV false [.int .i64, .int .i64] xs) (hL [c2 (0, 0)])) (fun i => ((i : Int), hL (slotsT xs i))) rfl xs.length FUEL (fun i hi => ?_) ?_ (fuel_gt (by omega)))
    · have hget := List.getElem?_eq_getElem hi
      have hb := sumL_bound (xs := xs.take i) (fun x hx => h x (List.mem_of_mem_take hx))
      have hx := isPlain_iff.1 (h _ (List.getElem_mem hi))
      rw [List.length_take, Nat.min_eq_left (by omega)] at hb
      generalize hxi : xs[i] = x at *
      have hlen : (slotsT xs i).length = i + 2 := by simp [slotsT]; omega
      have hrow : (slotsT xs i ++ [c2 x])[(slotsT xs i).length]? = some (c2 x) := by simp
      have htot : (slotsT xs i ++ [c2 x])[1]? = some (c2 (sumL (xs.take i))) := rfl
      have r1 := rd_c2 hrow
      have t1 := rd_c2 htot
      have nw := new_c2 (sl := slotsT xs i) (x := x)
      have w1 := wr0_c2 (y := (sumL (xs.take i)).1 + x.1) htot
      have htot2 : ((slotsT xs i ++ [c2 x]).set 1 (c2 ((sumL (xs.take i)).1 + x.1, (sumL (xs.take i)).2)))[1]? = some (c2 ((sumL (xs.take i)).1 + x.1, (sumL (xs.take i)).2)) := rfl
      have w2 := wr1_c2 (y := (sumL (xs.take i)).2 + x.2) htot2
      rw [List.set_set, slotsT_succ hget] at w2
      have hg1 : 0 ≤ (i : Int) ∧ (i : Int) < (xs.length : Int) := by omega
      unfold mix_total.loop1
      simp -implicitDefEqProofs only [Int.toNat_natCast, rowSV_len, reserve0, guardO_pos hg1]
      rw [decide_eq_true hg1.2, cond_true, rds_rowF (ls := j2) (w := 2) rfl (by omega) rfl, hget]
      simp -implicitDefEqProofs only [Option.bind_some, hL_new, hL_next, List.length_cons, List.length_nil, Nat.zero_add]
      rw [nw]
      simp -implicitDefEqProofs only [Option.bind_some, r1.1, r1.2, t1.1, t1.2]
      rw [i64_in _ (by omega), i64_in _ (by omega), w1]
      simp -implicitDefEqProofs only [Option.bind_some]
      rw [w2]
      simp -implicitDefEqProofs only [Option.bind_some]
      rw [guardO_pos (p := apartA _ _ = true) (by rw [hlen]; rfl), i64_succ (by omega)]
    · unfold mix_total.loop1
      simp -implicitDefEqProofs only [rowSV_len]
      rw [decide_eq_false (by omega), cond_false]
  simp only [c2] at hloop
  rw [hloop]
  have e0 : (slotsT xs xs.length)[0]? = some (c2 (0, 0)) := rfl
  have e1 : (slotsT xs xs.length)[1]? = some (c2 (sumL xs)) := by rw [slotsT, List.take_length]; rfl
  have w0 := wrs_c2 (y := sumL xs) e0
  have e2 : ((slotsT xs xs.length).set 0 (c2 (sumL xs)))[0]? = some (c2 (sumL xs)) := rfl
  simp -implicitDefEqProofs only [Option.bind_some, (rd_c2 e1).1, (rd_c2 e1).2]
  rw [w0]
  simp -implicitDefEqProofs only [Option.bind_some]
  rw [rds_c2 e2]
  simp -implicitDefEqProofs only [evs, reduceIte, rdRes, rdTT, rdTy, rdLT, Res.un, TT.un, Ty.un, LT.un, Leaf.un, Leaf.plain, LT.plain]
def sumOf (xs : List (Int × Int)) : (Int × Int) × Int :=
  if 8 < xs.length then ((0, 0), 8) else if xs.any (fun x => !isPlain x) = true then ((0, 0), 1) else if isPlain (sumL xs) = true then (sumL xs, 0) else ((0, 0), 15)
theorem Sum_ok (xs : List (Int × Int)) (hl : xs.length < 2 ^ 63) : mix_SumP xs = some (sumOf xs) := by
  unfold mix_SumP mix_Sum sumOf
  simp -implicitDefEqProofs only [evs, reduceIte, rdRes, rdTT, rdTy, rdLT, Res.un, TT.un, Ty.un, LT.un, Leaf.un, Leaf.plain, LT.plain, hL_empty, hL_new, hL_next, List.length_nil, List.nil_append, List.length_cons, Nat.zero_add, List.cons_append]
  have e0 : [c2 (0, 0)][0]? = some (c2 (0, 0)) := rfl
  have w0 := wrs_c2 (y := (0, 0)) e0
  have r0 := rds_c2 e0
  simp only [List.set_cons_zero, c2] at w0 r0
  by_cases h8 : 8 < xs.length
  · rw [if_pos h8, decide_eq_true (show (8 : Int) < (xs.length : Int) by omega)]
    simp -implicitDefEqProofs only [evs, reduceIte, rdRes, rdTT, rdTy, rdLT, Res.un, TT.un, Ty.un, LT.un, Leaf.un, Leaf.plain, LT.plain]
    rw [w0]
    simp -implicitDefEqProofs only [evs, reduceIte, rdRes, rdTT, rdTy, rdLT, Res.un, TT.un, Ty.un, LT.un, Leaf.un, Leaf.plain, LT.plain]
    rw [r0]
    simp -implicitDefEqProofs only [evs, reduceIte, rdRes, rdTT, rdTy, rdLT, Res.un, TT.un, Ty.un, LT.un, Leaf.un, Leaf.plain, LT.plain]
  · rw [if_neg h8, decide_eq_false (show ¬ (8 : Int) < (xs.length : Int) by omega)]
    simp -implicitDefEqProofs only [evs, reduceIte, rdRes, rdTT, rdTy, rdLT, Res.un, TT.un, Ty.un, LT.un, Leaf.un, Leaf.plain, LT.plain]
    rw [ContainsFunc_liq (fun x => !isPlain x) hl (fun x hx R k => by
      obtain ⟨a, v⟩ := x
      show (mix_Sum_1P (a, v)).bind (fun r => k ((Res.one (.leaf .bool)).lo true r) _) = _
      rw [sum1_ok]; rfl)]
    simp -implicitDefEqProofs only [evs, reduceIte, rdRes, rdTT, rdTy, rdLT, Res.un, TT.un, Ty.un, LT.un, Leaf.un, Leaf.plain, LT.plain]
    cases hany : xs.any (fun x => !isPlain x) with
    | true =>
      simp -implicitDefEqProofs only [evs, reduceIte, rdRes, rdTT, rdTy, rdLT, Res.un, TT.un, Ty.un, LT.un, Leaf.un, Leaf.plain, LT.plain]
      rw [w0]
      simp -implicitDefEqProofs only [evs, reduceIte, rdRes, rdTT, rdTy, rdLT, Res.un, TT.un, Ty.un, LT.un, Leaf.un, Leaf.plain, LT.plain]
      rw [r0]
      simp -implicitDefEqProofs only [evs, reduceIte, rdRes, rdTT, rdTy, rdLT, Res.un, TT.un, Ty.un, LT.un, Leaf.un, Leaf.plain, LT.plain]
    | false =>
      have hp : ∀ x ∈ xs, isPlain x = true := fun x hx => by
        have := List.any_eq_false.1 hany x hx
        simpa using this
      simp -implicitDefEqProofs only [evs, reduceIte, rdRes, rdTT, rdTy, rdLT, Res.un, TT.un, Ty.un, LT.un, Leaf.un, Leaf.plain, LT.plain, Bool.false_eq_true]
      rw [total_ok (by omega) hp]
      generalize sumL xs = s
      obtain ⟨s1, s2⟩ := s
      simp -implicitDefEqProofs only [evs, reduceIte, rdRes, rdTT, rdTy, rdLT, Res.un, TT.un, Ty.un, LT.un, Leaf.un, Leaf.plain, LT.plain, evh, List.replicate, splice, LT.pack, Leaf.pack, Nat.reduceAdd, Nat.reduceSub, Nat.reduceLeDiff, Nat.reduceLT, Nat.reduceEqDiff, LT.lo, Leaf.lo]
      rw [plain_ok]
      simp -implicitDefEqProofs only [evs, reduceIte, rdRes, rdTT, rdTy, rdLT, Res.un, TT.un, Ty.un, LT.un, Leaf.un, Leaf.plain, LT.plain, evh, List.replicate, splice, LT.pack, Leaf.pack, Nat.reduceAdd, Nat.reduceSub, Nat.reduceLeDiff, Nat.reduceLT, Nat.reduceEqDiff, LT.lo, Leaf.lo]
      cases isPlain (s1, s2) with
      | true => simp -implicitDefEqProofs only [evs, reduceIte, rdRes, rdTT, rdTy, rdLT, Res.un, TT.un, Ty.un, LT.un, Leaf.un, Leaf.plain, LT.plain, evh, List.replicate, splice, LT.pack, Leaf.pack, Nat.reduceAdd, Nat.reduceSub, Nat.reduceLeDiff, Nat.reduceLT, Nat.reduceEqDiff, LT.lo, Leaf.lo]
      | false => simp -implicitDefEqProofs only [evs, reduceIte, rdRes, rdTT, rdTy, rdLT, Res.un, TT.un, Ty.un, LT.un, Leaf.un, Leaf.plain, LT.plain, evh, List.replicate, splice, LT.pack, Leaf.pack, Nat.reduceAdd, Nat.reduceSub, Nat.reduceLeDiff, Nat.reduceLT, Nat.reduceEqDiff, LT.lo, Leaf.lo]; rfl
end Go.Proofs.Ytbcpdecgfdlaaaa
/- What Plain, Plus, Minus and Take of the reference of package mix compute. Conditions: those of each law. -/
namespace Go.Proofs.Ytbcpdecgfdlaaaa
open Go Go.Proofs.Ytbcpdecgfdlaaaa.Ev
set_option linter.unusedVariables false
set_option linter.unusedSimpArgs false
set_option maxRecDepth 100000
set_option maxHeartbeats 4000000
theorem share_bounds {x : Int × Int} {w : Int} (hp : isPlain x = true) (h0 : 0 ≤ w) (h1 : w ≤ x.2) : 0 ≤ x.1 * w / x.2 ∧ x.1 * w / x.2 ≤ x.1 := by
  rw [isPlain_iff] at hp
  rcases Int.lt_or_le 0 x.2 with h | h
  · exact share_le hp.1 h0 h h1
  · have : x.1 = 0 := by omega
    rw [this]; simp
theorem rPlain_ok (a v : Int) : spileref21_PlainP (a, v) = some (isPlain (a, v)) := by
  unfold spileref21_PlainP spileref21_Plain isPlain
  simp -implicitDefEqProofs only [evs, reduceIte, rdRes, rdTT, rdTy, rdLT, Res.un, TT.un, Ty.un, LT.un, Leaf.un, Leaf.plain, LT.plain, evh, List.replicate, splice, LT.pack, Leaf.pack, Nat.reduceAdd, Nat.reduceSub, Nat.reduceLeDiff, Nat.reduceLT, Nat.reduceEqDiff, LT.lo, Leaf.lo]
  by_cases h1 : 0 ≤ a
  · rw [decide_eq_true h1]
    simp -implicitDefEqProofs only [evs, reduceIte, rdRes, rdTT, rdTy, rdLT, Res.un, TT.un, Ty.un, LT.un, Leaf.un, Leaf.plain, LT.plain, evh, List.replicate, splice, LT.pack, Leaf.pack, Nat.reduceAdd, Nat.reduceSub, Nat.reduceLeDiff, Nat.reduceLT, Nat.reduceEqDiff, LT.lo, Leaf.lo]
    by_cases h2 : a ≤ 10737418240000
    · rw [decide_eq_true h2]
      simp -implicitDefEqProofs only [evs, reduceIte, rdRes, rdTT, rdTy, rdLT, Res.un, TT.un, Ty.un, LT.un, Leaf.un, Leaf.plain, LT.plain, evh, List.replicate, splice, LT.pack, Leaf.pack, Nat.reduceAdd, Nat.reduceSub, Nat.reduceLeDiff, Nat.reduceLT, Nat.reduceEqDiff, LT.lo, Leaf.lo]
      by_cases h3 : 0 ≤ v
      · rw [decide_eq_true h3]
        simp -implicitDefEqProofs only [evs, reduceIte, rdRes, rdTT, rdTy, rdLT, Res.un, TT.un, Ty.un, LT.un, Leaf.un, Leaf.plain, LT.plain, evh, List.replicate, splice, LT.pack, Leaf.pack, Nat.reduceAdd, Nat.reduceSub, Nat.reduceLeDiff, Nat.reduceLT, Nat.reduceEqDiff, LT.lo, Leaf.lo]
        by_cases h4 : v ≤ 128849018880000
        · rw [decide_eq_true h4]
          simp -implicitDefEqProofs only [evs, reduceIte, rdRes, rdTT, rdTy, rdLT, Res.un, TT.un, Ty.un, LT.un, Leaf.un, Leaf.plain, LT.plain, evh, List.replicate, splice, LT.pack, Leaf.pack, Nat.reduceAdd, Nat.reduceSub, Nat.reduceLeDiff, Nat.reduceLT, Nat.reduceEqDiff, LT.lo, Leaf.lo]
          by_cases h5 : 0 < v
          · rw [decide_eq_true h5]
            simp -implicitDefEqProofs only [evs, reduceIte, rdRes, rdTT, rdTy, rdLT, Res.un, TT.un, Ty.un, LT.un, Leaf.un, Leaf.plain, LT.plain, evh, List.replicate, splice, LT.pack, Leaf.pack, Nat.reduceAdd, Nat.reduceSub, Nat.reduceLeDiff, Nat.reduceLT, Nat.reduceEqDiff, LT.lo, Leaf.lo]
            rw [decide_eq_true (by omega)]
          · rw [decide_eq_false h5]
            simp -implicitDefEqProofs only [evs, reduceIte, rdRes, rdTT, rdTy, rdLT, Res.un, TT.un, Ty.un, LT.un, Leaf.un, Leaf.plain, LT.plain, evh, List.replicate, splice, LT.pack, Leaf.pack, Nat.reduceAdd, Nat.reduceSub, Nat.reduceLeDiff, Nat.reduceLT, Nat.reduceEqDiff, LT.lo, Leaf.lo]
            by_cases h6 : a = 0
            · rw [decide_eq_true h6, decide_eq_true (by omega)]
            · rw [decide_eq_false h6, decide_eq_false (by omega)]
        · rw [decide_eq_false h4, decide_eq_false (p := _ ∧ _) (by omega)]
          simp -implicitDefEqProofs only [evs, reduceIte, rdRes, rdTT, rdTy, rdLT, Res.un, TT.un, Ty.un, LT.un, Leaf.un, Leaf.plain, LT.plain, evh, List.replicate, splice, LT.pack, Leaf.pack, Nat.reduceAdd, Nat.reduceSub, Nat.reduceLeDiff, Nat.reduceLT, Nat.reduceEqDiff, LT.lo, Leaf.lo]
      · rw [decide_eq_false h3, decide_eq_false (p := _ ∧ _) (by omega)]
        simp -implicitDefEqProofs only [evs, reduceIte, rdRes, rdTT, rdTy, rdLT, Res.un, TT.un, Ty.un, LT.un, Leaf.un, Leaf.plain, LT.plain, evh, List.replicate, splice, LT.pack, Leaf.pack, Nat.reduceAdd, Nat.reduceSub, Nat.reduceLeDiff, Nat.reduceLT, Nat.reduceEqDiff, LT.lo, Leaf.lo]
    · rw [decide_eq_false h2, decide_eq_false (p := _ ∧ _) (by omega)]
      simp -implicitDefEqProofs only [evs, reduceIte, rdRes, rdTT, rdTy, rdLT, Res.un, TT.un, Ty.un, LT.un, Leaf.un, Leaf.plain, LT.plain, evh, List.replicate, splice, LT.pack, Leaf.pack, Nat.reduceAdd, Nat.reduceSub, Nat.reduceLeDiff, Nat.reduceLT, Nat.reduceEqDiff, LT.lo, Leaf.lo]
  · rw [decide_eq_false h1, decide_eq_false (p := _ ∧ _) (by omega)]
    simp -implicitDefEqProofs only [evs, reduceIte, rdRes, rdTT, rdTy, rdLT, Res.un, TT.un, Ty.un, LT.un, Leaf.un, Leaf.plain, LT.plain, evh, List.replicate, splice, LT.pack, Leaf.pack, Nat.reduceAdd, Nat.reduceSub, Nat.reduceLeDiff, Nat.reduceLT, Nat.reduceEqDiff, LT.lo, Leaf.lo]
theorem rPlus_ok (a b c d : Int) : spileref21_PlusP (a, b) (c, d) = some (IntKind.wrap .i64 (a + c), IntKind.wrap .i64 (b + d)) := by
  unfold spileref21_PlusP spileref21_Plus
  simp -implicitDefEqProofs only [evs, reduceIte, rdRes, rdTT, rdTy, rdLT, Res.un, TT.un, Ty.un, LT.un, Leaf.un, Leaf.plain, LT.plain, evh, List.replicate, splice, LT.pack, Leaf.pack, Nat.reduceAdd, Nat.reduceSub, Nat.reduceLeDiff, Nat.reduceLT, Nat.reduceEqDiff, LT.lo, Leaf.lo]
theorem rMinus_ok (a b c d : Int) : spileref21_MinusP (a, b) (c, d) = some (IntKind.wrap .i64 (a - c), IntKind.wrap .i64 (b - d)) := by
  unfold spileref21_MinusP spileref21_Minus
  simp -implicitDefEqProofs only [evs, reduceIte, rdRes, rdTT, rdTy, rdLT, Res.un, TT.un, Ty.un, LT.un, Leaf.un, Leaf.plain, LT.plain, evh, List.replicate, splice, LT.pack, Leaf.pack, Nat.reduceAdd, Nat.reduceSub, Nat.reduceLeDiff, Nat.reduceLT, Nat.reduceEqDiff, LT.lo, Leaf.lo]
theorem rMTake_ok {a v w : Int} (hp : isPlain (a, v) = true) (h0 : 0 ≤ w) (h1 : w ≤ v) : spileref21_TakeP (a, v) w = some (a * w / v, w) := by
  have hp' := isPlain_iff.1 hp
  simp only at hp'
  have hb := share_bounds hp h0 h1
  simp only at hb
  unfold spileref21_TakeP spileref21_Take
  simp -implicitDefEqProofs only [evs, reduceIte, rdRes, rdTT, rdTy, rdLT, Res.un, TT.un, Ty.un, LT.un, Leaf.un, Leaf.plain, LT.plain, evh, List.replicate, splice, LT.pack, Leaf.pack, Nat.reduceAdd, Nat.reduceSub, Nat.reduceLeDiff, Nat.reduceLT, Nat.reduceEqDiff, LT.lo, Leaf.lo]
  by_cases hv : v = 0
  · have ha : a = 0 := by omega
    have hw : w = 0 := by omega
    subst hv ha hw
    simp -implicitDefEqProofs only [evs, reduceIte, rdRes, rdTT, rdTy, rdLT, Res.un, TT.un, Ty.un, LT.un, Leaf.un, Leaf.plain, LT.plain, evh, List.replicate, splice, LT.pack, Leaf.pack, Nat.reduceAdd, Nat.reduceSub, Nat.reduceLeDiff, Nat.reduceLT, Nat.reduceEqDiff, LT.lo, Leaf.lo, eq_self, decide_true]
    rfl
  · rw [decide_eq_false hv]
    simp -implicitDefEqProofs only [evs, reduceIte, rdRes, rdTT, rdTy, rdLT, Res.un, TT.un, Ty.un, LT.un, Leaf.un, Leaf.plain, LT.plain, evh, List.replicate, splice, LT.pack, Leaf.pack, Nat.reduceAdd, Nat.reduceSub, Nat.reduceLeDiff, Nat.reduceLT, Nat.reduceEqDiff, LT.lo, Leaf.lo]
    rw [rProportion_ok (isAmt_iff.2 (by omega)) (isAmt_iff.2 (by omega)) (isAmt_iff.2 (by omega)) hv, divOf, if_neg (by omega)]
    simp -implicitDefEqProofs only [evs, reduceIte, rdRes, rdTT, rdTy, rdLT, Res.un, TT.un, Ty.un, LT.un, Leaf.un, Leaf.plain, LT.plain, evh, List.replicate, splice, LT.pack, Leaf.pack, Nat.reduceAdd, Nat.reduceSub, Nat.reduceLeDiff, Nat.reduceLT, Nat.reduceEqDiff, LT.lo, Leaf.lo]
end Go.Proofs.Ytbcpdecgfdlaaaa
/- What lot.Check and that of the reference compute. Conditions: those of each law. -/
namespace Go.Proofs.Ytbcpdecgfdlaaaa
open Go Go.Proofs.Ytbcpdecgfdlaaaa.Ev
set_option linter.unusedVariables false
set_option linter.unusedSimpArgs false
set_option maxRecDepth 100000
set_option maxHeartbeats 4000000
/-- A lot: its number, its alcohol, its mass, its shares. -/
abbrev LotT := Int × Int × Int × List (Int × Int)
abbrev jL : List Leaf := [.int .i64, .int .i64, .int .i64, .row [.int .i64, .int .i64]]
abbrev lotSV (f : Bool) (x : LotT) : Int × Int × Int × SV := (x.1, x.2.1, x.2.2.1, rowSV f j2 x.2.2.2)
theorem rd_lot {f : Bool} {h : H} {l : List LotT} {i : Nat} {x : LotT} (hx : l[i]? = some x) : rdT (.agg [.int .i64, .int .i64, .int .i64, .slice]) h ((rowSV f jL l).a.add (i * 4)) = some (lotSV f x) := by
  rw [rds_row (ls := jL) (w := 4) rfl rfl (by omega), hx]
  rfl
theorem rd_lot0 {f : Bool} {h : H} {l : List LotT} {i : Nat} {x : LotT} (hx : l[i]? = some x) : rdT (.leaf (.int .i64)) h (((rowSV f jL l).a.add (i * 4)).add 0) = some x.1 := by
  rw [add_add, rd_row (ls := jL) (w := 4) rfl (by omega), hx]; rfl
theorem rd_lot3 {f : Bool} {h : H} {l : List LotT} {i : Nat} {x : LotT} (hx : l[i]? = some x) : rdT (.leaf .slice) h (((rowSV f jL l).a.add (i * 4)).add 3) = some (rowSV f j2 x.2.2.2) := by
  rw [add_add, rd_row (ls := jL) (w := 4) rfl (by omega), hx]; rfl
theorem nn_lot {f : Bool} {l : List LotT} {i : Nat} (hi : i < l.length) : V.nn ((rowSV f jL l).a.add (i * 4)) = true := nn_row (by omega) (by simp)
def atL (l : List LotT) (i : Nat) : LotT := l[i]?.getD (0, 0, 0, [])
theorem atL_some {l : List LotT} {i : Nat} (h : i < l.length) : l[i]? = some (atL l i) := by
  unfold atL
  rw [List.getElem?_eq_getElem h]
  rfl
theorem atL_mem {l : List LotT} {i : Nat} (h : i < l.length) : atL l i ∈ l := List.mem_of_getElem? (atL_some h)
abbrev cL (x : Int × Int × Int × SV) : Slot := .own [.int .i64 x.1, .int .i64 x.2.1, .int .i64 x.2.2.1, .slice x.2.2.2.a x.2.2.2.len x.2.2.2.cap x.2.2.2.tail] 4
theorem new_cL {sl : List Slot} {x : Int × Int × Int × SV} : H.wrs (hL (sl ++ [cL (0, 0, 0, ⟨.nil, 0, 0, false⟩)])) (.hp sl.length 4 0) [.int .i64 x.1, .int .i64 x.2.1, .int .i64 x.2.2.1, .slice x.2.2.2.a x.2.2.2.len x.2.2.2.cap x.2.2.2.tail] = some (hL (sl ++ [cL x])) := by
  rw [wrs_own (g := 4) (cs := [V.int .i64 0, V.int .i64 0, V.int .i64 0, V.slice .nil 0 0 false]) (e := 4) (by simp) rfl (by simp)]
  simp [splice]
theorem wrs_cL {sl : List Slot} {id : Nat} {x y : Int × Int × Int × SV} (h : sl[id]? = some (cL x)) : H.wrs (hL sl) (.hp id 4 0) [.int .i64 y.1, .int .i64 y.2.1, .int .i64 y.2.2.1, .slice y.2.2.2.a y.2.2.2.len y.2.2.2.cap y.2.2.2.tail] = some (hL (sl.set id (cL y))) := by
  rw [wrs_own (g := 4) h rfl (by simp)]; rfl
theorem rds_cL {sl : List Slot} {id : Nat} {x : Int × Int × Int × SV} (h : sl[id]? = some (cL x)) : rdT (.agg [.int .i64, .int .i64, .int .i64, .slice]) (hL sl) (.hp id 4 0) = some x := by
  rw [rds_hp (by simp), hL_m, h]; rfl
theorem rdl_cL {sl : List Slot} {id : Nat} {x : Int × Int × Int × SV} (h : sl[id]? = some (cL x)) : rdT (.agg [.int .i64, .int .i64]) (hL sl) (.hp id 4 1) = some (x.2.1, x.2.2.1) := by
  rw [rds_hp (by simp), hL_m, h]; rfl
theorem rd_cL {sl : List Slot} {id : Nat} {x : Int × Int × Int × SV} (h : sl[id]? = some (cL x)) : rdT (.leaf (.int .i64)) (hL sl) (.hp id 4 0) = some x.1 ∧ rdT (.leaf (.int .i64)) (hL sl) (.hp id 4 1) = some x.2.1 ∧ rdT (.leaf (.int .i64)) (hL sl) (.hp id 4 2) = some x.2.2.1 ∧ rdT (.leaf .slice) (hL sl) (.hp id 4 3) = some x.2.2.2 := by
  refine ⟨?_, ?_, ?_, ?_⟩ <;> (rw [rd_own (g := 4) h rfl]; rfl)
theorem rdRow_oneL {f t : Bool} {h : H} {d a m : Int} {xs : List (Int × Int)} : rdRow true h [.int .i64, .int .i64, .int .i64, .row [.int .i64, .int .i64]] ⟨.lp true [.int .i64 d, .int .i64 a, .int .i64 m, .slice (rowSV f j2 xs).a xs.length xs.length true] 0, 1, 1, t⟩ = some [(d, a, m, xs)] := by
  have h1 : rdLeaf true h (.row j2) (.slice (rowSV f j2 xs).a xs.length xs.length true) = some xs := rdRow_args rfl
  have e : H.rds h (.lp true [.int .i64 d, .int .i64 a, .int .i64 m, .slice (rowSV f j2 xs).a xs.length xs.length true] 0) (1 * 4) = some [.int .i64 d, .int .i64 a, .int .i64 m, .slice (rowSV f j2 xs).a xs.length xs.length true] := rfl
  show ((H.rds h (.lp true [.int .i64 d, .int .i64 a, .int .i64 m, .slice (rowSV f j2 xs).a xs.length xs.length true] 0) (1 * 4)).bind fun cs => mapO (fun c => rdLT true h jL c) (chunks 4 1 cs)) = _
  rw [e]
  show ((rdLT true h jL [.int .i64 d, .int .i64 a, .int .i64 m, .slice (rowSV f j2 xs).a xs.length xs.length true]).bind fun x => some [x]) = _
  simp only [rdLT, rdLeaf_int, h1, Option.bind_some]
theorem rdRow_a2 {f : Bool} {h : H} {xs : List (Int × Int)} : rdRow true h [.int .i64, .int .i64] ⟨(rowSV f [.int .i64, .int .i64] xs).a, xs.length, xs.length, true⟩ = some xs := rdRow_args (f := f) rfl
theorem rdRow_one2 {t : Bool} {h : H} {a v : Int} : rdRow true h [.int .i64, .int .i64] ⟨.lp true [.int .i64 a, .int .i64 v] 0, 1, 1, t⟩ = some [(a, v)] := rdRow_res (xs := ([(a, v)] : List (LT j2))) rfl
/-- The fault of the shares of a lot. -/
def lshares (xs : List (Int × Int)) (a : Int) : Int := if 32 < xs.length then 12 else if firstF (sfault xs) xs.length = 0 then (if sumA xs = a then 0 else 14) else 10
theorem okS_and {x1 x2 : Int} {h : H} {E : Option (Bool × H)} : (bif !(decide (x1 < 1)) then (bif !(decide ((1073741824 : Int) < x1)) then (bif !(decide (x2 < 1)) then (bif !(decide ((10737418240000 : Int) < x2)) then E else some (true, h)) else some (true, h)) else some (true, h)) else some (true, h) : Option (Bool × H)) = if okS (x1, x2) = true then E else some (true, h) := by
  unfold okS
  by_cases h1 : x1 < 1
  · rw [decide_eq_true h1, decide_eq_false (p := _ ∧ _) (by simp only; omega)]; rfl
  · rw [decide_eq_false h1]
    by_cases h2 : (1073741824 : Int) < x1
    · rw [decide_eq_true h2, decide_eq_false (p := _ ∧ _) (by simp only; omega)]; rfl
    · rw [decide_eq_false h2]
      by_cases h3 : x2 < 1
      · rw [decide_eq_true h3, decide_eq_false (p := _ ∧ _) (by simp only; omega)]; rfl
      · rw [decide_eq_false h3]
        by_cases h4 : (10737418240000 : Int) < x2
        · rw [decide_eq_true h4, decide_eq_false (p := _ ∧ _) (by simp only; omega)]; rfl
        · rw [decide_eq_false h4, decide_eq_true (p := _ ∧ _) (by simp only; omega)]; rfl
theorem lshares_step {xs : List (Int × Int)} {L : Slot} {h : H} {y : Int × Int × Int} {i : Nat} (h0 : h.next = 0) (hL0 : L = cL (y.1, y.2.1, y.2.2, rowSV false j2 xs)) (hi : i < xs.length) (h32 : xs.length ≤ 32) (hp : ∀ j, j < i → sfault xs j = 0) :
    lot_shares.loop1 h (rowSV false j2 xs) ((sumA (xs.take i), (i : Int)), hL (L :: (xs.take i).map c2)) = some (if sfault xs i = 0 then .more ((sumA (xs.take (i + 1)), ((i + 1 : Nat) : Int)), hL (L :: (xs.take (i + 1)).map c2)) else .done (.ret 10, hL (L :: (xs.take (i + 1)).map c2))) := by
  have hget := at2_some hi
  have hsl : (L :: (xs.take i).map c2) ++ [c2 (at2 xs i)] = L :: (xs.take (i + 1)).map c2 := by
    obtain ⟨h1, he⟩ := List.getElem?_eq_some_iff.1 hget
    rw [← List.take_append_getElem h1, he, List.map_append]
    rfl
  have hrow : ((L :: (xs.take i).map c2) ++ [c2 (at2 xs i)])[(L :: (xs.take i).map c2).length]? = some (c2 (at2 xs i)) := by simp
  have r1 := rd_c2 hrow
  have nw := new_c2 (sl := L :: (xs.take i).map c2) (x := at2 xs i)
  have hb := sumA_bound (xs.take i) (take_ok (by omega) hp)
  rw [List.length_take, Nat.min_eq_left (by omega)] at hb
  have hst := sumA_take hi
  have hg1 : 0 ≤ (i : Int) ∧ (i : Int) < (xs.length : Int) := by omega
  have r0 : rdT (.leaf .slice) (hL ((L :: (xs.take i).map c2) ++ [c2 (at2 xs i)])) (.hp 0 4 3) = some (rowSV false j2 xs) := (rd_cL (x := (y.1, y.2.1, y.2.2, rowSV false j2 xs)) (by rw [hL0]; rfl)).2.2.2
  unfold lot_shares.loop1
  simp -implicitDefEqProofs only [Int.toNat_natCast, rowSV_len, guardO_pos hg1, reserve0, h0]
  rw [decide_eq_true hg1.2, cond_true, rds_rowF (ls := j2) (w := 2) rfl (by omega) rfl, hget]
  simp -implicitDefEqProofs only [Option.bind_some, hL_new, hL_next]
  rw [nw]
  simp -implicitDefEqProofs only [Option.bind_some, r1.1, r1.2]
  rw [okS_and]
  unfold sfault
  cases hok : okS (at2 xs i) with
  | false =>
    simp -implicitDefEqProofs only [evs, reduceIte, rdRes, rdTT, rdTy, rdLT, Res.un, TT.un, Ty.un, LT.un, Leaf.un, Leaf.plain, LT.plain, Bool.false_eq_true]
    rw [hsl, if_neg (by simp)]
  | true =>
    have hok' := okS_iff.1 hok
    simp -implicitDefEqProofs only [evs, reduceIte, rdRes, rdTT, rdTy, rdLT, Res.un, TT.un, Ty.un, LT.un, Leaf.un, Leaf.plain, LT.plain, eq_self]
    cases i with
    | zero =>
      rw [decide_eq_false (show ¬ (0 : Int) < ((0 : Nat) : Int) by omega)]
      simp -implicitDefEqProofs only [evs, reduceIte, rdRes, rdTT, rdTy, rdLT, Res.un, TT.un, Ty.un, LT.un, Leaf.un, Leaf.plain, LT.plain, Bool.false_eq_true]
      rw [r1.2]
      simp -implicitDefEqProofs only [evs, reduceIte, rdRes, rdTT, rdTy, rdLT, Res.un, TT.un, Ty.un, LT.un, Leaf.un, Leaf.plain, LT.plain]
      rw [if_neg (show ¬ ((0 : Nat) < 0 ∧ _) by omega), if_pos rfl, hsl, i64_in _ (by omega), i64_succ (by omega), hst]
    | succ j =>
      have hj : ((j + 1 : Nat) : Int) - 1 = ((j : Nat) : Int) := by omega
      have hg2 : 0 ≤ (j : Int) ∧ (j : Int) < (xs.length : Int) := by omega
      rw [decide_eq_true (show (0 : Int) < ((j + 1 : Nat) : Int) by omega), hj, i64_in (j : Int) (by omega)]
      simp -implicitDefEqProofs only [evs, reduceIte, rdRes, rdTT, rdTy, rdLT, Res.un, TT.un, Ty.un, LT.un, Leaf.un, Leaf.plain, LT.plain, Int.toNat_natCast, r0]
      rw [guardO_pos hg2, guardO_pos (nn_at2 (by omega)), (rd_at2 (by omega)).1]
      simp -implicitDefEqProofs only [evs, reduceIte, rdRes, rdTT, rdTy, rdLT, Res.un, TT.un, Ty.un, LT.un, Leaf.un, Leaf.plain, LT.plain]
      rw [Nat.add_sub_cancel]
      by_cases hle : (at2 xs (j + 1)).1 ≤ (at2 xs j).1
      · rw [decide_eq_true hle]
        simp -implicitDefEqProofs only [evs, reduceIte, rdRes, rdTT, rdTy, rdLT, Res.un, TT.un, Ty.un, LT.un, Leaf.un, Leaf.plain, LT.plain]
        rw [if_pos (show (0 < j + 1 ∧ (at2 xs (j + 1)).1 ≤ (at2 xs j).1) from ⟨by omega, hle⟩), if_neg (by omega), hsl]
      · rw [decide_eq_false hle]
        simp -implicitDefEqProofs only [evs, reduceIte, rdRes, rdTT, rdTy, rdLT, Res.un, TT.un, Ty.un, LT.un, Leaf.un, Leaf.plain, LT.plain, Bool.false_eq_true]
        rw [r1.2]
        simp -implicitDefEqProofs only [evs, reduceIte, rdRes, rdTT, rdTy, rdLT, Res.un, TT.un, Ty.un, LT.un, Leaf.un, Leaf.plain, LT.plain]
        rw [if_neg (show ¬ (0 < j + 1 ∧ (at2 xs (j + 1)).1 ≤ (at2 xs j).1) from fun h => hle h.2), if_pos rfl, hsl, i64_in _ (by omega), i64_succ (by omega), hst]
theorem Lshares_ok (y : LotT) : lot_sharesP y = some (lshares y.2.2.2 y.2.1) := by
  obtain ⟨d, a, m, xs⟩ := y
  unfold lot_sharesP lot_shares lshares
  simp -implicitDefEqProofs only [evs, reduceIte, rdRes, rdTT, rdTy, rdLT, Res.un, TT.un, Ty.un, LT.un, Leaf.un, Leaf.plain, LT.plain, hL_empty, hL_new, hL_next, List.nil_append, List.length_nil]
  have e0 : [cL (d, a, m, rowSV false j2 xs)][0]? = some (cL (d, a, m, rowSV false j2 xs)) := rfl
  have r0 := rd_cL e0
  simp only [cL, rowSV_len, rowSV_cap, rowSV_tail] at r0
  rw [r0.2.2.2]
  simp -implicitDefEqProofs only [evs, reduceIte, rdRes, rdTT, rdTy, rdLT, Res.un, TT.un, Ty.un, LT.un, Leaf.un, Leaf.plain, LT.plain]
  by_cases h32 : 32 < xs.length
  · rw [if_pos h32, decide_eq_true (show (32 : Int) < (xs.length : Int) by omega)]
    simp -implicitDefEqProofs only [evs, reduceIte, rdRes, rdTT, rdTy, rdLT, Res.un, TT.un, Ty.un, LT.un, Leaf.un, Leaf.plain, LT.plain]
  · rw [if_neg h32, decide_eq_false (show ¬ (32 : Int) < (xs.length : Int) by omega)]
    simp -implicitDefEqProofs only [evs, reduceIte, rdRes, rdTT, rdTy, rdLT, Res.un, TT.un, Ty.un, LT.un, Leaf.un, Leaf.plain, LT.plain]
    rcases first_cases (sfault xs) xs.length with ⟨h1, h2⟩ | ⟨n, h1, h2, h3, h4⟩
    · rw [h2, if_pos rfl]
      have hloop := iter_from (s0 := (((0 : Int), (0 : Int)), hL [cL (d, a, m, rowSV false j2 xs)])) (f := lot_shares.loop1 (hL []) (rowSV false j2 xs)) (x := (.ex0 (sumA xs), hL (cL (d, a, m, rowSV false j2 xs) :: xs.map c2))) (fun i => ((sumA (xs.take i), (i : Int)), hL (cL (d, a, m, rowSV false j2 xs) :: (xs.take i).map c2))) rfl xs.length FUEL (fun i hi => by
        rw [lshares_step (y := (d, a, m)) rfl rfl hi (by omega) (fun j hj => h1 j (by omega)), if_pos (h1 i hi)]) (by
        unfold lot_shares.loop1
        simp -implicitDefEqProofs only [rowSV_len]
        rw [decide_eq_false (by omega), cond_false, List.take_length]) (fuel_gt (by omega))
      simp only [cL, rowSV_len, rowSV_cap, rowSV_tail] at hloop
      rw [hloop]
      simp -implicitDefEqProofs only [evs, reduceIte, rdRes, rdTT, rdTy, rdLT, Res.un, TT.un, Ty.un, LT.un, Leaf.un, Leaf.plain, LT.plain]
      have r1 := rd_cL (sl := cL (d, a, m, rowSV false j2 xs) :: xs.map c2) (id := 0) (x := (d, a, m, rowSV false j2 xs)) rfl
      simp only [cL, rowSV_len, rowSV_cap, rowSV_tail] at r1
      rw [r1.2.1]
      simp -implicitDefEqProofs only [evs, reduceIte, rdRes, rdTT, rdTy, rdLT, Res.un, TT.un, Ty.un, LT.un, Leaf.un, Leaf.plain, LT.plain]
      by_cases hs : sumA xs = a
      · rw [decide_eq_true hs, if_pos hs]; simp -implicitDefEqProofs only [evs, reduceIte, rdRes, rdTT, rdTy, rdLT, Res.un, TT.un, Ty.un, LT.un, Leaf.un, Leaf.plain, LT.plain]
      · rw [decide_eq_false hs, if_neg hs]; simp -implicitDefEqProofs only [evs, reduceIte, rdRes, rdTT, rdTy, rdLT, Res.un, TT.un, Ty.un, LT.un, Leaf.un, Leaf.plain, LT.plain]
    · rw [h4, if_neg h2]
      have hloop := iter_from (s0 := (((0 : Int), (0 : Int)), hL [cL (d, a, m, rowSV false j2 xs)])) (f := lot_shares.loop1 (hL []) (rowSV false j2 xs)) (x := (.ret 10, hL (cL (d, a, m, rowSV false j2 xs) :: (xs.take (n + 1)).map c2))) (fun i => ((sumA (xs.take i), (i : Int)), hL (cL (d, a, m, rowSV false j2 xs) :: (xs.take i).map c2))) rfl n FUEL (fun i hi => by
        rw [lshares_step (y := (d, a, m)) rfl rfl (by omega) (by omega) (fun j hj => h3 j (by omega)), if_pos (h3 i hi)]) (by
        rw [lshares_step (y := (d, a, m)) rfl rfl h1 (by omega) h3, if_neg h2]) (fuel_gt (by omega))
      simp only [cL, rowSV_len, rowSV_cap, rowSV_tail] at hloop
      rw [hloop]
      simp -implicitDefEqProofs only [evs, reduceIte, rdRes, rdTT, rdTy, rdLT, Res.un, TT.un, Ty.un, LT.un, Leaf.un, Leaf.plain, LT.plain]
theorem lplain_ok (a v : Int) : lot_plainP (a, v) = some (isPlain (a, v)) := by
  unfold lot_plainP lot_plain
  simp -implicitDefEqProofs only [evs, reduceIte, rdRes, rdTT, rdTy, rdLT, Res.un, TT.un, Ty.un, LT.un, Leaf.un, Leaf.plain, LT.plain, evh, List.replicate, splice, LT.pack, Leaf.pack, Nat.reduceAdd, Nat.reduceSub, Nat.reduceLeDiff, Nat.reduceLT, Nat.reduceEqDiff, LT.lo, Leaf.lo, rdRow_one2]
  rw [Sum_ok _ (by simp)]
  have hs : sumL [(a, v)] = (a, v) := by simp [sumL]
  unfold sumOf
  rw [hs]
  simp -implicitDefEqProofs only [evs, reduceIte, rdRes, rdTT, rdTy, rdLT, Res.un, TT.un, Ty.un, LT.un, Leaf.un, Leaf.plain, LT.plain, evh, List.replicate, splice, LT.pack, Leaf.pack, Nat.reduceAdd, Nat.reduceSub, Nat.reduceLeDiff, Nat.reduceLT, Nat.reduceEqDiff, LT.lo, Leaf.lo, List.any_cons, List.any_nil]
  cases h : isPlain (a, v) with
  | false => rfl
  | true => rfl
/-- The fault of a lot alone, but for its number. -/
def oneOf (x : LotT) : Int := if isPlain (x.2.1, x.2.2.1) = true ∧ x.2.2.1 ≠ 0 then lshares x.2.2.2 x.2.1 else 1
def okId (n : Int) : Bool := decide (1 ≤ n ∧ n ≤ 1073741824)
theorem okId_iff {n : Int} : okId n = true ↔ 1 ≤ n ∧ n ≤ 1073741824 := by simp [okId]
def lfault (l : List LotT) (i : Nat) : Int := if okId (atL l i).1 = true then (if 0 < i ∧ (atL l i).1 ≤ (atL l (i - 1)).1 then 5 else oneOf (atL l i)) else 2
def lotErr (l : List LotT) : Int := if 32 < l.length then 8 else firstF (lfault l) l.length
end Go.Proofs.Ytbcpdecgfdlaaaa
