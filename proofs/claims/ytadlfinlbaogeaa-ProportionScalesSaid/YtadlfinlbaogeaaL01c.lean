/- The law ProportionScales in plain numbers. Conditions: none. -/
import Derived.Test.YtadlfinlbaogeaaL01b
namespace Go.Proofs.Ytadlfinlbaogeaa
open Go Go.Proofs.Ytadlfinlbaogeaa.Ev
set_option linter.unusedVariables false
set_option linter.unusedSimpArgs false
set_option maxRecDepth 100000
set_option maxHeartbeats 4000000
theorem ord_scale {k : Int} (hk : 0 < k) (rs : List Int) : ord (rs.map (k * ·)) = ord rs := by
  refine (ord_uniq (by rw [List.length_map]; exact ord_perm) fun p q hpq hq => ?_).symm
  rw [List.length_map] at hq
  have h1 := ord_lt (rs := rs) hpq hq
  have h2 := ord_range (rs := rs) (p := p) (by omega)
  have h3 := ord_range (rs := rs) hq
  unfold ltR at h1 ⊢
  rw [g_map (by omega), g_map (by omega)]
  rcases h1 with h1 | h1
  · exact .inl (Int.mul_lt_mul_of_pos_left h1 hk)
  · exact .inr ⟨by rw [h1.1], h1.2⟩
theorem sum_scale (k : Int) : ∀ (ws : List Int), (ws.map (k * ·)).sum = k * ws.sum
  | [] => by simp
  | w :: ws => by simp only [List.map_cons, List.sum_cons, sum_scale k ws, Int.mul_add]
theorem divParts_scale {a S k : Int} {ws : List Int} (hk : 0 < k) : divParts a (k * S) (ws.map (k * ·)) = divParts a S ws := by
  have hq : quos a (k * S) (ws.map (k * ·)) = quos a S ws := by
    unfold quos
    rw [List.map_map]
    refine List.map_congr_left fun w _ => ?_
    show a * (k * w) / (k * S) = _
    rw [Int.mul_left_comm, Int.mul_ediv_mul_of_pos _ _ hk]
  have hr : rems a (k * S) (ws.map (k * ·)) = (rems a S ws).map (k * ·) := by
    unfold rems
    rw [List.map_map, List.map_map]
    refine List.map_congr_left fun w _ => ?_
    show a * (k * w) % (k * S) = k * (a * w % S)
    rw [Int.mul_left_comm, Int.mul_emod_mul_of_pos _ _ hk]
  unfold divParts
  rw [hq, hr, ord_scale hk]
theorem gcd_step (x y : Nat) : proportion_Reduce.loop1 (((x : Int), (y : Int)), H.empty) = some (if y = 0 then .done (.ex0 (x : Int), H.empty) else .more (((y : Int), ((x % y : Nat) : Int)), H.empty)) := by
  unfold proportion_Reduce.loop1
  simp -implicitDefEqProofs only [reserve0]
  by_cases hy : y = 0
  · subst hy
    rw [decide_eq_false (by omega)]
    rfl
  · rw [decide_eq_true (by omega), cond_true, guardO_pos (by omega), ← Int.ofNat_tmod, if_neg hy]
theorem gcd_loop : ∀ (n x y : Nat), y < n → iter n proportion_Reduce.loop1 (((x : Int), (y : Int)), H.empty) = some (.ex0 ((Nat.gcd x y : Nat) : Int), H.empty)
  | 0, _, _, h => by omega
  | n + 1, x, y, h => by
    rw [iter, gcd_step]
    by_cases hy : y = 0
    · subst hy
      rw [if_pos rfl, Nat.gcd_zero_right]
      rfl
    · rw [if_neg hy]
      have := gcd_loop n y (x % y) (by have := Nat.mod_lt x (show 0 < y by omega); omega)
      rw [Nat.gcd_comm x y, Nat.gcd_rec, Nat.gcd_comm]
      exact this
def reduceOf (x y : Int) : Int × Int × Int :=
  if (isAmt x && isAmt y) = true then (if y = 0 then (0, 0, 16) else (x / (Nat.gcd x.toNat y.toNat : Nat), y / (Nat.gcd x.toNat y.toNat : Nat), 0)) else (0, 0, 2)
theorem Reduce_ok (x y : Int) : proportion_ReduceP x y = some (reduceOf x y) := by
  unfold proportion_ReduceP proportion_Reduce reduceOf
  simp -implicitDefEqProofs only [Option.bind_some, Option.bind_none, Option.map_some, Option.map_none, cond_true, cond_false, Bool.not_true, Bool.not_false, if_true, if_false, reduceIte, rdRes, rdTT, rdTy, rdLT, rdLeaf_int, rdLeaf_bool, rdLeaf_str, rdLeaf_row, Res.un, TT.un, Ty.un, LT.un, Leaf.un, rdRow_i1, rdRow_i2, rdRow_i3, rdRow_i4, rdRow_i5, rdRow_args, rdRow_res, rdRow_nil, Leaf.plain, LT.plain, List.isEmpty_cons, Bool.and_self, Bool.and_true, Bool.true_and, Bool.or_true, Bool.true_or, Bool.or_false, Bool.false_or, reserve0, rowSV_len, rowSV_cap, rowSV_tail, guardO_true]
  rw [amounts_ok [x, y] (by simp)]
  simp -implicitDefEqProofs only [Option.bind_some, Option.bind_none, Option.map_some, Option.map_none, cond_true, cond_false, Bool.not_true, Bool.not_false, if_true, if_false, reduceIte, rdRes, rdTT, rdTy, rdLT, rdLeaf_int, rdLeaf_bool, rdLeaf_str, rdLeaf_row, Res.un, TT.un, Ty.un, LT.un, Leaf.un, rdRow_i1, rdRow_i2, rdRow_i3, rdRow_i4, rdRow_i5, rdRow_args, rdRow_res, rdRow_nil, Leaf.plain, LT.plain, List.isEmpty_cons, Bool.and_self, Bool.and_true, Bool.true_and, Bool.or_true, Bool.true_or, Bool.or_false, Bool.false_or, reserve0, rowSV_len, rowSV_cap, rowSV_tail, guardO_true, List.all_cons, List.all_nil]
  cases h : (isAmt x && isAmt y) with
  | false => simp -implicitDefEqProofs only [Option.bind_some, Option.bind_none, Option.map_some, Option.map_none, cond_true, cond_false, Bool.not_true, Bool.not_false, if_true, if_false, reduceIte, rdRes, rdTT, rdTy, rdLT, rdLeaf_int, rdLeaf_bool, rdLeaf_str, rdLeaf_row, Res.un, TT.un, Ty.un, LT.un, Leaf.un, rdRow_i1, rdRow_i2, rdRow_i3, rdRow_i4, rdRow_i5, rdRow_args, rdRow_res, rdRow_nil, Leaf.plain, LT.plain, List.isEmpty_cons, Bool.and_self, Bool.and_true, Bool.true_and, Bool.or_true, Bool.true_or, Bool.or_false, Bool.false_or, reserve0, rowSV_len, rowSV_cap, rowSV_tail, guardO_true]; rfl
  | true =>
    simp only [Bool.and_eq_true] at h
    obtain ⟨x, rfl, hx⟩ := isAmt_nat h.1
    obtain ⟨y, rfl, hy⟩ := isAmt_nat h.2
    simp -implicitDefEqProofs only [Option.bind_some, Option.bind_none, Option.map_some, Option.map_none, cond_true, cond_false, Bool.not_true, Bool.not_false, if_true, if_false, reduceIte, rdRes, rdTT, rdTy, rdLT, rdLeaf_int, rdLeaf_bool, rdLeaf_str, rdLeaf_row, Res.un, TT.un, Ty.un, LT.un, Leaf.un, rdRow_i1, rdRow_i2, rdRow_i3, rdRow_i4, rdRow_i5, rdRow_args, rdRow_res, rdRow_nil, Leaf.plain, LT.plain, List.isEmpty_cons, Bool.and_self, Bool.and_true, Bool.true_and, Bool.or_true, Bool.true_or, Bool.or_false, Bool.false_or, reserve0, rowSV_len, rowSV_cap, rowSV_tail, guardO_true]
    by_cases h0 : (y : Int) = 0
    · rw [decide_eq_true h0, if_pos h0]
      simp -implicitDefEqProofs only [Option.bind_some, Option.bind_none, Option.map_some, Option.map_none, cond_true, cond_false, Bool.not_true, Bool.not_false, if_true, if_false, reduceIte, rdRes, rdTT, rdTy, rdLT, rdLeaf_int, rdLeaf_bool, rdLeaf_str, rdLeaf_row, Res.un, TT.un, Ty.un, LT.un, Leaf.un, rdRow_i1, rdRow_i2, rdRow_i3, rdRow_i4, rdRow_i5, rdRow_args, rdRow_res, rdRow_nil, Leaf.plain, LT.plain, List.isEmpty_cons, Bool.and_self, Bool.and_true, Bool.true_and, Bool.or_true, Bool.true_or, Bool.or_false, Bool.false_or, reserve0, rowSV_len, rowSV_cap, rowSV_tail, guardO_true]
    · rw [decide_eq_false h0, if_neg h0, gcd_loop FUEL x y (fuel_gt (by omega))]
      have hg : 0 < Nat.gcd x y := Nat.gcd_pos_of_pos_right _ (by omega)
      simp -implicitDefEqProofs only [Option.bind_some, Option.bind_none, Option.map_some, Option.map_none, cond_true, cond_false, Bool.not_true, Bool.not_false, if_true, if_false, reduceIte, rdRes, rdTT, rdTy, rdLT, rdLeaf_int, rdLeaf_bool, rdLeaf_str, rdLeaf_row, Res.un, TT.un, Ty.un, LT.un, Leaf.un, rdRow_i1, rdRow_i2, rdRow_i3, rdRow_i4, rdRow_i5, rdRow_args, rdRow_res, rdRow_nil, Leaf.plain, LT.plain, List.isEmpty_cons, Bool.and_self, Bool.and_true, Bool.true_and, Bool.or_true, Bool.true_or, Bool.or_false, Bool.false_or, reserve0, rowSV_len, rowSV_cap, rowSV_tail, guardO_true, Int.toNat_natCast]
      rw [guardO_pos (by omega), guardO_pos (by omega), ← Int.ofNat_tdiv, ← Int.ofNat_tdiv]
      have h1 := Nat.div_le_self x (Nat.gcd x y)
      have h2 := Nat.div_le_self y (Nat.gcd x y)
      rw [i64_nat (by omega), i64_nat (by omega)]
      rfl
/-- What is reduced is the same, and has no common divisor. -/
theorem reduce_law {x y : Int} (hx : isAmt x = true) (hy : isAmt y = true) (h0 : y ≠ 0) : ∃ p q : Nat, reduceOf x y = ((p : Int), (q : Int), 0) ∧ Nat.gcd p q = 1 ∧ 0 < q ∧ (p : Int) * y = x * q ∧ (p : Int) ≤ x ∧ (q : Int) ≤ y := by
  obtain ⟨x, rfl, hx'⟩ := isAmt_nat hx
  obtain ⟨y, rfl, hy'⟩ := isAmt_nat hy
  have hg : 0 < Nat.gcd x y := Nat.gcd_pos_of_pos_right _ (by omega)
  have e1 := Nat.div_mul_cancel (Nat.gcd_dvd_left x y)
  have e2 := Nat.div_mul_cancel (Nat.gcd_dvd_right x y)
  have h1 := Nat.div_le_self x (Nat.gcd x y)
  have h2 := Nat.div_le_self y (Nat.gcd x y)
  refine ⟨x / Nat.gcd x y, y / Nat.gcd x y, ?_, Nat.gcd_div_gcd_div_gcd_of_pos_right (by omega), Nat.div_pos (Nat.le_of_dvd (by omega) (Nat.gcd_dvd_right x y)) hg, ?_, by omega, by omega⟩
  · unfold reduceOf
    rw [hx, hy, if_neg h0]
    rfl
  · generalize x / Nat.gcd x y = p at *
    generalize y / Nat.gcd x y = q at *
    generalize Nat.gcd x y = d at *
    rw [← Int.natCast_mul, ← Int.natCast_mul, ← e1, ← e2, Nat.mul_right_comm, Nat.mul_assoc]
def scaled (k : Int) (ws : List Int) (i : Nat) : List Int := (List.range ws.length).map fun j : Nat => if j < i then g ws j * k else g ws j
theorem scaled_length {k : Int} {ws : List Int} {i : Nat} : (scaled k ws i).length = ws.length := by simp [scaled]
theorem g_scaled {k : Int} {ws : List Int} {i j : Nat} (h : j < ws.length) : g (scaled k ws i) j = if j < i then g ws j * k else g ws j := g_ofFn h
theorem scaled_zero {k : Int} {ws : List Int} : scaled k ws 0 = ws := g_ext scaled_length fun j hj => by
  rw [scaled_length] at hj
  rw [g_scaled hj]; simp
theorem scaled_succ {k : Int} {ws : List Int} {i : Nat} (h : i < ws.length) : (scaled k ws i).set i (g ws i * k) = scaled k ws (i + 1) := by
  refine g_ext (by simp [scaled_length]) fun j hj => ?_
  rw [List.length_set, scaled_length] at hj
  rw [g_set (by rw [scaled_length]; exact h), g_scaled hj, g_scaled hj]
  by_cases e : j = i
  · subst e; rw [if_pos rfl, if_pos (by omega)]
  · rw [if_neg e]
    by_cases hk : j < i
    · rw [if_pos hk, if_pos (by omega)]
    · rw [if_neg hk, if_neg (by omega)]
theorem scaled_all {k : Int} {ws : List Int} : scaled k ws ws.length = ws.map (k * ·) := g_ext (by simp [scaled_length]) fun j hj => by
  rw [scaled_length] at hj
  rw [g_scaled hj, if_pos hj, g_map hj, Int.mul_comm]
abbrev c3 (x : Int × Int × Int) : Slot := .own [.int .i64 x.1, .int .i64 x.2.1, .int .i64 x.2.2] 3
theorem rd_c3 {sl : List Slot} {x y z : Int} : rdT (.leaf (.int .i64)) (hL (c3 (x, y, z) :: sl)) (.hp 0 3 0) = some x ∧ rdT (.leaf (.int .i64)) (hL (c3 (x, y, z) :: sl)) (.hp 0 3 1) = some y ∧ rdT (.leaf (.int .i64)) (hL (c3 (x, y, z) :: sl)) (.hp 0 3 2) = some z := by
  have h : (c3 (x, y, z) :: sl)[0]? = some (c3 (x, y, z)) := rfl
  refine ⟨?_, ?_, ?_⟩
  · rw [rd_own (g := 3) h rfl]; rfl
  · rw [rd_own (g := 3) h rfl]; rfl
  · rw [rd_own (g := 3) h rfl]; rfl
/-- A copy, and what is read of it. -/
theorem scales_clone {A : Slot} {f : Bool} {ws : List Int} (sl : List Slot) (hl : ws.length ≤ 2 ^ 36) : ∃ s6 sl1, cloneX 1 8 (rowSV f [.int .i64] ws) (hL (A :: sl)) = some (s6, hL (A :: sl1)) ∧ rdRow true (hL (A :: sl1)) [.int .i64] s6 = some ws ∧
    ((ws.length = 0 ∧ s6 = ⟨.lp true [] 0, 0, 0, false⟩) ∨ (0 < ws.length ∧ s6 = ownSV (sl.length + 1) [.int .i64] ws.length ∧ sl1 = sl ++ [cellI ws])) := by
  have hc := cloneX_row (f := f) (ls := [.int .i64]) (xs := ws) (w := 1) (b := 8) (sl := A :: sl) rfl (by omega) rfl hl (by omega)
  by_cases h : ws.length = 0
  · rw [if_pos h, if_pos h] at hc
    have : ws = [] := List.eq_nil_of_length_eq_zero h
    exact ⟨_, _, hc, by rw [this]; exact rdRow_nil, .inl ⟨h, rfl⟩⟩
  · rw [if_neg h, if_neg h] at hc
    refine ⟨_, sl ++ [cellI ws], hc, ?_, .inr ⟨by omega, rfl, rfl⟩⟩
    exact rdRow_own (lp := true) (ls := [.int .i64]) (xs := ws) (sl := A :: (sl ++ [cellI ws])) (id := sl.length + 1) (e := 1) (n := ws.length * 1) (c := ws.length) (t := true) (by simp) (by simp) rfl
theorem scales_loop {A : Slot} {ws : List Int} {c k : Int} (sl : List Slot) (hl : ws.length < 2 ^ 63) (hk : IntKind.wrap .i64 (1 + Int.tmod (maxI c 0) 1000) = k) (hk1 : 1 ≤ k ∧ k ≤ 1000) :
    ∃ r, iter FUEL (spilelaw01_ProportionScales.loop1 c (ownSV (sl.length + 1) [.int .i64] ws.length)) (0, hL (A :: (sl ++ [cellI ws]))) = some r ∧ (r.1 = .ret true ∨ r = (.ex0 (), hL (A :: (sl ++ [cellI (scaled k ws ws.length)])))) := by
  have hsl : ∀ (c : List Int), (A :: (sl ++ [cellI c]))[sl.length + 1]? = some (cellI c) := fun c => by simp
  have hset : ∀ (c c' : List Int), (A :: (sl ++ [cellI c])).set (sl.length + 1) (cellI c') = A :: (sl ++ [cellI c']) := fun c c' => by simp
  have hs := iter_scan (f := spilelaw01_ProportionScales.loop1 c (ownSV (sl.length + 1) [.int .i64] ws.length)) (y := (.ex0 (), hL (A :: (sl ++ [cellI (scaled k ws ws.length)]))))
    (fun i => if isAmt (g ws i) = true then none else some (.ret true, hL (A :: (sl ++ [cellI (scaled k ws i)])))) ws.length (fun i => ((i : Int), hL (A :: (sl ++ [cellI (scaled k ws i)])))) FUEL (fun i hi => ?_) ?_ (fuel_gt (by omega))
  · rw [scaled_zero] at hs
    refine ⟨_, hs, ?_⟩
    cases hf : (List.range ws.length).findSome? (fun i => if isAmt (g ws i) = true then none else some ((.ret true, hL (A :: (sl ++ [cellI (scaled k ws i)]))) : Flow Unit Bool × H)) with
    | none => exact .inr rfl
    | some r =>
      refine .inl ?_
      obtain ⟨i, _, hi⟩ := List.exists_of_findSome?_eq_some hf
      split at hi
      · cases hi
      · cases hi; rfl
  · have d := rd_ownL0 (ls := [.int .i64]) (l := .int .i64) (xs := scaled k ws i) (sl := A :: (sl ++ [cellI (scaled k ws i)])) (id := sl.length + 1) (n := ws.length) (i := i) (w := 1) (e := 1) (hsl _) (by simp [scaled_length]) rfl (by omega)
    rw [g_some (by rw [scaled_length]; omega), g_scaled hi, if_neg (by omega)] at d
    have dw := wrs_ownL (ls := [.int .i64]) (xs := scaled k ws i) (sl := A :: (sl ++ [cellI (scaled k ws i)])) (id := sl.length + 1) (i := i) (w := 1) (e := 1) (n := ws.length) (x := g ws i * k) (vs := [.int .i64 (g ws i * k)]) (hsl _) (by simp [scaled_length]) rfl (by rw [scaled_length]; omega) rfl
    rw [scaled_succ hi] at dw
    simp only [Option.bind_some, LT.lo, Leaf.lo, List.getElem?_cons_zero, Leaf.pack] at d
    have hg1 : 0 ≤ (i : Int) ∧ (i : Int) < (ws.length : Int) := by omega
    unfold spilelaw01_ProportionScales.loop1
    simp -implicitDefEqProofs only [Int.toNat_natCast, ownSV_len, ownSV_ptr, List.length_cons, List.length_nil, Nat.zero_add, Nat.mul_one, guardO_pos hg1, hk, add_hp]
    rw [Nat.mul_one] at d dw
    rw [decide_eq_true hg1.2, cond_true, d]
    simp -implicitDefEqProofs only [Option.bind_some, Option.bind_none, Option.map_some, Option.map_none, cond_true, cond_false, Bool.not_true, Bool.not_false, if_true, if_false, reduceIte, rdRes, rdTT, rdTy, rdLT, rdLeaf_int, rdLeaf_bool, rdLeaf_str, rdLeaf_row, Res.un, TT.un, Ty.un, LT.un, Leaf.un, rdRow_i1, rdRow_i2, rdRow_i3, rdRow_i4, rdRow_i5, rdRow_args, rdRow_res, rdRow_nil, Leaf.plain, LT.plain, List.isEmpty_cons, Bool.and_self, Bool.and_true, Bool.true_and, Bool.or_true, Bool.true_or, Bool.or_false, Bool.false_or, reserve0, rowSV_len, rowSV_cap, rowSV_tail, guardO_true]
    by_cases ha : isAmt (g ws i) = true
    · rw [if_pos ha]
      have ha' := isAmt_iff.1 ha
      rw [decide_eq_false (show ¬ g ws i < 0 by omega), decide_eq_false (show ¬ 128849018880000 < g ws i by omega)]
      simp -implicitDefEqProofs only [Option.bind_some, Option.bind_none, Option.map_some, Option.map_none, cond_true, cond_false, Bool.not_true, Bool.not_false, if_true, if_false, reduceIte, rdRes, rdTT, rdTy, rdLT, rdLeaf_int, rdLeaf_bool, rdLeaf_str, rdLeaf_row, Res.un, TT.un, Ty.un, LT.un, Leaf.un, rdRow_i1, rdRow_i2, rdRow_i3, rdRow_i4, rdRow_i5, rdRow_args, rdRow_res, rdRow_nil, Leaf.plain, LT.plain, List.isEmpty_cons, Bool.and_self, Bool.and_true, Bool.true_and, Bool.or_true, Bool.true_or, Bool.or_false, Bool.false_or, reserve0, rowSV_len, rowSV_cap, rowSV_tail, guardO_true]
      have hb : g ws i * k ≤ 128849018880000 * 1000 := Int.mul_le_mul ha'.2 hk1.2 (by omega) (by omega)
      have hb0 : 0 ≤ g ws i * k := Int.mul_nonneg ha'.1 (by omega)
      rw [i64_in _ (by omega), dw]
      simp -implicitDefEqProofs only [Option.bind_some, Option.bind_none, Option.map_some, Option.map_none, cond_true, cond_false, Bool.not_true, Bool.not_false, if_true, if_false, reduceIte, rdRes, rdTT, rdTy, rdLT, rdLeaf_int, rdLeaf_bool, rdLeaf_str, rdLeaf_row, Res.un, TT.un, Ty.un, LT.un, Leaf.un, rdRow_i1, rdRow_i2, rdRow_i3, rdRow_i4, rdRow_i5, rdRow_args, rdRow_res, rdRow_nil, Leaf.plain, LT.plain, List.isEmpty_cons, Bool.and_self, Bool.and_true, Bool.true_and, Bool.or_true, Bool.true_or, Bool.or_false, Bool.false_or, reserve0, rowSV_len, rowSV_cap, rowSV_tail, guardO_true]
      rw [i64_succ (by omega)]
      exact congrArg (fun z => some (Stp.more (((i + 1 : Nat) : Int), hL z))) (hset _ _)
    · rw [if_neg ha]
      rw [isAmt_iff] at ha
      by_cases hn : g ws i < 0
      · rw [decide_eq_true hn]
        simp -implicitDefEqProofs only [Option.bind_some, Option.bind_none, Option.map_some, Option.map_none, cond_true, cond_false, Bool.not_true, Bool.not_false, if_true, if_false, reduceIte, rdRes, rdTT, rdTy, rdLT, rdLeaf_int, rdLeaf_bool, rdLeaf_str, rdLeaf_row, Res.un, TT.un, Ty.un, LT.un, Leaf.un, rdRow_i1, rdRow_i2, rdRow_i3, rdRow_i4, rdRow_i5, rdRow_args, rdRow_res, rdRow_nil, Leaf.plain, LT.plain, List.isEmpty_cons, Bool.and_self, Bool.and_true, Bool.true_and, Bool.or_true, Bool.true_or, Bool.or_false, Bool.false_or, reserve0, rowSV_len, rowSV_cap, rowSV_tail, guardO_true]
      · rw [decide_eq_false hn, decide_eq_true (show 128849018880000 < g ws i by omega)]
        simp -implicitDefEqProofs only [Option.bind_some, Option.bind_none, Option.map_some, Option.map_none, cond_true, cond_false, Bool.not_true, Bool.not_false, if_true, if_false, reduceIte, rdRes, rdTT, rdTy, rdLT, rdLeaf_int, rdLeaf_bool, rdLeaf_str, rdLeaf_row, Res.un, TT.un, Ty.un, LT.un, Leaf.un, rdRow_i1, rdRow_i2, rdRow_i3, rdRow_i4, rdRow_i5, rdRow_args, rdRow_res, rdRow_nil, Leaf.plain, LT.plain, List.isEmpty_cons, Bool.and_self, Bool.and_true, Bool.true_and, Bool.or_true, Bool.true_or, Bool.or_false, Bool.false_or, reserve0, rowSV_len, rowSV_cap, rowSV_tail, guardO_true]
  · unfold spilelaw01_ProportionScales.loop1
    simp -implicitDefEqProofs only [ownSV_len]
    rw [decide_eq_false (by omega), cond_false]
theorem scaled_parts {a k : Int} {ws : List Int} (hk : 0 < k) (h1 : (divideOf a ws).2 = 0) (h2 : (divideOf a (ws.map (k * ·))).2 = 0) : (divideOf a ws).1 = (divideOf a (ws.map (k * ·))).1 := by
  have e : ∀ (ws : List Int), (divideOf a ws).2 = 0 → (weighOf a ws).2 = 0 := fun ws h => by
    unfold divideOf at h
    by_cases c : (weighOf a ws).2 = 0
    · exact c
    · rw [if_neg c] at h; exact h
  have e1 := e _ h1
  have e2 := e _ h2
  unfold divideOf
  rw [if_pos e1, if_pos e2, (weighOf_ok e1).2.2.2.2.2.2, (weighOf_ok e2).2.2.2.2.2.2, sum_scale, divParts_scale hk]
theorem divideOf_short (a : Int) (ws : List Int) : (divideOf a ws).1.length ≤ ws.length := by
  unfold divideOf
  split
  · rw [divParts_length]; exact Nat.le_refl _
  · simp
theorem ProportionScales_ok (a : Int) (ws : List Int) (x : Int × Int × Int) : spilelaw01_ProportionScalesP a ws x = some true := by
  obtain ⟨x, y, c⟩ := x
  unfold spilelaw01_ProportionScalesP spilelaw01_ProportionScales
  simp -implicitDefEqProofs only [awake01, Option.bind_some, Option.bind_none, Option.map_some, Option.map_none, cond_true, cond_false, Bool.not_true, Bool.not_false, if_true, if_false, reduceIte, rdRes, rdTT, rdTy, rdLT, rdLeaf_int, rdLeaf_bool, rdLeaf_str, rdLeaf_row, Res.un, TT.un, Ty.un, LT.un, Leaf.un, rdRow_i1, rdRow_i2, rdRow_i3, rdRow_i4, rdRow_i5, rdRow_args, rdRow_res, rdRow_nil, Leaf.plain, LT.plain, List.isEmpty_cons, Bool.and_self, Bool.and_true, Bool.true_and, Bool.or_true, Bool.true_or, Bool.or_false, Bool.false_or, reserve0, rowSV_len, rowSV_cap, rowSV_tail, guardO_true, Few_ok, hL_empty, hL_new, List.nil_append]
  by_cases h65 : (ws.length : Int) ≤ 65
  · rw [decide_eq_true h65]
    obtain ⟨s6, sl1, hc1, hr1, _⟩ := scales_clone (A := c3 (x, y, c)) (f := false) (ws := ws) [] (by omega)
    obtain ⟨s11, sl2, hc2, hr2, hcase⟩ := scales_clone (A := c3 (x, y, c)) (f := false) (ws := ws) sl1 (by omega)
    have hd0 := (rd_c3 (sl := []) (x := x) (y := y) (z := c))
    obtain ⟨k, hk⟩ : ∃ k, IntKind.wrap .i64 (1 + Int.tmod (maxI c 0) 1000) = k := ⟨_, rfl⟩
    have hk1 : 1 ≤ k ∧ k ≤ 1000 := by
      rw [maxI_eq, Int.tmod_eq_emod_of_nonneg (by omega), i64_in _ (by omega)] at hk
      omega
    have hn : (List.length ([] : List Slot)) = 0 := rfl
    simp only [c3] at hc1 hc2 hd0 hr1 hr2
    simp -implicitDefEqProofs only [Option.bind_some, Option.bind_none, Option.map_some, Option.map_none, cond_true, cond_false, Bool.not_true, Bool.not_false, if_true, if_false, reduceIte, rdRes, rdTT, rdTy, rdLT, rdLeaf_int, rdLeaf_bool, rdLeaf_str, rdLeaf_row, Res.un, TT.un, Ty.un, LT.un, Leaf.un, rdRow_i1, rdRow_i2, rdRow_i3, rdRow_i4, rdRow_i5, rdRow_args, rdRow_res, rdRow_nil, Leaf.plain, LT.plain, List.isEmpty_cons, Bool.and_self, Bool.and_true, Bool.true_and, Bool.or_true, Bool.true_or, Bool.or_false, Bool.false_or, reserve0, rowSV_len, rowSV_cap, rowSV_tail, guardO_true, hL_next, List.length_nil]
    rw [hd0.2.2]
    simp -implicitDefEqProofs only [Option.bind_some, Option.bind_none, Option.map_some, Option.map_none, cond_true, cond_false, Bool.not_true, Bool.not_false, if_true, if_false, reduceIte, rdRes, rdTT, rdTy, rdLT, rdLeaf_int, rdLeaf_bool, rdLeaf_str, rdLeaf_row, Res.un, TT.un, Ty.un, LT.un, Leaf.un, rdRow_i1, rdRow_i2, rdRow_i3, rdRow_i4, rdRow_i5, rdRow_args, rdRow_res, rdRow_nil, Leaf.plain, LT.plain, List.isEmpty_cons, Bool.and_self, Bool.and_true, Bool.true_and, Bool.or_true, Bool.true_or, Bool.or_false, Bool.false_or, reserve0, rowSV_len, rowSV_cap, rowSV_tail, guardO_true]
    rw [hc1]
    simp -implicitDefEqProofs only [Option.bind_some, Option.bind_none, Option.map_some, Option.map_none, cond_true, cond_false, Bool.not_true, Bool.not_false, if_true, if_false, reduceIte, rdRes, rdTT, rdTy, rdLT, rdLeaf_int, rdLeaf_bool, rdLeaf_str, rdLeaf_row, Res.un, TT.un, Ty.un, LT.un, Leaf.un, rdRow_i1, rdRow_i2, rdRow_i3, rdRow_i4, rdRow_i5, rdRow_args, rdRow_res, rdRow_nil, Leaf.plain, LT.plain, List.isEmpty_cons, Bool.and_self, Bool.and_true, Bool.true_and, Bool.or_true, Bool.true_or, Bool.or_false, Bool.false_or, reserve0, rowSV_len, rowSV_cap, rowSV_tail, guardO_true]
    rw [hr1]
    simp -implicitDefEqProofs only [Option.bind_some, Option.bind_none, Option.map_some, Option.map_none, cond_true, cond_false, Bool.not_true, Bool.not_false, if_true, if_false, reduceIte, rdRes, rdTT, rdTy, rdLT, rdLeaf_int, rdLeaf_bool, rdLeaf_str, rdLeaf_row, Res.un, TT.un, Ty.un, LT.un, Leaf.un, rdRow_i1, rdRow_i2, rdRow_i3, rdRow_i4, rdRow_i5, rdRow_args, rdRow_res, rdRow_nil, Leaf.plain, LT.plain, List.isEmpty_cons, Bool.and_self, Bool.and_true, Bool.true_and, Bool.or_true, Bool.true_or, Bool.or_false, Bool.false_or, reserve0, rowSV_len, rowSV_cap, rowSV_tail, guardO_true]
    rw [Divide_ok _ _ (by omega)]
    simp -implicitDefEqProofs only [Option.bind_some, Option.bind_none, Option.map_some, Option.map_none, cond_true, cond_false, Bool.not_true, Bool.not_false, if_true, if_false, reduceIte, rdRes, rdTT, rdTy, rdLT, rdLeaf_int, rdLeaf_bool, rdLeaf_str, rdLeaf_row, Res.un, TT.un, Ty.un, LT.un, Leaf.un, rdRow_i1, rdRow_i2, rdRow_i3, rdRow_i4, rdRow_i5, rdRow_args, rdRow_res, rdRow_nil, Leaf.plain, LT.plain, List.isEmpty_cons, Bool.and_self, Bool.and_true, Bool.true_and, Bool.or_true, Bool.true_or, Bool.or_false, Bool.false_or, reserve0, rowSV_len, rowSV_cap, rowSV_tail, guardO_true]
    rw [hc2]
    simp -implicitDefEqProofs only [Option.bind_some, Option.bind_none, Option.map_some, Option.map_none, cond_true, cond_false, Bool.not_true, Bool.not_false, if_true, if_false, reduceIte, rdRes, rdTT, rdTy, rdLT, rdLeaf_int, rdLeaf_bool, rdLeaf_str, rdLeaf_row, Res.un, TT.un, Ty.un, LT.un, Leaf.un, rdRow_i1, rdRow_i2, rdRow_i3, rdRow_i4, rdRow_i5, rdRow_args, rdRow_res, rdRow_nil, Leaf.plain, LT.plain, List.isEmpty_cons, Bool.and_self, Bool.and_true, Bool.true_and, Bool.or_true, Bool.true_or, Bool.or_false, Bool.false_or, reserve0, rowSV_len, rowSV_cap, rowSV_tail, guardO_true]
    have hloop : ∃ r, iter FUEL (spilelaw01_ProportionScales.loop1 c s11) (0, hL (c3 (x, y, c) :: sl2)) = some r ∧ (r.1 = .ret true ∨ ∃ sl3, r = (.ex0 (), hL (c3 (x, y, c) :: sl3)) ∧ rdRow true (hL (c3 (x, y, c) :: sl3)) [.int .i64] s11 = some (ws.map (k * ·))) := by
      rcases hcase with ⟨h0, rfl⟩ | ⟨h0, rfl, rfl⟩
      · have : ws = [] := List.eq_nil_of_length_eq_zero h0
        subst this
        refine ⟨(.ex0 (), hL (c3 (x, y, c) :: sl2)), ?_, .inr ⟨sl2, rfl, rdRow_nil⟩⟩
        refine iter_run (fun _ => (0, hL (c3 (x, y, c) :: sl2))) 0 FUEL (fun i hi => by omega) ?_ (fuel_gt (by omega))
        unfold spilelaw01_ProportionScales.loop1
        rfl
      · obtain ⟨r, h1, h2⟩ := scales_loop (A := c3 (x, y, c)) (ws := ws) (c := c) (k := k) sl1 (by omega) hk hk1
        refine ⟨r, h1, ?_⟩
        rcases h2 with h2 | h2
        · exact .inl h2
        · refine .inr ⟨_, h2, ?_⟩
          rw [scaled_all]
          have hread := rdRow_own (lp := true) (ls := [.int .i64]) (xs := ws.map (k * ·)) (sl := c3 (x, y, c) :: (sl1 ++ [cellI (ws.map (k * ·))])) (id := sl1.length + 1) (e := 1) (n := ws.length * 1) (c := ws.length) (t := true) (by simp) (by simp) rfl
          rw [List.length_map] at hread
          exact hread
    obtain ⟨r, h1, h2⟩ := hloop
    simp only [c3] at h1 h2
    rw [h1]
    rcases h2 with h2 | ⟨sl3, rfl, h3⟩
    · obtain ⟨r1, r2⟩ := r
      simp only at h2
      subst h2
      simp -implicitDefEqProofs only [Option.bind_some, Option.bind_none, Option.map_some, Option.map_none, cond_true, cond_false, Bool.not_true, Bool.not_false, if_true, if_false, reduceIte, rdRes, rdTT, rdTy, rdLT, rdLeaf_int, rdLeaf_bool, rdLeaf_str, rdLeaf_row, Res.un, TT.un, Ty.un, LT.un, Leaf.un, rdRow_i1, rdRow_i2, rdRow_i3, rdRow_i4, rdRow_i5, rdRow_args, rdRow_res, rdRow_nil, Leaf.plain, LT.plain, List.isEmpty_cons, Bool.and_self, Bool.and_true, Bool.true_and, Bool.or_true, Bool.true_or, Bool.or_false, Bool.false_or, reserve0, rowSV_len, rowSV_cap, rowSV_tail, guardO_true]
    · have hd := (rd_c3 (sl := sl3) (x := x) (y := y) (z := c))
      simp only [c3] at hd
      simp -implicitDefEqProofs only [Option.bind_some, Option.bind_none, Option.map_some, Option.map_none, cond_true, cond_false, Bool.not_true, Bool.not_false, if_true, if_false, reduceIte, rdRes, rdTT, rdTy, rdLT, rdLeaf_int, rdLeaf_bool, rdLeaf_str, rdLeaf_row, Res.un, TT.un, Ty.un, LT.un, Leaf.un, rdRow_i1, rdRow_i2, rdRow_i3, rdRow_i4, rdRow_i5, rdRow_args, rdRow_res, rdRow_nil, Leaf.plain, LT.plain, List.isEmpty_cons, Bool.and_self, Bool.and_true, Bool.true_and, Bool.or_true, Bool.true_or, Bool.or_false, Bool.false_or, reserve0, rowSV_len, rowSV_cap, rowSV_tail, guardO_true]
      rw [h3]
      simp -implicitDefEqProofs only [Option.bind_some, Option.bind_none, Option.map_some, Option.map_none, cond_true, cond_false, Bool.not_true, Bool.not_false, if_true, if_false, reduceIte, rdRes, rdTT, rdTy, rdLT, rdLeaf_int, rdLeaf_bool, rdLeaf_str, rdLeaf_row, Res.un, TT.un, Ty.un, LT.un, Leaf.un, rdRow_i1, rdRow_i2, rdRow_i3, rdRow_i4, rdRow_i5, rdRow_args, rdRow_res, rdRow_nil, Leaf.plain, LT.plain, List.isEmpty_cons, Bool.and_self, Bool.and_true, Bool.true_and, Bool.or_true, Bool.true_or, Bool.or_false, Bool.false_or, reserve0, rowSV_len, rowSV_cap, rowSV_tail, guardO_true]
      rw [Divide_ok _ _ (by rw [List.length_map]; omega)]
      simp -implicitDefEqProofs only [Option.bind_some, Option.bind_none, Option.map_some, Option.map_none, cond_true, cond_false, Bool.not_true, Bool.not_false, if_true, if_false, reduceIte, rdRes, rdTT, rdTy, rdLT, rdLeaf_int, rdLeaf_bool, rdLeaf_str, rdLeaf_row, Res.un, TT.un, Ty.un, LT.un, Leaf.un, rdRow_i1, rdRow_i2, rdRow_i3, rdRow_i4, rdRow_i5, rdRow_args, rdRow_res, rdRow_nil, Leaf.plain, LT.plain, List.isEmpty_cons, Bool.and_self, Bool.and_true, Bool.true_and, Bool.or_true, Bool.true_or, Bool.or_false, Bool.false_or, reserve0, rowSV_len, rowSV_cap, rowSV_tail, guardO_true]
      have hlen := divideOf_short a ws
      rw [EqualI_ok _ _ (by omega)]
      have hfirst : ∀ {R : Type} (h : H) (K : Bool × H → Option R), ((bif decide ((divideOf a ws).2 = 0) then (bif decide ((divideOf a (ws.map (k * ·))).2 = 0) then (some (!decide ((divideOf a ws).1 = (divideOf a (ws.map (k * ·))).1), h)) else some (false, h)) else some (false, h) : Option (Bool × H)).bind K) = K (false, h) := fun h K => by
        by_cases e1 : (divideOf a ws).2 = 0
        · rw [decide_eq_true e1]
          by_cases e2 : (divideOf a (ws.map (k * ·))).2 = 0
          · rw [decide_eq_true e2, decide_eq_true (scaled_parts (by omega) e1 e2)]; rfl
          · rw [decide_eq_false e2]; rfl
        · rw [decide_eq_false e1]; rfl
      simp -implicitDefEqProofs only [Option.bind_some, Option.bind_none, Option.map_some, Option.map_none, cond_true, cond_false, Bool.not_true, Bool.not_false, if_true, if_false, reduceIte, rdRes, rdTT, rdTy, rdLT, rdLeaf_int, rdLeaf_bool, rdLeaf_str, rdLeaf_row, Res.un, TT.un, Ty.un, LT.un, Leaf.un, rdRow_i1, rdRow_i2, rdRow_i3, rdRow_i4, rdRow_i5, rdRow_args, rdRow_res, rdRow_nil, Leaf.plain, LT.plain, List.isEmpty_cons, Bool.and_self, Bool.and_true, Bool.true_and, Bool.or_true, Bool.true_or, Bool.or_false, Bool.false_or, reserve0, rowSV_len, rowSV_cap, rowSV_tail, guardO_true]
      rw [hfirst]
      simp -implicitDefEqProofs only [Option.bind_some, Option.bind_none, Option.map_some, Option.map_none, cond_true, cond_false, Bool.not_true, Bool.not_false, if_true, if_false, reduceIte, rdRes, rdTT, rdTy, rdLT, rdLeaf_int, rdLeaf_bool, rdLeaf_str, rdLeaf_row, Res.un, TT.un, Ty.un, LT.un, Leaf.un, rdRow_i1, rdRow_i2, rdRow_i3, rdRow_i4, rdRow_i5, rdRow_args, rdRow_res, rdRow_nil, Leaf.plain, LT.plain, List.isEmpty_cons, Bool.and_self, Bool.and_true, Bool.true_and, Bool.or_true, Bool.true_or, Bool.or_false, Bool.false_or, reserve0, rowSV_len, rowSV_cap, rowSV_tail, guardO_true, hd.1, hd.2.1]
      rw [Reduce_ok]
      by_cases hxy : isAmt x = true ∧ isAmt y = true ∧ y ≠ 0
      · obtain ⟨p, q, e1, e2, e3, e4, e5, e6⟩ := reduce_law hxy.1 hxy.2.1 hxy.2.2
        rw [e1]
        simp -implicitDefEqProofs only [Option.bind_some, Option.bind_none, Option.map_some, Option.map_none, cond_true, cond_false, Bool.not_true, Bool.not_false, if_true, if_false, reduceIte, rdRes, rdTT, rdTy, rdLT, rdLeaf_int, rdLeaf_bool, rdLeaf_str, rdLeaf_row, Res.un, TT.un, Ty.un, LT.un, Leaf.un, rdRow_i1, rdRow_i2, rdRow_i3, rdRow_i4, rdRow_i5, rdRow_args, rdRow_res, rdRow_nil, Leaf.plain, LT.plain, List.isEmpty_cons, Bool.and_self, Bool.and_true, Bool.true_and, Bool.or_true, Bool.true_or, Bool.or_false, Bool.false_or, reserve0, rowSV_len, rowSV_cap, rowSV_tail, guardO_true, eq_self, decide_true, hd.1, hd.2.1, hk]
        rw [Compare_ok]
        have hx := isAmt_iff.1 hxy.1
        have hy := isAmt_iff.1 hxy.2.1
        have hcmp : cmpOf (p : Int) (q : Int) x y = (0, 0) := by
          unfold cmpOf
          rw [isAmt_iff.2 (show 0 ≤ (p : Int) ∧ (p : Int) ≤ 128849018880000 by omega), isAmt_iff.2 (show 0 ≤ (q : Int) ∧ (q : Int) ≤ 128849018880000 by omega), hxy.1, hxy.2.1]
          simp only [Bool.and_self, if_true]
          rw [if_neg (by omega), if_neg (by omega), if_neg (by omega)]
        rw [hcmp]
        simp -implicitDefEqProofs only [Option.bind_some, Option.bind_none, Option.map_some, Option.map_none, cond_true, cond_false, Bool.not_true, Bool.not_false, if_true, if_false, reduceIte, rdRes, rdTT, rdTy, rdLT, rdLeaf_int, rdLeaf_bool, rdLeaf_str, rdLeaf_row, Res.un, TT.un, Ty.un, LT.un, Leaf.un, rdRow_i1, rdRow_i2, rdRow_i3, rdRow_i4, rdRow_i5, rdRow_args, rdRow_res, rdRow_nil, Leaf.plain, LT.plain, List.isEmpty_cons, Bool.and_self, Bool.and_true, Bool.true_and, Bool.or_true, Bool.true_or, Bool.or_false, Bool.false_or, reserve0, rowSV_len, rowSV_cap, rowSV_tail, guardO_true, eq_self, decide_true]
        rw [decide_eq_true (show (0 : Int) < (q : Int) by omega)]
        simp -implicitDefEqProofs only [Option.bind_some, Option.bind_none, Option.map_some, Option.map_none, cond_true, cond_false, Bool.not_true, Bool.not_false, if_true, if_false, reduceIte, rdRes, rdTT, rdTy, rdLT, rdLeaf_int, rdLeaf_bool, rdLeaf_str, rdLeaf_row, Res.un, TT.un, Ty.un, LT.un, Leaf.un, rdRow_i1, rdRow_i2, rdRow_i3, rdRow_i4, rdRow_i5, rdRow_args, rdRow_res, rdRow_nil, Leaf.plain, LT.plain, List.isEmpty_cons, Bool.and_self, Bool.and_true, Bool.true_and, Bool.or_true, Bool.true_or, Bool.or_false, Bool.false_or, reserve0, rowSV_len, rowSV_cap, rowSV_tail, guardO_true]
        by_cases hk2 : k = 1
        · rw [decide_eq_true hk2]
          simp -implicitDefEqProofs only [Option.bind_some, Option.bind_none, Option.map_some, Option.map_none, cond_true, cond_false, Bool.not_true, Bool.not_false, if_true, if_false, reduceIte, rdRes, rdTT, rdTy, rdLT, rdLeaf_int, rdLeaf_bool, rdLeaf_str, rdLeaf_row, Res.un, TT.un, Ty.un, LT.un, Leaf.un, rdRow_i1, rdRow_i2, rdRow_i3, rdRow_i4, rdRow_i5, rdRow_args, rdRow_res, rdRow_nil, Leaf.plain, LT.plain, List.isEmpty_cons, Bool.and_self, Bool.and_true, Bool.true_and, Bool.or_true, Bool.true_or, Bool.or_false, Bool.false_or, reserve0, rowSV_len, rowSV_cap, rowSV_tail, guardO_true]
        · obtain ⟨m, rfl⟩ : ∃ m : Nat, k = (m : Int) := ⟨k.toNat, by omega⟩
          rw [decide_eq_false hk2]
          have hg : (m : Int) ≠ 0 := by omega
          simp -implicitDefEqProofs only [Option.bind_some, Option.bind_none, Option.map_some, Option.map_none, cond_true, cond_false, Bool.not_true, Bool.not_false, if_true, if_false, reduceIte, rdRes, rdTT, rdTy, rdLT, rdLeaf_int, rdLeaf_bool, rdLeaf_str, rdLeaf_row, Res.un, TT.un, Ty.un, LT.un, Leaf.un, rdRow_i1, rdRow_i2, rdRow_i3, rdRow_i4, rdRow_i5, rdRow_args, rdRow_res, rdRow_nil, Leaf.plain, LT.plain, List.isEmpty_cons, Bool.and_self, Bool.and_true, Bool.true_and, Bool.or_true, Bool.true_or, Bool.or_false, Bool.false_or, reserve0, rowSV_len, rowSV_cap, rowSV_tail, guardO_true, guardO_pos hg, ← Int.ofNat_tmod]
          by_cases hp : p % m = 0
          · have hq : ¬ q % m = 0 := fun hq => by
              have := Nat.dvd_gcd (Nat.dvd_of_mod_eq_zero hp) (Nat.dvd_of_mod_eq_zero hq)
              rw [e2] at this
              have := Nat.le_of_dvd (by omega) this
              omega
            rw [decide_eq_true (show ((p % m : Nat) : Int) = 0 by omega), decide_eq_false (show ¬ ((q % m : Nat) : Int) = 0 by omega)]
            simp -implicitDefEqProofs only [Option.bind_some, Option.bind_none, Option.map_some, Option.map_none, cond_true, cond_false, Bool.not_true, Bool.not_false, if_true, if_false, reduceIte, rdRes, rdTT, rdTy, rdLT, rdLeaf_int, rdLeaf_bool, rdLeaf_str, rdLeaf_row, Res.un, TT.un, Ty.un, LT.un, Leaf.un, rdRow_i1, rdRow_i2, rdRow_i3, rdRow_i4, rdRow_i5, rdRow_args, rdRow_res, rdRow_nil, Leaf.plain, LT.plain, List.isEmpty_cons, Bool.and_self, Bool.and_true, Bool.true_and, Bool.or_true, Bool.true_or, Bool.or_false, Bool.false_or, reserve0, rowSV_len, rowSV_cap, rowSV_tail, guardO_true]
          · rw [decide_eq_false (show ¬ ((p % m : Nat) : Int) = 0 by omega)]
            simp -implicitDefEqProofs only [Option.bind_some, Option.bind_none, Option.map_some, Option.map_none, cond_true, cond_false, Bool.not_true, Bool.not_false, if_true, if_false, reduceIte, rdRes, rdTT, rdTy, rdLT, rdLeaf_int, rdLeaf_bool, rdLeaf_str, rdLeaf_row, Res.un, TT.un, Ty.un, LT.un, Leaf.un, rdRow_i1, rdRow_i2, rdRow_i3, rdRow_i4, rdRow_i5, rdRow_args, rdRow_res, rdRow_nil, Leaf.plain, LT.plain, List.isEmpty_cons, Bool.and_self, Bool.and_true, Bool.true_and, Bool.or_true, Bool.true_or, Bool.or_false, Bool.false_or, reserve0, rowSV_len, rowSV_cap, rowSV_tail, guardO_true]
      · have hred : (reduceOf x y).1 = 0 ∧ (reduceOf x y).2.1 = 0 ∧ (reduceOf x y).2.2 ≠ 0 := by
          unfold reduceOf
          by_cases h1 : (isAmt x && isAmt y) = true
          · rw [if_pos h1]
            simp only [Bool.and_eq_true] at h1
            have : y = 0 := by
              refine Classical.byContradiction fun h => hxy ⟨h1.1, h1.2, h⟩
            rw [if_pos this]
            simp
          · rw [if_neg h1]; simp
        generalize reduceOf x y = z at *
        obtain ⟨z1, z2, z3⟩ := z
        obtain ⟨rfl, rfl, h⟩ := hred
        simp only at h
        simp -implicitDefEqProofs only [Option.bind_some, Option.bind_none, Option.map_some, Option.map_none, cond_true, cond_false, Bool.not_true, Bool.not_false, if_true, if_false, reduceIte, rdRes, rdTT, rdTy, rdLT, rdLeaf_int, rdLeaf_bool, rdLeaf_str, rdLeaf_row, Res.un, TT.un, Ty.un, LT.un, Leaf.un, rdRow_i1, rdRow_i2, rdRow_i3, rdRow_i4, rdRow_i5, rdRow_args, rdRow_res, rdRow_nil, Leaf.plain, LT.plain, List.isEmpty_cons, Bool.and_self, Bool.and_true, Bool.true_and, Bool.or_true, Bool.true_or, Bool.or_false, Bool.false_or, reserve0, rowSV_len, rowSV_cap, rowSV_tail, guardO_true]
        rw [decide_eq_false h]
        rfl
  · rw [decide_eq_false h65]
    simp -implicitDefEqProofs only [Option.bind_some, Option.bind_none, Option.map_some, Option.map_none, cond_true, cond_false, Bool.not_true, Bool.not_false, if_true, if_false, reduceIte, rdRes, rdTT, rdTy, rdLT, rdLeaf_int, rdLeaf_bool, rdLeaf_str, rdLeaf_row, Res.un, TT.un, Ty.un, LT.un, Leaf.un, rdRow_i1, rdRow_i2, rdRow_i3, rdRow_i4, rdRow_i5, rdRow_args, rdRow_res, rdRow_nil, Leaf.plain, LT.plain, List.isEmpty_cons, Bool.and_self, Bool.and_true, Bool.true_and, Bool.or_true, Bool.true_or, Bool.or_false, Bool.false_or, reserve0, rowSV_len, rowSV_cap, rowSV_tail, guardO_true]
end Go.Proofs.Ytadlfinlbaogeaa
