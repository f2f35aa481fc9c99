/- What Sum of package loss and of its reference compute. Conditions: those of each law. -/
import Derived.Test.YtadlfinlbaogeaaS32b
namespace Go.Proofs.Ytadlfinlbaogeaa
open Go Go.Proofs.Ytadlfinlbaogeaa.Ev
set_option linter.unusedVariables false
set_option linter.unusedSimpArgs false
set_option maxRecDepth 100000
set_option maxHeartbeats 4000000
def inR (x : L4) : Bool := isAlc x.1 && (isAlc x.2.1 && (isAlc x.2.2.1 && isAlc x.2.2.2))
def add4 (x y : L4) : L4 := (x.1 + y.1, x.2.1 + y.2.1, x.2.2.1 + y.2.2.1, x.2.2.2 + y.2.2.2)
def sum4 : List L4 → L4
  | [] => (0, 0, 0, 0)
  | x :: xs => add4 x (sum4 xs)
theorem sum4_append (xs : List L4) (y : L4) : sum4 (xs ++ [y]) = add4 (sum4 xs) y := by
  induction xs with
  | nil => simp [sum4, add4]
  | cons x xs ih => simp only [List.cons_append, sum4, ih, add4, Int.add_assoc]
theorem sum4_take {xs : List L4} {i : Nat} {x : L4} (h : xs[i]? = some x) : sum4 (xs.take (i + 1)) = add4 (sum4 (xs.take i)) x := by
  obtain ⟨hi, rfl⟩ := List.getElem?_eq_some_iff.1 h
  rw [← List.take_append_getElem hi, sum4_append]
theorem sum4_bound {xs : List L4} (h : ∀ x ∈ xs, inR x = true) : (0 ≤ (sum4 xs).1 ∧ (sum4 xs).1 ≤ xs.length * 10737418240000) ∧ (0 ≤ (sum4 xs).2.1 ∧ (sum4 xs).2.1 ≤ xs.length * 10737418240000) ∧ (0 ≤ (sum4 xs).2.2.1 ∧ (sum4 xs).2.2.1 ≤ xs.length * 10737418240000) ∧ (0 ≤ (sum4 xs).2.2.2 ∧ (sum4 xs).2.2.2 ≤ xs.length * 10737418240000) := by
  induction xs with
  | nil => simp [sum4]
  | cons x xs ih =>
    have h1 := ih fun y hy => h y (by simp [hy])
    have h2 := h x (by simp)
    unfold inR at h2
    simp only [Bool.and_eq_true, isAlc_iff] at h2
    simp only [sum4, add4, List.length_cons]
    omega
abbrev c4 (x : L4) : Slot := .own [.int .i64 x.1, .int .i64 x.2.1, .int .i64 x.2.2.1, .int .i64 x.2.2.2] 4
theorem new_c4 {sl : List Slot} {x : L4} : H.wrs (hL (sl ++ [c4 (0, 0, 0, 0)])) (.hp sl.length 4 0) [.int .i64 x.1, .int .i64 x.2.1, .int .i64 x.2.2.1, .int .i64 x.2.2.2] = some (hL (sl ++ [c4 x])) := by
  rw [wrs_own (g := 4) (cs := [.int .i64 0, .int .i64 0, .int .i64 0, .int .i64 0]) (e := 4) (by simp) rfl (by simp)]
  simp [splice]
theorem rd_c4 {sl : List Slot} {id : Nat} {x : L4} (h : sl[id]? = some (c4 x)) : rdT (.leaf (.int .i64)) (hL sl) (.hp id 4 0) = some x.1 ∧ rdT (.leaf (.int .i64)) (hL sl) (.hp id 4 1) = some x.2.1 ∧ rdT (.leaf (.int .i64)) (hL sl) (.hp id 4 2) = some x.2.2.1 ∧ rdT (.leaf (.int .i64)) (hL sl) (.hp id 4 3) = some x.2.2.2 := by
  refine ⟨?_, ?_, ?_, ?_⟩ <;> (rw [rd_own (g := 4) h rfl]; rfl)
theorem rds_c4 {sl : List Slot} {id : Nat} {x : L4} (h : sl[id]? = some (c4 x)) : rdT (.agg i4) (hL sl) (.hp id 4 0) = some x := by
  rw [rds_hp (by simp), hL_m, h]; rfl
theorem wrs_c4 {sl : List Slot} {id : Nat} {x : L4} (y : L4) (h : sl[id]? = some (c4 x)) : H.wrs (hL sl) (.hp id 4 0) [.int .i64 y.1, .int .i64 y.2.1, .int .i64 y.2.2.1, .int .i64 y.2.2.2] = some (hL (sl.set id (c4 y))) := by
  rw [wrs_own (g := 4) h rfl (by simp)]; rfl
theorem wr_c4 {sl : List Slot} {id : Nat} {x : L4} (y : Int) (h : sl[id]? = some (c4 x)) :
    H.wrs (hL sl) (.hp id 4 0) [.int .i64 y] = some (hL (sl.set id (c4 (y, x.2)))) ∧ H.wrs (hL sl) (.hp id 4 1) [.int .i64 y] = some (hL (sl.set id (c4 (x.1, y, x.2.2)))) ∧
    H.wrs (hL sl) (.hp id 4 2) [.int .i64 y] = some (hL (sl.set id (c4 (x.1, x.2.1, y, x.2.2.2)))) ∧ H.wrs (hL sl) (.hp id 4 3) [.int .i64 y] = some (hL (sl.set id (c4 (x.1, x.2.1, x.2.2.1, y)))) := by
  refine ⟨?_, ?_, ?_, ?_⟩ <;> (rw [wrs_own (g := 4) h rfl (by simp)]; rfl)
def lsumOf (xs : List L4) : L4 × Int :=
  if 1024 < xs.length then ((0, 0, 0, 0), 8) else if xs.any (fun x => !inR x) = true then ((0, 0, 0, 0), 2) else if inR (sum4 xs) = true then (sum4 xs, 0) else ((0, 0, 0, 0), 15)
theorem amount4 (x : L4) : loss_amountP [x.1, x.2.1, x.2.2.1, x.2.2.2] = some (inR x) := by
  rw [lamount_ok _ (by simp)]
  simp only [List.all_cons, List.all_nil, Bool.and_true, inR]
def slots4 (xs : List L4) (i : Nat) : List Slot := c4 (0, 0, 0, 0) :: c4 (sum4 (xs.take i)) :: (xs.take i).map c4
theorem slots4_succ {xs : List L4} {i : Nat} {x : L4} (h : xs[i]? = some x) : (slots4 xs i ++ [c4 x]).set 1 (c4 (add4 (sum4 (xs.take i)) x)) = slots4 xs (i + 1) := by
  unfold slots4
  rw [sum4_take h]
  obtain ⟨hi, rfl⟩ := List.getElem?_eq_some_iff.1 h
  rw [← List.take_append_getElem hi, List.map_append]
  rfl
theorem lsum_loop {xs : List L4} {f : Bool} (hl : xs.length ≤ 1024) : ∃ h', iter FUEL (loss_Sum.loop1 (hL []) (rowSV f i4 xs) (hL [c4 (0, 0, 0, 0)])) (0, hL [c4 (0, 0, 0, 0), c4 (0, 0, 0, 0)]) = some (if xs.any (fun x => !inR x) = true then (.ret ((0, 0, 0, 0), 2), h') else (.ex0 (), hL (slots4 xs xs.length))) := by
  have hstep : ∀ (i : Nat) (x : L4), xs[i]? = some x → (∀ (j : Nat), j < i → ∀ (y : L4), xs[j]? = some y → inR y = true) → (inR x = true → loss_Sum.loop1 (hL []) (rowSV f i4 xs) (hL [c4 (0, 0, 0, 0)]) ((i : Int), hL (slots4 xs i)) = some (.more (((i + 1 : Nat) : Int), hL (slots4 xs (i + 1))))) ∧
      (inR x = false → loss_Sum.loop1 (hL []) (rowSV f i4 xs) (hL [c4 (0, 0, 0, 0)]) ((i : Int), hL (slots4 xs i)) = some (.done (.ret ((0, 0, 0, 0), 2), hL (slots4 xs i ++ [c4 x])))) := fun i x hget hpre => by
    obtain ⟨hi, hxi⟩ := List.getElem?_eq_some_iff.1 hget
    have hb := sum4_bound (xs := xs.take i) (fun y hy => by
      obtain ⟨j, hj, e⟩ := List.getElem_of_mem hy
      rw [List.length_take] at hj
      rw [List.getElem_take] at e
      exact hpre j (by omega) y (by rw [← e]; exact List.getElem?_eq_getElem _))
    rw [List.length_take, Nat.min_eq_left (by omega)] at hb
    have hrow : (slots4 xs i ++ [c4 x])[(slots4 xs i).length]? = some (c4 x) := by simp
    have htot : (slots4 xs i ++ [c4 x])[1]? = some (c4 (sum4 (xs.take i))) := rfl
    have hres : (slots4 xs i ++ [c4 x])[0]? = some (c4 (0, 0, 0, 0)) := rfl
    have r1 := rd_c4 hrow
    have nw := new_c4 (sl := slots4 xs i) (x := x)
    have hg1 : 0 ≤ (i : Int) ∧ (i : Int) < (xs.length : Int) := by omega
    unfold loss_Sum.loop1
    simp -implicitDefEqProofs only [Int.toNat_natCast, rowSV_len, guardO_pos hg1]
    rw [decide_eq_true hg1.2, cond_true, rds_rowF (ls := i4) (w := 4) rfl (by omega) rfl, hget]
    simp -implicitDefEqProofs only [Option.bind_some, hL_new, hL_next, List.length_cons, List.length_nil, Nat.zero_add]
    simp only [c4] at nw
    rw [nw]
    simp -implicitDefEqProofs only [Option.bind_some, r1.1, r1.2.1, r1.2.2.1, r1.2.2.2, rdRow_i4]
    rw [amount4]
    simp -implicitDefEqProofs only [Option.bind_some]
    refine ⟨fun hx => ?_, fun hx => ?_⟩
    · have hx' := hx
      unfold inR at hx'
      simp only [Bool.and_eq_true, isAlc_iff] at hx'
      rw [hx]
      simp -implicitDefEqProofs only [Option.bind_some, Option.bind_none, Option.map_some, Option.map_none, cond_true, cond_false, Bool.not_true, Bool.not_false, if_true, if_false, reduceIte, rdRes, rdTT, rdTy, rdLT, rdLeaf_int, rdLeaf_bool, rdLeaf_str, rdLeaf_row, Res.un, TT.un, Ty.un, LT.un, Leaf.un, rdRow_i1, rdRow_i2, rdRow_i3, rdRow_i4, rdRow_i5, rdRow_args, rdRow_res, rdRow_nil, Leaf.plain, LT.plain, List.isEmpty_cons, Bool.and_self, Bool.and_true, Bool.true_and, Bool.or_true, Bool.true_or, Bool.or_false, Bool.false_or, reserve0, rowSV_len, rowSV_cap, rowSV_tail, guardO_true, hL_next, List.length_cons, List.length_nil]
      generalize hs : sum4 (xs.take i) = s at *
      obtain ⟨s1, s2, s3, s4⟩ := s
      obtain ⟨x1, x2, x3, x4⟩ := x
      simp only at hb hx' r1
      have set1 : ∀ (z : L4), ((slots4 xs i ++ [c4 (x1, x2, x3, x4)]).set 1 (c4 z))[1]? = some (c4 z) := fun z => rfl
      have setr : ∀ (z : L4), ((slots4 xs i ++ [c4 (x1, x2, x3, x4)]).set 1 (c4 z))[(slots4 xs i).length]? = some (c4 (x1, x2, x3, x4)) := fun z => by
        rw [List.getElem?_set_ne (by simp [slots4]), hrow]
      have t0 := rd_c4 htot
      have w0 := (wr_c4 (s1 + x1) htot).1
      have t1 := rd_c4 (set1 (s1 + x1, s2, s3, s4))
      have q1 := rd_c4 (setr (s1 + x1, s2, s3, s4))
      have w1 := (wr_c4 (s2 + x2) (set1 (s1 + x1, s2, s3, s4))).2.1
      have t2 := rd_c4 (set1 (s1 + x1, s2 + x2, s3, s4))
      have q2 := rd_c4 (setr (s1 + x1, s2 + x2, s3, s4))
      have w2 := (wr_c4 (s3 + x3) (set1 (s1 + x1, s2 + x2, s3, s4))).2.2.1
      have t3 := rd_c4 (set1 (s1 + x1, s2 + x2, s3 + x3, s4))
      have q3 := rd_c4 (setr (s1 + x1, s2 + x2, s3 + x3, s4))
      have w3 := (wr_c4 (s4 + x4) (set1 (s1 + x1, s2 + x2, s3 + x3, s4))).2.2.2
      have hfin := slots4_succ hget
      rw [hs] at hfin
      simp only [add4] at hfin
      simp only [List.set_set] at w1 w2 w3
      rw [hfin] at w3
      simp only [c4] at t0 t1 t2 t3 q1 q2 q3 w0 w1 w2 w3
      rw [t0.1]
      simp -implicitDefEqProofs only [Option.bind_some]
      rw [i64_in _ (by omega), w0]
      simp -implicitDefEqProofs only [Option.bind_some, t1.2.1, q1.2.1]
      rw [i64_in _ (by omega), w1]
      simp -implicitDefEqProofs only [Option.bind_some, t2.2.2.1, q2.2.2.1]
      rw [i64_in _ (by omega), w2]
      simp -implicitDefEqProofs only [Option.bind_some, t3.2.2.2, q3.2.2.2]
      rw [i64_in _ (by omega), w3]
      simp -implicitDefEqProofs only [Option.bind_some]
      rw [i64_succ (by omega)]
    · rw [hx]
      simp -implicitDefEqProofs only [Option.bind_some, Option.bind_none, Option.map_some, Option.map_none, cond_true, cond_false, Bool.not_true, Bool.not_false, if_true, if_false, reduceIte, rdRes, rdTT, rdTy, rdLT, rdLeaf_int, rdLeaf_bool, rdLeaf_str, rdLeaf_row, Res.un, TT.un, Ty.un, LT.un, Leaf.un, rdRow_i1, rdRow_i2, rdRow_i3, rdRow_i4, rdRow_i5, rdRow_args, rdRow_res, rdRow_nil, Leaf.plain, LT.plain, List.isEmpty_cons, Bool.and_self, Bool.and_true, Bool.true_and, Bool.or_true, Bool.true_or, Bool.or_false, Bool.false_or, reserve0, rowSV_len, rowSV_cap, rowSV_tail, guardO_true, hL_next, List.length_cons, List.length_nil]
      have w0 := wrs_c4 (0, 0, 0, 0) hres
      have hs : (slots4 xs i ++ [c4 x]).set 0 (c4 (0, 0, 0, 0)) = slots4 xs i ++ [c4 x] := rfl
      rw [hs] at w0
      have r0 := rds_c4 hres
      simp only [c4] at w0 r0
      rw [w0]
      simp -implicitDefEqProofs only [Option.bind_some]
      rw [r0]
      simp -implicitDefEqProofs only [Option.bind_some]
  have hany := List.findIdx?_isSome (xs := xs) (p := fun x => !inR x)
  cases hf : xs.findIdx? (fun x => !inR x) with
  | some m =>
    rw [hf] at hany
    rw [← hany]
    obtain ⟨hm, hbad, hgood⟩ := List.findIdx?_eq_some_iff_getElem.1 hf
    have hpre : ∀ (i : Nat), i ≤ m → ∀ (j : Nat), j < i → ∀ (y : L4), xs[j]? = some y → inR y = true := fun i hi j hj y hy => by
      obtain ⟨hj', rfl⟩ := List.getElem?_eq_some_iff.1 hy
      have := hgood j (by omega)
      simpa using this
    refine ⟨hL (slots4 xs m ++ [c4 xs[m]]), ?_⟩
    have := iter_run (f := loss_Sum.loop1 (hL []) (rowSV f i4 xs) (hL [c4 (0, 0, 0, 0)])) (fun i => ((i : Int), hL (slots4 xs i))) m FUEL (fun i hi => (hstep i xs[i] (List.getElem?_eq_getElem (by omega)) (hpre i (by omega))).1 (hpre m (Nat.le_refl _) i hi _ (List.getElem?_eq_getElem (by omega)))) ((hstep m xs[m] (List.getElem?_eq_getElem hm) (hpre m (Nat.le_refl _))).2 (by simpa using hbad)) (fuel_gt (by omega))
    simp only [Option.isSome_some, if_true]
    exact this
  | none =>
    rw [hf] at hany
    rw [← hany]
    have hp : ∀ (x : L4), x ∈ xs → inR x = true := fun x hx => by
      have := List.any_eq_false.1 hany.symm x hx
      simpa using this
    refine ⟨hL [], ?_⟩
    have := iter_run (f := loss_Sum.loop1 (hL []) (rowSV f i4 xs) (hL [c4 (0, 0, 0, 0)])) (x := (.ex0 (), hL (slots4 xs xs.length))) (fun i => ((i : Int), hL (slots4 xs i))) xs.length FUEL (fun i hi => (hstep i xs[i] (List.getElem?_eq_getElem hi) (fun j _ y hy => hp y (List.mem_of_getElem? hy))).1 (hp _ (List.getElem_mem hi))) (by
      unfold loss_Sum.loop1
      simp -implicitDefEqProofs only [rowSV_len]
      rw [decide_eq_false (by omega), cond_false]) (fuel_gt (by omega))
    simp only [Option.isSome_none, Bool.false_eq_true, if_false]
    exact this
theorem lSum_ok (xs : List L4) (hl : xs.length < 2 ^ 63) : loss_SumP xs = some (lsumOf xs) := by
  unfold loss_SumP loss_Sum lsumOf
  simp -implicitDefEqProofs only [Option.bind_some, Option.bind_none, Option.map_some, Option.map_none, cond_true, cond_false, Bool.not_true, Bool.not_false, if_true, if_false, reduceIte, rdRes, rdTT, rdTy, rdLT, rdLeaf_int, rdLeaf_bool, rdLeaf_str, rdLeaf_row, Res.un, TT.un, Ty.un, LT.un, Leaf.un, rdRow_i1, rdRow_i2, rdRow_i3, rdRow_i4, rdRow_i5, rdRow_args, rdRow_res, rdRow_nil, Leaf.plain, LT.plain, List.isEmpty_cons, Bool.and_self, Bool.and_true, Bool.true_and, Bool.or_true, Bool.true_or, Bool.or_false, Bool.false_or, reserve0, rowSV_len, rowSV_cap, rowSV_tail, guardO_true, hL_empty, hL_new, hL_next, List.length_nil, List.nil_append, List.length_cons, Nat.zero_add, List.cons_append]
  have e0 : [c4 (0, 0, 0, 0)][0]? = some (c4 (0, 0, 0, 0)) := rfl
  have w0 := wrs_c4 (0, 0, 0, 0) e0
  have r0 := rds_c4 e0
  simp only [List.set_cons_zero, c4] at w0 r0
  by_cases h8 : 1024 < xs.length
  · rw [if_pos h8, decide_eq_true (show (1024 : Int) < (xs.length : Int) by omega)]
    simp -implicitDefEqProofs only [Option.bind_some, Option.bind_none, Option.map_some, Option.map_none, cond_true, cond_false, Bool.not_true, Bool.not_false, if_true, if_false, reduceIte, rdRes, rdTT, rdTy, rdLT, rdLeaf_int, rdLeaf_bool, rdLeaf_str, rdLeaf_row, Res.un, TT.un, Ty.un, LT.un, Leaf.un, rdRow_i1, rdRow_i2, rdRow_i3, rdRow_i4, rdRow_i5, rdRow_args, rdRow_res, rdRow_nil, Leaf.plain, LT.plain, List.isEmpty_cons, Bool.and_self, Bool.and_true, Bool.true_and, Bool.or_true, Bool.true_or, Bool.or_false, Bool.false_or, reserve0, rowSV_len, rowSV_cap, rowSV_tail, guardO_true]
    rw [w0]
    simp -implicitDefEqProofs only [Option.bind_some, Option.bind_none, Option.map_some, Option.map_none, cond_true, cond_false, Bool.not_true, Bool.not_false, if_true, if_false, reduceIte, rdRes, rdTT, rdTy, rdLT, rdLeaf_int, rdLeaf_bool, rdLeaf_str, rdLeaf_row, Res.un, TT.un, Ty.un, LT.un, Leaf.un, rdRow_i1, rdRow_i2, rdRow_i3, rdRow_i4, rdRow_i5, rdRow_args, rdRow_res, rdRow_nil, Leaf.plain, LT.plain, List.isEmpty_cons, Bool.and_self, Bool.and_true, Bool.true_and, Bool.or_true, Bool.true_or, Bool.or_false, Bool.false_or, reserve0, rowSV_len, rowSV_cap, rowSV_tail, guardO_true]
    rw [r0]
    simp -implicitDefEqProofs only [Option.bind_some, Option.bind_none, Option.map_some, Option.map_none, cond_true, cond_false, Bool.not_true, Bool.not_false, if_true, if_false, reduceIte, rdRes, rdTT, rdTy, rdLT, rdLeaf_int, rdLeaf_bool, rdLeaf_str, rdLeaf_row, Res.un, TT.un, Ty.un, LT.un, Leaf.un, rdRow_i1, rdRow_i2, rdRow_i3, rdRow_i4, rdRow_i5, rdRow_args, rdRow_res, rdRow_nil, Leaf.plain, LT.plain, List.isEmpty_cons, Bool.and_self, Bool.and_true, Bool.true_and, Bool.or_true, Bool.true_or, Bool.or_false, Bool.false_or, reserve0, rowSV_len, rowSV_cap, rowSV_tail, guardO_true]
  · rw [if_neg h8, decide_eq_false (show ¬ (1024 : Int) < (xs.length : Int) by omega)]
    simp -implicitDefEqProofs only [Option.bind_some, Option.bind_none, Option.map_some, Option.map_none, cond_true, cond_false, Bool.not_true, Bool.not_false, if_true, if_false, reduceIte, rdRes, rdTT, rdTy, rdLT, rdLeaf_int, rdLeaf_bool, rdLeaf_str, rdLeaf_row, Res.un, TT.un, Ty.un, LT.un, Leaf.un, rdRow_i1, rdRow_i2, rdRow_i3, rdRow_i4, rdRow_i5, rdRow_args, rdRow_res, rdRow_nil, Leaf.plain, LT.plain, List.isEmpty_cons, Bool.and_self, Bool.and_true, Bool.true_and, Bool.or_true, Bool.true_or, Bool.or_false, Bool.false_or, reserve0, rowSV_len, rowSV_cap, rowSV_tail, guardO_true]
    obtain ⟨h', hloop⟩ := lsum_loop (xs := xs) (f := false) (by omega)
    simp only [c4] at hloop
    rw [hloop]
    by_cases hany : xs.any (fun x => !inR x) = true
    · rw [if_pos hany, if_pos hany]
      simp -implicitDefEqProofs only [Option.bind_some, Option.bind_none, Option.map_some, Option.map_none, cond_true, cond_false, Bool.not_true, Bool.not_false, if_true, if_false, reduceIte, rdRes, rdTT, rdTy, rdLT, rdLeaf_int, rdLeaf_bool, rdLeaf_str, rdLeaf_row, Res.un, TT.un, Ty.un, LT.un, Leaf.un, rdRow_i1, rdRow_i2, rdRow_i3, rdRow_i4, rdRow_i5, rdRow_args, rdRow_res, rdRow_nil, Leaf.plain, LT.plain, List.isEmpty_cons, Bool.and_self, Bool.and_true, Bool.true_and, Bool.or_true, Bool.true_or, Bool.or_false, Bool.false_or, reserve0, rowSV_len, rowSV_cap, rowSV_tail, guardO_true]
    · rw [if_neg hany, if_neg hany]
      simp -implicitDefEqProofs only [Option.bind_some, Option.bind_none, Option.map_some, Option.map_none, cond_true, cond_false, Bool.not_true, Bool.not_false, if_true, if_false, reduceIte, rdRes, rdTT, rdTy, rdLT, rdLeaf_int, rdLeaf_bool, rdLeaf_str, rdLeaf_row, Res.un, TT.un, Ty.un, LT.un, Leaf.un, rdRow_i1, rdRow_i2, rdRow_i3, rdRow_i4, rdRow_i5, rdRow_args, rdRow_res, rdRow_nil, Leaf.plain, LT.plain, List.isEmpty_cons, Bool.and_self, Bool.and_true, Bool.true_and, Bool.or_true, Bool.true_or, Bool.or_false, Bool.false_or, reserve0, rowSV_len, rowSV_cap, rowSV_tail, guardO_true]
      have e0 : (slots4 xs xs.length)[0]? = some (c4 (0, 0, 0, 0)) := rfl
      have e1 : (slots4 xs xs.length)[1]? = some (c4 (sum4 xs)) := by rw [slots4, List.take_length]; rfl
      have r1 := rd_c4 e1
      have s1 := rds_c4 e1
      rw [r1.1, r1.2.1, r1.2.2.1, r1.2.2.2]
      simp -implicitDefEqProofs only [Option.bind_some, Option.bind_none, Option.map_some, Option.map_none, cond_true, cond_false, Bool.not_true, Bool.not_false, if_true, if_false, reduceIte, rdRes, rdTT, rdTy, rdLT, rdLeaf_int, rdLeaf_bool, rdLeaf_str, rdLeaf_row, Res.un, TT.un, Ty.un, LT.un, Leaf.un, rdRow_i1, rdRow_i2, rdRow_i3, rdRow_i4, rdRow_i5, rdRow_args, rdRow_res, rdRow_nil, Leaf.plain, LT.plain, List.isEmpty_cons, Bool.and_self, Bool.and_true, Bool.true_and, Bool.or_true, Bool.true_or, Bool.or_false, Bool.false_or, reserve0, rowSV_len, rowSV_cap, rowSV_tail, guardO_true]
      rw [amount4]
      simp -implicitDefEqProofs only [Option.bind_some, Option.bind_none, Option.map_some, Option.map_none, cond_true, cond_false, Bool.not_true, Bool.not_false, if_true, if_false, reduceIte, rdRes, rdTT, rdTy, rdLT, rdLeaf_int, rdLeaf_bool, rdLeaf_str, rdLeaf_row, Res.un, TT.un, Ty.un, LT.un, Leaf.un, rdRow_i1, rdRow_i2, rdRow_i3, rdRow_i4, rdRow_i5, rdRow_args, rdRow_res, rdRow_nil, Leaf.plain, LT.plain, List.isEmpty_cons, Bool.and_self, Bool.and_true, Bool.true_and, Bool.or_true, Bool.true_or, Bool.or_false, Bool.false_or, reserve0, rowSV_len, rowSV_cap, rowSV_tail, guardO_true]
      cases hin : inR (sum4 xs) with
      | true =>
        simp -implicitDefEqProofs only [Option.bind_some, Option.bind_none, Option.map_some, Option.map_none, cond_true, cond_false, Bool.not_true, Bool.not_false, if_true, if_false, reduceIte, rdRes, rdTT, rdTy, rdLT, rdLeaf_int, rdLeaf_bool, rdLeaf_str, rdLeaf_row, Res.un, TT.un, Ty.un, LT.un, Leaf.un, rdRow_i1, rdRow_i2, rdRow_i3, rdRow_i4, rdRow_i5, rdRow_args, rdRow_res, rdRow_nil, Leaf.plain, LT.plain, List.isEmpty_cons, Bool.and_self, Bool.and_true, Bool.true_and, Bool.or_true, Bool.true_or, Bool.or_false, Bool.false_or, reserve0, rowSV_len, rowSV_cap, rowSV_tail, guardO_true]
        rw [s1]
        simp -implicitDefEqProofs only [Option.bind_some, Option.bind_none, Option.map_some, Option.map_none, cond_true, cond_false, Bool.not_true, Bool.not_false, if_true, if_false, reduceIte, rdRes, rdTT, rdTy, rdLT, rdLeaf_int, rdLeaf_bool, rdLeaf_str, rdLeaf_row, Res.un, TT.un, Ty.un, LT.un, Leaf.un, rdRow_i1, rdRow_i2, rdRow_i3, rdRow_i4, rdRow_i5, rdRow_args, rdRow_res, rdRow_nil, Leaf.plain, LT.plain, List.isEmpty_cons, Bool.and_self, Bool.and_true, Bool.true_and, Bool.or_true, Bool.true_or, Bool.or_false, Bool.false_or, reserve0, rowSV_len, rowSV_cap, rowSV_tail, guardO_true]
        have w := wrs_c4 (sum4 xs) e0
        have e2 : ((slots4 xs xs.length).set 0 (c4 (sum4 xs)))[0]? = some (c4 (sum4 xs)) := rfl
        have r2 := rds_c4 e2
        rw [w]
        simp -implicitDefEqProofs only [Option.bind_some, Option.bind_none, Option.map_some, Option.map_none, cond_true, cond_false, Bool.not_true, Bool.not_false, if_true, if_false, reduceIte, rdRes, rdTT, rdTy, rdLT, rdLeaf_int, rdLeaf_bool, rdLeaf_str, rdLeaf_row, Res.un, TT.un, Ty.un, LT.un, Leaf.un, rdRow_i1, rdRow_i2, rdRow_i3, rdRow_i4, rdRow_i5, rdRow_args, rdRow_res, rdRow_nil, Leaf.plain, LT.plain, List.isEmpty_cons, Bool.and_self, Bool.and_true, Bool.true_and, Bool.or_true, Bool.true_or, Bool.or_false, Bool.false_or, reserve0, rowSV_len, rowSV_cap, rowSV_tail, guardO_true]
        rw [r2]
        simp -implicitDefEqProofs only [Option.bind_some, Option.bind_none, Option.map_some, Option.map_none, cond_true, cond_false, Bool.not_true, Bool.not_false, if_true, if_false, reduceIte, rdRes, rdTT, rdTy, rdLT, rdLeaf_int, rdLeaf_bool, rdLeaf_str, rdLeaf_row, Res.un, TT.un, Ty.un, LT.un, Leaf.un, rdRow_i1, rdRow_i2, rdRow_i3, rdRow_i4, rdRow_i5, rdRow_args, rdRow_res, rdRow_nil, Leaf.plain, LT.plain, List.isEmpty_cons, Bool.and_self, Bool.and_true, Bool.true_and, Bool.or_true, Bool.true_or, Bool.or_false, Bool.false_or, reserve0, rowSV_len, rowSV_cap, rowSV_tail, guardO_true]
      | false =>
        simp -implicitDefEqProofs only [Option.bind_some, Option.bind_none, Option.map_some, Option.map_none, cond_true, cond_false, Bool.not_true, Bool.not_false, if_true, if_false, reduceIte, rdRes, rdTT, rdTy, rdLT, rdLeaf_int, rdLeaf_bool, rdLeaf_str, rdLeaf_row, Res.un, TT.un, Ty.un, LT.un, Leaf.un, rdRow_i1, rdRow_i2, rdRow_i3, rdRow_i4, rdRow_i5, rdRow_args, rdRow_res, rdRow_nil, Leaf.plain, LT.plain, List.isEmpty_cons, Bool.and_self, Bool.and_true, Bool.true_and, Bool.or_true, Bool.true_or, Bool.or_false, Bool.false_or, reserve0, rowSV_len, rowSV_cap, rowSV_tail, guardO_true]
        have w := wrs_c4 (0, 0, 0, 0) e0
        have e2 : ((slots4 xs xs.length).set 0 (c4 (0, 0, 0, 0)))[0]? = some (c4 (0, 0, 0, 0)) := rfl
        have r2 := rds_c4 e2
        simp only [c4] at w r2
        rw [w]
        simp -implicitDefEqProofs only [Option.bind_some, Option.bind_none, Option.map_some, Option.map_none, cond_true, cond_false, Bool.not_true, Bool.not_false, if_true, if_false, reduceIte, rdRes, rdTT, rdTy, rdLT, rdLeaf_int, rdLeaf_bool, rdLeaf_str, rdLeaf_row, Res.un, TT.un, Ty.un, LT.un, Leaf.un, rdRow_i1, rdRow_i2, rdRow_i3, rdRow_i4, rdRow_i5, rdRow_args, rdRow_res, rdRow_nil, Leaf.plain, LT.plain, List.isEmpty_cons, Bool.and_self, Bool.and_true, Bool.true_and, Bool.or_true, Bool.true_or, Bool.or_false, Bool.false_or, reserve0, rowSV_len, rowSV_cap, rowSV_tail, guardO_true]
        rw [r2]
        simp -implicitDefEqProofs only [Option.bind_some, Option.bind_none, Option.map_some, Option.map_none, cond_true, cond_false, Bool.not_true, Bool.not_false, if_true, if_false, reduceIte, rdRes, rdTT, rdTy, rdLT, rdLeaf_int, rdLeaf_bool, rdLeaf_str, rdLeaf_row, Res.un, TT.un, Ty.un, LT.un, Leaf.un, rdRow_i1, rdRow_i2, rdRow_i3, rdRow_i4, rdRow_i5, rdRow_args, rdRow_res, rdRow_nil, Leaf.plain, LT.plain, List.isEmpty_cons, Bool.and_self, Bool.and_true, Bool.true_and, Bool.or_true, Bool.true_or, Bool.or_false, Bool.false_or, reserve0, rowSV_len, rowSV_cap, rowSV_tail, guardO_true]
        rfl
end Go.Proofs.Ytadlfinlbaogeaa
