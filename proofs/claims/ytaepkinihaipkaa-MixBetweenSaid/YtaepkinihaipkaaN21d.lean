/- What package interpolate computes: a table's density at a grade. Conditions: those of each law. -/
import Derived.Test.YtaepkinihaipkaaN21c
namespace Go.Proofs.Ytaepkinihaipkaa
open Go Go.Proofs.Ytaepkinihaipkaa.Ev
set_option linter.unusedVariables false
set_option linter.unusedSimpArgs false
set_option maxRecDepth 100000
set_option maxHeartbeats 4000000
/-- Between two entries, rounded. -/
def lineOf (x y : Int × Int) (t : Int) : Int := (2 * (x.2 * (y.1 - t) + y.2 * (t - x.1)) + (y.1 - x.1)) / (2 * (y.1 - x.1))
theorem okPt_iff {x : Int × Int} : okPt x = true ↔ 0 ≤ x.1 ∧ x.1 ≤ 10000 ∧ 50000 ≤ x.2 ∧ x.2 ≤ 120000 := by simp [okPt]
theorem line_num {x y : Int × Int} {t : Int} (hx : okPt x = true) (hy : okPt y = true) (h0 : x.1 ≤ t) (h1 : t ≤ y.1) :
    0 ≤ x.2 * (y.1 - t) ∧ x.2 * (y.1 - t) ≤ 120000 * 10000 ∧ 0 ≤ y.2 * (t - x.1) ∧ y.2 * (t - x.1) ≤ 120000 * 10000 := by
  rw [okPt_iff] at hx hy
  exact ⟨Int.mul_nonneg (by omega) (by omega), Int.mul_le_mul (by omega) (by omega) (by omega) (by omega), Int.mul_nonneg (by omega) (by omega), Int.mul_le_mul (by omega) (by omega) (by omega) (by omega)⟩
theorem between_ok {x y : Int × Int} {t : Int} (hx : okPt x = true) (hy : okPt y = true) (hlt : x.1 < y.1) (h0 : x.1 ≤ t) (h1 : t ≤ y.1) : interpolate_betweenP x y t = some (lineOf x y t) := by
  have hb := line_num hx hy h0 h1
  rw [okPt_iff] at hx hy
  obtain ⟨x1, x2⟩ := x
  obtain ⟨y1, y2⟩ := y
  simp only at hx hy hlt h0 h1 hb
  unfold interpolate_betweenP interpolate_between lineOf
  simp -implicitDefEqProofs only [Option.bind_some, Option.bind_none, Option.map_some, Option.map_none, cond_true, cond_false, Bool.not_true, Bool.not_false, if_true, if_false, reduceIte, rdRes, rdTT, rdTy, rdLT, rdLeaf_int, rdLeaf_bool, rdLeaf_str, rdLeaf_row, Res.un, TT.un, Ty.un, LT.un, Leaf.un, rdRow_i1, rdRow_i2, rdRow_i3, rdRow_i4, rdRow_i5, rdRow_args, rdRow_res, rdRow_nil, Leaf.plain, LT.plain, List.isEmpty_cons, Bool.and_self, Bool.and_true, Bool.true_and, Bool.or_true, Bool.true_or, Bool.or_false, Bool.false_or, reserve0, rowSV_len, rowSV_cap, rowSV_tail, guardO_true, hL_empty, hL_new, hL_next, hL_put, hL_reserve, List.replicate, rd_hp, rds_hp, wrs_hp, hL_m, List.nil_append, List.cons_append, List.append_nil, List.getElem?_cons_zero, List.getElem?_cons_succ, Option.getD_some, List.length_cons, List.length_nil, List.length_append, splice, List.take_zero, List.take_succ_cons, List.take_nil, List.drop_zero, List.drop_succ_cons, List.drop_nil, List.set_cons_zero, List.set_cons_succ, LT.pack, Leaf.pack, Nat.reduceAdd, Nat.reduceSub, Nat.reduceLeDiff, Nat.reduceLT, Nat.reduceEqDiff, Nat.zero_add, Nat.add_zero, Nat.zero_le, Nat.le_refl, and_self, and_true, true_and, Nat.lt_add_one, Nat.zero_lt_succ, ne_eq, not_false_eq_true, Nat.succ_ne_zero, List.flatMap_cons, List.flatMap_nil, LT.lo, Leaf.lo]
  rw [i64_in (y1 - x1) (by omega), i64_in (y1 - t) (by omega), i64_in (t - x1) (by omega), i64_in (x2 * (y1 - t)) (by omega), i64_in (y2 * (t - x1)) (by omega), i64_in (x2 * (y1 - t) + y2 * (t - x1)) (by omega), i64_in (2 * (y1 - x1)) (by omega),
    i64_in (2 * (x2 * (y1 - t) + y2 * (t - x1))) (by omega), i64_in (2 * (x2 * (y1 - t) + y2 * (t - x1)) + (y1 - x1)) (by omega), guardO_pos (by omega)]
  rw [Int.tdiv_eq_ediv_of_nonneg (by omega)]
  have k1 : 0 ≤ (2 * (x2 * (y1 - t) + y2 * (t - x1)) + (y1 - x1)) / (2 * (y1 - x1)) := Int.ediv_nonneg (by omega) (by omega)
  have k2 : (2 * (x2 * (y1 - t) + y2 * (t - x1)) + (y1 - x1)) / (2 * (y1 - x1)) ≤ 2 * (x2 * (y1 - t) + y2 * (t - x1)) + (y1 - x1) := Int.ediv_le_self _ (by omega)
  rw [i64_in _ (by omega)]
  simp -implicitDefEqProofs only [Option.bind_some, Option.bind_none, Option.map_some, Option.map_none, cond_true, cond_false, Bool.not_true, Bool.not_false, if_true, if_false, reduceIte, rdRes, rdTT, rdTy, rdLT, rdLeaf_int, rdLeaf_bool, rdLeaf_str, rdLeaf_row, Res.un, TT.un, Ty.un, LT.un, Leaf.un, rdRow_i1, rdRow_i2, rdRow_i3, rdRow_i4, rdRow_i5, rdRow_args, rdRow_res, rdRow_nil, Leaf.plain, LT.plain, List.isEmpty_cons, Bool.and_self, Bool.and_true, Bool.true_and, Bool.or_true, Bool.true_or, Bool.or_false, Bool.false_or, reserve0, rowSV_len, rowSV_cap, rowSV_tail, guardO_true]
/-- Both ends bound the line, and it does not rise. -/
theorem line_bound {x y : Int × Int} {t : Int} (hlt : x.1 < y.1) (hd : y.2 ≤ x.2) (h0 : x.1 ≤ t) (h1 : t ≤ y.1) : y.2 ≤ lineOf x y t ∧ lineOf x y t ≤ x.2 := by
  obtain ⟨x1, x2⟩ := x
  obtain ⟨y1, y2⟩ := y
  simp only at *
  unfold lineOf
  simp only
  have a1 : y2 * (y1 - t) ≤ x2 * (y1 - t) := Int.mul_le_mul_of_nonneg_right hd (by omega)
  have a2 : y2 * (t - x1) ≤ x2 * (t - x1) := Int.mul_le_mul_of_nonneg_right hd (by omega)
  have e1 : y2 * (y1 - t) + y2 * (t - x1) = y2 * (y1 - x1) := by rw [← Int.mul_add]; congr 1; omega
  have e2 : x2 * (y1 - t) + x2 * (t - x1) = x2 * (y1 - x1) := by rw [← Int.mul_add]; congr 1; omega
  have e3 : y2 * (2 * (y1 - x1)) = 2 * (y2 * (y1 - x1)) := Int.mul_left_comm ..
  have e4 : x2 * (2 * (y1 - x1)) = 2 * (x2 * (y1 - x1)) := Int.mul_left_comm ..
  constructor
  · rw [Int.le_ediv_iff_mul_le (by omega)]
    omega
  · have : (2 * (x2 * (y1 - t) + y2 * (t - x1)) + (y1 - x1)) / (2 * (y1 - x1)) < x2 + 1 := by
      rw [Int.ediv_lt_iff_lt_mul (by omega), Int.add_mul]
      omega
    omega
theorem line_down {x y : Int × Int} {s t : Int} (hlt : x.1 < y.1) (hd : y.2 ≤ x.2) (h : s ≤ t) : lineOf x y t ≤ lineOf x y s := by
  obtain ⟨x1, x2⟩ := x
  obtain ⟨y1, y2⟩ := y
  simp only at *
  unfold lineOf
  simp only
  refine Int.ediv_le_ediv (by omega) ?_
  have a1 : y2 * (t - s) ≤ x2 * (t - s) := Int.mul_le_mul_of_nonneg_right hd (by omega)
  have e1 : x2 * (y1 - s) = x2 * (y1 - t) + x2 * (t - s) := by rw [← Int.mul_add]; congr 1; omega
  have e2 : y2 * (t - x1) = y2 * (s - x1) + y2 * (t - s) := by rw [← Int.mul_add]; congr 1; omega
  omega
/-- The first place of a table that is not below a grade. -/
def place (xs : List (Int × Int)) (t : Int) : Nat := (List.range xs.length).findIdx fun k => decide (t ≤ (q2 xs k).1)
theorem up_le {xs : List (Int × Int)} (h : Table2 xs) : ∀ (j i : Nat), i ≤ j → j < xs.length → (q2 xs i).1 ≤ (q2 xs j).1
  | 0, i, hi, hj => by have : i = 0 := by omega
                       subst this; exact Int.le_refl _
  | j + 1, i, hi, hj => by
    by_cases e : i = j + 1
    · subst e; exact Int.le_refl _
    · have := up_le h j i (by omega) (by omega)
      have := h.up j hj
      omega
theorem down_le {xs : List (Int × Int)} (h : Table2 xs) : ∀ (j i : Nat), i ≤ j → j < xs.length → (q2 xs j).2 ≤ (q2 xs i).2
  | 0, i, hi, hj => by have : i = 0 := by omega
                       subst this; exact Int.le_refl _
  | j + 1, i, hi, hj => by
    by_cases e : i = j + 1
    · subst e; exact Int.le_refl _
    · have := down_le h j i (by omega) (by omega)
      have := h.down j hj
      omega
def valOf (xs : List (Int × Int)) (k : Nat) (t : Int) : Int := if (q2 xs k).1 = t then (q2 xs k).2 else lineOf (q2 xs (k - 1)) (q2 xs k) t
theorem at1_ok {xs : List (Int × Int)} {t : Int} {k : Nat} (hk : k < xs.length) :
    interpolate_at_1 (k : Int) (.hp 0 1 0) (.hp 1 1 0) (hL [.own [.slice (rowSV false j2 xs).a xs.length xs.length true] 1, .own [.int .i64 t] 1]) = some (decide (t ≤ (q2 xs k).1), hL [.own [.slice (rowSV false j2 xs).a xs.length xs.length true] 1, .own [.int .i64 t] 1]) := by
  have r0 : rdT (.leaf .slice) (hL [.own [.slice (rowSV false j2 xs).a xs.length xs.length true] 1, .own [.int .i64 t] 1]) (.hp 0 1 0) = some (rowSV false j2 xs) := by
    rw [rd_own (g := 1) (id := 0) rfl rfl]; rfl
  have r1 : rdT (.leaf (.int .i64)) (hL [.own [.slice (rowSV false j2 xs).a xs.length xs.length true] 1, .own [.int .i64 t] 1]) (.hp 1 1 0) = some t := by
    rw [rd_own (g := 1) (id := 1) rfl rfl]; rfl
  have hg : 0 ≤ (k : Int) ∧ (k : Int) < (xs.length : Int) := by omega
  have hn := nn_q2 (f := false) hk
  unfold interpolate_at_1
  simp -implicitDefEqProofs only [reserve0]
  rw [r0]
  simp -implicitDefEqProofs only [Option.bind_some, Option.bind_none, Option.map_some, Option.map_none, cond_true, cond_false, Bool.not_true, Bool.not_false, if_true, if_false, reduceIte, rdRes, rdTT, rdTy, rdLT, rdLeaf_int, rdLeaf_bool, rdLeaf_str, rdLeaf_row, Res.un, TT.un, Ty.un, LT.un, Leaf.un, rdRow_i1, rdRow_i2, rdRow_i3, rdRow_i4, rdRow_i5, rdRow_args, rdRow_res, rdRow_nil, Leaf.plain, LT.plain, List.isEmpty_cons, Bool.and_self, Bool.and_true, Bool.true_and, Bool.or_true, Bool.true_or, Bool.or_false, Bool.false_or, reserve0, rowSV_len, rowSV_cap, rowSV_tail, guardO_true, Int.toNat_natCast, rowSV_len, guardO_pos hg, guardO_pos hn, (rd_q2 (f := false) hk).1, r1]
theorem at_ok {xs : List (Int × Int)} {t : Int} (h : Table2 xs) (h0 : 0 ≤ t) (h1 : t ≤ 10000) :
    ∃ k, k < xs.length ∧ (∀ q, q < k → (q2 xs q).1 < t) ∧ t ≤ (q2 xs k).1 ∧ interpolate_atP xs t = some (valOf xs k t) := by
  have hlen := h.most
  have htwo := h.two
  obtain ⟨m, s1, s2, s3, s4⟩ := Search_ok (T := interpolate_at.tb) (v := .func 85 [.hp 0 1 0, .hp 1 1 0]) (h := hL [.own [.slice (rowSV false j2 xs).a xs.length xs.length true] 1, .own [.int .i64 t] 1]) (n := xs.length) (fun k => decide (t ≤ (q2 xs k).1)) (by omega) (fun a b hab hb ha => by
      have := up_le h b a hab hb
      have ha' := of_decide_eq_true ha
      exact decide_eq_true (by omega)) (fun k hk R K => by
      show (interpolate_at_1 (k : Int) (.hp 0 1 0) (.hp 1 1 0) _).bind (fun p => K (.bool p.1) p.2) = _
      rw [at1_ok hk]
      rfl)
  have hm : m < xs.length := by
    rcases Nat.lt_or_ge m xs.length with h' | h'
    · exact h'
    · have := s3 (xs.length - 1) (by omega)
      simp only [decide_eq_false_iff_not] at this
      rw [h.last] at this
      omega
  have hge : t ≤ (q2 xs m).1 := of_decide_eq_true (s4 m (Nat.le_refl _) hm)
  have hlow : ∀ q, q < m → (q2 xs q).1 < t := fun q hq => by
    have := s3 q hq
    simp only [decide_eq_false_iff_not] at this
    omega
  refine ⟨m, hm, hlow, hge, ?_⟩
  have r0 : rdT (.leaf .slice) (hL [.own [.slice (rowSV false j2 xs).a xs.length xs.length true] 1, .own [.int .i64 t] 1]) (.hp 0 1 0) = some (rowSV false j2 xs) := by
    rw [rd_own (g := 1) (id := 0) rfl rfl]; rfl
  have r1 : rdT (.leaf (.int .i64)) (hL [.own [.slice (rowSV false j2 xs).a xs.length xs.length true] 1, .own [.int .i64 t] 1]) (.hp 1 1 0) = some t := by
    rw [rd_own (g := 1) (id := 1) rfl rfl]; rfl
  have hg : 0 ≤ (m : Int) ∧ (m : Int) < (xs.length : Int) := by omega
  have hn := nn_q2 (f := false) hm
  unfold interpolate_atP interpolate_at valOf
  simp -implicitDefEqProofs only [Option.bind_some, Option.bind_none, Option.map_some, Option.map_none, cond_true, cond_false, Bool.not_true, Bool.not_false, if_true, if_false, reduceIte, rdRes, rdTT, rdTy, rdLT, rdLeaf_int, rdLeaf_bool, rdLeaf_str, rdLeaf_row, Res.un, TT.un, Ty.un, LT.un, Leaf.un, rdRow_i1, rdRow_i2, rdRow_i3, rdRow_i4, rdRow_i5, rdRow_args, rdRow_res, rdRow_nil, Leaf.plain, LT.plain, List.isEmpty_cons, Bool.and_self, Bool.and_true, Bool.true_and, Bool.or_true, Bool.true_or, Bool.or_false, Bool.false_or, reserve0, rowSV_len, rowSV_cap, rowSV_tail, guardO_true, hL_empty, hL_new, hL_next, List.length_nil, List.length_cons, List.nil_append, List.cons_append, Nat.zero_add]
  rw [r0]
  simp -implicitDefEqProofs only [Option.bind_some, Option.bind_none, Option.map_some, Option.map_none, cond_true, cond_false, Bool.not_true, Bool.not_false, if_true, if_false, reduceIte, rdRes, rdTT, rdTy, rdLT, rdLeaf_int, rdLeaf_bool, rdLeaf_str, rdLeaf_row, Res.un, TT.un, Ty.un, LT.un, Leaf.un, rdRow_i1, rdRow_i2, rdRow_i3, rdRow_i4, rdRow_i5, rdRow_args, rdRow_res, rdRow_nil, Leaf.plain, LT.plain, List.isEmpty_cons, Bool.and_self, Bool.and_true, Bool.true_and, Bool.or_true, Bool.true_or, Bool.or_false, Bool.false_or, reserve0, rowSV_len, rowSV_cap, rowSV_tail, guardO_true]
  rw [s1]
  simp -implicitDefEqProofs only [Option.bind_some, Option.bind_none, Option.map_some, Option.map_none, cond_true, cond_false, Bool.not_true, Bool.not_false, if_true, if_false, reduceIte, rdRes, rdTT, rdTy, rdLT, rdLeaf_int, rdLeaf_bool, rdLeaf_str, rdLeaf_row, Res.un, TT.un, Ty.un, LT.un, Leaf.un, rdRow_i1, rdRow_i2, rdRow_i3, rdRow_i4, rdRow_i5, rdRow_args, rdRow_res, rdRow_nil, Leaf.plain, LT.plain, List.isEmpty_cons, Bool.and_self, Bool.and_true, Bool.true_and, Bool.or_true, Bool.true_or, Bool.or_false, Bool.false_or, reserve0, rowSV_len, rowSV_cap, rowSV_tail, guardO_true, Int.toNat_natCast, r0, r1, guardO_pos hg, guardO_pos hn, (rd_q2 (f := false) hm).1, (rd_q2 (f := false) hm).2]
  by_cases he : (q2 xs m).1 = t
  · rw [decide_eq_true he, if_pos he]
    simp -implicitDefEqProofs only [Option.bind_some, Option.bind_none, Option.map_some, Option.map_none, cond_true, cond_false, Bool.not_true, Bool.not_false, if_true, if_false, reduceIte, rdRes, rdTT, rdTy, rdLT, rdLeaf_int, rdLeaf_bool, rdLeaf_str, rdLeaf_row, Res.un, TT.un, Ty.un, LT.un, Leaf.un, rdRow_i1, rdRow_i2, rdRow_i3, rdRow_i4, rdRow_i5, rdRow_args, rdRow_res, rdRow_nil, Leaf.plain, LT.plain, List.isEmpty_cons, Bool.and_self, Bool.and_true, Bool.true_and, Bool.or_true, Bool.true_or, Bool.or_false, Bool.false_or, reserve0, rowSV_len, rowSV_cap, rowSV_tail, guardO_true]
  · rw [decide_eq_false he, if_neg he]
    have hm0 : 0 < m := by
      rcases Nat.eq_zero_or_pos m with h' | h'
      · subst h'
        have := h.first
        omega
      · exact h'
    have hi1 : (m : Int) - 1 = ((m - 1 : Nat) : Int) := by omega
    have hg1 : 0 ≤ ((m - 1 : Nat) : Int) ∧ ((m - 1 : Nat) : Int) < (xs.length : Int) := by omega
    simp -implicitDefEqProofs only [Option.bind_some, Option.bind_none, Option.map_some, Option.map_none, cond_true, cond_false, Bool.not_true, Bool.not_false, if_true, if_false, reduceIte, rdRes, rdTT, rdTy, rdLT, rdLeaf_int, rdLeaf_bool, rdLeaf_str, rdLeaf_row, Res.un, TT.un, Ty.un, LT.un, Leaf.un, rdRow_i1, rdRow_i2, rdRow_i3, rdRow_i4, rdRow_i5, rdRow_args, rdRow_res, rdRow_nil, Leaf.plain, LT.plain, List.isEmpty_cons, Bool.and_self, Bool.and_true, Bool.true_and, Bool.or_true, Bool.true_or, Bool.or_false, Bool.false_or, reserve0, rowSV_len, rowSV_cap, rowSV_tail, guardO_true]
    rw [hi1, i64_nat (by omega)]
    simp -implicitDefEqProofs only [Int.toNat_natCast]
    rw [guardO_pos hg1, rds_rowF (ls := j2) (w := 2) rfl (by omega) rfl, q2_some (i := m - 1) (by omega)]
    simp -implicitDefEqProofs only [Option.bind_some, Option.bind_none, Option.map_some, Option.map_none, cond_true, cond_false, Bool.not_true, Bool.not_false, if_true, if_false, reduceIte, rdRes, rdTT, rdTy, rdLT, rdLeaf_int, rdLeaf_bool, rdLeaf_str, rdLeaf_row, Res.un, TT.un, Ty.un, LT.un, Leaf.un, rdRow_i1, rdRow_i2, rdRow_i3, rdRow_i4, rdRow_i5, rdRow_args, rdRow_res, rdRow_nil, Leaf.plain, LT.plain, List.isEmpty_cons, Bool.and_self, Bool.and_true, Bool.true_and, Bool.or_true, Bool.true_or, Bool.or_false, Bool.false_or, reserve0, rowSV_len, rowSV_cap, rowSV_tail, guardO_true]
    rw [rds_rowF (ls := j2) (w := 2) rfl (by omega) rfl, q2_some hm]
    simp -implicitDefEqProofs only [Option.bind_some, Option.bind_none, Option.map_some, Option.map_none, cond_true, cond_false, Bool.not_true, Bool.not_false, if_true, if_false, reduceIte, rdRes, rdTT, rdTy, rdLT, rdLeaf_int, rdLeaf_bool, rdLeaf_str, rdLeaf_row, Res.un, TT.un, Ty.un, LT.un, Leaf.un, rdRow_i1, rdRow_i2, rdRow_i3, rdRow_i4, rdRow_i5, rdRow_args, rdRow_res, rdRow_nil, Leaf.plain, LT.plain, List.isEmpty_cons, Bool.and_self, Bool.and_true, Bool.true_and, Bool.or_true, Bool.true_or, Bool.or_false, Bool.false_or, reserve0, rowSV_len, rowSV_cap, rowSV_tail, guardO_true]
    have hup := h.up (m - 1) (by omega)
    rw [Nat.sub_add_cancel hm0] at hup
    rw [between_ok (x := q2 xs (m - 1)) (y := q2 xs m) (h.ok _ (by omega)) (h.ok _ hm) hup (by have := hlow (m - 1) (by omega); omega) hge]
    simp -implicitDefEqProofs only [Option.bind_some, Option.bind_none, Option.map_some, Option.map_none, cond_true, cond_false, Bool.not_true, Bool.not_false, if_true, if_false, reduceIte, rdRes, rdTT, rdTy, rdLT, rdLeaf_int, rdLeaf_bool, rdLeaf_str, rdLeaf_row, Res.un, TT.un, Ty.un, LT.un, Leaf.un, rdRow_i1, rdRow_i2, rdRow_i3, rdRow_i4, rdRow_i5, rdRow_args, rdRow_res, rdRow_nil, Leaf.plain, LT.plain, List.isEmpty_cons, Bool.and_self, Bool.and_true, Bool.true_and, Bool.or_true, Bool.true_or, Bool.or_false, Bool.false_or, reserve0, rowSV_len, rowSV_cap, rowSV_tail, guardO_true]
/-- The density of a right table at a grade. -/
noncomputable def dens (xs : List (Int × Int)) (t : Int) : Int := (interpolate_atP xs t).getD 0
theorem dens_ok {xs : List (Int × Int)} {t : Int} (h : Table2 xs) (h0 : 0 ≤ t) (h1 : t ≤ 10000) : interpolate_atP xs t = some (dens xs t) ∧ ∃ k, k < xs.length ∧ (∀ q, q < k → (q2 xs q).1 < t) ∧ t ≤ (q2 xs k).1 ∧ dens xs t = valOf xs k t := by
  obtain ⟨k, k1, k2, k3, k4⟩ := at_ok h h0 h1
  have : dens xs t = valOf xs k t := by unfold dens; rw [k4]; rfl
  exact ⟨by rw [this]; exact k4, k, k1, k2, k3, this⟩
theorem val_bound {xs : List (Int × Int)} {t : Int} {k : Nat} (h : Table2 xs) (h0 : 0 ≤ t) (hk : k < xs.length) (hl : ∀ q, q < k → (q2 xs q).1 < t) (hu : t ≤ (q2 xs k).1) : (q2 xs k).2 ≤ valOf xs k t ∧ valOf xs k t ≤ (q2 xs (k - 1)).2 ∧ ((q2 xs k).1 ≠ t → 0 < k ∧ (q2 xs (k - 1)).1 < (q2 xs k).1 ∧ (q2 xs k).2 ≤ (q2 xs (k - 1)).2) := by
  unfold valOf
  by_cases he : (q2 xs k).1 = t
  · rw [if_pos he]
    exact ⟨Int.le_refl _, down_le h k (k - 1) (by omega) hk, fun hn => absurd he hn⟩
  · rw [if_neg he]
    have hk0 : 0 < k := by
      rcases Nat.eq_zero_or_pos k with h' | h'
      · subst h'
        have := h.first
        omega
      · exact h'
    have hup := h.up (k - 1) (by omega)
    have hdn := h.down (k - 1) (by omega)
    rw [Nat.sub_add_cancel hk0] at hup hdn
    have := hl (k - 1) (by omega)
    have hb := line_bound hup hdn (t := t) (by omega) hu
    exact ⟨hb.1, hb.2, fun _ => ⟨hk0, hup, hdn⟩⟩
theorem dens_bound {xs : List (Int × Int)} {t : Int} (h : Table2 xs) (h0 : 0 ≤ t) (h1 : t ≤ 10000) : 50000 ≤ dens xs t ∧ dens xs t ≤ 120000 := by
  obtain ⟨_, k, k1, k2, k3, k4⟩ := dens_ok h h0 h1
  have hb := val_bound h h0 k1 k2 k3
  have o1 := okPt_iff.1 (h.ok k k1)
  have o2 := okPt_iff.1 (h.ok (k - 1) (by omega))
  omega
theorem dens_down {xs : List (Int × Int)} {s t : Int} (h : Table2 xs) (h0 : 0 ≤ s) (hst : s ≤ t) (h1 : t ≤ 10000) : dens xs t ≤ dens xs s := by
  obtain ⟨_, k, k1, k2, k3, k4⟩ := dens_ok h h0 (show s ≤ 10000 by omega)
  obtain ⟨_, j, j1, j2', j3, j4⟩ := dens_ok h (show 0 ≤ t by omega) h1
  have bk := val_bound h h0 k1 k2 k3
  have bj := val_bound h (show 0 ≤ t by omega) j1 j2' j3
  have hkj : k ≤ j := by
    rcases Nat.lt_or_ge j k with h' | h'
    · have := k2 j h'
      omega
    · exact h'
  rw [k4, j4]
  by_cases e : k = j
  · subst e
    unfold valOf
    by_cases e1 : (q2 xs k).1 = t
    · rw [if_pos e1]
      by_cases e2 : (q2 xs k).1 = s
      · rw [if_pos e2]; exact Int.le_refl _
      · rw [if_neg e2]
        have := bk.1
        unfold valOf at this
        rw [if_neg e2] at this
        exact this
    · rw [if_neg e1, if_neg (by omega)]
      exact line_down (bj.2.2 e1).2.1 (bj.2.2 e1).2.2 hst
  · have := down_le h (j - 1) k (by omega) (by omega)
    omega
theorem Density_ok (xs : List (Int × Int)) (t : Int) : interpolate_DensityP xs t = some (if (checkOf xs).2 = 0 then (if 0 ≤ t ∧ t ≤ 10000 then (dens xs t, 0) else (0, 2)) else (0, 1)) := by
  have hr : interpolate_rightP xs = some (decide ((checkOf xs).2 = 0)) := by
    unfold interpolate_rightP interpolate_right
    simp -implicitDefEqProofs only [Option.bind_some, Option.bind_none, Option.map_some, Option.map_none, cond_true, cond_false, Bool.not_true, Bool.not_false, if_true, if_false, reduceIte, rdRes, rdTT, rdTy, rdLT, rdLeaf_int, rdLeaf_bool, rdLeaf_str, rdLeaf_row, Res.un, TT.un, Ty.un, LT.un, Leaf.un, rdRow_i1, rdRow_i2, rdRow_i3, rdRow_i4, rdRow_i5, rdRow_args, rdRow_res, rdRow_nil, Leaf.plain, LT.plain, List.isEmpty_cons, Bool.and_self, Bool.and_true, Bool.true_and, Bool.or_true, Bool.true_or, Bool.or_false, Bool.false_or, reserve0, rowSV_len, rowSV_cap, rowSV_tail, guardO_true, DCheck_ok]
  unfold interpolate_DensityP interpolate_Density
  simp -implicitDefEqProofs only [Option.bind_some, Option.bind_none, Option.map_some, Option.map_none, cond_true, cond_false, Bool.not_true, Bool.not_false, if_true, if_false, reduceIte, rdRes, rdTT, rdTy, rdLT, rdLeaf_int, rdLeaf_bool, rdLeaf_str, rdLeaf_row, Res.un, TT.un, Ty.un, LT.un, Leaf.un, rdRow_i1, rdRow_i2, rdRow_i3, rdRow_i4, rdRow_i5, rdRow_args, rdRow_res, rdRow_nil, Leaf.plain, LT.plain, List.isEmpty_cons, Bool.and_self, Bool.and_true, Bool.true_and, Bool.or_true, Bool.true_or, Bool.or_false, Bool.false_or, reserve0, rowSV_len, rowSV_cap, rowSV_tail, guardO_true, hr]
  by_cases hc : (checkOf xs).2 = 0
  · rw [decide_eq_true hc, if_pos hc]
    have ht := check_table hc
    simp -implicitDefEqProofs only [Option.bind_some, Option.bind_none, Option.map_some, Option.map_none, cond_true, cond_false, Bool.not_true, Bool.not_false, if_true, if_false, reduceIte, rdRes, rdTT, rdTy, rdLT, rdLeaf_int, rdLeaf_bool, rdLeaf_str, rdLeaf_row, Res.un, TT.un, Ty.un, LT.un, Leaf.un, rdRow_i1, rdRow_i2, rdRow_i3, rdRow_i4, rdRow_i5, rdRow_args, rdRow_res, rdRow_nil, Leaf.plain, LT.plain, List.isEmpty_cons, Bool.and_self, Bool.and_true, Bool.true_and, Bool.or_true, Bool.true_or, Bool.or_false, Bool.false_or, reserve0, rowSV_len, rowSV_cap, rowSV_tail, guardO_true]
    by_cases h0 : t < 0
    · rw [decide_eq_true h0, if_neg (by omega)]
      simp -implicitDefEqProofs only [Option.bind_some, Option.bind_none, Option.map_some, Option.map_none, cond_true, cond_false, Bool.not_true, Bool.not_false, if_true, if_false, reduceIte, rdRes, rdTT, rdTy, rdLT, rdLeaf_int, rdLeaf_bool, rdLeaf_str, rdLeaf_row, Res.un, TT.un, Ty.un, LT.un, Leaf.un, rdRow_i1, rdRow_i2, rdRow_i3, rdRow_i4, rdRow_i5, rdRow_args, rdRow_res, rdRow_nil, Leaf.plain, LT.plain, List.isEmpty_cons, Bool.and_self, Bool.and_true, Bool.true_and, Bool.or_true, Bool.true_or, Bool.or_false, Bool.false_or, reserve0, rowSV_len, rowSV_cap, rowSV_tail, guardO_true]
    · rw [decide_eq_false h0]
      simp -implicitDefEqProofs only [Option.bind_some, Option.bind_none, Option.map_some, Option.map_none, cond_true, cond_false, Bool.not_true, Bool.not_false, if_true, if_false, reduceIte, rdRes, rdTT, rdTy, rdLT, rdLeaf_int, rdLeaf_bool, rdLeaf_str, rdLeaf_row, Res.un, TT.un, Ty.un, LT.un, Leaf.un, rdRow_i1, rdRow_i2, rdRow_i3, rdRow_i4, rdRow_i5, rdRow_args, rdRow_res, rdRow_nil, Leaf.plain, LT.plain, List.isEmpty_cons, Bool.and_self, Bool.and_true, Bool.true_and, Bool.or_true, Bool.true_or, Bool.or_false, Bool.false_or, reserve0, rowSV_len, rowSV_cap, rowSV_tail, guardO_true]
      by_cases h1 : (10000 : Int) < t
      · rw [decide_eq_true h1, if_neg (by omega)]
        simp -implicitDefEqProofs only [Option.bind_some, Option.bind_none, Option.map_some, Option.map_none, cond_true, cond_false, Bool.not_true, Bool.not_false, if_true, if_false, reduceIte, rdRes, rdTT, rdTy, rdLT, rdLeaf_int, rdLeaf_bool, rdLeaf_str, rdLeaf_row, Res.un, TT.un, Ty.un, LT.un, Leaf.un, rdRow_i1, rdRow_i2, rdRow_i3, rdRow_i4, rdRow_i5, rdRow_args, rdRow_res, rdRow_nil, Leaf.plain, LT.plain, List.isEmpty_cons, Bool.and_self, Bool.and_true, Bool.true_and, Bool.or_true, Bool.true_or, Bool.or_false, Bool.false_or, reserve0, rowSV_len, rowSV_cap, rowSV_tail, guardO_true]
      · rw [decide_eq_false h1, if_pos (by omega)]
        simp -implicitDefEqProofs only [Option.bind_some, Option.bind_none, Option.map_some, Option.map_none, cond_true, cond_false, Bool.not_true, Bool.not_false, if_true, if_false, reduceIte, rdRes, rdTT, rdTy, rdLT, rdLeaf_int, rdLeaf_bool, rdLeaf_str, rdLeaf_row, Res.un, TT.un, Ty.un, LT.un, Leaf.un, rdRow_i1, rdRow_i2, rdRow_i3, rdRow_i4, rdRow_i5, rdRow_args, rdRow_res, rdRow_nil, Leaf.plain, LT.plain, List.isEmpty_cons, Bool.and_self, Bool.and_true, Bool.true_and, Bool.or_true, Bool.true_or, Bool.or_false, Bool.false_or, reserve0, rowSV_len, rowSV_cap, rowSV_tail, guardO_true]
        rw [(dens_ok ht (by omega) (by omega)).1]
        simp -implicitDefEqProofs only [Option.bind_some, Option.bind_none, Option.map_some, Option.map_none, cond_true, cond_false, Bool.not_true, Bool.not_false, if_true, if_false, reduceIte, rdRes, rdTT, rdTy, rdLT, rdLeaf_int, rdLeaf_bool, rdLeaf_str, rdLeaf_row, Res.un, TT.un, Ty.un, LT.un, Leaf.un, rdRow_i1, rdRow_i2, rdRow_i3, rdRow_i4, rdRow_i5, rdRow_args, rdRow_res, rdRow_nil, Leaf.plain, LT.plain, List.isEmpty_cons, Bool.and_self, Bool.and_true, Bool.true_and, Bool.or_true, Bool.true_or, Bool.or_false, Bool.false_or, reserve0, rowSV_len, rowSV_cap, rowSV_tail, guardO_true]
  · rw [decide_eq_false hc, if_neg hc]
    simp -implicitDefEqProofs only [Option.bind_some, Option.bind_none, Option.map_some, Option.map_none, cond_true, cond_false, Bool.not_true, Bool.not_false, if_true, if_false, reduceIte, rdRes, rdTT, rdTy, rdLT, rdLeaf_int, rdLeaf_bool, rdLeaf_str, rdLeaf_row, Res.un, TT.un, Ty.un, LT.un, Leaf.un, rdRow_i1, rdRow_i2, rdRow_i3, rdRow_i4, rdRow_i5, rdRow_args, rdRow_res, rdRow_nil, Leaf.plain, LT.plain, List.isEmpty_cons, Bool.and_self, Bool.and_true, Bool.true_and, Bool.or_true, Bool.true_or, Bool.or_false, Bool.false_or, reserve0, rowSV_len, rowSV_cap, rowSV_tail, guardO_true]
end Go.Proofs.Ytaepkinihaipkaa
