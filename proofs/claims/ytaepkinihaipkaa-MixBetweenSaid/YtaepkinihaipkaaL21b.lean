/- The law MixParts in plain numbers. Conditions: none. -/
import Derived.Test.YtaepkinihaipkaaM21b
import Derived.Test.YtaepkinihaipkaaFn8
namespace Go.Proofs.Ytaepkinihaipkaa
open Go Go.Proofs.Ytaepkinihaipkaa.Ev
set_option linter.unusedVariables false
set_option linter.unusedSimpArgs false
set_option maxRecDepth 100000
set_option maxHeartbeats 4000000
theorem part_zero {a : Int} {ws : List Int} {i : Nat} (ha : 0 ≤ a) (hS : 0 < ws.sum) (hw : ∀ w ∈ ws, 0 ≤ w) (hi : i < ws.length) : 0 ≤ g (divParts a ws.sum ws) i ∧ (g ws i = 0 → g (divParts a ws.sum ws) i = 0) := by
  have hl : 0 < ws.length := by omega
  have hb := left_bound (a := a) hS hl
  have hwi := hw _ (g_mem hi)
  have e0 : 0 ≤ a * g ws i / ws.sum := Int.ediv_nonneg (Int.mul_nonneg ha hwi) (by omega)
  have hlt : (i : Int) ∈ (ord (rems a ws.sum ws)).take (a - (quos a ws.sum ws).sum).toNat → 0 < a * g ws i % ws.sum := fun h => by
    obtain ⟨p, hp, e⟩ := List.getElem_of_mem h
    rw [List.getElem_take] at e
    rw [List.length_take, ord_length, rems_length] at hp
    have := rem_pos (a := a) (p := p) hS hl (by omega)
    rw [g_eq (xs := ord _) (by rw [ord_length, rems_length]; omega), e, Int.toNat_natCast, g_rems hi] at this
    exact this
  unfold divParts
  rw [g_bump (by rw [quos_length]; exact hi), g_quos hi]
  by_cases h : (i : Int) ∈ (ord (rems a ws.sum ws)).take (a - (quos a ws.sum ws).sum).toNat
  · rw [if_pos h]
    refine ⟨by omega, fun e => ?_⟩
    have := hlt h
    rw [e] at this
    simp at this
  · rw [if_neg h]
    refine ⟨by omega, fun e => ?_⟩
    rw [e]
    simp
theorem sum_take_g (xs : List Int) (i : Nat) : (xs.take (i + 1)).sum = (xs.take i).sum + g xs i := by
  by_cases h : i < xs.length
  · rw [sum_take_succ h, g_eq h]
  · rw [List.take_of_length_le (by omega), List.take_of_length_le (by omega)]
    unfold g
    rw [List.getElem?_eq_none (by omega)]
    simp
abbrev c2 (x : Int × Int) : Slot := .own [.int .i64 x.1, .int .i64 x.2] 2
def slotsM (x : Int × Int) (al ps : List Int) (n i : Nat) : List Slot := c2 x :: c2 ((al.take i).sum, (ps.take i).sum) :: ((fillM al ps n n).take i).map c2
theorem slotsM_succ {x : Int × Int} {al ps : List Int} {n i : Nat} (h : i < n) : (slotsM x al ps n i ++ [c2 (g al i, g ps i)]).set 1 (c2 ((al.take i).sum + g al i, (ps.take i).sum + g ps i)) = slotsM x al ps n (i + 1) := by
  unfold slotsM
  have := fillM_get (al := al) (ps := ps) (k := n) h
  rw [if_pos h] at this
  obtain ⟨h1, h2⟩ := List.getElem?_eq_some_iff.1 this
  rw [← List.take_append_getElem h1, h2, sum_take_g, sum_take_g, List.map_append]
  rfl
theorem new_c2 {sl : List Slot} {x : Int × Int} : H.wrs (hL (sl ++ [Slot.own [V.int .i64 0, V.int .i64 0] 2])) (.hp sl.length 2 0) [.int .i64 x.1, .int .i64 x.2] = some (hL (sl ++ [c2 x])) := by
  rw [wrs_own (g := 2) (cs := [V.int .i64 0, V.int .i64 0]) (e := 2) (by simp) rfl (by simp)]
  simp [splice]
theorem rd_c2 {sl : List Slot} {id : Nat} {x : Int × Int} (h : sl[id]? = some (c2 x)) : rdT (.leaf (.int .i64)) (hL sl) (.hp id 2 0) = some x.1 ∧ rdT (.leaf (.int .i64)) (hL sl) (.hp id 2 1) = some x.2 := by
  refine ⟨?_, ?_⟩
  · rw [rd_own (g := 2) h rfl]; rfl
  · rw [rd_own (g := 2) h rfl]; rfl
theorem rds_c2 {sl : List Slot} {id : Nat} {x : Int × Int} (h : sl[id]? = some (c2 x)) : rdT (.agg [.int .i64, .int .i64]) (hL sl) (.hp id 2 0) = some x := by
  rw [rds_hp (by simp), hL_m, h]; rfl
theorem wrs_c2 {sl : List Slot} {id : Nat} {x y : Int × Int} (h : sl[id]? = some (c2 x)) : H.wrs (hL sl) (.hp id 2 0) [.int .i64 y.1, .int .i64 y.2] = some (hL (sl.set id (c2 y))) := by
  rw [wrs_own (g := 2) h rfl (by simp)]; rfl
theorem parts_loop {x : Int × Int} {al ps ws : List Int} {n : Nat} {f : Bool} (hw : ws.length = n) (hn : n ≤ 64) (ha : ∀ y ∈ al, 0 ≤ y) (hp : ∀ y ∈ ps, 0 ≤ y) (has : al.sum = x.1) (hps : ps.sum = x.2) (hx : isPlain x = true)
    (h : ∀ i, i < n → 0 ≤ g al i ∧ 0 ≤ g ps i ∧ (g ps i = 0 → g al i = 0) ∧ (g ws i = 0 → g ps i = 0)) :
    iter FUEL (spilelaw21_MixParts.loop1 (rowSV f [.int .i64] ws) (hL [c2 x]) (fillM al ps n n)) (0, hL [c2 x, c2 (0, 0)]) = some (.ex0 (), hL (slotsM x al ps n n)) := by
  rw [isPlain_iff] at hx
  refine (iter_from (f := spilelaw21_MixParts.loop1 (rowSV f [.int .i64] ws) (hL [c2 x]) (fillM al ps n n)) (fun i => ((i : Int), hL (slotsM x al ps n i))) rfl n FUEL (fun i hi => ?_) ?_ (fuel_gt (by omega)))
  · obtain ⟨b1, b2, b3, b4⟩ := h i hi
    have k1 := sum_take_le ha i
    have k2 := sum_take_le hp i
    have k3 := sum_take_le ha (i + 1)
    have k4 := sum_take_le hp (i + 1)
    rw [sum_take_g] at k3 k4
    have hlw := g_some (xs := ws) (k := i) (by omega)
    have hget := fillM_get (al := al) (ps := ps) (k := n) hi
    rw [if_pos hi] at hget
    have hg1 : 0 ≤ (i : Int) ∧ (i : Int) < (n : Int) := by omega
    have hrow : (slotsM x al ps n i ++ [c2 (g al i, g ps i)])[(slotsM x al ps n i).length]? = some (c2 (g al i, g ps i)) := by simp
    have htot : (slotsM x al ps n i ++ [c2 (g al i, g ps i)])[1]? = some (c2 ((al.take i).sum, (ps.take i).sum)) := rfl
    have r1 := rd_c2 hrow
    have r2 := rds_c2 hrow
    have t1 := rd_c2 htot
    have wt := wrs_c2 (y := ((al.take i).sum + g al i, (ps.take i).sum + g ps i)) htot
    have nw := new_c2 (sl := slotsM x al ps n i) (x := (g al i, g ps i))
    rw [slotsM_succ hi] at wt
    simp only at r1 t1 wt nw
    unfold spilelaw21_MixParts.loop1
    simp -implicitDefEqProofs only [Int.toNat_natCast, rowSV_len, fillM_length, hw]
    rw [decide_eq_true hg1.2, cond_true]
    simp -implicitDefEqProofs only [guardO_pos hg1]
    rw [rds_rowF (ls := j2) (w := 2) rfl (by omega) rfl, hget]
    simp -implicitDefEqProofs only [Option.bind_some, hL_new, hL_next, List.length_cons, List.length_nil, Nat.zero_add]
    rw [nw]
    simp -implicitDefEqProofs only [Option.bind_some, r1.1, r1.2, r2, rd_rowI, hlw]
    rw [decide_eq_false (show ¬ g al i < 0 by omega), decide_eq_false (show ¬ g ps i < 0 by omega)]
    simp -implicitDefEqProofs only [Option.bind_some, Option.bind_none, Option.map_some, Option.map_none, cond_true, cond_false, Bool.not_true, Bool.not_false, if_true, if_false, reduceIte, rdRes, rdTT, rdTy, rdLT, rdLeaf_int, rdLeaf_bool, rdLeaf_str, rdLeaf_row, Res.un, TT.un, Ty.un, LT.un, Leaf.un, rdRow_i1, rdRow_i2, rdRow_i3, rdRow_i4, rdRow_i5, rdRow_args, rdRow_res, rdRow_nil, Leaf.plain, LT.plain, List.isEmpty_cons, Bool.and_self, Bool.and_true, Bool.true_and, Bool.or_true, Bool.true_or, Bool.or_false, Bool.false_or, reserve0, rowSV_len, rowSV_cap, rowSV_tail, guardO_true]
    have hfin : ∀ b, b = false → ((some (b, hL (slotsM x al ps n i ++ [c2 (g al i, g ps i)])) : Option (Bool × H)).bind fun x_1 => (bif x_1.1 then (some (.done (.ret false, x_1.2))) else ((rdT (.leaf (.int .i64)) x_1.2 (.hp 1 2 0)).bind fun x24 =>
((rdT (.leaf (.int .i64)) x_1.2 (.hp (slotsM x al ps n i).length 2 0)).bind fun x25 =>
((rdT (.leaf (.int .i64)) x_1.2 (.hp 1 2 1)).bind fun x26 =>
((rdT (.leaf (.int .i64)) x_1.2 (.hp (slotsM x al ps n i).length 2 1)).bind fun x27 =>
((H.wrs x_1.2 (.hp 1 2 0) [.int .i64 (IntKind.wrap .i64 (x24 + x25)), .int .i64 (IntKind.wrap .i64 (x26 + x27))]).bind fun h28 =>
(some (.more ((IntKind.wrap .i64 ((i : Int) + 1)), h28)))))))) : Option (Stp ((Int) × H) (Flow (Unit) (Bool) × H)))) = some (.more (((i + 1 : Nat) : Int), hL (slotsM x al ps n (i + 1)))) := fun b hb => by
      subst hb
      simp -implicitDefEqProofs only [Option.bind_some, cond_false, r1.1, r1.2, t1.1, t1.2]
      rw [i64_in _ (by omega), i64_in _ (by omega), wt]
      simp -implicitDefEqProofs only [Option.bind_some]
      rw [i64_succ (by omega)]
    by_cases c1 : g ps i = 0
    · have c2' := b3 c1
      rw [decide_eq_true c1, decide_eq_true c2']
      simp -implicitDefEqProofs only [Option.bind_some, Option.bind_none, Option.map_some, Option.map_none, cond_true, cond_false, Bool.not_true, Bool.not_false, if_true, if_false, reduceIte, rdRes, rdTT, rdTy, rdLT, rdLeaf_int, rdLeaf_bool, rdLeaf_str, rdLeaf_row, Res.un, TT.un, Ty.un, LT.un, Leaf.un, rdRow_i1, rdRow_i2, rdRow_i3, rdRow_i4, rdRow_i5, rdRow_args, rdRow_res, rdRow_nil, Leaf.plain, LT.plain, List.isEmpty_cons, Bool.and_self, Bool.and_true, Bool.true_and, Bool.or_true, Bool.true_or, Bool.or_false, Bool.false_or, reserve0, rowSV_len, rowSV_cap, rowSV_tail, guardO_true]
      by_cases c3 : g ws i = 0
      · rw [decide_eq_true c3]
        simp -implicitDefEqProofs only [Option.bind_some, Option.bind_none, Option.map_some, Option.map_none, cond_true, cond_false, Bool.not_true, Bool.not_false, if_true, if_false, reduceIte, rdRes, rdTT, rdTy, rdLT, rdLeaf_int, rdLeaf_bool, rdLeaf_str, rdLeaf_row, Res.un, TT.un, Ty.un, LT.un, Leaf.un, rdRow_i1, rdRow_i2, rdRow_i3, rdRow_i4, rdRow_i5, rdRow_args, rdRow_res, rdRow_nil, Leaf.plain, LT.plain, List.isEmpty_cons, Bool.and_self, Bool.and_true, Bool.true_and, Bool.or_true, Bool.true_or, Bool.or_false, Bool.false_or, reserve0, rowSV_len, rowSV_cap, rowSV_tail, guardO_true]
        exact hfin false rfl
      · rw [decide_eq_false c3]
        simp -implicitDefEqProofs only [Option.bind_some, Option.bind_none, Option.map_some, Option.map_none, cond_true, cond_false, Bool.not_true, Bool.not_false, if_true, if_false, reduceIte, rdRes, rdTT, rdTy, rdLT, rdLeaf_int, rdLeaf_bool, rdLeaf_str, rdLeaf_row, Res.un, TT.un, Ty.un, LT.un, Leaf.un, rdRow_i1, rdRow_i2, rdRow_i3, rdRow_i4, rdRow_i5, rdRow_args, rdRow_res, rdRow_nil, Leaf.plain, LT.plain, List.isEmpty_cons, Bool.and_self, Bool.and_true, Bool.true_and, Bool.or_true, Bool.true_or, Bool.or_false, Bool.false_or, reserve0, rowSV_len, rowSV_cap, rowSV_tail, guardO_true]
        exact hfin false rfl
    · have c3 : ¬ g ws i = 0 := fun e => c1 (b4 e)
      rw [decide_eq_false c1, decide_eq_false c3]
      simp -implicitDefEqProofs only [Option.bind_some, Option.bind_none, Option.map_some, Option.map_none, cond_true, cond_false, Bool.not_true, Bool.not_false, if_true, if_false, reduceIte, rdRes, rdTT, rdTy, rdLT, rdLeaf_int, rdLeaf_bool, rdLeaf_str, rdLeaf_row, Res.un, TT.un, Ty.un, LT.un, Leaf.un, rdRow_i1, rdRow_i2, rdRow_i3, rdRow_i4, rdRow_i5, rdRow_args, rdRow_res, rdRow_nil, Leaf.plain, LT.plain, List.isEmpty_cons, Bool.and_self, Bool.and_true, Bool.true_and, Bool.or_true, Bool.true_or, Bool.or_false, Bool.false_or, reserve0, rowSV_len, rowSV_cap, rowSV_tail, guardO_true]
      exact hfin false rfl
  · unfold spilelaw21_MixParts.loop1
    simp -implicitDefEqProofs only [fillM_length]
    rw [decide_eq_false (by omega), cond_false]
theorem MixParts_ok (x : Int × Int) (ws : List Int) : spilelaw21_MixPartsP x ws = some true := by
  obtain ⟨a, v⟩ := x
  unfold spilelaw21_MixPartsP spilelaw21_MixParts
  simp -implicitDefEqProofs only [awake21, Option.bind_some, Option.bind_none, Option.map_some, Option.map_none, cond_true, cond_false, Bool.not_true, Bool.not_false, if_true, if_false, reduceIte, rdRes, rdTT, rdTy, rdLT, rdLeaf_int, rdLeaf_bool, rdLeaf_str, rdLeaf_row, Res.un, TT.un, Ty.un, LT.un, Leaf.un, rdRow_i1, rdRow_i2, rdRow_i3, rdRow_i4, rdRow_i5, rdRow_args, rdRow_res, rdRow_nil, Leaf.plain, LT.plain, List.isEmpty_cons, Bool.and_self, Bool.and_true, Bool.true_and, Bool.or_true, Bool.true_or, Bool.or_false, Bool.false_or, reserve0, rowSV_len, rowSV_cap, rowSV_tail, guardO_true, hL_empty, hL_new, hL_next, hL_put, hL_reserve, List.replicate, rd_hp, rds_hp, wrs_hp, hL_m, List.nil_append, List.cons_append, List.append_nil, List.getElem?_cons_zero, List.getElem?_cons_succ, Option.getD_some, List.length_cons, List.length_nil, List.length_append, splice, List.take_zero, List.take_succ_cons, List.take_nil, List.drop_zero, List.drop_succ_cons, List.drop_nil, List.set_cons_zero, List.set_cons_succ, LT.pack, Leaf.pack, Nat.reduceAdd, Nat.reduceSub, Nat.reduceLeDiff, Nat.reduceLT, Nat.reduceEqDiff, Nat.zero_add, Nat.add_zero, Nat.zero_le, Nat.le_refl, and_self, and_true, true_and, Nat.lt_add_one, Nat.zero_lt_succ, ne_eq, not_false_eq_true, Nat.succ_ne_zero, List.flatMap_cons, List.flatMap_nil, LT.lo, Leaf.lo]
  by_cases h70 : (70 : Int) < (ws.length : Int)
  · rw [decide_eq_true h70]
    simp -implicitDefEqProofs only [Option.bind_some, Option.bind_none, Option.map_some, Option.map_none, cond_true, cond_false, Bool.not_true, Bool.not_false, if_true, if_false, reduceIte, rdRes, rdTT, rdTy, rdLT, rdLeaf_int, rdLeaf_bool, rdLeaf_str, rdLeaf_row, Res.un, TT.un, Ty.un, LT.un, Leaf.un, rdRow_i1, rdRow_i2, rdRow_i3, rdRow_i4, rdRow_i5, rdRow_args, rdRow_res, rdRow_nil, Leaf.plain, LT.plain, List.isEmpty_cons, Bool.and_self, Bool.and_true, Bool.true_and, Bool.or_true, Bool.true_or, Bool.or_false, Bool.false_or, reserve0, rowSV_len, rowSV_cap, rowSV_tail, guardO_true, hL_empty, hL_new, hL_next, hL_put, hL_reserve, List.replicate, rd_hp, rds_hp, wrs_hp, hL_m, List.nil_append, List.cons_append, List.append_nil, List.getElem?_cons_zero, List.getElem?_cons_succ, Option.getD_some, List.length_cons, List.length_nil, List.length_append, splice, List.take_zero, List.take_succ_cons, List.take_nil, List.drop_zero, List.drop_succ_cons, List.drop_nil, List.set_cons_zero, List.set_cons_succ, LT.pack, Leaf.pack, Nat.reduceAdd, Nat.reduceSub, Nat.reduceLeDiff, Nat.reduceLT, Nat.reduceEqDiff, Nat.zero_add, Nat.add_zero, Nat.zero_le, Nat.le_refl, and_self, and_true, true_and, Nat.lt_add_one, Nat.zero_lt_succ, ne_eq, not_false_eq_true, Nat.succ_ne_zero, List.flatMap_cons, List.flatMap_nil, LT.lo, Leaf.lo]
  · rw [decide_eq_false h70]
    simp -implicitDefEqProofs only [Option.bind_some, Option.bind_none, Option.map_some, Option.map_none, cond_true, cond_false, Bool.not_true, Bool.not_false, if_true, if_false, reduceIte, rdRes, rdTT, rdTy, rdLT, rdLeaf_int, rdLeaf_bool, rdLeaf_str, rdLeaf_row, Res.un, TT.un, Ty.un, LT.un, Leaf.un, rdRow_i1, rdRow_i2, rdRow_i3, rdRow_i4, rdRow_i5, rdRow_args, rdRow_res, rdRow_nil, Leaf.plain, LT.plain, List.isEmpty_cons, Bool.and_self, Bool.and_true, Bool.true_and, Bool.or_true, Bool.true_or, Bool.or_false, Bool.false_or, reserve0, rowSV_len, rowSV_cap, rowSV_tail, guardO_true, hL_empty, hL_new, hL_next, hL_put, hL_reserve, List.replicate, rd_hp, rds_hp, wrs_hp, hL_m, List.nil_append, List.cons_append, List.append_nil, List.getElem?_cons_zero, List.getElem?_cons_succ, Option.getD_some, List.length_cons, List.length_nil, List.length_append, splice, List.take_zero, List.take_succ_cons, List.take_nil, List.drop_zero, List.drop_succ_cons, List.drop_nil, List.set_cons_zero, List.set_cons_succ, LT.pack, Leaf.pack, Nat.reduceAdd, Nat.reduceSub, Nat.reduceLeDiff, Nat.reduceLT, Nat.reduceEqDiff, Nat.zero_add, Nat.add_zero, Nat.zero_le, Nat.le_refl, and_self, and_true, true_and, Nat.lt_add_one, Nat.zero_lt_succ, ne_eq, not_false_eq_true, Nat.succ_ne_zero, List.flatMap_cons, List.flatMap_nil, LT.lo, Leaf.lo]
    rw [MDivide_ok _ ws (by omega), mixDivOf]
    simp only
    by_cases hp : isPlain (a, v) = true
    · rw [if_pos hp]
      have hp' := isPlain_iff.1 hp
      simp only at hp'
      by_cases he : (weighOf v ws).2 = 0
      · obtain ⟨ha, h0, h64, hall, hSa, hne, h1⟩ := weighOf_ok he
        have hS' := isAmt_iff.1 hSa
        rw [if_pos he, h1]
        have hw0 : ∀ w ∈ ws, 0 ≤ w := fun w hw => (all_amt hall w hw).1
        have hpl := divParts_length (a := v) (S := ws.sum) (ws := ws)
        have hps := divParts_sum (a := v) (ws := ws) (by omega) h0
        have hb := fun i hi => part_zero (a := v) (ws := ws) (i := i) hp'.2.2.1 (by omega) hw0 hi
        generalize divParts v ws.sum ws = ps at *
        have hp0 : ∀ y ∈ ps, 0 ≤ y := fun y hy => by
          obtain ⟨k, hk, rfl⟩ := mem_g hy
          exact (hb k (by omega)).1
        have hpa : ps.all isAmt = true := List.all_eq_true.2 fun y hy => isAmt_iff.2 (by
          have k1 := hp0 y hy
          have k2 := mem_le_sum hp0 hy
          omega)
        have hal : (∀ y ∈ (divideOf a ps).1, 0 ≤ y) ∧ (divideOf a ps).1.sum = a ∧ ∀ i, i < ws.length → 0 ≤ g (divideOf a ps).1 i ∧ (g ps i = 0 → g (divideOf a ps).1 i = 0) := by
          by_cases hv : v = 0
          · have ha0 : a = 0 := by omega
            have hw : weighOf a ps = (0, 16) := by
              unfold weighOf
              rw [if_pos (isAmt_iff.2 (by omega)), if_neg (by omega), if_neg (by omega), if_pos (by rw [hpa, hps, hv]; rfl), if_pos (by omega)]
            rw [divideOf, hw, if_neg (by simp)]
            exact ⟨by simp, by simp [ha0], fun i _ => ⟨by simp [g], fun _ => by simp [g]⟩⟩
          · have hw : weighOf a ps = (ps.sum, 0) := by
              unfold weighOf
              rw [if_pos (isAmt_iff.2 (by omega)), if_neg (by omega), if_neg (by omega), if_pos (by rw [hpa, hps, ha]; rfl), if_neg (by omega)]
            have hz := fun i hi => part_zero (a := a) (ws := ps) (i := i) hp'.1 (by omega) hp0 hi
            rw [divideOf, hw, if_pos rfl]
            refine ⟨fun y hy => ?_, divParts_sum (by omega) (by omega), fun i hi => hz i (by omega)⟩
            obtain ⟨k, hk, rfl⟩ := mem_g hy
            exact (hz k (by rwa [divParts_length] at hk)).1
        obtain ⟨q1, q2, q3⟩ := hal
        simp -implicitDefEqProofs only [Option.bind_some, Option.bind_none, Option.map_some, Option.map_none, cond_true, cond_false, Bool.not_true, Bool.not_false, if_true, if_false, reduceIte, rdRes, rdTT, rdTy, rdLT, rdLeaf_int, rdLeaf_bool, rdLeaf_str, rdLeaf_row, Res.un, TT.un, Ty.un, LT.un, Leaf.un, rdRow_i1, rdRow_i2, rdRow_i3, rdRow_i4, rdRow_i5, rdRow_args, rdRow_res, rdRow_nil, Leaf.plain, LT.plain, List.isEmpty_cons, Bool.and_self, Bool.and_true, Bool.true_and, Bool.or_true, Bool.true_or, Bool.or_false, Bool.false_or, reserve0, rowSV_len, rowSV_cap, rowSV_tail, guardO_true, hL_empty, hL_new, hL_next, hL_put, hL_reserve, List.replicate, rd_hp, rds_hp, wrs_hp, hL_m, List.nil_append, List.cons_append, List.append_nil, List.getElem?_cons_zero, List.getElem?_cons_succ, Option.getD_some, List.length_cons, List.length_nil, List.length_append, splice, List.take_zero, List.take_succ_cons, List.take_nil, List.drop_zero, List.drop_succ_cons, List.drop_nil, List.set_cons_zero, List.set_cons_succ, LT.pack, Leaf.pack, Nat.reduceAdd, Nat.reduceSub, Nat.reduceLeDiff, Nat.reduceLT, Nat.reduceEqDiff, Nat.zero_add, Nat.add_zero, Nat.zero_le, Nat.le_refl, and_self, and_true, true_and, Nat.lt_add_one, Nat.zero_lt_succ, ne_eq, not_false_eq_true, Nat.succ_ne_zero, List.flatMap_cons, List.flatMap_nil, LT.lo, Leaf.lo, eq_self, decide_true, fillM_length]
        have hloop := parts_loop (x := (a, v)) (al := (divideOf a ps).1) (ps := ps) (ws := ws) (f := false) rfl h64 q1 hp0 q2 hps hp (fun i hi => ⟨(q3 i hi).1, (hb i hi).1, (q3 i hi).2, (hb i hi).2⟩)
        simp only [c2] at hloop
        rw [hloop]
        simp -implicitDefEqProofs only [Option.bind_some, Option.bind_none, Option.map_some, Option.map_none, cond_true, cond_false, Bool.not_true, Bool.not_false, if_true, if_false, reduceIte, rdRes, rdTT, rdTy, rdLT, rdLeaf_int, rdLeaf_bool, rdLeaf_str, rdLeaf_row, Res.un, TT.un, Ty.un, LT.un, Leaf.un, rdRow_i1, rdRow_i2, rdRow_i3, rdRow_i4, rdRow_i5, rdRow_args, rdRow_res, rdRow_nil, Leaf.plain, LT.plain, List.isEmpty_cons, Bool.and_self, Bool.and_true, Bool.true_and, Bool.or_true, Bool.true_or, Bool.or_false, Bool.false_or, reserve0, rowSV_len, rowSV_cap, rowSV_tail, guardO_true]
        have e0 : (slotsM (a, v) (divideOf a ps).1 ps ws.length ws.length)[0]? = some (c2 (a, v)) := rfl
        have e1 : (slotsM (a, v) (divideOf a ps).1 ps ws.length ws.length)[1]? = some (c2 (((divideOf a ps).1.take ws.length).sum, (ps.take ws.length).sum)) := rfl
        have hal2 : (divideOf a ps).1.length ≤ ws.length := by
          rcases divideOf_cases a ps with ⟨_, h⟩ | ⟨_, h⟩
          · omega
          · rw [h]; simp
        rw [List.take_of_length_le hal2, List.take_of_length_le (by omega), q2, hps] at e1
        rw [hL_m, hL_m, e0, e1]
        simp [LT.pack, Leaf.pack]
      · rw [if_neg he]
        simp -implicitDefEqProofs only [Option.bind_some, Option.bind_none, Option.map_some, Option.map_none, cond_true, cond_false, Bool.not_true, Bool.not_false, if_true, if_false, reduceIte, rdRes, rdTT, rdTy, rdLT, rdLeaf_int, rdLeaf_bool, rdLeaf_str, rdLeaf_row, Res.un, TT.un, Ty.un, LT.un, Leaf.un, rdRow_i1, rdRow_i2, rdRow_i3, rdRow_i4, rdRow_i5, rdRow_args, rdRow_res, rdRow_nil, Leaf.plain, LT.plain, List.isEmpty_cons, Bool.and_self, Bool.and_true, Bool.true_and, Bool.or_true, Bool.true_or, Bool.or_false, Bool.false_or, reserve0, rowSV_len, rowSV_cap, rowSV_tail, guardO_true, hL_empty, hL_new, hL_next, hL_put, hL_reserve, List.replicate, rd_hp, rds_hp, wrs_hp, hL_m, List.nil_append, List.cons_append, List.append_nil, List.getElem?_cons_zero, List.getElem?_cons_succ, Option.getD_some, List.length_cons, List.length_nil, List.length_append, splice, List.take_zero, List.take_succ_cons, List.take_nil, List.drop_zero, List.drop_succ_cons, List.drop_nil, List.set_cons_zero, List.set_cons_succ, LT.pack, Leaf.pack, Nat.reduceAdd, Nat.reduceSub, Nat.reduceLeDiff, Nat.reduceLT, Nat.reduceEqDiff, Nat.zero_add, Nat.add_zero, Nat.zero_le, Nat.le_refl, and_self, and_true, true_and, Nat.lt_add_one, Nat.zero_lt_succ, ne_eq, not_false_eq_true, Nat.succ_ne_zero, List.flatMap_cons, List.flatMap_nil, LT.lo, Leaf.lo]
        rw [decide_eq_false he]
        rfl
    · rw [if_neg hp]
      simp -implicitDefEqProofs only [Option.bind_some, Option.bind_none, Option.map_some, Option.map_none, cond_true, cond_false, Bool.not_true, Bool.not_false, if_true, if_false, reduceIte, rdRes, rdTT, rdTy, rdLT, rdLeaf_int, rdLeaf_bool, rdLeaf_str, rdLeaf_row, Res.un, TT.un, Ty.un, LT.un, Leaf.un, rdRow_i1, rdRow_i2, rdRow_i3, rdRow_i4, rdRow_i5, rdRow_args, rdRow_res, rdRow_nil, Leaf.plain, LT.plain, List.isEmpty_cons, Bool.and_self, Bool.and_true, Bool.true_and, Bool.or_true, Bool.true_or, Bool.or_false, Bool.false_or, reserve0, rowSV_len, rowSV_cap, rowSV_tail, guardO_true, hL_empty, hL_new, hL_next, hL_put, hL_reserve, List.replicate, rd_hp, rds_hp, wrs_hp, hL_m, List.nil_append, List.cons_append, List.append_nil, List.getElem?_cons_zero, List.getElem?_cons_succ, Option.getD_some, List.length_cons, List.length_nil, List.length_append, splice, List.take_zero, List.take_succ_cons, List.take_nil, List.drop_zero, List.drop_succ_cons, List.drop_nil, List.set_cons_zero, List.set_cons_succ, LT.pack, Leaf.pack, Nat.reduceAdd, Nat.reduceSub, Nat.reduceLeDiff, Nat.reduceLT, Nat.reduceEqDiff, Nat.zero_add, Nat.add_zero, Nat.zero_le, Nat.le_refl, and_self, and_true, true_and, Nat.lt_add_one, Nat.zero_lt_succ, ne_eq, not_false_eq_true, Nat.succ_ne_zero, List.flatMap_cons, List.flatMap_nil, LT.lo, Leaf.lo]
      rfl
end Go.Proofs.Ytaepkinihaipkaa
