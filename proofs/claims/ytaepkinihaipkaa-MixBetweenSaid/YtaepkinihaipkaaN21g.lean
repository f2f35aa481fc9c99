/- What mix.mixture computes. Conditions: those of each law. -/
import Derived.Test.YtaepkinihaipkaaN21f
namespace Go.Proofs.Ytaepkinihaipkaa
open Go Go.Proofs.Ytaepkinihaipkaa.Ev
set_option linter.unusedVariables false
set_option linter.unusedSimpArgs false
set_option maxRecDepth 100000
set_option maxHeartbeats 4000000
theorem IndexFunc_grow {T : Table} {v : V} {B : List Slot} {xs : List (Int × Int)} {f : Bool} (p : Int × Int → Bool) (hn : xs.length < 2 ^ 63)
    (hc : ∀ x ∈ xs, ∀ (J : List Slot) {R : Type} (k : V → H → Option R), callV T.dy v [.agg [.int .i64 x.1, .int .i64 x.2]] (hL (B ++ J)) k = k (.bool (p x)) (hL (B ++ (J ++ [c2 x])))) :
    ∃ J, slices_IndexFunc_api_Liquid_api_Liquid T (rowSV f [.int .i64, .int .i64] xs) v (hL B) = some (idxOf p xs, hL (B ++ J)) := by
  have hstep : ∀ (i : Nat) (x : Int × Int), xs[i]? = some x → slices_IndexFunc_api_Liquid_api_Liquid.loop1 T (rowSV f j2 xs) v ((i : Int), hL (B ++ (xs.take i).map c2)) = some (bif p x then .done (.ret (i : Int), hL (B ++ (xs.take (i + 1)).map c2)) else .more (((i + 1 : Nat) : Int), hL (B ++ (xs.take (i + 1)).map c2))) := fun i x hx => by
    obtain ⟨hlt, hx'⟩ := List.getElem?_eq_some_iff.1 hx
    have ht : (xs.take (i + 1)).map c2 = (xs.take i).map c2 ++ [c2 x] := by
      rw [← List.take_append_getElem hlt, List.map_append, hx']
      rfl
    unfold slices_IndexFunc_api_Liquid_api_Liquid.loop1
    simp -implicitDefEqProofs only [rowSV_len, Int.toNat_natCast]
    rw [decide_eq_true (by omega), cond_true, guardO_pos (by omega), rds_rowF (ls := j2) (w := 2) rfl (by omega) rfl, hx]
    simp -implicitDefEqProofs only [Option.bind_some]
    rw [hc x (by rw [← hx']; exact List.getElem_mem hlt), ← ht]
    simp -implicitDefEqProofs only [Res.pack, Ty.pack, Leaf.pack, Option.bind_some]
    rw [i64_succ (by omega)]
    cases p x <;> rfl
  unfold slices_IndexFunc_api_Liquid_api_Liquid idxOf
  cases hf : xs.findIdx? p with
  | some m =>
    obtain ⟨hm, hbad, hgood⟩ := List.findIdx?_eq_some_iff_getElem.1 hf
    have := iter_run (f := slices_IndexFunc_api_Liquid_api_Liquid.loop1 T (rowSV f j2 xs) v) (x := (.ret (m : Int), hL (B ++ (xs.take (m + 1)).map c2))) (fun i => ((i : Int), hL (B ++ (xs.take i).map c2))) m FUEL (fun i hi => by
      rw [hstep i _ (List.getElem?_eq_getElem (by omega))]
      have := hgood i hi
      cases hpi : p xs[i] with
      | true => exact absurd hpi this
      | false => rfl) (by
      rw [hstep m _ (List.getElem?_eq_getElem hm), hbad]
      rfl) (fuel_gt (by omega))
    have hz : (((0 : Nat) : Int)) = 0 := rfl
    simp only [hz, List.take_zero, List.map_nil, List.append_nil] at this
    rw [this]
    exact ⟨_, rfl⟩
  | none =>
    have hno := List.findIdx?_eq_none_iff.1 hf
    have := iter_run (f := slices_IndexFunc_api_Liquid_api_Liquid.loop1 T (rowSV f j2 xs) v) (x := (.ex0 (), hL (B ++ xs.map c2))) (fun i => ((i : Int), hL (B ++ (xs.take i).map c2))) xs.length FUEL (fun i hi => by
      rw [hstep i _ (List.getElem?_eq_getElem hi), hno _ (List.getElem_mem hi)]
      rfl) (by
      unfold slices_IndexFunc_api_Liquid_api_Liquid.loop1
      simp -implicitDefEqProofs only [rowSV_len]
      rw [decide_eq_false (by omega), cond_false, List.take_length]) (fuel_gt (by omega))
    have hz : (((0 : Nat) : Int)) = 0 := rfl
    simp only [hz, List.take_zero, List.map_nil, List.append_nil] at this
    rw [this]
    exact ⟨_, rfl⟩
theorem ContainsFunc_grow {T : Table} {v : V} {B : List Slot} {xs : List (Int × Int)} {f : Bool} (p : Int × Int → Bool) (hn : xs.length < 2 ^ 63)
    (hc : ∀ x ∈ xs, ∀ (J : List Slot) {R : Type} (k : V → H → Option R), callV T.dy v [.agg [.int .i64 x.1, .int .i64 x.2]] (hL (B ++ J)) k = k (.bool (p x)) (hL (B ++ (J ++ [c2 x])))) :
    ∃ J, slices_ContainsFunc_api_Liquid_api_Liquid T (rowSV f [.int .i64, .int .i64] xs) v (hL B) = some (xs.any p, hL (B ++ J)) := by
  obtain ⟨J, h⟩ := IndexFunc_grow (T := slices_ContainsFunc_api_Liquid_api_Liquid.tb T) (f := f) p hn hc
  refine ⟨J, ?_⟩
  unfold slices_ContainsFunc_api_Liquid_api_Liquid
  rw [h]
  simp only [Option.bind_some, idxOf_nonneg]
theorem mixture_ok (xs ls : List (Int × Int)) (hl : ls.length < 2 ^ 63) : mix_mixtureP xs ls = some (mixtureOf xs ls) := by
  unfold mix_mixtureP mix_mixture mixtureOf
  simp -implicitDefEqProofs only [Option.bind_some, Option.bind_none, Option.map_some, Option.map_none, cond_true, cond_false, Bool.not_true, Bool.not_false, if_true, if_false, reduceIte, rdRes, rdTT, rdTy, rdLT, rdLeaf_int, rdLeaf_bool, rdLeaf_str, rdLeaf_row, Res.un, TT.un, Ty.un, LT.un, Leaf.un, rdRow_i1, rdRow_i2, rdRow_i3, rdRow_i4, rdRow_i5, rdRow_args, rdRow_res, rdRow_nil, Leaf.plain, LT.plain, List.isEmpty_cons, Bool.and_self, Bool.and_true, Bool.true_and, Bool.or_true, Bool.true_or, Bool.or_false, Bool.false_or, reserve0, rowSV_len, rowSV_cap, rowSV_tail, guardO_true, hL_empty, hL_new, hL_next, List.length_nil, List.length_cons, List.nil_append, List.cons_append, Nat.zero_add]
  have hB : ∀ (J : List Slot), (([.own [.slice (rowSV false j2 xs).a xs.length xs.length true] 1, c2 (0, 0)] : List Slot) ++ J)[1]? = some (c2 (0, 0)) := fun J => rfl
  have r0 : rdT (.leaf .slice) (hL [.own [.slice (rowSV false j2 xs).a xs.length xs.length true] 1, c2 (0, 0)]) (.hp 0 1 0) = some (rowSV false j2 xs) := by
    rw [rd_own (g := 1) (id := 0) rfl rfl]; rfl
  have w0 := wrs_c2 (y := (0, 0)) (hB [])
  have s0 := rds_c2 (hB [])
  simp only [c2, List.append_nil, List.set_cons_succ, List.set_cons_zero] at r0 w0 s0
  rw [r0]
  simp -implicitDefEqProofs only [Option.bind_some, Option.bind_none, Option.map_some, Option.map_none, cond_true, cond_false, Bool.not_true, Bool.not_false, if_true, if_false, reduceIte, rdRes, rdTT, rdTy, rdLT, rdLeaf_int, rdLeaf_bool, rdLeaf_str, rdLeaf_row, Res.un, TT.un, Ty.un, LT.un, Leaf.un, rdRow_i1, rdRow_i2, rdRow_i3, rdRow_i4, rdRow_i5, rdRow_args, rdRow_res, rdRow_nil, Leaf.plain, LT.plain, List.isEmpty_cons, Bool.and_self, Bool.and_true, Bool.true_and, Bool.or_true, Bool.true_or, Bool.or_false, Bool.false_or, reserve0, rowSV_len, rowSV_cap, rowSV_tail, guardO_true, DCheck_ok]
  by_cases h8 : 8 < ls.length
  · rw [if_pos h8, decide_eq_true (show (8 : Int) < (ls.length : Int) by omega)]
    simp -implicitDefEqProofs only [Option.bind_some, Option.bind_none, Option.map_some, Option.map_none, cond_true, cond_false, Bool.not_true, Bool.not_false, if_true, if_false, reduceIte, rdRes, rdTT, rdTy, rdLT, rdLeaf_int, rdLeaf_bool, rdLeaf_str, rdLeaf_row, Res.un, TT.un, Ty.un, LT.un, Leaf.un, rdRow_i1, rdRow_i2, rdRow_i3, rdRow_i4, rdRow_i5, rdRow_args, rdRow_res, rdRow_nil, Leaf.plain, LT.plain, List.isEmpty_cons, Bool.and_self, Bool.and_true, Bool.true_and, Bool.or_true, Bool.true_or, Bool.or_false, Bool.false_or, reserve0, rowSV_len, rowSV_cap, rowSV_tail, guardO_true]
    rw [w0]
    simp -implicitDefEqProofs only [Option.bind_some, Option.bind_none, Option.map_some, Option.map_none, cond_true, cond_false, Bool.not_true, Bool.not_false, if_true, if_false, reduceIte, rdRes, rdTT, rdTy, rdLT, rdLeaf_int, rdLeaf_bool, rdLeaf_str, rdLeaf_row, Res.un, TT.un, Ty.un, LT.un, Leaf.un, rdRow_i1, rdRow_i2, rdRow_i3, rdRow_i4, rdRow_i5, rdRow_args, rdRow_res, rdRow_nil, Leaf.plain, LT.plain, List.isEmpty_cons, Bool.and_self, Bool.and_true, Bool.true_and, Bool.or_true, Bool.true_or, Bool.or_false, Bool.false_or, reserve0, rowSV_len, rowSV_cap, rowSV_tail, guardO_true]
    rw [s0]
    simp -implicitDefEqProofs only [Option.bind_some, Option.bind_none, Option.map_some, Option.map_none, cond_true, cond_false, Bool.not_true, Bool.not_false, if_true, if_false, reduceIte, rdRes, rdTT, rdTy, rdLT, rdLeaf_int, rdLeaf_bool, rdLeaf_str, rdLeaf_row, Res.un, TT.un, Ty.un, LT.un, Leaf.un, rdRow_i1, rdRow_i2, rdRow_i3, rdRow_i4, rdRow_i5, rdRow_args, rdRow_res, rdRow_nil, Leaf.plain, LT.plain, List.isEmpty_cons, Bool.and_self, Bool.and_true, Bool.true_and, Bool.or_true, Bool.true_or, Bool.or_false, Bool.false_or, reserve0, rowSV_len, rowSV_cap, rowSV_tail, guardO_true]
  · rw [if_neg h8, decide_eq_false (show ¬ (8 : Int) < (ls.length : Int) by omega)]
    simp -implicitDefEqProofs only [Option.bind_some, Option.bind_none, Option.map_some, Option.map_none, cond_true, cond_false, Bool.not_true, Bool.not_false, if_true, if_false, reduceIte, rdRes, rdTT, rdTy, rdLT, rdLeaf_int, rdLeaf_bool, rdLeaf_str, rdLeaf_row, Res.un, TT.un, Ty.un, LT.un, Leaf.un, rdRow_i1, rdRow_i2, rdRow_i3, rdRow_i4, rdRow_i5, rdRow_args, rdRow_res, rdRow_nil, Leaf.plain, LT.plain, List.isEmpty_cons, Bool.and_self, Bool.and_true, Bool.true_and, Bool.or_true, Bool.true_or, Bool.or_false, Bool.false_or, reserve0, rowSV_len, rowSV_cap, rowSV_tail, guardO_true]
    by_cases hck : (checkOf xs).2 = 0
    · rw [decide_eq_true hck, if_pos hck]
      simp -implicitDefEqProofs only [Option.bind_some, Option.bind_none, Option.map_some, Option.map_none, cond_true, cond_false, Bool.not_true, Bool.not_false, if_true, if_false, reduceIte, rdRes, rdTT, rdTy, rdLT, rdLeaf_int, rdLeaf_bool, rdLeaf_str, rdLeaf_row, Res.un, TT.un, Ty.un, LT.un, Leaf.un, rdRow_i1, rdRow_i2, rdRow_i3, rdRow_i4, rdRow_i5, rdRow_args, rdRow_res, rdRow_nil, Leaf.plain, LT.plain, List.isEmpty_cons, Bool.and_self, Bool.and_true, Bool.true_and, Bool.or_true, Bool.true_or, Bool.or_false, Bool.false_or, reserve0, rowSV_len, rowSV_cap, rowSV_tail, guardO_true]
      obtain ⟨J, hJ⟩ := ContainsFunc_grow (T := mix_mixture.tb) (v := .func 57 [.hp 0 1 0]) (B := [.own [.slice (rowSV false j2 xs).a xs.length xs.length true] 1, c2 (0, 0)]) (xs := ls) (f := false) (fun x => !decide (acheckOf xs x = 0)) hl (fun x hx J R k => by
        show (mix_mixture_1 x (.hp 0 1 0) _).bind (fun p => k (.bool p.1) p.2) = _
        have := mixture1_ok (xs := xs) (sl := c2 (0, 0) :: J) (x := x)
        simp only [List.cons_append, List.nil_append] at this ⊢
        rw [this]
        rfl)
      simp only [c2] at hJ
      rw [hJ]
      simp -implicitDefEqProofs only [Option.bind_some, Option.bind_none, Option.map_some, Option.map_none, cond_true, cond_false, Bool.not_true, Bool.not_false, if_true, if_false, reduceIte, rdRes, rdTT, rdTy, rdLT, rdLeaf_int, rdLeaf_bool, rdLeaf_str, rdLeaf_row, Res.un, TT.un, Ty.un, LT.un, Leaf.un, rdRow_i1, rdRow_i2, rdRow_i3, rdRow_i4, rdRow_i5, rdRow_args, rdRow_res, rdRow_nil, Leaf.plain, LT.plain, List.isEmpty_cons, Bool.and_self, Bool.and_true, Bool.true_and, Bool.or_true, Bool.true_or, Bool.or_false, Bool.false_or, reserve0, rowSV_len, rowSV_cap, rowSV_tail, guardO_true]
      have w1 := fun y => wrs_c2 (y := y) (hB J)
      have s1 : ∀ y, rdT (.agg j2) (hL (([.own [.slice (rowSV false j2 xs).a xs.length xs.length true] 1, c2 (0, 0)] ++ J).set 1 (c2 y))) (.hp 1 2 0) = some y := fun y => rds_c2 rfl
      cases hany : ls.any (fun x => !decide (acheckOf xs x = 0)) with
      | true =>
        have w2 := w1 (0, 0)
        have s2 := s1 (0, 0)
        simp only [c2] at w2 s2
        simp -implicitDefEqProofs only [Option.bind_some, Option.bind_none, Option.map_some, Option.map_none, cond_true, cond_false, Bool.not_true, Bool.not_false, if_true, if_false, reduceIte, rdRes, rdTT, rdTy, rdLT, rdLeaf_int, rdLeaf_bool, rdLeaf_str, rdLeaf_row, Res.un, TT.un, Ty.un, LT.un, Leaf.un, rdRow_i1, rdRow_i2, rdRow_i3, rdRow_i4, rdRow_i5, rdRow_args, rdRow_res, rdRow_nil, Leaf.plain, LT.plain, List.isEmpty_cons, Bool.and_self, Bool.and_true, Bool.true_and, Bool.or_true, Bool.true_or, Bool.or_false, Bool.false_or, reserve0, rowSV_len, rowSV_cap, rowSV_tail, guardO_true]
        rw [w2]
        simp -implicitDefEqProofs only [Option.bind_some, Option.bind_none, Option.map_some, Option.map_none, cond_true, cond_false, Bool.not_true, Bool.not_false, if_true, if_false, reduceIte, rdRes, rdTT, rdTy, rdLT, rdLeaf_int, rdLeaf_bool, rdLeaf_str, rdLeaf_row, Res.un, TT.un, Ty.un, LT.un, Leaf.un, rdRow_i1, rdRow_i2, rdRow_i3, rdRow_i4, rdRow_i5, rdRow_args, rdRow_res, rdRow_nil, Leaf.plain, LT.plain, List.isEmpty_cons, Bool.and_self, Bool.and_true, Bool.true_and, Bool.or_true, Bool.true_or, Bool.or_false, Bool.false_or, reserve0, rowSV_len, rowSV_cap, rowSV_tail, guardO_true]
        rw [s2]
        simp -implicitDefEqProofs only [Option.bind_some, Option.bind_none, Option.map_some, Option.map_none, cond_true, cond_false, Bool.not_true, Bool.not_false, if_true, if_false, reduceIte, rdRes, rdTT, rdTy, rdLT, rdLeaf_int, rdLeaf_bool, rdLeaf_str, rdLeaf_row, Res.un, TT.un, Ty.un, LT.un, Leaf.un, rdRow_i1, rdRow_i2, rdRow_i3, rdRow_i4, rdRow_i5, rdRow_args, rdRow_res, rdRow_nil, Leaf.plain, LT.plain, List.isEmpty_cons, Bool.and_self, Bool.and_true, Bool.true_and, Bool.or_true, Bool.true_or, Bool.or_false, Bool.false_or, reserve0, rowSV_len, rowSV_cap, rowSV_tail, guardO_true]
      | false =>
        simp -implicitDefEqProofs only [Option.bind_some, Option.bind_none, Option.map_some, Option.map_none, cond_true, cond_false, Bool.not_true, Bool.not_false, if_true, if_false, reduceIte, rdRes, rdTT, rdTy, rdLT, rdLeaf_int, rdLeaf_bool, rdLeaf_str, rdLeaf_row, Res.un, TT.un, Ty.un, LT.un, Leaf.un, rdRow_i1, rdRow_i2, rdRow_i3, rdRow_i4, rdRow_i5, rdRow_args, rdRow_res, rdRow_nil, Leaf.plain, LT.plain, List.isEmpty_cons, Bool.and_self, Bool.and_true, Bool.true_and, Bool.or_true, Bool.true_or, Bool.or_false, Bool.false_or, reserve0, rowSV_len, rowSV_cap, rowSV_tail, guardO_true, Bool.false_eq_true]
        rw [Sum_ok ls hl]
        generalize sumOf ls = s
        obtain ⟨⟨a, b⟩, e⟩ := s
        have w2 := w1 (a, b)
        have s2 := s1 (a, b)
        simp only [c2] at w2 s2
        simp -implicitDefEqProofs only [Option.bind_some, Option.bind_none, Option.map_some, Option.map_none, cond_true, cond_false, Bool.not_true, Bool.not_false, if_true, if_false, reduceIte, rdRes, rdTT, rdTy, rdLT, rdLeaf_int, rdLeaf_bool, rdLeaf_str, rdLeaf_row, Res.un, TT.un, Ty.un, LT.un, Leaf.un, rdRow_i1, rdRow_i2, rdRow_i3, rdRow_i4, rdRow_i5, rdRow_args, rdRow_res, rdRow_nil, Leaf.plain, LT.plain, List.isEmpty_cons, Bool.and_self, Bool.and_true, Bool.true_and, Bool.or_true, Bool.true_or, Bool.or_false, Bool.false_or, reserve0, rowSV_len, rowSV_cap, rowSV_tail, guardO_true]
        rw [w2]
        simp -implicitDefEqProofs only [Option.bind_some, Option.bind_none, Option.map_some, Option.map_none, cond_true, cond_false, Bool.not_true, Bool.not_false, if_true, if_false, reduceIte, rdRes, rdTT, rdTy, rdLT, rdLeaf_int, rdLeaf_bool, rdLeaf_str, rdLeaf_row, Res.un, TT.un, Ty.un, LT.un, Leaf.un, rdRow_i1, rdRow_i2, rdRow_i3, rdRow_i4, rdRow_i5, rdRow_args, rdRow_res, rdRow_nil, Leaf.plain, LT.plain, List.isEmpty_cons, Bool.and_self, Bool.and_true, Bool.true_and, Bool.or_true, Bool.true_or, Bool.or_false, Bool.false_or, reserve0, rowSV_len, rowSV_cap, rowSV_tail, guardO_true]
        rw [s2]
        simp -implicitDefEqProofs only [Option.bind_some, Option.bind_none, Option.map_some, Option.map_none, cond_true, cond_false, Bool.not_true, Bool.not_false, if_true, if_false, reduceIte, rdRes, rdTT, rdTy, rdLT, rdLeaf_int, rdLeaf_bool, rdLeaf_str, rdLeaf_row, Res.un, TT.un, Ty.un, LT.un, Leaf.un, rdRow_i1, rdRow_i2, rdRow_i3, rdRow_i4, rdRow_i5, rdRow_args, rdRow_res, rdRow_nil, Leaf.plain, LT.plain, List.isEmpty_cons, Bool.and_self, Bool.and_true, Bool.true_and, Bool.or_true, Bool.true_or, Bool.or_false, Bool.false_or, reserve0, rowSV_len, rowSV_cap, rowSV_tail, guardO_true]
    · rw [decide_eq_false hck, if_neg hck]
      simp -implicitDefEqProofs only [Option.bind_some, Option.bind_none, Option.map_some, Option.map_none, cond_true, cond_false, Bool.not_true, Bool.not_false, if_true, if_false, reduceIte, rdRes, rdTT, rdTy, rdLT, rdLeaf_int, rdLeaf_bool, rdLeaf_str, rdLeaf_row, Res.un, TT.un, Ty.un, LT.un, Leaf.un, rdRow_i1, rdRow_i2, rdRow_i3, rdRow_i4, rdRow_i5, rdRow_args, rdRow_res, rdRow_nil, Leaf.plain, LT.plain, List.isEmpty_cons, Bool.and_self, Bool.and_true, Bool.true_and, Bool.or_true, Bool.true_or, Bool.or_false, Bool.false_or, reserve0, rowSV_len, rowSV_cap, rowSV_tail, guardO_true]
      rw [w0]
      simp -implicitDefEqProofs only [Option.bind_some, Option.bind_none, Option.map_some, Option.map_none, cond_true, cond_false, Bool.not_true, Bool.not_false, if_true, if_false, reduceIte, rdRes, rdTT, rdTy, rdLT, rdLeaf_int, rdLeaf_bool, rdLeaf_str, rdLeaf_row, Res.un, TT.un, Ty.un, LT.un, Leaf.un, rdRow_i1, rdRow_i2, rdRow_i3, rdRow_i4, rdRow_i5, rdRow_args, rdRow_res, rdRow_nil, Leaf.plain, LT.plain, List.isEmpty_cons, Bool.and_self, Bool.and_true, Bool.true_and, Bool.or_true, Bool.true_or, Bool.or_false, Bool.false_or, reserve0, rowSV_len, rowSV_cap, rowSV_tail, guardO_true]
      rw [s0]
      simp -implicitDefEqProofs only [Option.bind_some, Option.bind_none, Option.map_some, Option.map_none, cond_true, cond_false, Bool.not_true, Bool.not_false, if_true, if_false, reduceIte, rdRes, rdTT, rdTy, rdLT, rdLeaf_int, rdLeaf_bool, rdLeaf_str, rdLeaf_row, Res.un, TT.un, Ty.un, LT.un, Leaf.un, rdRow_i1, rdRow_i2, rdRow_i3, rdRow_i4, rdRow_i5, rdRow_args, rdRow_res, rdRow_nil, Leaf.plain, LT.plain, List.isEmpty_cons, Bool.and_self, Bool.and_true, Bool.true_and, Bool.or_true, Bool.true_or, Bool.or_false, Bool.false_or, reserve0, rowSV_len, rowSV_cap, rowSV_tail, guardO_true]
end Go.Proofs.Ytaepkinihaipkaa
