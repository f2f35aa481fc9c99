/- What Among of package loss and of its reference computes. Conditions: those of each law. -/
import Derived.Test.YtadlfinlbaogeaaS32g
namespace Go.Proofs.Ytadlfinlbaogeaa
open Go Go.Proofs.Ytadlfinlbaogeaa.Ev
set_option linter.unusedVariables false
set_option linter.unusedSimpArgs false
set_option maxRecDepth 100000
set_option maxHeartbeats 4000000
theorem weighOf_same {a b : Int} (ws : List Int) (ha : isAmt a = true) (hb : isAmt b = true) : weighOf a ws = weighOf b ws := by
  unfold weighOf
  rw [if_pos ha, if_pos hb]
def partsA (x : L4) (ws : List Int) (j : Nat) : L4 := (g (divParts x.1 ws.sum ws) j, g (divParts x.2.1 ws.sum ws) j, g (divParts x.2.2.1 ws.sum ws) j, g (divParts x.2.2.2 ws.sum ws) j)
def amongOf (x : L4) (ws : List Int) : List L4 × Int :=
  if right x = true then (if (weighOf x.1 ws).2 = 0 then (tabL ws.length (partsA x ws), 0) else ([], (weighOf x.1 ws).2)) else ([], 1)
theorem right_amt {x : L4} (h : right x = true) : (isAmt x.1 = true ∧ isAmt x.2.1 = true ∧ isAmt x.2.2.1 = true ∧ isAmt x.2.2.2 = true) ∧ inR x = true := by
  unfold right at h
  simp only [Bool.and_eq_true] at h
  have h1 := h.1
  unfold inR at h1
  simp only [Bool.and_eq_true, isAlc_iff] at h1
  simp only [isAmt_iff]
  exact ⟨by omega, h.1⟩
theorem repeat_zero4 (n : Nat) : repeatCells [.int .i64 0, .int .i64 0, .int .i64 0, .int .i64 0] n = cellsL i4 (tabL n fun _ => (0, 0, 0, 0)) := by
  have : tabL n (fun _ => ((0, 0, 0, 0) : L4)) = List.replicate n (0, 0, 0, 0) := by
    unfold tabL
    rw [List.map_const', List.length_range]
  rw [this]
  induction n with
  | zero => rfl
  | succ n ih =>
    simp only [repeatCells, List.replicate_succ, cellsL, List.flatMap_cons]
    rw [ih (by unfold tabL; rw [List.map_const', List.length_range])]
    rfl
theorem among_loop {x : L4} {ws : List Int} {ha hb : H} (h1 : ha.next = 1) (h3 : hb.next = 3) (hl : ws.length < 2 ^ 63) (hx : isAmt x.1 = true ∧ isAmt x.2.1 = true ∧ isAmt x.2.2.1 = true ∧ isAmt x.2.2.2 = true) :
    ∃ J, iter FUEL (loss_Among.loop1 ha hb x.1 x.2.1 x.2.2.1 x.2.2.2) (0, hL (aS x ws (fun _ => (0, 0, 0, 0)) [])) = some (if (weighOf x.1 ws).2 = 0 then (.ex0 (), hL (aS x ws (partsA x ws) J)) else (.ret (⟨.nil, 0, 0, false⟩, (weighOf x.1 ws).2), hL (aS x ws (fun _ => (0, 0, 0, 0)) J))) := by
  by_cases he : (weighOf x.1 ws).2 = 0
  · have e2 : (weighOf x.2.1 ws).2 = 0 := by rw [weighOf_same ws hx.2.1 hx.1]; exact he
    have e3 : (weighOf x.2.2.1 ws).2 = 0 := by rw [weighOf_same ws hx.2.2.1 hx.1]; exact he
    have e4 : (weighOf x.2.2.2 ws).2 = 0 := by rw [weighOf_same ws hx.2.2.2 hx.1]; exact he
    have s0 := outer_step (x := x) (ws := ws) (J := []) (c := 0) (amt := x.1) (f := 71) h1 h3 (by omega) (fun h => rfl) (among1_ok (b := fun _ => (0, 0, 0, 0)) hl he call2)
    have s1 := outer_step (x := x) (ws := ws) (c := 1) (amt := x.2.1) (f := 72) (J := [] ++ [.own [.int .i64 x.1, .func 71 []] 2]) h1 h3 (by omega) (fun h => rfl) (among1_ok (b := fun j => (g (divParts x.1 ws.sum ws) j, 0, 0, 0)) hl e2 call3)
    have s2 := outer_step (x := x) (ws := ws) (c := 2) (amt := x.2.2.1) (f := 73) (J := [] ++ [.own [.int .i64 x.1, .func 71 []] 2] ++ [.own [.int .i64 x.2.1, .func 72 []] 2]) h1 h3 (by omega) (fun h => rfl) (among1_ok (b := fun j => (g (divParts x.1 ws.sum ws) j, g (divParts x.2.1 ws.sum ws) j, 0, 0)) hl e3 call4)
    have s3 := outer_step (x := x) (ws := ws) (c := 3) (amt := x.2.2.2) (f := 74) (J := [] ++ [.own [.int .i64 x.1, .func 71 []] 2] ++ [.own [.int .i64 x.2.1, .func 72 []] 2] ++ [.own [.int .i64 x.2.2.1, .func 73 []] 2]) h1 h3 (by omega) (fun h => rfl) (among1_ok (b := fun j => (g (divParts x.1 ws.sum ws) j, g (divParts x.2.1 ws.sum ws) j, g (divParts x.2.2.1 ws.sum ws) j, 0)) hl e4 call5)
    rw [if_pos rfl] at s0 s1 s2 s3
    let st : Nat → Int × H := fun i => match i with
      | 0 => (0, hL (aS x ws (fun _ => (0, 0, 0, 0)) []))
      | 1 => (1, hL (aS x ws (fun j => (g (divParts x.1 ws.sum ws) j, 0, 0, 0)) ([] ++ [.own [.int .i64 x.1, .func 71 []] 2])))
      | 2 => (2, hL (aS x ws (fun j => (g (divParts x.1 ws.sum ws) j, g (divParts x.2.1 ws.sum ws) j, 0, 0)) ([] ++ [.own [.int .i64 x.1, .func 71 []] 2] ++ [.own [.int .i64 x.2.1, .func 72 []] 2])))
      | 3 => (3, hL (aS x ws (fun j => (g (divParts x.1 ws.sum ws) j, g (divParts x.2.1 ws.sum ws) j, g (divParts x.2.2.1 ws.sum ws) j, 0)) ([] ++ [.own [.int .i64 x.1, .func 71 []] 2] ++ [.own [.int .i64 x.2.1, .func 72 []] 2] ++ [.own [.int .i64 x.2.2.1, .func 73 []] 2])))
      | _ => (4, hL (aS x ws (partsA x ws) ([] ++ [.own [.int .i64 x.1, .func 71 []] 2] ++ [.own [.int .i64 x.2.1, .func 72 []] 2] ++ [.own [.int .i64 x.2.2.1, .func 73 []] 2] ++ [.own [.int .i64 x.2.2.2, .func 74 []] 2])))
    refine ⟨[] ++ [.own [.int .i64 x.1, .func 71 []] 2] ++ [.own [.int .i64 x.2.1, .func 72 []] 2] ++ [.own [.int .i64 x.2.2.1, .func 73 []] 2] ++ [.own [.int .i64 x.2.2.2, .func 74 []] 2], ?_⟩
    rw [if_pos he]
    refine iter_run (f := loss_Among.loop1 ha hb x.1 x.2.1 x.2.2.1 x.2.2.2) st 4 FUEL (fun i hi => ?_) ?_ (fuel_gt (by omega))
    · have : i = 0 ∨ i = 1 ∨ i = 2 ∨ i = 3 := by omega
      rcases this with rfl | rfl | rfl | rfl
      · exact s0
      · exact s1
      · exact s2
      · exact s3
    · show loss_Among.loop1 ha hb x.1 x.2.1 x.2.2.1 x.2.2.2 (4, _) = _
      unfold loss_Among.loop1
      rfl
  · have s0 := outer_step (x := x) (ws := ws) (J := []) (c := 0) (amt := x.1) (f := 71) h1 h3 (by omega) (fun h => rfl) (among1_err (b := fun _ => (0, 0, 0, 0)) hl he)
    rw [if_neg he] at s0
    refine ⟨[] ++ [.own [.int .i64 x.1, .func 71 []] 2], ?_⟩
    rw [if_neg he]
    exact iter_run (f := loss_Among.loop1 ha hb x.1 x.2.1 x.2.2.1 x.2.2.2) (fun _ => (0, hL (aS x ws (fun _ => (0, 0, 0, 0)) []))) 0 FUEL (fun i hi => by omega) s0 (fuel_gt (by omega))
theorem right_code {x1 x2 x3 x4 : Int} {h : H} : (bif !(!(inR (x1, x2, x3, x4))) then (bif decide ((0 : Int) < x4) then some (!(decide (x1 = 0) && (decide (x2 = 0) && decide (x3 = 0))), h) else some (false, h)) else some (true, h) : Option (Bool × H)) = some (!right (x1, x2, x3, x4), h) := by
  unfold right
  cases hr : inR (x1, x2, x3, x4) with
  | false => rfl
  | true =>
    have h1 := hr
    unfold inR at h1
    simp only [Bool.and_eq_true, isAlc_iff] at h1
    simp only [Bool.true_and, Bool.not_true, Bool.not_false, cond_true]
    by_cases h0 : 0 < x4
    · rw [decide_eq_true h0, decide_eq_false (show ¬ x4 = 0 by omega)]
      simp
    · rw [decide_eq_false h0, decide_eq_true (show x4 = 0 by omega)]
      rfl
theorem Among_ok (x : L4) (ws : List Int) (hl : ws.length ≤ 2 ^ 36) : loss_AmongP x ws = some (amongOf x ws) := by
  obtain ⟨x1, x2, x3, x4⟩ := x
  unfold loss_AmongP loss_Among amongOf
  have ex : [c4 (x1, x2, x3, x4), .own [.slice (rowSV false [.int .i64] ws).a ws.length ws.length true] 1][0]? = some (c4 (x1, x2, x3, x4)) := rfl
  have r0 := rd_c4 ex
  have s0 := rds_c4 ex
  simp only [c4] at r0 s0
  simp -implicitDefEqProofs only [Option.bind_some, Option.bind_none, Option.map_some, Option.map_none, cond_true, cond_false, Bool.not_true, Bool.not_false, if_true, if_false, reduceIte, rdRes, rdTT, rdTy, rdLT, rdLeaf_int, rdLeaf_bool, rdLeaf_str, rdLeaf_row, Res.un, TT.un, Ty.un, LT.un, Leaf.un, rdRow_i1, rdRow_i2, rdRow_i3, rdRow_i4, rdRow_i5, rdRow_args, rdRow_res, rdRow_nil, Leaf.plain, LT.plain, List.isEmpty_cons, Bool.and_self, Bool.and_true, Bool.true_and, Bool.or_true, Bool.true_or, Bool.or_false, Bool.false_or, reserve0, rowSV_len, rowSV_cap, rowSV_tail, guardO_true, hL_empty, hL_new, hL_next, List.length_nil, List.nil_append, List.length_cons, Nat.zero_add, List.cons_append]
  rw [r0.1, r0.2.1, r0.2.2.1, r0.2.2.2]
  simp -implicitDefEqProofs only [Option.bind_some, Option.bind_none, Option.map_some, Option.map_none, cond_true, cond_false, Bool.not_true, Bool.not_false, if_true, if_false, reduceIte, rdRes, rdTT, rdTy, rdLT, rdLeaf_int, rdLeaf_bool, rdLeaf_str, rdLeaf_row, Res.un, TT.un, Ty.un, LT.un, Leaf.un, rdRow_i1, rdRow_i2, rdRow_i3, rdRow_i4, rdRow_i5, rdRow_args, rdRow_res, rdRow_nil, Leaf.plain, LT.plain, List.isEmpty_cons, Bool.and_self, Bool.and_true, Bool.true_and, Bool.or_true, Bool.true_or, Bool.or_false, Bool.false_or, reserve0, rowSV_len, rowSV_cap, rowSV_tail, guardO_true]
  have ham := amount4 (x1, x2, x3, x4)
  simp only at ham
  rw [ham]
  simp -implicitDefEqProofs only [Option.bind_some, Option.bind_none, Option.map_some, Option.map_none, cond_true, cond_false, Bool.not_true, Bool.not_false, if_true, if_false, reduceIte, rdRes, rdTT, rdTy, rdLT, rdLeaf_int, rdLeaf_bool, rdLeaf_str, rdLeaf_row, Res.un, TT.un, Ty.un, LT.un, Leaf.un, rdRow_i1, rdRow_i2, rdRow_i3, rdRow_i4, rdRow_i5, rdRow_args, rdRow_res, rdRow_nil, Leaf.plain, LT.plain, List.isEmpty_cons, Bool.and_self, Bool.and_true, Bool.true_and, Bool.or_true, Bool.true_or, Bool.or_false, Bool.false_or, reserve0, rowSV_len, rowSV_cap, rowSV_tail, guardO_true]
  rw [s0]
  simp -implicitDefEqProofs only [Option.bind_some, Option.bind_none, Option.map_some, Option.map_none, cond_true, cond_false, Bool.not_true, Bool.not_false, if_true, if_false, reduceIte, rdRes, rdTT, rdTy, rdLT, rdLeaf_int, rdLeaf_bool, rdLeaf_str, rdLeaf_row, Res.un, TT.un, Ty.un, LT.un, Leaf.un, rdRow_i1, rdRow_i2, rdRow_i3, rdRow_i4, rdRow_i5, rdRow_args, rdRow_res, rdRow_nil, Leaf.plain, LT.plain, List.isEmpty_cons, Bool.and_self, Bool.and_true, Bool.true_and, Bool.or_true, Bool.true_or, Bool.or_false, Bool.false_or, reserve0, rowSV_len, rowSV_cap, rowSV_tail, guardO_true, decide_true]
  rw [right_code]
  simp -implicitDefEqProofs only [Option.bind_some, Option.bind_none, Option.map_some, Option.map_none, cond_true, cond_false, Bool.not_true, Bool.not_false, if_true, if_false, reduceIte, rdRes, rdTT, rdTy, rdLT, rdLeaf_int, rdLeaf_bool, rdLeaf_str, rdLeaf_row, Res.un, TT.un, Ty.un, LT.un, Leaf.un, rdRow_i1, rdRow_i2, rdRow_i3, rdRow_i4, rdRow_i5, rdRow_args, rdRow_res, rdRow_nil, Leaf.plain, LT.plain, List.isEmpty_cons, Bool.and_self, Bool.and_true, Bool.true_and, Bool.or_true, Bool.true_or, Bool.or_false, Bool.false_or, reserve0, rowSV_len, rowSV_cap, rowSV_tail, guardO_true]
  cases hr : right (x1, x2, x3, x4) with
  | false =>
    simp -implicitDefEqProofs only [Option.bind_some, Option.bind_none, Option.map_some, Option.map_none, cond_true, cond_false, Bool.not_true, Bool.not_false, if_true, if_false, reduceIte, rdRes, rdTT, rdTy, rdLT, rdLeaf_int, rdLeaf_bool, rdLeaf_str, rdLeaf_row, Res.un, TT.un, Ty.un, LT.un, Leaf.un, rdRow_i1, rdRow_i2, rdRow_i3, rdRow_i4, rdRow_i5, rdRow_args, rdRow_res, rdRow_nil, Leaf.plain, LT.plain, List.isEmpty_cons, Bool.and_self, Bool.and_true, Bool.true_and, Bool.or_true, Bool.true_or, Bool.or_false, Bool.false_or, reserve0, rowSV_len, rowSV_cap, rowSV_tail, guardO_true]
    rfl
  | true =>
    have hx := right_amt hr
    simp -implicitDefEqProofs only [Option.bind_some, Option.bind_none, Option.map_some, Option.map_none, cond_true, cond_false, Bool.not_true, Bool.not_false, if_true, if_false, reduceIte, rdRes, rdTT, rdTy, rdLT, rdLeaf_int, rdLeaf_bool, rdLeaf_str, rdLeaf_row, Res.un, TT.un, Ty.un, LT.un, Leaf.un, rdRow_i1, rdRow_i2, rdRow_i3, rdRow_i4, rdRow_i5, rdRow_args, rdRow_res, rdRow_nil, Leaf.plain, LT.plain, List.isEmpty_cons, Bool.and_self, Bool.and_true, Bool.true_and, Bool.or_true, Bool.true_or, Bool.or_false, Bool.false_or, reserve0, rowSV_len, rowSV_cap, rowSV_tail, guardO_true]
    have rs : rdT (.leaf .slice) (hL [c4 (x1, x2, x3, x4), .own [.slice (rowSV false [.int .i64] ws).a ws.length ws.length true] 1]) (.hp 1 1 0) = some (rowSV false [.int .i64] ws) := by
      rw [rd_own (g := 1) (sl := [c4 (x1, x2, x3, x4), .own [.slice (rowSV false [.int .i64] ws).a ws.length ws.length true] 1]) (id := 1) rfl rfl]; rfl
    simp only [c4] at rs
    rw [rs]
    simp -implicitDefEqProofs only [Option.bind_some, Option.bind_none, Option.map_some, Option.map_none, cond_true, cond_false, Bool.not_true, Bool.not_false, if_true, if_false, reduceIte, rdRes, rdTT, rdTy, rdLT, rdLeaf_int, rdLeaf_bool, rdLeaf_str, rdLeaf_row, Res.un, TT.un, Ty.un, LT.un, Leaf.un, rdRow_i1, rdRow_i2, rdRow_i3, rdRow_i4, rdRow_i5, rdRow_args, rdRow_res, rdRow_nil, Leaf.plain, LT.plain, List.isEmpty_cons, Bool.and_self, Bool.and_true, Bool.true_and, Bool.or_true, Bool.true_or, Bool.or_false, Bool.false_or, reserve0, rowSV_len, rowSV_cap, rowSV_tail, guardO_true, Int.toNat_natCast, hL_new, hL_next, List.length_cons, List.length_nil, Nat.zero_add, List.cons_append, List.nil_append]
    rw [guardO_pos (by refine ⟨?_, ?_, ?_, ?_, ?_⟩ <;> first | trivial | omega | (unfold roomCells; omega))]
    rw [repeat_zero4]
    have wr : H.wrs (hL [c4 (x1, x2, x3, x4), .own [.slice (rowSV false [.int .i64] ws).a ws.length ws.length true] 1, .own (cellsL i4 (tabL ws.length fun _ => (0, 0, 0, 0))) 4, .own [.slice .nil 0 0 false] 1]) (.hp 3 1 0) [.slice (.hp 2 (ws.length * 4) 0) ws.length ws.length true] = some (hL (aS (x1, x2, x3, x4) ws (fun _ => (0, 0, 0, 0)) [])) := by
      rw [wrs_own (g := 1) (cs := [.slice .nil 0 0 false]) (e := 1) rfl rfl (by simp)]
      rfl
    simp only [c4] at wr
    rw [wr]
    simp -implicitDefEqProofs only [Option.bind_some, Option.bind_none, Option.map_some, Option.map_none, cond_true, cond_false, Bool.not_true, Bool.not_false, if_true, if_false, reduceIte, rdRes, rdTT, rdTy, rdLT, rdLeaf_int, rdLeaf_bool, rdLeaf_str, rdLeaf_row, Res.un, TT.un, Ty.un, LT.un, Leaf.un, rdRow_i1, rdRow_i2, rdRow_i3, rdRow_i4, rdRow_i5, rdRow_args, rdRow_res, rdRow_nil, Leaf.plain, LT.plain, List.isEmpty_cons, Bool.and_self, Bool.and_true, Bool.true_and, Bool.or_true, Bool.true_or, Bool.or_false, Bool.false_or, reserve0, rowSV_len, rowSV_cap, rowSV_tail, guardO_true]
    have ex2 : (aS (x1, x2, x3, x4) ws (fun _ => (0, 0, 0, 0)) [])[0]? = some (c4 (x1, x2, x3, x4)) := rfl
    have r2 := rd_c4 ex2
    rw [r2.1, r2.2.1, r2.2.2.1, r2.2.2.2]
    simp -implicitDefEqProofs only [Option.bind_some, Option.bind_none, Option.map_some, Option.map_none, cond_true, cond_false, Bool.not_true, Bool.not_false, if_true, if_false, reduceIte, rdRes, rdTT, rdTy, rdLT, rdLeaf_int, rdLeaf_bool, rdLeaf_str, rdLeaf_row, Res.un, TT.un, Ty.un, LT.un, Leaf.un, rdRow_i1, rdRow_i2, rdRow_i3, rdRow_i4, rdRow_i5, rdRow_args, rdRow_res, rdRow_nil, Leaf.plain, LT.plain, List.isEmpty_cons, Bool.and_self, Bool.and_true, Bool.true_and, Bool.or_true, Bool.true_or, Bool.or_false, Bool.false_or, reserve0, rowSV_len, rowSV_cap, rowSV_tail, guardO_true]
    obtain ⟨J, hloop⟩ := among_loop (x := (x1, x2, x3, x4)) (ws := ws) (ha := hL [c4 (x1, x2, x3, x4)]) (hb := hL [c4 (x1, x2, x3, x4), .own [.slice (rowSV false [.int .i64] ws).a ws.length ws.length true] 1, .own (cellsL i4 (tabL ws.length fun _ => (0, 0, 0, 0))) 4]) rfl rfl (by omega) hx.1
    simp only [c4] at hloop
    rw [hloop]
    by_cases he : (weighOf x1 ws).2 = 0
    · rw [if_pos he, if_pos he]
      simp -implicitDefEqProofs only [Option.bind_some, Option.bind_none, Option.map_some, Option.map_none, cond_true, cond_false, Bool.not_true, Bool.not_false, if_true, if_false, reduceIte, rdRes, rdTT, rdTy, rdLT, rdLeaf_int, rdLeaf_bool, rdLeaf_str, rdLeaf_row, Res.un, TT.un, Ty.un, LT.un, Leaf.un, rdRow_i1, rdRow_i2, rdRow_i3, rdRow_i4, rdRow_i5, rdRow_args, rdRow_res, rdRow_nil, Leaf.plain, LT.plain, List.isEmpty_cons, Bool.and_self, Bool.and_true, Bool.true_and, Bool.or_true, Bool.true_or, Bool.or_false, Bool.false_or, reserve0, rowSV_len, rowSV_cap, rowSV_tail, guardO_true]
      rw [aS_rd3]
      simp -implicitDefEqProofs only [Option.bind_some, Option.bind_none, Option.map_some, Option.map_none, cond_true, cond_false, Bool.not_true, Bool.not_false, if_true, if_false, reduceIte, rdRes, rdTT, rdTy, rdLT, rdLeaf_int, rdLeaf_bool, rdLeaf_str, rdLeaf_row, Res.un, TT.un, Ty.un, LT.un, Leaf.un, rdRow_i1, rdRow_i2, rdRow_i3, rdRow_i4, rdRow_i5, rdRow_args, rdRow_res, rdRow_nil, Leaf.plain, LT.plain, List.isEmpty_cons, Bool.and_self, Bool.and_true, Bool.true_and, Bool.or_true, Bool.true_or, Bool.or_false, Bool.false_or, reserve0, rowSV_len, rowSV_cap, rowSV_tail, guardO_true]
      have hread := rdRow_own (lp := false) (ls := i4) (xs := tabL ws.length (partsA (x1, x2, x3, x4) ws)) (sl := aS (x1, x2, x3, x4) ws (partsA (x1, x2, x3, x4) ws) J) (id := 2) (e := 4) (n := ws.length * 4) (c := ws.length) (t := true) rfl (by rw [tabL_length]; rfl) rfl
      rw [tabL_length] at hread
      rw [hread]
      rfl
    · rw [if_neg he, if_neg he]
      simp -implicitDefEqProofs only [Option.bind_some, Option.bind_none, Option.map_some, Option.map_none, cond_true, cond_false, Bool.not_true, Bool.not_false, if_true, if_false, reduceIte, rdRes, rdTT, rdTy, rdLT, rdLeaf_int, rdLeaf_bool, rdLeaf_str, rdLeaf_row, Res.un, TT.un, Ty.un, LT.un, Leaf.un, rdRow_i1, rdRow_i2, rdRow_i3, rdRow_i4, rdRow_i5, rdRow_args, rdRow_res, rdRow_nil, Leaf.plain, LT.plain, List.isEmpty_cons, Bool.and_self, Bool.and_true, Bool.true_and, Bool.or_true, Bool.true_or, Bool.or_false, Bool.false_or, reserve0, rowSV_len, rowSV_cap, rowSV_tail, guardO_true]
end Go.Proofs.Ytadlfinlbaogeaa
