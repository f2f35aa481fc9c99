/- What Chain of package loss and of its reference compute. Conditions: those of each law. -/
import Derived.Test.YtadlfinlbaogeaaS32a
namespace Go.Proofs.Ytadlfinlbaogeaa
open Go Go.Proofs.Ytadlfinlbaogeaa.Ev
set_option linter.unusedVariables false
set_option linter.unusedSimpArgs false
set_option maxRecDepth 100000
set_option maxHeartbeats 2000000
theorem rd_own_cells {l : Leaf} {sl : List Slot} {id g o e : Nat} {cs : List V} {x : l.C} (hs : sl[id]? = some (.own cs e)) (hg : cs.length = g) (hx : (cs[o]?).bind l.pack = some x) : rdT (.leaf l) (hL sl) (.hp id g o) = some x := by
  rw [rd_own hs hg, hx]
theorem newrow {sl : List Slot} {c0 cs : List V} {e g : Nat} (h : c0.length = g) (h' : cs.length = g) : H.wrs (hL (sl ++ [.own c0 e])) (.hp sl.length g 0) cs = some (hL (sl ++ [.own cs e])) := by
  rw [wrs_own (cs := c0) (e := e) (by simp) h (by omega)]
  simp only [splice, List.take_zero, List.nil_append, Nat.zero_add]
  rw [List.drop_eq_nil_of_le (by omega), List.append_nil]
  simp
theorem lChain_step (l : List T5) (hl : l.length ≤ 128) (f : Bool) (i : Nat) (t : T5) (now : Int) (s : SV) (sl : List Slot) (o : Option Nat) (pre : List L4) (ht : l[i]? = some t) (hpre : pre.length ≤ 128) (hnow : isAlc now = true) (hacc : Acc sl i4 pre s o) :
      (turnErr now t ≠ 0 → ∃ sl', loss_Chain.loop1 (rowSV f i5 l) ((s, now, (i : Int)), hL sl) = some (.done (.ret (⟨.nil, 0, 0, false⟩, (i : Int), turnErr now t), hL sl'))) ∧
      (turnErr now t = 0 → ∃ s' sl' o', loss_Chain.loop1 (rowSV f i5 l) ((s, now, (i : Int)), hL sl) = some (.more ((s', t.2.2.1, ((i + 1 : Nat) : Int)), hL sl')) ∧ Acc sl' i4 (pre ++ [turnOf now t]) s' o') := by
  obtain ⟨hlt, hx⟩ := List.getElem?_eq_some_iff.1 ht
  obtain ⟨t0, t1, t2, t3, t4⟩ := t
  have hrow : (sl ++ [Slot.own [V.int .i64 t0, V.int .i64 t1, V.int .i64 t2, V.int .i64 t3, V.int .i64 t4] 5])[sl.length]? = some (Slot.own [V.int .i64 t0, V.int .i64 t1, V.int .i64 t2, V.int .i64 t3, V.int .i64 t4] 5) := by simp
  have r0 : ∀ {sl' : List Slot}, sl'[sl.length]? = some (Slot.own [V.int .i64 t0, V.int .i64 t1, V.int .i64 t2, V.int .i64 t3, V.int .i64 t4] 5) → rdT (.leaf (.int .i64)) (hL sl') (.hp sl.length 5 0) = some t0 := fun h => rd_own_cells h rfl rfl
  have r1 : ∀ {sl' : List Slot}, sl'[sl.length]? = some (Slot.own [V.int .i64 t0, V.int .i64 t1, V.int .i64 t2, V.int .i64 t3, V.int .i64 t4] 5) → rdT (.leaf (.int .i64)) (hL sl') (.hp sl.length 5 1) = some t1 := fun h => rd_own_cells h rfl rfl
  have r2 : ∀ {sl' : List Slot}, sl'[sl.length]? = some (Slot.own [V.int .i64 t0, V.int .i64 t1, V.int .i64 t2, V.int .i64 t3, V.int .i64 t4] 5) → rdT (.leaf (.int .i64)) (hL sl') (.hp sl.length 5 2) = some t2 := fun h => rd_own_cells h rfl rfl
  have r3 : ∀ {sl' : List Slot}, sl'[sl.length]? = some (Slot.own [V.int .i64 t0, V.int .i64 t1, V.int .i64 t2, V.int .i64 t3, V.int .i64 t4] 5) → rdT (.leaf (.int .i64)) (hL sl') (.hp sl.length 5 3) = some t3 := fun h => rd_own_cells h rfl rfl
  have r4 : ∀ {sl' : List Slot}, sl'[sl.length]? = some (Slot.own [V.int .i64 t0, V.int .i64 t1, V.int .i64 t2, V.int .i64 t3, V.int .i64 t4] 5) → rdT (.leaf (.int .i64)) (hL sl') (.hp sl.length 5 4) = some t4 := fun h => rd_own_cells h rfl rfl
  unfold loss_Chain.loop1
  simp -implicitDefEqProofs only [rowSV_len, Int.toNat_natCast]
  rw [decide_eq_true (by omega), cond_true, guardO_pos (by omega), rds_rowF (ls := i5) (w := 5) rfl (by omega) rfl, ht]
  simp -implicitDefEqProofs only [Option.bind_some, hL_new, hL_next]
  rw [newrow (g := 5) rfl rfl]
  simp -implicitDefEqProofs only [Option.bind_some, r0 hrow, r1 hrow, r2 hrow, r3 hrow, r4 hrow, rdRow_i5]
  rw [lamount_ok _ (by simp)]
  simp -implicitDefEqProofs only [Option.bind_some, List.all_cons, List.all_nil, Bool.and_true]
  unfold turnErr
  simp only
  cases ha : (isAlc t0 && (isAlc t1 && (isAlc t2 && (isAlc t3 && isAlc t4)))) with
  | false =>
    simp -implicitDefEqProofs only [Option.bind_some, Option.bind_none, Option.map_some, Option.map_none, cond_true, cond_false, Bool.not_true, Bool.not_false, if_true, if_false, reduceIte, rdRes, rdTT, rdTy, rdLT, rdLeaf_int, rdLeaf_bool, rdLeaf_str, rdLeaf_row, Res.un, TT.un, Ty.un, LT.un, Leaf.un, rdRow_i1, rdRow_i2, rdRow_i3, rdRow_i4, rdRow_i5, rdRow_args, rdRow_res, rdRow_nil, Leaf.plain, LT.plain, List.isEmpty_cons, Bool.and_self, Bool.and_true, Bool.true_and, Bool.or_true, Bool.true_or, Bool.or_false, Bool.false_or, reserve0, rowSV_len, rowSV_cap, rowSV_tail, guardO_true]
    refine ⟨fun _ => ⟨_, rfl⟩, fun h => absurd h (by simp)⟩
  | true =>
    have ha' := ha
    simp only [Bool.and_eq_true, isAlc_iff] at ha hnow
    simp -implicitDefEqProofs only [Option.bind_some, Option.bind_none, Option.map_some, Option.map_none, cond_true, cond_false, Bool.not_true, Bool.not_false, if_true, if_false, reduceIte, rdRes, rdTT, rdTy, rdLT, rdLeaf_int, rdLeaf_bool, rdLeaf_str, rdLeaf_row, Res.un, TT.un, Ty.un, LT.un, Leaf.un, rdRow_i1, rdRow_i2, rdRow_i3, rdRow_i4, rdRow_i5, rdRow_args, rdRow_res, rdRow_nil, Leaf.plain, LT.plain, List.isEmpty_cons, Bool.and_self, Bool.and_true, Bool.true_and, Bool.or_true, Bool.true_or, Bool.or_false, Bool.false_or, reserve0, rowSV_len, rowSV_cap, rowSV_tail, guardO_true]
    rw [i64_in (now + t0) (by omega)]
    by_cases c1 : 10737418240000 < now + t0
    · rw [decide_eq_true c1]
      simp -implicitDefEqProofs only [Option.bind_some, Option.bind_none, Option.map_some, Option.map_none, cond_true, cond_false, Bool.not_true, Bool.not_false, if_true, if_false, reduceIte, rdRes, rdTT, rdTy, rdLT, rdLeaf_int, rdLeaf_bool, rdLeaf_str, rdLeaf_row, Res.un, TT.un, Ty.un, LT.un, Leaf.un, rdRow_i1, rdRow_i2, rdRow_i3, rdRow_i4, rdRow_i5, rdRow_args, rdRow_res, rdRow_nil, Leaf.plain, LT.plain, List.isEmpty_cons, Bool.and_self, Bool.and_true, Bool.true_and, Bool.or_true, Bool.true_or, Bool.or_false, Bool.false_or, reserve0, rowSV_len, rowSV_cap, rowSV_tail, guardO_true, if_pos c1]
      exact ⟨fun _ => ⟨_, rfl⟩, fun h => absurd h (by simp)⟩
    · rw [decide_eq_false c1]
      simp -implicitDefEqProofs only [Option.bind_some, Option.bind_none, Option.map_some, Option.map_none, cond_true, cond_false, Bool.not_true, Bool.not_false, if_true, if_false, reduceIte, rdRes, rdTT, rdTy, rdLT, rdLeaf_int, rdLeaf_bool, rdLeaf_str, rdLeaf_row, Res.un, TT.un, Ty.un, LT.un, Leaf.un, rdRow_i1, rdRow_i2, rdRow_i3, rdRow_i4, rdRow_i5, rdRow_args, rdRow_res, rdRow_nil, Leaf.plain, LT.plain, List.isEmpty_cons, Bool.and_self, Bool.and_true, Bool.true_and, Bool.or_true, Bool.true_or, Bool.or_false, Bool.false_or, reserve0, rowSV_len, rowSV_cap, rowSV_tail, guardO_true, if_neg c1]
      by_cases c2 : now + t0 < t1
      · rw [decide_eq_true c2]
        simp -implicitDefEqProofs only [Option.bind_some, Option.bind_none, Option.map_some, Option.map_none, cond_true, cond_false, Bool.not_true, Bool.not_false, if_true, if_false, reduceIte, rdRes, rdTT, rdTy, rdLT, rdLeaf_int, rdLeaf_bool, rdLeaf_str, rdLeaf_row, Res.un, TT.un, Ty.un, LT.un, Leaf.un, rdRow_i1, rdRow_i2, rdRow_i3, rdRow_i4, rdRow_i5, rdRow_args, rdRow_res, rdRow_nil, Leaf.plain, LT.plain, List.isEmpty_cons, Bool.and_self, Bool.and_true, Bool.true_and, Bool.or_true, Bool.true_or, Bool.or_false, Bool.false_or, reserve0, rowSV_len, rowSV_cap, rowSV_tail, guardO_true, if_pos c2]
        exact ⟨fun _ => ⟨_, rfl⟩, fun h => absurd h (by simp)⟩
      · rw [decide_eq_false c2]
        simp -implicitDefEqProofs only [Option.bind_some, Option.bind_none, Option.map_some, Option.map_none, cond_true, cond_false, Bool.not_true, Bool.not_false, if_true, if_false, reduceIte, rdRes, rdTT, rdTy, rdLT, rdLeaf_int, rdLeaf_bool, rdLeaf_str, rdLeaf_row, Res.un, TT.un, Ty.un, LT.un, Leaf.un, rdRow_i1, rdRow_i2, rdRow_i3, rdRow_i4, rdRow_i5, rdRow_args, rdRow_res, rdRow_nil, Leaf.plain, LT.plain, List.isEmpty_cons, Bool.and_self, Bool.and_true, Bool.true_and, Bool.or_true, Bool.true_or, Bool.or_false, Bool.false_or, reserve0, rowSV_len, rowSV_cap, rowSV_tail, guardO_true, if_neg c2]
        refine ⟨fun h => absurd rfl h, fun _ => ?_⟩
        simp only [Bool.and_eq_true] at ha'
        rw [i64_in (now + t0 - t1) (by omega), split_ok (isAlc_iff.2 (by omega)) ha'.2.2.1 ha'.2.2.2.1 ha'.2.2.2.2]
        simp -implicitDefEqProofs only [Option.bind_some]
        obtain ⟨s', sl', id, g1, g2, g3, g4, g5⟩ := (hacc.more (sl' := [Slot.own [V.int .i64 t0, V.int .i64 t1, V.int .i64 t2, V.int .i64 t3, V.int .i64 t4] 5])).append (w := 4) (b := 32) (x := lossOf (now + t0 - t1) t2 t3 t4) rfl (by omega) (by omega) (by omega) rfl
        have hv : ∀ x : L4, LT.lo true i4 x = [.int .i64 x.1, .int .i64 x.2.1, .int .i64 x.2.2.1, .int .i64 x.2.2.2] := fun _ => rfl
        rw [hv] at g1
        rw [g1]
        have hlen : sl'[sl.length]? = some (Slot.own [V.int .i64 t0, V.int .i64 t1, V.int .i64 t2, V.int .i64 t3, V.int .i64 t4] 5) := by
          rw [g5 sl.length (fun e => by subst e; have := hacc.lt; omega) (by simp)]
          exact hrow
        simp -implicitDefEqProofs only [Option.bind_some, r2 hlen]
        rw [i64_succ (by omega)]
        exact ⟨s', sl', some id, rfl, g2⟩
theorem turns_end : ∀ (l : List T5) (now : Int) (i : Nat), (turns now i l).2.2 = 0 → (turns now i l).2.1 = -1
  | [], _, _, _ => rfl
  | t :: l, now, i, h => by
    simp only [turns] at h ⊢
    split at h
    · rename_i he
      rw [if_pos he]
      exact turns_end l _ _ h
    · rename_i he
      exact absurd h he
theorem Chain_ok (start : Int) (l : List T5) : loss_ChainP start l = some (chainOf start l) := by
  unfold loss_ChainP loss_Chain chainOf
  simp -implicitDefEqProofs only [rowSV_len]
  by_cases h1 : 128 < l.length
  · rw [decide_eq_true (by omega), if_pos h1]
    simp -implicitDefEqProofs only [Option.bind_some, Option.bind_none, Option.map_some, Option.map_none, cond_true, cond_false, Bool.not_true, Bool.not_false, if_true, if_false, reduceIte, rdRes, rdTT, rdTy, rdLT, rdLeaf_int, rdLeaf_bool, rdLeaf_str, rdLeaf_row, Res.un, TT.un, Ty.un, LT.un, Leaf.un, rdRow_i1, rdRow_i2, rdRow_i3, rdRow_i4, rdRow_i5, rdRow_args, rdRow_res, rdRow_nil, Leaf.plain, LT.plain, List.isEmpty_cons, Bool.and_self, Bool.and_true, Bool.true_and, Bool.or_true, Bool.true_or, Bool.or_false, Bool.false_or, reserve0, rowSV_len, rowSV_cap, rowSV_tail, guardO_true]
  · rw [decide_eq_false (by omega), if_neg h1]
    simp -implicitDefEqProofs only [Option.bind_some, Option.bind_none, Option.map_some, Option.map_none, cond_true, cond_false, Bool.not_true, Bool.not_false, if_true, if_false, reduceIte, rdRes, rdTT, rdTy, rdLT, rdLeaf_int, rdLeaf_bool, rdLeaf_str, rdLeaf_row, Res.un, TT.un, Ty.un, LT.un, Leaf.un, rdRow_i1, rdRow_i2, rdRow_i3, rdRow_i4, rdRow_i5, rdRow_args, rdRow_res, rdRow_nil, Leaf.plain, LT.plain, List.isEmpty_cons, Bool.and_self, Bool.and_true, Bool.true_and, Bool.or_true, Bool.true_or, Bool.or_false, Bool.false_or, reserve0, rowSV_len, rowSV_cap, rowSV_tail, guardO_true]
    rw [lamount_ok _ (by simp)]
    simp -implicitDefEqProofs only [Option.bind_some, Option.bind_none, Option.map_some, Option.map_none, cond_true, cond_false, Bool.not_true, Bool.not_false, if_true, if_false, reduceIte, rdRes, rdTT, rdTy, rdLT, rdLeaf_int, rdLeaf_bool, rdLeaf_str, rdLeaf_row, Res.un, TT.un, Ty.un, LT.un, Leaf.un, rdRow_i1, rdRow_i2, rdRow_i3, rdRow_i4, rdRow_i5, rdRow_args, rdRow_res, rdRow_nil, Leaf.plain, LT.plain, List.isEmpty_cons, Bool.and_self, Bool.and_true, Bool.true_and, Bool.or_true, Bool.true_or, Bool.or_false, Bool.false_or, reserve0, rowSV_len, rowSV_cap, rowSV_tail, guardO_true, List.all_cons, List.all_nil]
    cases h2 : isAlc start with
    | false => simp -implicitDefEqProofs only [Option.bind_some, Option.bind_none, Option.map_some, Option.map_none, cond_true, cond_false, Bool.not_true, Bool.not_false, if_true, if_false, reduceIte, rdRes, rdTT, rdTy, rdLT, rdLeaf_int, rdLeaf_bool, rdLeaf_str, rdLeaf_row, Res.un, TT.un, Ty.un, LT.un, Leaf.un, rdRow_i1, rdRow_i2, rdRow_i3, rdRow_i4, rdRow_i5, rdRow_args, rdRow_res, rdRow_nil, Leaf.plain, LT.plain, List.isEmpty_cons, Bool.and_self, Bool.and_true, Bool.true_and, Bool.or_true, Bool.true_or, Bool.or_false, Bool.false_or, reserve0, rowSV_len, rowSV_cap, rowSV_tail, guardO_true]; rfl
    | true =>
      simp -implicitDefEqProofs only [Option.bind_some, Option.bind_none, Option.map_some, Option.map_none, cond_true, cond_false, Bool.not_true, Bool.not_false, if_true, if_false, reduceIte, rdRes, rdTT, rdTy, rdLT, rdLeaf_int, rdLeaf_bool, rdLeaf_str, rdLeaf_row, Res.un, TT.un, Ty.un, LT.un, Leaf.un, rdRow_i1, rdRow_i2, rdRow_i3, rdRow_i4, rdRow_i5, rdRow_args, rdRow_res, rdRow_nil, Leaf.plain, LT.plain, List.isEmpty_cons, Bool.and_self, Bool.and_true, Bool.true_and, Bool.or_true, Bool.true_or, Bool.or_false, Bool.false_or, reserve0, rowSV_len, rowSV_cap, rowSV_tail, guardO_true]
      rw [hL_empty]
      obtain ⟨x, sl, hx, hp⟩ := chain_loop (f := loss_Chain.loop1 (rowSV false i5 l)) l (by omega) (fun i t now s sl o pre a b c d => lChain_step l (by omega) false i t now s sl o pre a b c d) (fun s now sl => by
        unfold loss_Chain.loop1
        simp -implicitDefEqProofs only [rowSV_len]
        rw [decide_eq_false (by omega), cond_false]) h2 Acc.nil
      rw [hx]
      rcases hp with ⟨k1, s, o, rfl, hacc, k2⟩ | ⟨k1, rfl, k2⟩
      · simp -implicitDefEqProofs only [Option.bind_some, Option.bind_none, Option.map_some, Option.map_none, cond_true, cond_false, Bool.not_true, Bool.not_false, if_true, if_false, reduceIte, rdRes, rdTT, rdTy, rdLT, rdLeaf_int, rdLeaf_bool, rdLeaf_str, rdLeaf_row, Res.un, TT.un, Ty.un, LT.un, Leaf.un, rdRow_i1, rdRow_i2, rdRow_i3, rdRow_i4, rdRow_i5, rdRow_args, rdRow_res, rdRow_nil, Leaf.plain, LT.plain, List.isEmpty_cons, Bool.and_self, Bool.and_true, Bool.true_and, Bool.or_true, Bool.true_or, Bool.or_false, Bool.false_or, reserve0, rowSV_len, rowSV_cap, rowSV_tail, guardO_true, hacc.read (lp := false) rfl]
        exact congrArg some (Prod.ext rfl (Prod.ext k2.symm k1.symm))
      · simp -implicitDefEqProofs only [Option.bind_some, Option.bind_none, Option.map_some, Option.map_none, cond_true, cond_false, Bool.not_true, Bool.not_false, if_true, if_false, reduceIte, rdRes, rdTT, rdTy, rdLT, rdLeaf_int, rdLeaf_bool, rdLeaf_str, rdLeaf_row, Res.un, TT.un, Ty.un, LT.un, Leaf.un, rdRow_i1, rdRow_i2, rdRow_i3, rdRow_i4, rdRow_i5, rdRow_args, rdRow_res, rdRow_nil, Leaf.plain, LT.plain, List.isEmpty_cons, Bool.and_self, Bool.and_true, Bool.true_and, Bool.or_true, Bool.true_or, Bool.or_false, Bool.false_or, reserve0, rowSV_len, rowSV_cap, rowSV_tail, guardO_true]
        exact congrArg some (Prod.ext k2.symm rfl)
theorem rChain_step (l : List T5) (hl : l.length ≤ 128) (f : Bool) (i : Nat) (t : T5) (now : Int) (s : SV) (sl : List Slot) (o : Option Nat) (pre : List L4) (ht : l[i]? = some t) (hpre : pre.length ≤ 128) (hnow : isAlc now = true) (hacc : Acc sl i4 pre s o) :
      (turnErr now t ≠ 0 → ∃ sl', spileref32_Chain.loop1 (rowSV f i5 l) ((s, now, (i : Int)), hL sl) = some (.done (.ret (⟨.nil, 0, 0, false⟩, (i : Int), turnErr now t), hL sl'))) ∧
      (turnErr now t = 0 → ∃ s' sl' o', spileref32_Chain.loop1 (rowSV f i5 l) ((s, now, (i : Int)), hL sl) = some (.more ((s', t.2.2.1, ((i + 1 : Nat) : Int)), hL sl')) ∧ Acc sl' i4 (pre ++ [turnOf now t]) s' o') := by
  obtain ⟨hlt, hx⟩ := List.getElem?_eq_some_iff.1 ht
  obtain ⟨t0, t1, t2, t3, t4⟩ := t
  have hrow : (sl ++ [Slot.own [V.int .i64 t0, V.int .i64 t1, V.int .i64 t2, V.int .i64 t3, V.int .i64 t4] 5])[sl.length]? = some (Slot.own [V.int .i64 t0, V.int .i64 t1, V.int .i64 t2, V.int .i64 t3, V.int .i64 t4] 5) := by simp
  have r0 : ∀ {sl' : List Slot}, sl'[sl.length]? = some (Slot.own [V.int .i64 t0, V.int .i64 t1, V.int .i64 t2, V.int .i64 t3, V.int .i64 t4] 5) → rdT (.leaf (.int .i64)) (hL sl') (.hp sl.length 5 0) = some t0 := fun h => rd_own_cells h rfl rfl
  have r1 : ∀ {sl' : List Slot}, sl'[sl.length]? = some (Slot.own [V.int .i64 t0, V.int .i64 t1, V.int .i64 t2, V.int .i64 t3, V.int .i64 t4] 5) → rdT (.leaf (.int .i64)) (hL sl') (.hp sl.length 5 1) = some t1 := fun h => rd_own_cells h rfl rfl
  have r2 : ∀ {sl' : List Slot}, sl'[sl.length]? = some (Slot.own [V.int .i64 t0, V.int .i64 t1, V.int .i64 t2, V.int .i64 t3, V.int .i64 t4] 5) → rdT (.leaf (.int .i64)) (hL sl') (.hp sl.length 5 2) = some t2 := fun h => rd_own_cells h rfl rfl
  have r3 : ∀ {sl' : List Slot}, sl'[sl.length]? = some (Slot.own [V.int .i64 t0, V.int .i64 t1, V.int .i64 t2, V.int .i64 t3, V.int .i64 t4] 5) → rdT (.leaf (.int .i64)) (hL sl') (.hp sl.length 5 3) = some t3 := fun h => rd_own_cells h rfl rfl
  have r4 : ∀ {sl' : List Slot}, sl'[sl.length]? = some (Slot.own [V.int .i64 t0, V.int .i64 t1, V.int .i64 t2, V.int .i64 t3, V.int .i64 t4] 5) → rdT (.leaf (.int .i64)) (hL sl') (.hp sl.length 5 4) = some t4 := fun h => rd_own_cells h rfl rfl
  unfold spileref32_Chain.loop1
  simp -implicitDefEqProofs only [rowSV_len, Int.toNat_natCast]
  rw [decide_eq_true (by omega), cond_true, guardO_pos (by omega), rds_rowF (ls := i5) (w := 5) rfl (by omega) rfl, ht]
  simp -implicitDefEqProofs only [Option.bind_some, hL_new, hL_next]
  rw [newrow (g := 5) rfl rfl]
  simp -implicitDefEqProofs only [Option.bind_some, r0 hrow, r1 hrow, r2 hrow, r3 hrow, r4 hrow, lIs_ok]
  unfold turnErr
  simp only
  cases ha : (isAlc t0 && (isAlc t1 && (isAlc t2 && (isAlc t3 && isAlc t4)))) with
  | false =>
    refine ⟨fun _ => ⟨sl ++ [Slot.own [V.int .i64 t0, V.int .i64 t1, V.int .i64 t2, V.int .i64 t3, V.int .i64 t4] 5], ?_⟩, fun h => absurd h (by simp)⟩
    cases h0 : isAlc t0 <;> cases h1 : isAlc t1 <;> cases h2 : isAlc t2 <;> cases h3 : isAlc t3 <;> cases h4 : isAlc t4 <;> first | rfl | (rw [h0, h1, h2, h3, h4] at ha; cases ha)
  | true =>
    have ha' := ha
    simp only [Bool.and_eq_true] at ha'
    simp -implicitDefEqProofs only [ha'.1, ha'.2.1, ha'.2.2.1, ha'.2.2.2.1, ha'.2.2.2.2, Option.bind_some, Option.bind_none, Option.map_some, Option.map_none, cond_true, cond_false, Bool.not_true, Bool.not_false, if_true, if_false, reduceIte, rdRes, rdTT, rdTy, rdLT, rdLeaf_int, rdLeaf_bool, rdLeaf_str, rdLeaf_row, Res.un, TT.un, Ty.un, LT.un, Leaf.un, rdRow_i1, rdRow_i2, rdRow_i3, rdRow_i4, rdRow_i5, rdRow_args, rdRow_res, rdRow_nil, Leaf.plain, LT.plain, List.isEmpty_cons, Bool.and_self, Bool.and_true, Bool.true_and, Bool.or_true, Bool.true_or, Bool.or_false, Bool.false_or, reserve0, rowSV_len, rowSV_cap, rowSV_tail, guardO_true]
    simp -implicitDefEqProofs only [Option.bind_some, r0 hrow, r1 hrow, r2 hrow, r3 hrow, r4 hrow]
    simp only [Bool.and_eq_true, isAlc_iff] at ha hnow
    rw [i64_in (now + t0) (by omega)]
    by_cases c1 : 10737418240000 < now + t0
    · rw [decide_eq_true c1]
      simp -implicitDefEqProofs only [Option.bind_some, Option.bind_none, Option.map_some, Option.map_none, cond_true, cond_false, Bool.not_true, Bool.not_false, if_true, if_false, reduceIte, rdRes, rdTT, rdTy, rdLT, rdLeaf_int, rdLeaf_bool, rdLeaf_str, rdLeaf_row, Res.un, TT.un, Ty.un, LT.un, Leaf.un, rdRow_i1, rdRow_i2, rdRow_i3, rdRow_i4, rdRow_i5, rdRow_args, rdRow_res, rdRow_nil, Leaf.plain, LT.plain, List.isEmpty_cons, Bool.and_self, Bool.and_true, Bool.true_and, Bool.or_true, Bool.true_or, Bool.or_false, Bool.false_or, reserve0, rowSV_len, rowSV_cap, rowSV_tail, guardO_true, if_pos c1]
      exact ⟨fun _ => ⟨_, rfl⟩, fun h => absurd h (by simp)⟩
    · rw [decide_eq_false c1]
      simp -implicitDefEqProofs only [Option.bind_some, Option.bind_none, Option.map_some, Option.map_none, cond_true, cond_false, Bool.not_true, Bool.not_false, if_true, if_false, reduceIte, rdRes, rdTT, rdTy, rdLT, rdLeaf_int, rdLeaf_bool, rdLeaf_str, rdLeaf_row, Res.un, TT.un, Ty.un, LT.un, Leaf.un, rdRow_i1, rdRow_i2, rdRow_i3, rdRow_i4, rdRow_i5, rdRow_args, rdRow_res, rdRow_nil, Leaf.plain, LT.plain, List.isEmpty_cons, Bool.and_self, Bool.and_true, Bool.true_and, Bool.or_true, Bool.true_or, Bool.or_false, Bool.false_or, reserve0, rowSV_len, rowSV_cap, rowSV_tail, guardO_true, if_neg c1]
      by_cases c2 : now + t0 < t1
      · rw [decide_eq_true c2]
        simp -implicitDefEqProofs only [Option.bind_some, Option.bind_none, Option.map_some, Option.map_none, cond_true, cond_false, Bool.not_true, Bool.not_false, if_true, if_false, reduceIte, rdRes, rdTT, rdTy, rdLT, rdLeaf_int, rdLeaf_bool, rdLeaf_str, rdLeaf_row, Res.un, TT.un, Ty.un, LT.un, Leaf.un, rdRow_i1, rdRow_i2, rdRow_i3, rdRow_i4, rdRow_i5, rdRow_args, rdRow_res, rdRow_nil, Leaf.plain, LT.plain, List.isEmpty_cons, Bool.and_self, Bool.and_true, Bool.true_and, Bool.or_true, Bool.true_or, Bool.or_false, Bool.false_or, reserve0, rowSV_len, rowSV_cap, rowSV_tail, guardO_true, if_pos c2]
        exact ⟨fun _ => ⟨_, rfl⟩, fun h => absurd h (by simp)⟩
      · rw [decide_eq_false c2]
        simp -implicitDefEqProofs only [Option.bind_some, Option.bind_none, Option.map_some, Option.map_none, cond_true, cond_false, Bool.not_true, Bool.not_false, if_true, if_false, reduceIte, rdRes, rdTT, rdTy, rdLT, rdLeaf_int, rdLeaf_bool, rdLeaf_str, rdLeaf_row, Res.un, TT.un, Ty.un, LT.un, Leaf.un, rdRow_i1, rdRow_i2, rdRow_i3, rdRow_i4, rdRow_i5, rdRow_args, rdRow_res, rdRow_nil, Leaf.plain, LT.plain, List.isEmpty_cons, Bool.and_self, Bool.and_true, Bool.true_and, Bool.or_true, Bool.true_or, Bool.or_false, Bool.false_or, reserve0, rowSV_len, rowSV_cap, rowSV_tail, guardO_true, if_neg c2]
        refine ⟨fun h => absurd rfl h, fun _ => ?_⟩
        rw [i64_in (now + t0 - t1) (by omega), lOf_ok (isAlc_iff.2 (by omega)) ha'.2.2.1 ha'.2.2.2.1 ha'.2.2.2.2]
        simp -implicitDefEqProofs only [Option.bind_some]
        obtain ⟨s', sl', id, g1, g2, g3, g4, g5⟩ := (hacc.more (sl' := [Slot.own [V.int .i64 t0, V.int .i64 t1, V.int .i64 t2, V.int .i64 t3, V.int .i64 t4] 5])).append (w := 4) (b := 32) (x := lossOf (now + t0 - t1) t2 t3 t4) rfl (by omega) (by omega) (by omega) rfl
        have hv : ∀ x : L4, LT.lo true i4 x = [.int .i64 x.1, .int .i64 x.2.1, .int .i64 x.2.2.1, .int .i64 x.2.2.2] := fun _ => rfl
        rw [hv] at g1
        rw [g1]
        have hlen : sl'[sl.length]? = some (Slot.own [V.int .i64 t0, V.int .i64 t1, V.int .i64 t2, V.int .i64 t3, V.int .i64 t4] 5) := by
          rw [g5 sl.length (fun e => by subst e; have := hacc.lt; omega) (by simp)]
          exact hrow
        simp -implicitDefEqProofs only [Option.bind_some, r2 hlen]
        rw [i64_succ (by omega)]
        exact ⟨s', sl', some id, rfl, g2⟩
theorem rChain_ok (start : Int) (l : List T5) : spileref32_ChainP start l = some (chainOf start l) := by
  unfold spileref32_ChainP spileref32_Chain chainOf
  simp -implicitDefEqProofs only [rowSV_len]
  by_cases h1 : 128 < l.length
  · rw [decide_eq_true (by omega), if_pos h1]
    simp -implicitDefEqProofs only [Option.bind_some, Option.bind_none, Option.map_some, Option.map_none, cond_true, cond_false, Bool.not_true, Bool.not_false, if_true, if_false, reduceIte, rdRes, rdTT, rdTy, rdLT, rdLeaf_int, rdLeaf_bool, rdLeaf_str, rdLeaf_row, Res.un, TT.un, Ty.un, LT.un, Leaf.un, rdRow_i1, rdRow_i2, rdRow_i3, rdRow_i4, rdRow_i5, rdRow_args, rdRow_res, rdRow_nil, Leaf.plain, LT.plain, List.isEmpty_cons, Bool.and_self, Bool.and_true, Bool.true_and, Bool.or_true, Bool.true_or, Bool.or_false, Bool.false_or, reserve0, rowSV_len, rowSV_cap, rowSV_tail, guardO_true]
  · rw [decide_eq_false (by omega), if_neg h1]
    simp -implicitDefEqProofs only [Option.bind_some, Option.bind_none, Option.map_some, Option.map_none, cond_true, cond_false, Bool.not_true, Bool.not_false, if_true, if_false, reduceIte, rdRes, rdTT, rdTy, rdLT, rdLeaf_int, rdLeaf_bool, rdLeaf_str, rdLeaf_row, Res.un, TT.un, Ty.un, LT.un, Leaf.un, rdRow_i1, rdRow_i2, rdRow_i3, rdRow_i4, rdRow_i5, rdRow_args, rdRow_res, rdRow_nil, Leaf.plain, LT.plain, List.isEmpty_cons, Bool.and_self, Bool.and_true, Bool.true_and, Bool.or_true, Bool.true_or, Bool.or_false, Bool.false_or, reserve0, rowSV_len, rowSV_cap, rowSV_tail, guardO_true, lIs_ok]
    cases h2 : isAlc start with
    | false => simp -implicitDefEqProofs only [Option.bind_some, Option.bind_none, Option.map_some, Option.map_none, cond_true, cond_false, Bool.not_true, Bool.not_false, if_true, if_false, reduceIte, rdRes, rdTT, rdTy, rdLT, rdLeaf_int, rdLeaf_bool, rdLeaf_str, rdLeaf_row, Res.un, TT.un, Ty.un, LT.un, Leaf.un, rdRow_i1, rdRow_i2, rdRow_i3, rdRow_i4, rdRow_i5, rdRow_args, rdRow_res, rdRow_nil, Leaf.plain, LT.plain, List.isEmpty_cons, Bool.and_self, Bool.and_true, Bool.true_and, Bool.or_true, Bool.true_or, Bool.or_false, Bool.false_or, reserve0, rowSV_len, rowSV_cap, rowSV_tail, guardO_true]; rfl
    | true =>
      simp -implicitDefEqProofs only [Option.bind_some, Option.bind_none, Option.map_some, Option.map_none, cond_true, cond_false, Bool.not_true, Bool.not_false, if_true, if_false, reduceIte, rdRes, rdTT, rdTy, rdLT, rdLeaf_int, rdLeaf_bool, rdLeaf_str, rdLeaf_row, Res.un, TT.un, Ty.un, LT.un, Leaf.un, rdRow_i1, rdRow_i2, rdRow_i3, rdRow_i4, rdRow_i5, rdRow_args, rdRow_res, rdRow_nil, Leaf.plain, LT.plain, List.isEmpty_cons, Bool.and_self, Bool.and_true, Bool.true_and, Bool.or_true, Bool.true_or, Bool.or_false, Bool.false_or, reserve0, rowSV_len, rowSV_cap, rowSV_tail, guardO_true]
      rw [hL_empty]
      obtain ⟨x, sl, hx, hp⟩ := chain_loop (f := spileref32_Chain.loop1 (rowSV false i5 l)) l (by omega) (fun i t now s sl o pre a b c d => rChain_step l (by omega) false i t now s sl o pre a b c d) (fun s now sl => by
        unfold spileref32_Chain.loop1
        simp -implicitDefEqProofs only [rowSV_len]
        rw [decide_eq_false (by omega), cond_false]) h2 Acc.nil'
      rw [hx]
      rcases hp with ⟨k1, s, o, rfl, hacc, k2⟩ | ⟨k1, rfl, k2⟩
      · simp -implicitDefEqProofs only [Option.bind_some, Option.bind_none, Option.map_some, Option.map_none, cond_true, cond_false, Bool.not_true, Bool.not_false, if_true, if_false, reduceIte, rdRes, rdTT, rdTy, rdLT, rdLeaf_int, rdLeaf_bool, rdLeaf_str, rdLeaf_row, Res.un, TT.un, Ty.un, LT.un, Leaf.un, rdRow_i1, rdRow_i2, rdRow_i3, rdRow_i4, rdRow_i5, rdRow_args, rdRow_res, rdRow_nil, Leaf.plain, LT.plain, List.isEmpty_cons, Bool.and_self, Bool.and_true, Bool.true_and, Bool.or_true, Bool.true_or, Bool.or_false, Bool.false_or, reserve0, rowSV_len, rowSV_cap, rowSV_tail, guardO_true, hacc.read (lp := false) rfl]
        exact congrArg some (Prod.ext rfl (Prod.ext k2.symm k1.symm))
      · simp -implicitDefEqProofs only [Option.bind_some, Option.bind_none, Option.map_some, Option.map_none, cond_true, cond_false, Bool.not_true, Bool.not_false, if_true, if_false, reduceIte, rdRes, rdTT, rdTy, rdLT, rdLeaf_int, rdLeaf_bool, rdLeaf_str, rdLeaf_row, Res.un, TT.un, Ty.un, LT.un, Leaf.un, rdRow_i1, rdRow_i2, rdRow_i3, rdRow_i4, rdRow_i5, rdRow_args, rdRow_res, rdRow_nil, Leaf.plain, LT.plain, List.isEmpty_cons, Bool.and_self, Bool.and_true, Bool.true_and, Bool.or_true, Bool.true_or, Bool.or_false, Bool.false_or, reserve0, rowSV_len, rowSV_cap, rowSV_tail, guardO_true]
        exact congrArg some (Prod.ext k2.symm rfl)
end Go.Proofs.Ytadlfinlbaogeaa
