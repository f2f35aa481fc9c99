/- What Among of package loss computes: the calls, the whole. Conditions: those of each law. -/
import Derived.Test.YtadlfinlbaogeaaS32f
namespace Go.Proofs.Ytadlfinlbaogeaa
open Go Go.Proofs.Ytadlfinlbaogeaa.Ev
set_option linter.unusedVariables false
set_option linter.unusedSimpArgs false
set_option maxRecDepth 100000
set_option maxHeartbeats 4000000
abbrev Calls (v : V) (upd : L4 → Int → L4) (x : L4) (ws : List Int) (J : List Slot) : Prop :=
  ∀ (b : Nat → L4) (i : Nat) (y : Int), i < ws.length → ∀ {R : Type} (k : V → H → Option R), callV loss_Among.tb.dy v [.hp 2 (ws.length * 4) (i * 4), .int .i64 y] (hL (aS x ws b J)) k = k (.tuple []) (hL (aS x ws (fun j => if j = i then upd (b i) y else b j) J))
theorem call2 {x : L4} {ws : List Int} {J : List Slot} : Calls (.func 71 []) (fun p y => (y, p.2)) x ws J := fun b i y hi R k => by
  show (loss_Among_2 (.hp 2 (ws.length * 4) (i * 4)) y (hL (aS x ws b J))).bind (fun p => k (.tuple []) p.2) = _
  unfold loss_Among_2
  rw [guardO_pos (by rfl), guardO_pos (by rfl)]
  show (((H.wrs (hL (aS x ws b J)) (.hp 2 (ws.length * 4) (i * 4 + 0)) [.int .i64 y]).bind fun h1 => some ((), h1)).bind fun p => k (.tuple []) p.2) = _
  rw [aS_wr (y := (y, (b i).2)) hi (by omega) rfl]
  rfl
theorem call3 {x : L4} {ws : List Int} {J : List Slot} : Calls (.func 72 []) (fun p y => (p.1, y, p.2.2)) x ws J := fun b i y hi R k => by
  show (loss_Among_3 (.hp 2 (ws.length * 4) (i * 4)) y (hL (aS x ws b J))).bind (fun p => k (.tuple []) p.2) = _
  unfold loss_Among_3
  rw [guardO_pos (by rfl), guardO_pos (by rfl)]
  show (((H.wrs (hL (aS x ws b J)) (.hp 2 (ws.length * 4) (i * 4 + 1)) [.int .i64 y]).bind fun h1 => some ((), h1)).bind fun p => k (.tuple []) p.2) = _
  rw [aS_wr (y := ((b i).1, y, (b i).2.2)) hi (by omega) rfl]
  rfl
theorem call4 {x : L4} {ws : List Int} {J : List Slot} : Calls (.func 73 []) (fun p y => (p.1, p.2.1, y, p.2.2.2)) x ws J := fun b i y hi R k => by
  show (loss_Among_4 (.hp 2 (ws.length * 4) (i * 4)) y (hL (aS x ws b J))).bind (fun p => k (.tuple []) p.2) = _
  unfold loss_Among_4
  rw [guardO_pos (by rfl), guardO_pos (by rfl)]
  show (((H.wrs (hL (aS x ws b J)) (.hp 2 (ws.length * 4) (i * 4 + 2)) [.int .i64 y]).bind fun h1 => some ((), h1)).bind fun p => k (.tuple []) p.2) = _
  rw [aS_wr (y := ((b i).1, (b i).2.1, y, (b i).2.2.2)) hi (by omega) rfl]
  rfl
theorem call5 {x : L4} {ws : List Int} {J : List Slot} : Calls (.func 74 []) (fun p y => (p.1, p.2.1, p.2.2.1, y)) x ws J := fun b i y hi R k => by
  show (loss_Among_5 (.hp 2 (ws.length * 4) (i * 4)) y (hL (aS x ws b J))).bind (fun p => k (.tuple []) p.2) = _
  unfold loss_Among_5
  rw [guardO_pos (by rfl), guardO_pos (by rfl)]
  show (((H.wrs (hL (aS x ws b J)) (.hp 2 (ws.length * 4) (i * 4 + 3)) [.int .i64 y]).bind fun h1 => some ((), h1)).bind fun p => k (.tuple []) p.2) = _
  rw [aS_wr (y := ((b i).1, (b i).2.1, (b i).2.2.1, y)) hi (by omega) rfl]
  rfl
theorem among1_ok {x : L4} {ws : List Int} {b : Nat → L4} {J : List Slot} {v : V} {amt : Int} {upd : L4 → Int → L4} (hl : ws.length < 2 ^ 63) (he : (weighOf amt ws).2 = 0) (hc : Calls v upd x ws J) :
    loss_Among_1 loss_Among.tb amt v (.hp 1 1 0) (.hp 3 1 0) (hL (aS x ws b J)) = some (0, hL (aS x ws (fun j => upd (b j) (g (divParts amt ws.sum ws) j)) J)) := by
  obtain ⟨ha, h0, h64, hall, hSa, hne, h1⟩ := weighOf_ok he
  unfold loss_Among_1
  rw [aS_rd1]
  simp -implicitDefEqProofs only [Option.bind_some, Option.bind_none, Option.map_some, Option.map_none, cond_true, cond_false, Bool.not_true, Bool.not_false, if_true, if_false, reduceIte, rdRes, rdTT, rdTy, rdLT, rdLeaf_int, rdLeaf_bool, rdLeaf_str, rdLeaf_row, Res.un, TT.un, Ty.un, LT.un, Leaf.un, rdRow_i1, rdRow_i2, rdRow_i3, rdRow_i4, rdRow_i5, rdRow_args, rdRow_res, rdRow_nil, Leaf.plain, LT.plain, List.isEmpty_cons, Bool.and_self, Bool.and_true, Bool.true_and, Bool.or_true, Bool.true_or, Bool.or_false, Bool.false_or, reserve0, rowSV_len, rowSV_cap, rowSV_tail, guardO_true]
  rw [Divide_ok amt ws hl, divideOf, if_pos he, h1]
  simp -implicitDefEqProofs only [Option.bind_some, Option.bind_none, Option.map_some, Option.map_none, cond_true, cond_false, Bool.not_true, Bool.not_false, if_true, if_false, reduceIte, rdRes, rdTT, rdTy, rdLT, rdLeaf_int, rdLeaf_bool, rdLeaf_str, rdLeaf_row, Res.un, TT.un, Ty.un, LT.un, Leaf.un, rdRow_i1, rdRow_i2, rdRow_i3, rdRow_i4, rdRow_i5, rdRow_args, rdRow_res, rdRow_nil, Leaf.plain, LT.plain, List.isEmpty_cons, Bool.and_self, Bool.and_true, Bool.true_and, Bool.or_true, Bool.true_or, Bool.or_false, Bool.false_or, reserve0, rowSV_len, rowSV_cap, rowSV_tail, guardO_true]
  rw [among_inner upd (divParts amt ws.sum ws) divParts_length h64 hc]
  simp -implicitDefEqProofs only [Option.bind_some, Option.bind_none, Option.map_some, Option.map_none, cond_true, cond_false, Bool.not_true, Bool.not_false, if_true, if_false, reduceIte, rdRes, rdTT, rdTy, rdLT, rdLeaf_int, rdLeaf_bool, rdLeaf_str, rdLeaf_row, Res.un, TT.un, Ty.un, LT.un, Leaf.un, rdRow_i1, rdRow_i2, rdRow_i3, rdRow_i4, rdRow_i5, rdRow_args, rdRow_res, rdRow_nil, Leaf.plain, LT.plain, List.isEmpty_cons, Bool.and_self, Bool.and_true, Bool.true_and, Bool.or_true, Bool.true_or, Bool.or_false, Bool.false_or, reserve0, rowSV_len, rowSV_cap, rowSV_tail, guardO_true]
theorem among1_err {x : L4} {ws : List Int} {b : Nat → L4} {J : List Slot} {v : V} {amt : Int} (hl : ws.length < 2 ^ 63) (he : (weighOf amt ws).2 ≠ 0) :
    loss_Among_1 loss_Among.tb amt v (.hp 1 1 0) (.hp 3 1 0) (hL (aS x ws b J)) = some ((weighOf amt ws).2, hL (aS x ws b J)) := by
  unfold loss_Among_1
  rw [aS_rd1]
  simp -implicitDefEqProofs only [Option.bind_some, Option.bind_none, Option.map_some, Option.map_none, cond_true, cond_false, Bool.not_true, Bool.not_false, if_true, if_false, reduceIte, rdRes, rdTT, rdTy, rdLT, rdLeaf_int, rdLeaf_bool, rdLeaf_str, rdLeaf_row, Res.un, TT.un, Ty.un, LT.un, Leaf.un, rdRow_i1, rdRow_i2, rdRow_i3, rdRow_i4, rdRow_i5, rdRow_args, rdRow_res, rdRow_nil, Leaf.plain, LT.plain, List.isEmpty_cons, Bool.and_self, Bool.and_true, Bool.true_and, Bool.or_true, Bool.true_or, Bool.or_false, Bool.false_or, reserve0, rowSV_len, rowSV_cap, rowSV_tail, guardO_true]
  rw [Divide_ok amt ws hl, divideOf, if_neg he]
  simp -implicitDefEqProofs only [Option.bind_some, Option.bind_none, Option.map_some, Option.map_none, cond_true, cond_false, Bool.not_true, Bool.not_false, if_true, if_false, reduceIte, rdRes, rdTT, rdTy, rdLT, rdLeaf_int, rdLeaf_bool, rdLeaf_str, rdLeaf_row, Res.un, TT.un, Ty.un, LT.un, Leaf.un, rdRow_i1, rdRow_i2, rdRow_i3, rdRow_i4, rdRow_i5, rdRow_args, rdRow_res, rdRow_nil, Leaf.plain, LT.plain, List.isEmpty_cons, Bool.and_self, Bool.and_true, Bool.true_and, Bool.or_true, Bool.true_or, Bool.or_false, Bool.false_or, reserve0, rowSV_len, rowSV_cap, rowSV_tail, guardO_true]
  have : iter FUEL (loss_Among_1.loop1 loss_Among.tb v (.hp 3 1 0) []) (0, hL (aS x ws b J)) = some (.ex0 (), hL (aS x ws b J)) := by
    refine iter_run (fun _ => (0, hL (aS x ws b J))) 0 FUEL (fun i hi => by omega) ?_ (fuel_gt (by omega))
    rfl
  rw [this]
  simp -implicitDefEqProofs only [Option.bind_some, Option.bind_none, Option.map_some, Option.map_none, cond_true, cond_false, Bool.not_true, Bool.not_false, if_true, if_false, reduceIte, rdRes, rdTT, rdTy, rdLT, rdLeaf_int, rdLeaf_bool, rdLeaf_str, rdLeaf_row, Res.un, TT.un, Ty.un, LT.un, Leaf.un, rdRow_i1, rdRow_i2, rdRow_i3, rdRow_i4, rdRow_i5, rdRow_args, rdRow_res, rdRow_nil, Leaf.plain, LT.plain, List.isEmpty_cons, Bool.and_self, Bool.and_true, Bool.true_and, Bool.or_true, Bool.true_or, Bool.or_false, Bool.false_or, reserve0, rowSV_len, rowSV_cap, rowSV_tail, guardO_true]
abbrev lpA (x : L4) : V := .lp true [.int .i64 x.1, .func 71 [], .int .i64 x.2.1, .func 72 [], .int .i64 x.2.2.1, .func 73 [], .int .i64 x.2.2.2, .func 74 []] 0
theorem outer_step {x : L4} {ws : List Int} {b b' : Nat → L4} {J : List Slot} {c : Nat} {amt e : Int} {f : Nat} {ha hb : H} (h1 : ha.next = 1) (h3 : hb.next = 3) (hc : c < 4)
    (hrd : ∀ h, rdT (.agg [.int .i64, .dyn]) h (.lp true [.int .i64 x.1, .func 71 [], .int .i64 x.2.1, .func 72 [], .int .i64 x.2.2.1, .func 73 [], .int .i64 x.2.2.2, .func 74 []] (0 + c * 2)) = some (amt, .func f []))
    (hcall : loss_Among_1 loss_Among.tb amt (.func f []) (.hp 1 1 0) (.hp 3 1 0) (hL (aS x ws b (J ++ [.own [.int .i64 amt, .func f []] 2]))) = some (e, hL (aS x ws b' (J ++ [.own [.int .i64 amt, .func f []] 2])))) :
    loss_Among.loop1 ha hb x.1 x.2.1 x.2.2.1 x.2.2.2 ((c : Int), hL (aS x ws b J)) = some (if e = 0 then .more (((c + 1 : Nat) : Int), hL (aS x ws b' (J ++ [.own [.int .i64 amt, .func f []] 2]))) else .done (.ret (⟨.nil, 0, 0, false⟩, e), hL (aS x ws b' (J ++ [.own [.int .i64 amt, .func f []] 2])))) := by
  have hg : 0 ≤ (c : Int) ∧ (c : Int) < ((4 : Nat) : Int) := by omega
  have nw : H.wrs (hL (aS x ws b J ++ [.own [.int .i64 0, .nilFunc] 2])) (.hp (aS x ws b J).length 2 0) [.int .i64 amt, .func f []] = some (hL (aS x ws b (J ++ [.own [.int .i64 amt, .func f []] 2]))) := by
    rw [wrs_own (g := 2) (cs := [.int .i64 0, .nilFunc]) (e := 2) (by simp) rfl (by simp)]
    simp [splice, aS]
  have hrow : (aS x ws b (J ++ [.own [.int .i64 amt, .func f []] 2]))[(aS x ws b J).length]? = some (.own [.int .i64 amt, .func f []] 2) := by
    show (aS x ws b J ++ [.own [.int .i64 amt, .func f []] 2])[(aS x ws b J).length]? = _
    simp
  have q0 : rdT (.leaf (.int .i64)) (hL (aS x ws b (J ++ [.own [.int .i64 amt, .func f []] 2]))) (.hp (aS x ws b J).length 2 0) = some amt := by rw [rd_own (g := 2) hrow rfl]; rfl
  have q1 : rdT (.leaf .dyn) (hL (aS x ws b (J ++ [.own [.int .i64 amt, .func f []] 2]))) (.hp (aS x ws b J).length 2 1) = some (.func f []) := by rw [rd_own (g := 2) hrow rfl]; rfl
  unfold loss_Among.loop1
  simp -implicitDefEqProofs only [Int.toNat_natCast, guardO_pos hg, h1, h3]
  rw [decide_eq_true (show (c : Int) < 4 by omega), cond_true, hrd]
  simp -implicitDefEqProofs only [Option.bind_some, hL_new, hL_next]
  rw [nw]
  simp -implicitDefEqProofs only [Option.bind_some, q0, q1]
  rw [hcall]
  simp -implicitDefEqProofs only [Option.bind_some]
  by_cases he : e = 0
  · rw [decide_eq_true he, if_pos he]
    simp -implicitDefEqProofs only [Option.bind_some, Option.bind_none, Option.map_some, Option.map_none, cond_true, cond_false, Bool.not_true, Bool.not_false, if_true, if_false, reduceIte, rdRes, rdTT, rdTy, rdLT, rdLeaf_int, rdLeaf_bool, rdLeaf_str, rdLeaf_row, Res.un, TT.un, Ty.un, LT.un, Leaf.un, rdRow_i1, rdRow_i2, rdRow_i3, rdRow_i4, rdRow_i5, rdRow_args, rdRow_res, rdRow_nil, Leaf.plain, LT.plain, List.isEmpty_cons, Bool.and_self, Bool.and_true, Bool.true_and, Bool.or_true, Bool.true_or, Bool.or_false, Bool.false_or, reserve0, rowSV_len, rowSV_cap, rowSV_tail, guardO_true]
    rw [i64_succ (by omega)]
  · rw [decide_eq_false he, if_neg he]
    simp -implicitDefEqProofs only [Option.bind_some, Option.bind_none, Option.map_some, Option.map_none, cond_true, cond_false, Bool.not_true, Bool.not_false, if_true, if_false, reduceIte, rdRes, rdTT, rdTy, rdLT, rdLeaf_int, rdLeaf_bool, rdLeaf_str, rdLeaf_row, Res.un, TT.un, Ty.un, LT.un, Leaf.un, rdRow_i1, rdRow_i2, rdRow_i3, rdRow_i4, rdRow_i5, rdRow_args, rdRow_res, rdRow_nil, Leaf.plain, LT.plain, List.isEmpty_cons, Bool.and_self, Bool.and_true, Bool.true_and, Bool.or_true, Bool.true_or, Bool.or_false, Bool.false_or, reserve0, rowSV_len, rowSV_cap, rowSV_tail, guardO_true]
end Go.Proofs.Ytadlfinlbaogeaa
