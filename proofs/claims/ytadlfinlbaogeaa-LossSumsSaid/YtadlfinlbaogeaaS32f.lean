/- What Among of package loss computes. Conditions: those of each law. -/
import Derived.Test.YtadlfinlbaogeaaS32e
import Derived.Test.YtadlfinlbaogeaaP01a
namespace Go.Proofs.Ytadlfinlbaogeaa
open Go Go.Proofs.Ytadlfinlbaogeaa.Ev
set_option linter.unusedVariables false
set_option linter.unusedSimpArgs false
set_option maxRecDepth 100000
set_option maxHeartbeats 4000000
theorem splice_midL (A L B vs : List V) (o : Nat) (h : o + vs.length ≤ L.length) : splice (A ++ L ++ B) (A.length + o) vs = A ++ splice L o vs ++ B := by
  unfold splice
  rw [List.append_assoc A L B, List.take_append, List.take_of_length_le (l := A) (by omega), List.drop_append, List.drop_eq_nil_of_le (show A.length ≤ A.length + o + vs.length by omega), Nat.add_sub_cancel_left,
    show A.length + o + vs.length - A.length = o + vs.length by omega, List.take_append_of_le_length (by omega), List.drop_append_of_le_length (by omega)]
  simp
/-- A part of an element is written. -/
theorem wrs_partL {ls : List Leaf} {xs : List (LT ls)} {sl : List Slot} {id e n i w o : Nat} {x y : LT ls} {vs : List V} (hs : sl[id]? = some (.own (cellsL ls xs) e)) (hn : xs.length * ls.length = n) (hw : ls.length = w) (hx : xs[i]? = some x) (ho : o + vs.length ≤ w) (hv : splice (LT.lo true ls x) o vs = LT.lo true ls y) :
    H.wrs (hL sl) (.hp id n (i * w + o)) vs = some (hL (sl.set id (.own (cellsL ls (xs.set i y)) e))) := by
  subst hw
  obtain ⟨hi, hx'⟩ := List.getElem?_eq_some_iff.1 hx
  rw [wrs_own (cs := cellsL ls xs) hs (by rw [flat_length, hn]) (by
    have := Nat.mul_le_mul_right ls.length (show i + 1 ≤ xs.length from hi)
    rw [Nat.succ_mul] at this
    omega)]
  have h1 : cellsL ls xs = cellsL ls (xs.take i) ++ LT.lo true ls x ++ cellsL ls (xs.drop (i + 1)) := by
    have := congrArg (cellsL ls) (List.take_append_drop i xs)
    rw [List.drop_eq_getElem_cons hi, hx'] at this
    unfold cellsL at *
    rw [List.flatMap_append, List.flatMap_cons] at this
    rw [← this, List.append_assoc]
  have h2 : (cellsL ls (xs.take i)).length = i * ls.length := by rw [flat_length, List.length_take, Nat.min_eq_left (by omega)]
  have h3 : cellsL ls (xs.set i y) = cellsL ls (xs.take i) ++ LT.lo true ls y ++ cellsL ls (xs.drop (i + 1)) := by
    rw [List.set_eq_take_append_cons_drop, if_pos hi]
    unfold cellsL
    rw [List.flatMap_append, List.flatMap_cons, List.append_assoc]
  rw [h1, ← h2, splice_midL _ _ _ _ _ (by rw [LT.lo_length]; omega), hv, h3]
def tabL (n : Nat) (b : Nat → L4) : List L4 := (List.range n).map b
theorem tabL_length {n : Nat} {b : Nat → L4} : (tabL n b).length = n := by simp [tabL]
theorem tabL_get {n i : Nat} {b : Nat → L4} (h : i < n) : (tabL n b)[i]? = some (b i) := by simp [tabL, h]
theorem tabL_set {n i : Nat} {b : Nat → L4} {y : L4} : (tabL n b).set i y = tabL n (fun j => if j = i then y else b j) := by
  refine List.ext_getElem? fun j => ?_
  rw [List.getElem?_set, tabL_length]
  by_cases hj : j < n
  · rw [tabL_get hj, tabL_get hj]
    by_cases e : i = j
    · subst e; rw [if_pos rfl, if_pos hj, if_pos rfl]
    · rw [if_neg e, if_neg (fun h => e h.symm)]
  · rw [List.getElem?_eq_none (l := tabL _ _) (by rw [tabL_length]; omega), List.getElem?_eq_none (l := tabL _ _) (by rw [tabL_length]; omega)]
    by_cases e : i = j
    · rw [if_pos e, if_neg (by omega)]
    · rw [if_neg e]
/-- The heap of Among: the loss, the weights, the parts, the slice of the parts, and what comes on top. -/
def aS (x : L4) (ws : List Int) (b : Nat → L4) (J : List Slot) : List Slot := c4 x :: .own [.slice (rowSV false [.int .i64] ws).a ws.length ws.length true] 1 :: .own (cellsL i4 (tabL ws.length b)) 4 :: .own [.slice (.hp 2 (ws.length * 4) 0) ws.length ws.length true] 1 :: J
theorem aS_rd1 {x : L4} {ws : List Int} {b : Nat → L4} {J : List Slot} : rdT (.leaf .slice) (hL (aS x ws b J)) (.hp 1 1 0) = some (rowSV false [.int .i64] ws) := by
  rw [rd_own (g := 1) (sl := aS x ws b J) (id := 1) rfl rfl]; rfl
theorem aS_rd3 {x : L4} {ws : List Int} {b : Nat → L4} {J : List Slot} : rdT (.leaf .slice) (hL (aS x ws b J)) (.hp 3 1 0) = some ⟨.hp 2 (ws.length * 4) 0, ws.length, ws.length, true⟩ := by
  rw [rd_own (g := 1) (sl := aS x ws b J) (id := 3) rfl rfl]; rfl
theorem aS_wr {x : L4} {ws : List Int} {b : Nat → L4} {J : List Slot} {i o : Nat} {v : Int} {y : L4} (hi : i < ws.length) (ho : o < 4) (hv : splice (LT.lo true i4 (b i)) o [.int .i64 v] = LT.lo true i4 y) :
    H.wrs (hL (aS x ws b J)) (.hp 2 (ws.length * 4) (i * 4 + o)) [.int .i64 v] = some (hL (aS x ws (fun j => if j = i then y else b j) J)) := by
  rw [wrs_partL (ls := i4) (xs := tabL ws.length b) (sl := aS x ws b J) (id := 2) (i := i) (o := o) (w := 4) (n := ws.length * 4) (x := b i) (y := y) (e := 4) (vs := [.int .i64 v]) rfl (by rw [tabL_length]; rfl) rfl (tabL_get hi) (by simp; omega) hv, tabL_set]
  rfl
theorem among_inner {x : L4} {ws : List Int} {b : Nat → L4} {J : List Slot} {v : V} {T : Table} (upd : L4 → Int → L4) (d : List Int) (hd : d.length = ws.length) (hn : ws.length ≤ 64)
    (hc : ∀ (b : Nat → L4) (i : Nat) (y : Int), i < ws.length → ∀ {R : Type} (k : V → H → Option R), callV T.dy v [.hp 2 (ws.length * 4) (i * 4), .int .i64 y] (hL (aS x ws b J)) k = k (.tuple []) (hL (aS x ws (fun j => if j = i then upd (b i) y else b j) J))) :
    iter FUEL (loss_Among_1.loop1 T v (.hp 3 1 0) d) (0, hL (aS x ws b J)) = some (.ex0 (), hL (aS x ws (fun j => upd (b j) (g d j)) J)) := by
  have hst : ∀ (b1 b2 : Nat → L4), (∀ j, j < ws.length → b1 j = b2 j) → hL (aS x ws b1 J) = hL (aS x ws b2 J) := fun b1 b2 h => by
    have : tabL ws.length b1 = tabL ws.length b2 := List.map_congr_left fun j hj => h j (List.mem_range.1 hj)
    unfold aS
    rw [this]
  refine (iter_from (f := loss_Among_1.loop1 T v (.hp 3 1 0) d) (fun i => ((i : Int), hL (aS x ws (fun j => if j < i then upd (b j) (g d j) else b j) J))) ?_ ws.length FUEL (fun i hi => ?_) ?_ (fuel_gt (by omega)))
  · simp only [Nat.not_lt_zero, if_false]; rfl
  · have hg1 : 0 ≤ (i : Int) ∧ (i : Int) < (ws.length : Int) := by omega
    have hgd := g_some (xs := d) (k := i) (by omega)
    unfold loss_Among_1.loop1
    simp -implicitDefEqProofs only [Int.toNat_natCast, reserve0, rd_rowI, hgd, hd]
    rw [decide_eq_true hg1.2, cond_true, aS_rd3]
    simp -implicitDefEqProofs only [guardO_pos hg1, Option.bind_some]
    rw [add_hp, hc _ i (g d i) hi]
    simp -implicitDefEqProofs only [Res.pack, TT.pack, Option.bind_some, Option.map_some]
    rw [i64_succ (by omega)]
    exact congrArg (fun z => some (Stp.more (((i + 1 : Nat) : Int), z))) (hst _ _ fun j hj => by
      by_cases e : j = i
      · subst e; rw [if_pos rfl, if_neg (by omega), if_pos (by omega)]
      · rw [if_neg e]
        by_cases h : j < i
        · rw [if_pos h, if_pos (by omega)]
        · rw [if_neg h, if_neg (by omega)])
  · unfold loss_Among_1.loop1
    simp -implicitDefEqProofs only [hd]
    rw [decide_eq_false (by omega), cond_false]
    exact congrArg (fun z => some (Stp.done (Flow.ex0 (), z))) (hst _ _ fun j hj => by rw [if_pos hj])
end Go.Proofs.Ytadlfinlbaogeaa
