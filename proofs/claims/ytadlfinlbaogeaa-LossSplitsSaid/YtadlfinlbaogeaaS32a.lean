/- What the printed functions of package loss compute, where no weights are divided. Conditions: those of each law. -/
import Derived.Test.YtadlfinlbaogeaaFn8
import Derived.Test.YtadlfinlbaogeaaEvSpec
import Derived.Test.YtadlfinlbaogeaaEvRow
namespace Go.Proofs.Ytadlfinlbaogeaa
open Go Go.Proofs.Ytadlfinlbaogeaa.Ev
set_option linter.unusedVariables false
set_option linter.unusedSimpArgs false
set_option maxRecDepth 100000

def isAlc (n : Int) : Bool := decide (0 ≤ n) && decide (n ≤ 10737418240000)
theorem isAlc_iff {n : Int} : isAlc n = true ↔ 0 ≤ n ∧ n ≤ 10737418240000 := by simp [isAlc]
theorem loss_amount_ok {s : SV} {xs : List Int} {h : H} (hs : Ints h s xs) (hl : xs.length < 2 ^ 62) : loss_amount s h = some (xs.all isAlc, h) := by
  have hlen := hs.len
  obtain ⟨x, hx, hp⟩ := iter_inv (f := loss_amount.loop1 s) (Inv := fun st => st.2 = h ∧ ∃ i : Nat, st.1 = (i : Int) ∧ i ≤ xs.length ∧ (xs.take i).all isAlc = true)
    (Post := fun r => r = (bif xs.all isAlc then .ex0 () else .ret false, h)) (fun st => xs.length - st.1.toNat) (fun st hi => by
      obtain ⟨y, h0⟩ := st
      obtain ⟨rfl, i, rfl, hi, ha⟩ := hi
      simp only at ha hi ⊢
      unfold loss_amount.loop1
      simp only [hlen]
      by_cases hlt : i < xs.length
      · have hx : xs[i]? = some xs[i] := List.getElem?_eq_getElem hlt
        have hd : decide ((i : Int) < (xs.length : Nat)) = true := by simp; omega
        rw [hd]
        simp only [cond_true]
        rw [guardO_pos (by omega), Int.toNat_natCast, hs.at hx]
        simp only [Option.bind_some]
        have htake : xs.take (i + 1) = xs.take i ++ [xs[i]] := by rw [List.take_add_one, hx]; rfl
        cases hal : isAlc xs[i] with
        | true =>
          left
          have h2 := isAlc_iff.1 hal
          have e1 : decide (xs[i] < 0) = false := by simp; omega
          have e2 : decide ((10737418240000 : Int) < xs[i]) = false := by simp; omega
          rw [e1, e2]
          refine ⟨(((i + 1 : Nat) : Int), h0), ?_, ⟨rfl, i + 1, rfl, by omega, by rw [htake, List.all_append, ha]; simp [hal]⟩, by simp; omega⟩
          rw [show IntKind.i64.wrap ((i : Int) + 1) = ((i + 1 : Nat) : Int) by rw [IntWalk.i64_in _ (by omega)]; omega]
          rfl
        | false =>
          right
          have hall : xs.all isAlc = false := by
            rw [List.all_eq_false]
            exact ⟨xs[i], List.getElem_mem hlt, by simp [hal]⟩
          rw [hall]
          refine ⟨(.ret false, h0), ?_, rfl⟩
          have : xs[i] < 0 ∨ 10737418240000 < xs[i] := by
            rcases Int.lt_or_le xs[i] 0 with h | h
            · exact .inl h
            · rcases Int.lt_or_le 10737418240000 xs[i] with h' | h'
              · exact .inr h'
              · rw [isAlc_iff.2 ⟨h, h'⟩] at hal; cases hal
          by_cases e1 : xs[i] < 0
          · rw [decide_eq_true e1]; rfl
          · rw [decide_eq_false e1, decide_eq_true (this.resolve_left e1)]; rfl
      · right
        have hie : i = xs.length := by omega
        subst hie
        have hd : decide (((xs.length : Nat) : Int) < (xs.length : Nat)) = false := by simp
        rw [hd]
        have hall : xs.all isAlc = true := by simpa using ha
        rw [hall]
        exact ⟨_, rfl, rfl⟩) FUEL (0, h) ⟨rfl, 0, rfl, Nat.zero_le _, by simp⟩ (by simp [FUEL]; omega)
  unfold loss_amount
  rw [hx, hp]
  cases xs.all isAlc <;> rfl

/-- The division of a difference. -/
def lossOf (e f a o : Int) : Int × Int × Int × Int :=
  if e < f then (0, 0, 0, f - e) else (min (e - f) a, min (e - f - min (e - f) a) o, e - f - min (e - f) a - min (e - f - min (e - f) a) o, 0)
theorem minI_eq (x y : Int) : minI y x = min x y := by unfold minI; split <;> omega
theorem minI_eq' (x y : Int) : minI y x = min y x := by unfold minI; split <;> omega
theorem loss_split_ok {e f a o : Int} (he : isAlc e = true) (hf : isAlc f = true) (ha : isAlc a = true) (ho : isAlc o = true) : loss_splitP e f a o = some (lossOf e f a o) := by
  rw [isAlc_iff] at he hf ha ho
  have key : loss_splitP e f a o = bif decide (e < f) then some (0, 0, 0, IntKind.i64.wrap (f - e)) else
      some (minI (IntKind.i64.wrap (e - f)) a, minI (IntKind.i64.wrap (IntKind.i64.wrap (e - f) - minI (IntKind.i64.wrap (e - f)) a)) o,
        IntKind.i64.wrap (IntKind.i64.wrap (IntKind.i64.wrap (e - f) - minI (IntKind.i64.wrap (e - f)) a) - minI (IntKind.i64.wrap (IntKind.i64.wrap (e - f) - minI (IntKind.i64.wrap (e - f)) a)) o), 0) := by
    unfold loss_splitP loss_split
    cases decide (e < f) <;> kernel_rfl
  rw [key]
  unfold lossOf
  by_cases h : e < f
  · rw [decide_eq_true h, if_pos h, IntWalk.i64_in _ (by omega)]; rfl
  · rw [decide_eq_false h, if_neg h, IntWalk.i64_in (e - f) (by omega), minI_eq', IntWalk.i64_in (e - f - min (e - f) a) (by omega), minI_eq', IntWalk.i64_in (e - f - min (e - f) a - _) (by omega)]; rfl
theorem loss_amount4 (a b c d : Int) : (loss_amountP ⟨.lp false [.int .i64 a, .int .i64 b, .int .i64 c, .int .i64 d] 0, 4, 4, false⟩) = some (isAlc a && (isAlc b && (isAlc c && isAlc d))) := by
  have h : Ints H.empty ⟨.lp false [.int .i64 a, .int .i64 b, .int .i64 c, .int .i64 d] 0, 4, 4, false⟩ [a, b, c, d] := RoInts.lp (xs := [a, b, c, d]) rfl (Nat.le_refl _) _
  unfold loss_amountP
  rw [loss_amount_ok h (by simp)]
  simp only [List.all_cons, List.all_nil, Bool.and_true]
  rfl
theorem loss_Split_ok (e f a o : Int) : loss_SplitP e f a o = some (if (isAlc e && (isAlc f && (isAlc a && isAlc o))) = true then (lossOf e f a o, 0) else ((0, 0, 0, 0), 2)) := by
  unfold loss_SplitP loss_Split
  simp only [snap_lit (show [V.int .i64 e, V.int .i64 f, V.int .i64 a, V.int .i64 o].all flatV = true by rfl) (show (true || true) = true by rfl), Option.bind_some, Bool.not_true, loss_amount4]
  cases h : (isAlc e && (isAlc f && (isAlc a && isAlc o))) with
  | false => kernel_rfl
  | true =>
    simp only [Bool.and_eq_true] at h
    rw [loss_split_ok h.1 h.2.1 h.2.2.1 h.2.2.2]
    generalize lossOf e f a o = y
    obtain ⟨y0, y1, y2, y3⟩ := y
    kernel_rfl
def allAlc (e f a o : Int) : Bool := isAlc e && (isAlc f && (isAlc a && isAlc o))
theorem loss_Check_ok (e f a o : Int) (l : Int × Int × Int × Int) : loss_CheckP e f a o l = some (bif allAlc e f a o then (bif decide (lossOf e f a o = l) then 0 else 14) else 2) := by
  obtain ⟨l0, l1, l2, l3⟩ := l
  unfold loss_CheckP loss_Check allAlc
  simp only [snap_lit (show [V.int .i64 e, V.int .i64 f, V.int .i64 a, V.int .i64 o].all flatV = true by rfl) (show (true || true) = true by rfl), Option.bind_some, Bool.not_true, loss_amount4]
  cases h : (isAlc e && (isAlc f && (isAlc a && isAlc o))) with
  | false => kernel_rfl
  | true =>
    simp only [Bool.and_eq_true] at h
    rw [loss_split_ok h.1 h.2.1 h.2.2.1 h.2.2.2]
    generalize lossOf e f a o = y
    obtain ⟨y0, y1, y2, y3⟩ := y
    have : decide ((y0, y1, y2, y3) = (l0, l1, l2, l3)) = (decide (y0 = l0) && (decide (y1 = l1) && (decide (y2 = l2) && decide (y3 = l3)))) := by simp [Prod.mk.injEq, Bool.decide_and]
    rw [this]
    simp only [Option.bind_some, Option.bind_none, rd_hp, rds_hp, wrs_hp, new_m, put_m, reserve_m, new_next, put_next, reserve_next, empty_next, if_true, if_false, ite_true, ite_false, reduceIte, List.length_cons, List.length_nil, List.length_append, splice, List.take_zero, List.take_succ_cons, List.take_nil, List.drop_zero, List.drop_succ_cons, List.drop_nil, List.nil_append, List.cons_append, List.append_nil, List.getElem?_cons_zero, List.getElem?_cons_succ, LT.pack, Leaf.pack, Nat.reduceAdd, Nat.reduceSub, Nat.reduceLeDiff, Nat.reduceEqDiff, Nat.zero_add, Nat.add_zero, Nat.zero_le, Nat.le_refl, and_self, and_true, true_and, cond_true, cond_false, Bool.not_true, Bool.not_false, cond_some, cond_pair, cond_same, snap_arg, List.all_cons, List.all_nil, flatV, Bool.and_self, Bool.and_true, Bool.true_and]
    cases (decide (y0 = l0) && (decide (y1 = l1) && (decide (y2 = l2) && decide (y3 = l3)))) <;> rfl
theorem lost_ok (l : Int × Int × Int × Int) : spilelaw32_lostP l = some (IntKind.i64.wrap (IntKind.i64.wrap (l.1 + l.2.1) + l.2.2.1)) := by
  obtain ⟨l0, l1, l2, l3⟩ := l
  kernel_rfl
end Go.Proofs.Ytadlfinlbaogeaa
